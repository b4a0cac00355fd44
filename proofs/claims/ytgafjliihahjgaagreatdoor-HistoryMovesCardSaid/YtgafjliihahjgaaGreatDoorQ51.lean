/- See Q54. -/
import Derived.Test.YtgafjliihahjgaaGreatDoorQ50
set_option linter.all false
namespace Go.Proofs
open Go.Eng
noncomputable def aS:Code:=match Tryz.f5.body with
 |some c=>c
 |none=>.skip
noncomputable def gL:Code:=zE 3 aS
noncomputable def lz:Code:=zE 5 aS
noncomputable def gM:Code:=zE 7 aS
noncomputable def dW:Code:=zE 8 aS
theorem Qt:Tryz.f5.body=some (.seq (dG 0 aS) (.seq (dG 1 aS) (.seq (dG 2 aS) gL))):=by kernel_rfl
theorem Oz:gL=.seq (dG 3 aS) (.seq (dG 4 aS) lz):=by kernel_rfl
theorem GJ:lz=.seq (dG 5 aS) (.seq (dG 6 aS) gM):=by kernel_rfl
theorem sb:gM=.seq (dG 7 aS) dW:=by kernel_rfl
theorem sd:dW=.seq (dG 8 aS) (.seq (dG 9 aS) .ret):=by kernel_rfl
def zk(_:Code):List Nat:=[15,15,15,106]
def bV(O:Oracle) (T:Code) (N:Mem) (env:Env):Prop:=
 ∀d:Bool,∃r:Env×Mem×Bool,aT (aM Tryz.prog) zk O 6 138 1 true T ⟨env,N,d⟩=some (.ret,⟨r.1,r.2.1,r.2.2⟩)∧ab r.1 6=.bool true∧r.2.1.take 1=N.take 1
theorem gA:(aE Tryz.f5).map (fun o=>eC o.toList)=[[0,1,0,0,15,0,0,127,255],[0,0,0,0,13,31],[0,1,0,4,0,28,60,0,255,511,1023,1023,0,6143,16383]]:=by kernel_rfl
section
variable {O:Oracle}{M:Mem}{pv tv ev:AV}{n i q:Nat}{v:V3}{env:Env}
set_option maxRecDepth 16384 in
set_option maxHeartbeats 16000000 in
theorem ob{x eB eF:Int}{a1 a2 a3 c1 c2 c3:List UInt8}(hm:1≤M.length) (rp:∀x,pv.refsOk (fun b=>decide (b<M.length+x))=true) (rt:∀x,tv.refsOk (fun b=>decide (b<M.length+x))=true) (re:∀x,ev.refsOk (fun b=>decide (b<M.length+x))=true) (cp:pv.cellOk=true) (ct:tv.cellOk=true) (ce:ev.cellOk=true) (kk:pv.known=true∧tv.known=true∧ev.known=true)
  (e1:O (.fn 12) [.agg [pv,tv,.str ba,ev],vA v,.int .i64 x] (M++[.cells true 0 [pv,tv,.str ba,ev],.cells true 0 (vL v)])=some ⟨.tuple [.agg [.str a1,.str a2,.str a3],.int .i64 eB],none,[]⟩)
  (e2:O (.fn 13) [.agg [pv,tv,.str ba,ev],vA v,.int .i64 x] (M++[.cells true 0 [pv,tv,.str ba,ev],.cells true 0 (vL v),.cells true 0 [.str a1,.str a2,.str a3]])=some ⟨.tuple [.agg [.str c1,.str c2,.str c3],.int .i64 eF],none,[]⟩)
  (hT:∀env:Env,(ab env 2=.int .i64 x∧ab env 7=.ptr M.length 0∧ab env 8=.ptr (M.length+1) 0∧ab env 9=.ptr (M.length+2) 0∧ab env 10=.int .i64 eB∧ab env 11=.ptr (M.length+3) 0∧ab env 12=.int .i64 eF)→bV O lz (M++[.cells true 0 [pv,tv,.str ba,ev],.cells true 0 (vL v),.cells true 0 [.str a1,.str a2,.str a3],.cells true 0 [.str c1,.str c2,.str c3]]) env):
  ∀env:Env,(ab env 2=.int .i64 x∧ab env 7=.ptr M.length 0∧ab env 8=.ptr (M.length+1) 0)→bV O gL (M++[.cells true 0 [pv,tv,.str ba,ev],.cells true 0 (vL v)]) env:=by
 rintro env ⟨l2,l7,l8⟩ d;have w0:IntKind.i64.wrap 0=0:=rfl;have w1:IntKind.i64.wrap 1=1:=rfl;have w2:IntKind.i64.wrap 2=2:=rfl;have w3:IntKind.i64.wrap 3=3:=rfl;have hjl:∀j,(M.length+j<1)=False:=fun j=>by rw[eq_iff_iff,iff_false];omega
 have hjl0:(M.length<1)=False:=by rw[eq_iff_iff,iff_false];omega
 have tk:∀Z:Mem,(M++Z).take 1=M.take 1:=fun Z=>List.take_append_of_le_length (by omega)
 obtain⟨k1,k2,k4⟩:=kk;have eV:∀a b c,gT (aM Tryz.prog) 20 31 (.agg [.str a,.str b,.str c]) (.agg [.str a,.str b,.str c])=some true:=fun a b c=>cP (d:=18) a b c
 rw[Oz];obtain⟨F,hF⟩:=kX (β:=Env×Mem×Bool) (fun env d h=>hT env h d);have hF1:=fun env d h=>(hF env d h).1
 have hF2:=fun env d h=>(hF env d h).2.1
 have hF3:=fun env d h=>(hF env d h).2.2
 clear hF hT;obtain⟨T,hTe⟩:∃T,T=lz:=⟨_,rfl⟩
 rw[←hTe];simp only[←hTe] at hF1;simp only[tk] at hF3;unfold vA at e1 e2;simp only[vL] at e1 e2 hF1 hF2 hF3 ⊢;have h:∃e',aT (aM Tryz.prog) zk O 6 138 1 true (.seq (dG 3 aS) (.seq (dG 4 aS) T)) ⟨env,M++[.cells true 0 [pv,tv,.str ba,ev],.cells true 0 [.str (ah v.1),.str (ah v.2.1),.str (ah v.2.2)]],d⟩=some (.ret,e')∧ab e'.env 6=.bool true∧e'.mem.take 1=(M++[.cells true 0 [pv,tv,.str ba,ev],.cells true 0 [.str (ah v.1),.str (ah v.2.1),.str (ah v.2.2)]]:Mem).take 1:=by clear hTe;simp[-getElem?_pos,-AV.cellOk,-AV.known,-AV.cells,-bY,-List.all_eq_true,vS,mS,-jw,aS,Tryz.f5,dG,tk,e1,e2,l2,l7,l8,hF1,hF2,hF3]
 obtain⟨⟨e1,e2,e3⟩,k1,k2,k3⟩:=h;exact⟨(e1,e2,e3),k1,k2,k3⟩
set_option maxRecDepth 16384 in
set_option maxHeartbeats 16000000 in
theorem Jv{x:Int}(hx:x<0∨(n:Int)<x) (hm:1≤M.length) (rp:∀x,pv.refsOk (fun b=>decide (b<M.length+x))=true) (rt:∀x,tv.refsOk (fun b=>decide (b<M.length+x))=true) (re:∀x,ev.refsOk (fun b=>decide (b<M.length+x))=true) (cp:pv.cellOk=true) (ct:tv.cellOk=true) (ce:ev.cellOk=true) (kk:pv.known=true∧tv.known=true∧ev.known=true) (hlen:∀N,jw (aM Tryz.prog) 38 N ev=some (.int .i64 n)):
  ∀env:Env,(ab env 2=.int .i64 x∧ab env 7=.ptr M.length 0∧ab env 8=.ptr (M.length+1) 0∧ab env 9=.ptr (M.length+2) 0∧ab env 10=.int .i64 3∧ab env 11=.ptr (M.length+3) 0∧ab env 12=.int .i64 3)→bV O lz (M++[.cells true 0 [pv,tv,.str ba,ev],.cells true 0 (vL v),.cells true 0 [.str [],.str [],.str []],.cells true 0 [.str [],.str [],.str []]]) env:=by
 rintro env ⟨l2,l7,l8,l9,l10,l11,l12⟩ d;have w0:IntKind.i64.wrap 0=0:=rfl;have w1:IntKind.i64.wrap 1=1:=rfl;have w2:IntKind.i64.wrap 2=2:=rfl;have w3:IntKind.i64.wrap 3=3:=rfl;have hjl:∀j,(M.length+j<1)=False:=fun j=>by rw[eq_iff_iff,iff_false];omega
 have hjl0:(M.length<1)=False:=by rw[eq_iff_iff,iff_false];omega
 have tk:∀Z:Mem,(M++Z).take 1=M.take 1:=fun Z=>List.take_append_of_le_length (by omega)
 obtain⟨k1,k2,k4⟩:=kk;have eV:∀a b c,gT (aM Tryz.prog) 20 31 (.agg [.str a,.str b,.str c]) (.agg [.str a,.str b,.str c])=some true:=fun a b c=>cP (d:=18) a b c
 rw[GJ];obtain⟨T,hTe⟩:∃T,T=gM:=⟨_,rfl⟩
 rw[←hTe];simp only[vL];have h:∃e',aT (aM Tryz.prog) zk O 6 138 1 true (.seq (dG 5 aS) (.seq (dG 6 aS) T)) ⟨env,M++[.cells true 0 [pv,tv,.str ba,ev],.cells true 0 [.str (ah v.1),.str (ah v.2.1),.str (ah v.2.2)],.cells true 0 [.str [],.str [],.str []],.cells true 0 [.str [],.str [],.str []]],d⟩=some (.ret,e')∧ab e'.env 6=.bool true∧e'.mem.take 1=(M++[.cells true 0 [pv,tv,.str ba,ev],.cells true 0 [.str (ah v.1),.str (ah v.2.1),.str (ah v.2.2)],.cells true 0 [.str [],.str [],.str []],.cells true 0 [.str [],.str [],.str []]]:Mem).take 1:=by
  clear hTe;by_cases h0:x<0
  ·simp[-getElem?_pos,-AV.cellOk,-AV.known,-AV.cells,-bY,-List.all_eq_true,vS,mS,bO,-jw,aS,Tryz.f5,dG,eV,tk,l2,l9,l10,l11,l12,h0]
  ·have h1:(n:Int)<x:=by omega
   simp[-getElem?_pos,-AV.cellOk,-AV.known,-AV.cells,-bY,-List.all_eq_true,vS,mS,bO,-jw,aS,Tryz.f5,dG,eV,tk,hlen,l2,l7,l9,l10,l11,l12,h0,h1]
 obtain⟨⟨e1,e2,e3⟩,k1,k2,k3⟩:=h;exact⟨(e1,e2,e3),k1,k2,k3⟩
set_option maxRecDepth 16384 in
set_option maxHeartbeats 16000000 in
theorem o6{b c:V3}(hi:i≤n) (hm:1≤M.length) (rp:∀x,pv.refsOk (fun b=>decide (b<M.length+x))=true) (rt:∀x,tv.refsOk (fun b=>decide (b<M.length+x))=true) (re:∀x,ev.refsOk (fun b=>decide (b<M.length+x))=true) (cp:pv.cellOk=true) (ct:tv.cellOk=true) (ce:ev.cellOk=true) (kk:pv.known=true∧tv.known=true∧ev.known=true) (hlen:∀N,jw (aM Tryz.prog) 38 N ev=some (.int .i64 n))
  (hT:∀env:Env,(ab env 2=.int .i64 i∧ab env 7=.ptr M.length 0∧ab env 9=.ptr (M.length+2) 0∧ab env 10=.int .i64 0∧ab env 11=.ptr (M.length+3) 0∧ab env 12=.int .i64 0∧ab env 13=.ptr (M.length+4) 0∧ab env 14=.ptr (M.length+5) 0)→bV O gM (M++[.cells true 0 [pv,tv,.str ba,ev],.cells true 0 (vL v),.cells true 0 (vL b),.cells true 0 (vL c),.cells true 0 (vL v),.cells true 0 (vL v)]) env):
  ∀env:Env,(ab env 2=.int .i64 i∧ab env 7=.ptr M.length 0∧ab env 8=.ptr (M.length+1) 0∧ab env 9=.ptr (M.length+2) 0∧ab env 10=.int .i64 0∧ab env 11=.ptr (M.length+3) 0∧ab env 12=.int .i64 0)→bV O lz (M++[.cells true 0 [pv,tv,.str ba,ev],.cells true 0 (vL v),.cells true 0 (vL b),.cells true 0 (vL c)]) env:=by
 rintro env ⟨l2,l7,l8,l9,l10,l11,l12⟩ d;obtain⟨os',hops⟩:∃os',aE Tryz.f5=os' :=⟨_,rfl⟩
 have hbs' :=br hops (ls:=[[0,1,0,0,15,0,0,127,255],[0,0,0,0,13,31],[0,1,0,4,0,28,60,0,255,511,1023,1023,0,6143,16383]]) gA;simp only[aE,bC,Tryz.f5,List.nil_append,List.append_nil,List.cons_append] at hops;subst hops;simp only[List.map_cons,List.map_nil,List.cons.injEq,and_true] at hbs';obtain⟨hb0,hb1,hb2⟩:=hbs';have w0:IntKind.i64.wrap 0=0:=rfl;have w1:IntKind.i64.wrap 1=1:=rfl;have w2:IntKind.i64.wrap 2=2:=rfl;have w3:IntKind.i64.wrap 3=3:=rfl;have hjl:∀j,(M.length+j<1)=False:=fun j=>by rw[eq_iff_iff,iff_false];omega
 have hjl0:(M.length<1)=False:=by rw[eq_iff_iff,iff_false];omega
 have tk:∀Z:Mem,(M++Z).take 1=M.take 1:=fun Z=>List.take_append_of_le_length (by omega)
 obtain⟨k1,k2,k4⟩:=kk;have eV:∀a b c,gT (aM Tryz.prog) 20 31 (.agg [.str a,.str b,.str c]) (.agg [.str a,.str b,.str c])=some true:=fun a b c=>cP (d:=18) a b c
 rw[GJ];obtain⟨F,hF⟩:=kX (β:=Env×Mem×Bool) (fun env d h=>hT env h d);have hF1:=fun env d h=>(hF env d h).1
 have hF2:=fun env d h=>(hF env d h).2.1
 have hF3:=fun env d h=>(hF env d h).2.2
 clear hF hT;obtain⟨T,hTe⟩:∃T,T=gM:=⟨_,rfl⟩
 rw[←hTe];simp only[←hTe] at hF1;simp only[tk] at hF3;have h0:¬(i:Int)<0:=by omega
 have h1:¬(n:Int)<(i:Int):=by omega
 have h2:i≤n:=hi;simp only[vL] at hF1 hF2 hF3 ⊢;have h:∃e',aT (aM Tryz.prog) zk O 6 138 1 true (.seq (dG 5 aS) (.seq (dG 6 aS) T)) ⟨env,M++[.cells true 0 [pv,tv,.str ba,ev],.cells true 0 [.str (ah v.1),.str (ah v.2.1),.str (ah v.2.2)],.cells true 0 [.str (ah b.1),.str (ah b.2.1),.str (ah b.2.2)],.cells true 0 [.str (ah c.1),.str (ah c.2.1),.str (ah c.2.2)]],d⟩=some (.ret,e')∧ab e'.env 6=.bool true∧e'.mem.take 1=(M++[.cells true 0 [pv,tv,.str ba,ev],.cells true 0 [.str (ah v.1),.str (ah v.2.1),.str (ah v.2.2)],.cells true 0 [.str (ah b.1),.str (ah b.2.1),.str (ah b.2.2)],.cells true 0 [.str (ah c.1),.str (ah c.2.1),.str (ah c.2.2)]]:Mem).take 1:=by clear hTe;simp[-getElem?_pos,-AV.cellOk,-AV.known,-AV.cells,-bY,-List.all_eq_true,vS,rS,mS,-jw,aS,Tryz.f5,dG,tk,-bu,-bd,-aD,-AV.refsOk,-Slot.refsOk,mH,bD hb1,dy,eZ,gf,dx,cj,kQ,bef,Nat.testBit,hlen,l2,l7,l8,l9,l10,l11,l12,h0,h1,hF1,hF2,hF3]
 obtain⟨⟨e1,e2,e3⟩,k1,k2,k3⟩:=h;exact⟨(e1,e2,e3),k1,k2,k3⟩
end
end Go.Proofs
namespace Go.Proofs
open Go.Eng
section
variable {O:Oracle}{M:Mem}{pv tv ev:AV}{n i q:Nat}{v:V3}{env:Env}
set_option maxRecDepth 16384 in
set_option maxHeartbeats 16000000 in
theorem Mb{c:V3}(hn:n=i+0) (hn2:n≤1000) (hm:1≤M.length) (rp:∀x,pv.refsOk (fun b=>decide (b<M.length+x))=true) (rt:∀x,tv.refsOk (fun b=>decide (b<M.length+x))=true) (re:∀x,ev.refsOk (fun b=>decide (b<M.length+x))=true) (cp:pv.cellOk=true) (ct:tv.cellOk=true) (ce:ev.cellOk=true) (kk:pv.known=true∧tv.known=true∧ev.known=true) (hlen:∀N,jw (aM Tryz.prog) 38 N ev=some (.int .i64 n))
  (hT:∀env:Env,(ab env 2=.int .i64 i∧ab env 7=.ptr M.length 0∧ab env 9=.ptr (M.length+2) 0∧ab env 10=.int .i64 0∧ab env 11=.ptr (M.length+3) 0∧ab env 12=.int .i64 0∧ab env 13=.ptr (M.length+4) 0∧ab env 14=.ptr (M.length+5) 0)→bV O dW (M++[.cells true 0 [pv,tv,.str ba,ev],.cells true 0 (vL v),.cells true 0 (vL v),.cells true 0 (vL c),.cells true 0 (vL v),.cells true 0 (vL v)]) env):
  ∀env:Env,(ab env 2=.int .i64 i∧ab env 7=.ptr M.length 0∧ab env 9=.ptr (M.length+2) 0∧ab env 10=.int .i64 0∧ab env 11=.ptr (M.length+3) 0∧ab env 12=.int .i64 0∧ab env 13=.ptr (M.length+4) 0∧ab env 14=.ptr (M.length+5) 0)→bV O gM (M++[.cells true 0 [pv,tv,.str ba,ev],.cells true 0 (vL v),.cells true 0 (vL v),.cells true 0 (vL c),.cells true 0 (vL v),.cells true 0 (vL v)]) env:=by
 rintro env ⟨l2,l7,l9,l10,l11,l12,l13,l14⟩ d;obtain⟨os',hops⟩:∃os',aE Tryz.f5=os' :=⟨_,rfl⟩
 have hbs' :=br hops (ls:=[[0,1,0,0,15,0,0,127,255],[0,0,0,0,13,31],[0,1,0,4,0,28,60,0,255,511,1023,1023,0,6143,16383]]) gA;simp only[aE,bC,Tryz.f5,List.nil_append,List.append_nil,List.cons_append] at hops;subst hops;simp only[List.map_cons,List.map_nil,List.cons.injEq,and_true] at hbs';obtain⟨hb0,hb1,hb2⟩:=hbs';have w0:IntKind.i64.wrap 0=0:=rfl;have w1:IntKind.i64.wrap 1=1:=rfl;have w2:IntKind.i64.wrap 2=2:=rfl;have w3:IntKind.i64.wrap 3=3:=rfl;have hjl:∀j,(M.length+j<1)=False:=fun j=>by rw[eq_iff_iff,iff_false];omega
 have hjl0:(M.length<1)=False:=by rw[eq_iff_iff,iff_false];omega
 have tk:∀Z:Mem,(M++Z).take 1=M.take 1:=fun Z=>List.take_append_of_le_length (by omega)
 obtain⟨k1,k2,k4⟩:=kk;have eV:∀a b c,gT (aM Tryz.prog) 20 31 (.agg [.str a,.str b,.str c]) (.agg [.str a,.str b,.str c])=some true:=fun a b c=>cP (d:=18) a b c
 rw[sb];obtain⟨F,hF⟩:=kX (β:=Env×Mem×Bool) (fun env d h=>hT env h d);have hF1:=fun env d h=>(hF env d h).1
 have hF2:=fun env d h=>(hF env d h).2.1
 have hF3:=fun env d h=>(hF env d h).2.2
 clear hF hT;obtain⟨T,hTe⟩:∃T,T=dW:=⟨_,rfl⟩
 rw[←hTe];simp only[←hTe] at hF1;simp only[tk] at hF3;have a1:¬(n:Int)<(i:Int):=by omega
 have a2:¬(i:Int)<0:=by omega
 have a3:i≤n:=by omega
 have a4:n-i=0:=by omega
 have wi:IntKind.i64.wrap ((i:Int)-1)=(i:Int)-1:=aj (by omega) (by omega);have gi:((i:Int)≤(i:Int)-1)=False:=by rw[eq_iff_iff,iff_false];omega
 have hin:n=i:=by omega
 subst hin;simp only[vL] at hF1 hF2 hF3 ⊢;have h:∃e',aT (aM Tryz.prog) zk O 6 138 1 true (.seq (dG 7 aS) T) ⟨env,M++[.cells true 0 [pv,tv,.str ba,ev],.cells true 0 [.str (ah v.1),.str (ah v.2.1),.str (ah v.2.2)],.cells true 0 [.str (ah v.1),.str (ah v.2.1),.str (ah v.2.2)],.cells true 0 [.str (ah c.1),.str (ah c.2.1),.str (ah c.2.2)],.cells true 0 [.str (ah v.1),.str (ah v.2.1),.str (ah v.2.2)],.cells true 0 [.str (ah v.1),.str (ah v.2.1),.str (ah v.2.2)]],d⟩=some (.ret,e')∧ab e'.env 6=.bool true∧e'.mem.take 1=(M++[.cells true 0 [pv,tv,.str ba,ev],.cells true 0 [.str (ah v.1),.str (ah v.2.1),.str (ah v.2.2)],.cells true 0 [.str (ah v.1),.str (ah v.2.1),.str (ah v.2.2)],.cells true 0 [.str (ah c.1),.str (ah c.2.1),.str (ah c.2.2)],.cells true 0 [.str (ah v.1),.str (ah v.2.1),.str (ah v.2.2)],.cells true 0 [.str (ah v.1),.str (ah v.2.1),.str (ah v.2.2)]]:Mem).take 1:=by clear hTe;simp (maxSteps:=1000000) [-getElem?_pos,-AV.cellOk,-AV.known,-AV.cells,-bY,-List.all_eq_true,mS,-jw,aS,Tryz.f5,dG,tk,-bu,-bd,-aD,-AV.refsOk,-Slot.refsOk,aB,dV,zk,hlen,l2,l7,l9,l10,l11,l12,l13,l14,hF1,hF2,hF3,wi,gi]
 obtain⟨⟨e1,e2,e3⟩,k1,k2,k3⟩:=h;exact⟨(e1,e2,e3),k1,k2,k3⟩
end
end Go.Proofs
namespace Go.Proofs
open Go.Eng
section
variable {O:Oracle}{M:Mem}{pv tv ev:AV}{n i q:Nat}{v:V3}{env:Env}
set_option maxRecDepth 16384 in
set_option maxHeartbeats 16000000 in
theorem Mc{c b1:V3}(hn:n=i+1) (hn2:n≤1000) (hm:1≤M.length) (rp:∀x,pv.refsOk (fun b=>decide (b<M.length+x))=true) (rt:∀x,tv.refsOk (fun b=>decide (b<M.length+x))=true) (re:∀x,ev.refsOk (fun b=>decide (b<M.length+x))=true) (cp:pv.cellOk=true) (ct:tv.cellOk=true) (ce:ev.cellOk=true) (kk:pv.known=true∧tv.known=true∧ev.known=true) (hlen:∀N,jw (aM Tryz.prog) 38 N ev=some (.int .i64 n))
  (hev:ev=.slice q 0 n none) {o:Bool}{D:List AV}(hq:∀Z,(M++Z)[q]? =some (.cells o 32 D)) (hD:D.length=n*32) {f0:List AV}
  (r0:(D.drop ((i+0)*32)).take 32=f0) (m0:f0.length=32) (g0:f0.all AV.cellOk=true) (s0:∀x,AV.refsOkL (fun b=>decide (b<M.length+x)) f0=true)
  (u0:∀X:Mem,X.length=6→O (.fn 20) [.agg [pv,tv],.agg f0,vA v] (M++X)=some ⟨.tuple [vA b1,.int .i64 0],none,[]⟩)
  (hT:∀env:Env,(ab env 2=.int .i64 i∧ab env 7=.ptr M.length 0∧ab env 9=.ptr (M.length+2) 0∧ab env 10=.int .i64 0∧ab env 11=.ptr (M.length+3) 0∧ab env 12=.int .i64 0∧ab env 13=.ptr (M.length+4) 0∧ab env 14=.ptr (M.length+5) 0)→bV O dW (M++[.cells true 0 [pv,tv,.str ba,ev],.cells true 0 (vL v),.cells true 0 (vL b1),.cells true 0 (vL c),.cells true 0 (vL b1),.cells true 0 (vL v),.cells true 0 (vL b1)]) env):
  ∀env:Env,(ab env 2=.int .i64 i∧ab env 7=.ptr M.length 0∧ab env 9=.ptr (M.length+2) 0∧ab env 10=.int .i64 0∧ab env 11=.ptr (M.length+3) 0∧ab env 12=.int .i64 0∧ab env 13=.ptr (M.length+4) 0∧ab env 14=.ptr (M.length+5) 0)→bV O gM (M++[.cells true 0 [pv,tv,.str ba,ev],.cells true 0 (vL v),.cells true 0 (vL b1),.cells true 0 (vL c),.cells true 0 (vL v),.cells true 0 (vL v)]) env:=by
 rintro env ⟨l2,l7,l9,l10,l11,l12,l13,l14⟩ d;obtain⟨os',hops⟩:∃os',aE Tryz.f5=os' :=⟨_,rfl⟩
 have hbs' :=br hops (ls:=[[0,1,0,0,15,0,0,127,255],[0,0,0,0,13,31],[0,1,0,4,0,28,60,0,255,511,1023,1023,0,6143,16383]]) gA;simp only[aE,bC,Tryz.f5,List.nil_append,List.append_nil,List.cons_append] at hops;subst hops;simp only[List.map_cons,List.map_nil,List.cons.injEq,and_true] at hbs';obtain⟨hb0,hb1,hb2⟩:=hbs';have w0:IntKind.i64.wrap 0=0:=rfl;have w1:IntKind.i64.wrap 1=1:=rfl;have w2:IntKind.i64.wrap 2=2:=rfl;have w3:IntKind.i64.wrap 3=3:=rfl;have hjl:∀j,(M.length+j<1)=False:=fun j=>by rw[eq_iff_iff,iff_false];omega
 have hjl0:(M.length<1)=False:=by rw[eq_iff_iff,iff_false];omega
 have tk:∀Z:Mem,(M++Z).take 1=M.take 1:=fun Z=>List.take_append_of_le_length (by omega)
 obtain⟨k1,k2,k4⟩:=kk;have eV:∀a b c,gT (aM Tryz.prog) 20 31 (.agg [.str a,.str b,.str c]) (.agg [.str a,.str b,.str c])=some true:=fun a b c=>cP (d:=18) a b c
 rw[sb];obtain⟨F,hF⟩:=kX (β:=Env×Mem×Bool) (fun env d h=>hT env h d);have hF1:=fun env d h=>(hF env d h).1
 have hF2:=fun env d h=>(hF env d h).2.1
 have hF3:=fun env d h=>(hF env d h).2.2
 clear hF hT;obtain⟨T,hTe⟩:∃T,T=dW:=⟨_,rfl⟩
 rw[←hTe];simp only[←hTe] at hF1;simp only[tk] at hF3;have a1:¬(n:Int)<(i:Int):=by omega
 have a2:¬(i:Int)<0:=by omega
 have a3:i≤n:=by omega
 have a4:n-i=1:=by omega
 have wi:IntKind.i64.wrap ((i:Int)-1)=(i:Int)-1:=aj (by omega) (by omega);have gi:((i:Int)≤(i:Int)-1)=False:=by rw[eq_iff_iff,iff_false];omega
 have a5:¬i=n:=by omega
 have a6:i<n:=by omega
 have hq2:∀x,(q<M.length+x)=True:=fun x=>by rw[eq_iff_iff,iff_true];have:=hq [];rw[List.append_nil] at this;have:=(List.getElem?_eq_some_iff.1 this).1;omega
 rw[Nat.add_zero] at r0;have wn:IntKind.i64.wrap ((n:Int)-1)=(i:Int):=by rw[aj (by omega) (by omega)];omega
 have p0:i*32+32≤D.length:=by omega
 have p0' :i*32+0+32≤D.length:=by omega
 have x0:(D.drop (i*32+0)).take 32=f0:=by rw[show i*32+0=i*32 by omega];exact r0
 have t0:f0.take 32=f0:=List.take_of_length_le (by omega);have pz:n*32≤D.length:=by omega
 have pz2:i*32+32≤D.length:=by omega
 subst hev;unfold vA at u0;simp only[vL] at hF1 hF2 hF3 ⊢;have h:∃e',aT (aM Tryz.prog) zk O 6 138 1 true (.seq (dG 7 aS) T) ⟨env,M++[.cells true 0 [pv,tv,.str ba,.slice q 0 n none],.cells true 0 [.str (ah v.1),.str (ah v.2.1),.str (ah v.2.2)],.cells true 0 [.str (ah b1.1),.str (ah b1.2.1),.str (ah b1.2.2)],.cells true 0 [.str (ah c.1),.str (ah c.2.1),.str (ah c.2.2)],.cells true 0 [.str (ah v.1),.str (ah v.2.1),.str (ah v.2.2)],.cells true 0 [.str (ah v.1),.str (ah v.2.1),.str (ah v.2.2)]],d⟩=some (.ret,e')∧ab e'.env 6=.bool true∧e'.mem.take 1=(M++[.cells true 0 [pv,tv,.str ba,.slice q 0 n none],.cells true 0 [.str (ah v.1),.str (ah v.2.1),.str (ah v.2.2)],.cells true 0 [.str (ah b1.1),.str (ah b1.2.1),.str (ah b1.2.2)],.cells true 0 [.str (ah c.1),.str (ah c.2.1),.str (ah c.2.2)],.cells true 0 [.str (ah v.1),.str (ah v.2.1),.str (ah v.2.2)],.cells true 0 [.str (ah v.1),.str (ah v.2.1),.str (ah v.2.2)]]:Mem).take 1:=by clear hTe;simp (maxSteps:=1000000) [-getElem?_pos,-AV.cellOk,-AV.known,-AV.cells,-bY,-List.all_eq_true,vS,rS,mS,-jw,aS,Tryz.f5,dG,tk,rp,rt,re,-bu,-bd,-aD,-AV.refsOk,-Slot.refsOk,bD hb2,dy,eZ,gf,dx,cj,kQ,bef,Nat.testBit,aB,dV,zk,hlen,l2,l7,l9,l10,l11,l12,l13,l14,hF1,hF2,hF3,wi,gi,a6,hq2,hq,wn,p0,r0,s0,u0]
 obtain⟨⟨e1,e2,e3⟩,k1,k2,k3⟩:=h;exact⟨(e1,e2,e3),k1,k2,k3⟩
end
end Go.Proofs
namespace Go.Proofs
open Go.Eng
section
variable {O:Oracle}{M:Mem}{pv tv ev:AV}{n i q:Nat}{v:V3}{env:Env}
set_option maxRecDepth 16384 in
set_option maxHeartbeats 16000000 in
theorem Md{c b1 b2:V3}(hn:n=i+2) (hn2:n≤1000) (hm:1≤M.length) (rp:∀x,pv.refsOk (fun b=>decide (b<M.length+x))=true) (rt:∀x,tv.refsOk (fun b=>decide (b<M.length+x))=true) (re:∀x,ev.refsOk (fun b=>decide (b<M.length+x))=true) (cp:pv.cellOk=true) (ct:tv.cellOk=true) (ce:ev.cellOk=true) (kk:pv.known=true∧tv.known=true∧ev.known=true) (hlen:∀N,jw (aM Tryz.prog) 38 N ev=some (.int .i64 n))
  (hev:ev=.slice q 0 n none) {o:Bool}{D:List AV}(hq:∀Z,(M++Z)[q]? =some (.cells o 32 D)) (hD:D.length=n*32) {f0 f1:List AV}
  (r0:(D.drop ((i+0)*32)).take 32=f0) (m0:f0.length=32) (g0:f0.all AV.cellOk=true) (s0:∀x,AV.refsOkL (fun b=>decide (b<M.length+x)) f0=true)
  (r1:(D.drop ((i+1)*32)).take 32=f1) (m1:f1.length=32) (g1:f1.all AV.cellOk=true) (s1:∀x,AV.refsOkL (fun b=>decide (b<M.length+x)) f1=true)
  (u0:∀X:Mem,X.length=6→O (.fn 20) [.agg [pv,tv],.agg f1,vA v] (M++X)=some ⟨.tuple [vA b1,.int .i64 0],none,[]⟩)
  (u1:∀X:Mem,X.length=7→O (.fn 20) [.agg [pv,tv],.agg f0,vA b1] (M++X)=some ⟨.tuple [vA b2,.int .i64 0],none,[]⟩)
  (hT:∀env:Env,(ab env 2=.int .i64 i∧ab env 7=.ptr M.length 0∧ab env 9=.ptr (M.length+2) 0∧ab env 10=.int .i64 0∧ab env 11=.ptr (M.length+3) 0∧ab env 12=.int .i64 0∧ab env 13=.ptr (M.length+4) 0∧ab env 14=.ptr (M.length+5) 0)→bV O dW (M++[.cells true 0 [pv,tv,.str ba,ev],.cells true 0 (vL v),.cells true 0 (vL b2),.cells true 0 (vL c),.cells true 0 (vL b2),.cells true 0 (vL v),.cells true 0 (vL b1),.cells true 0 (vL b2)]) env):
  ∀env:Env,(ab env 2=.int .i64 i∧ab env 7=.ptr M.length 0∧ab env 9=.ptr (M.length+2) 0∧ab env 10=.int .i64 0∧ab env 11=.ptr (M.length+3) 0∧ab env 12=.int .i64 0∧ab env 13=.ptr (M.length+4) 0∧ab env 14=.ptr (M.length+5) 0)→bV O gM (M++[.cells true 0 [pv,tv,.str ba,ev],.cells true 0 (vL v),.cells true 0 (vL b2),.cells true 0 (vL c),.cells true 0 (vL v),.cells true 0 (vL v)]) env:=by
 rintro env ⟨l2,l7,l9,l10,l11,l12,l13,l14⟩ d;obtain⟨os',hops⟩:∃os',aE Tryz.f5=os' :=⟨_,rfl⟩
 have hbs' :=br hops (ls:=[[0,1,0,0,15,0,0,127,255],[0,0,0,0,13,31],[0,1,0,4,0,28,60,0,255,511,1023,1023,0,6143,16383]]) gA;simp only[aE,bC,Tryz.f5,List.nil_append,List.append_nil,List.cons_append] at hops;subst hops;simp only[List.map_cons,List.map_nil,List.cons.injEq,and_true] at hbs';obtain⟨hb0,hb1,hb2⟩:=hbs';have w0:IntKind.i64.wrap 0=0:=rfl;have w1:IntKind.i64.wrap 1=1:=rfl;have w2:IntKind.i64.wrap 2=2:=rfl;have w3:IntKind.i64.wrap 3=3:=rfl;have hjl:∀j,(M.length+j<1)=False:=fun j=>by rw[eq_iff_iff,iff_false];omega
 have hjl0:(M.length<1)=False:=by rw[eq_iff_iff,iff_false];omega
 have tk:∀Z:Mem,(M++Z).take 1=M.take 1:=fun Z=>List.take_append_of_le_length (by omega)
 obtain⟨k1,k2,k4⟩:=kk;have eV:∀a b c,gT (aM Tryz.prog) 20 31 (.agg [.str a,.str b,.str c]) (.agg [.str a,.str b,.str c])=some true:=fun a b c=>cP (d:=18) a b c
 rw[sb];obtain⟨F,hF⟩:=kX (β:=Env×Mem×Bool) (fun env d h=>hT env h d);have hF1:=fun env d h=>(hF env d h).1
 have hF2:=fun env d h=>(hF env d h).2.1
 have hF3:=fun env d h=>(hF env d h).2.2
 clear hF hT;obtain⟨T,hTe⟩:∃T,T=dW:=⟨_,rfl⟩
 rw[←hTe];simp only[←hTe] at hF1;simp only[tk] at hF3;have a1:¬(n:Int)<(i:Int):=by omega
 have a2:¬(i:Int)<0:=by omega
 have a3:i≤n:=by omega
 have a4:n-i=2:=by omega
 have wi:IntKind.i64.wrap ((i:Int)-1)=(i:Int)-1:=aj (by omega) (by omega);have gi:((i:Int)≤(i:Int)-1)=False:=by rw[eq_iff_iff,iff_false];omega
 have a5:¬i=n:=by omega
 have a6:i<n:=by omega
 have hq2:∀x,(q<M.length+x)=True:=fun x=>by rw[eq_iff_iff,iff_true];have:=hq [];rw[List.append_nil] at this;have:=(List.getElem?_eq_some_iff.1 this).1;omega
 obtain⟨y1,hy1⟩:∃y,y=i+1:=⟨_,rfl⟩
 rw[←hy1] at r1;have c1:(i:Int)≤(y1:Int):=by omega
 have c1' :i≤y1:=by omega
 have n1:y1<n:=by omega
 have wy1:IntKind.i64.wrap ((y1:Int)-1)=(i:Int):=by rw[aj (by omega) (by omega)];omega
 rw[Nat.add_zero] at r0;have wn:IntKind.i64.wrap ((n:Int)-1)=(y1:Int):=by rw[aj (by omega) (by omega)];omega
 have p0:i*32+32≤D.length:=by omega
 have p0' :i*32+0+32≤D.length:=by omega
 have x0:(D.drop (i*32+0)).take 32=f0:=by rw[show i*32+0=i*32 by omega];exact r0
 have t0:f0.take 32=f0:=List.take_of_length_le (by omega);have p1:y1*32+32≤D.length:=by omega
 have p1' :i*32+32+32≤D.length:=by omega
 have x1:(D.drop (i*32+32)).take 32=f1:=by rw[show i*32+32=y1*32 by omega];exact r1
 have t1:f1.take 32=f1:=List.take_of_length_le (by omega);have pz:n*32≤D.length:=by omega
 have pz2:i*32+64≤D.length:=by omega
 subst hev;unfold vA at u0 u1;simp only[vL] at hF1 hF2 hF3 ⊢;have h:∃e',aT (aM Tryz.prog) zk O 6 138 1 true (.seq (dG 7 aS) T) ⟨env,M++[.cells true 0 [pv,tv,.str ba,.slice q 0 n none],.cells true 0 [.str (ah v.1),.str (ah v.2.1),.str (ah v.2.2)],.cells true 0 [.str (ah b2.1),.str (ah b2.2.1),.str (ah b2.2.2)],.cells true 0 [.str (ah c.1),.str (ah c.2.1),.str (ah c.2.2)],.cells true 0 [.str (ah v.1),.str (ah v.2.1),.str (ah v.2.2)],.cells true 0 [.str (ah v.1),.str (ah v.2.1),.str (ah v.2.2)]],d⟩=some (.ret,e')∧ab e'.env 6=.bool true∧e'.mem.take 1=(M++[.cells true 0 [pv,tv,.str ba,.slice q 0 n none],.cells true 0 [.str (ah v.1),.str (ah v.2.1),.str (ah v.2.2)],.cells true 0 [.str (ah b2.1),.str (ah b2.2.1),.str (ah b2.2.2)],.cells true 0 [.str (ah c.1),.str (ah c.2.1),.str (ah c.2.2)],.cells true 0 [.str (ah v.1),.str (ah v.2.1),.str (ah v.2.2)],.cells true 0 [.str (ah v.1),.str (ah v.2.1),.str (ah v.2.2)]]:Mem).take 1:=by clear hTe;simp (maxSteps:=1000000) [-getElem?_pos,-AV.cellOk,-AV.known,-AV.cells,-bY,-List.all_eq_true,vS,rS,mS,-jw,aS,Tryz.f5,dG,tk,rp,rt,re,-bu,-bd,-aD,-AV.refsOk,-Slot.refsOk,bD hb2,dy,eZ,gf,dx,cj,kQ,bef,Nat.testBit,aB,dV,zk,hlen,l2,l7,l9,l10,l11,l12,l13,l14,hF1,hF2,hF3,wi,gi,a6,hq2,hq,c1,n1,wy1,wn,p0,r0,s0,p1,r1,s1,u0,u1]
 obtain⟨⟨e1,e2,e3⟩,k1,k2,k3⟩:=h;exact⟨(e1,e2,e3),k1,k2,k3⟩
end
end Go.Proofs
namespace Go.Proofs
open Go.Eng
section
variable {O:Oracle}{M:Mem}{pv tv ev:AV}{n i q:Nat}{v:V3}{env:Env}
set_option maxRecDepth 16384 in
set_option maxHeartbeats 16000000 in
theorem Me{c b1 b2 b3:V3}(hn:n=i+3) (hn2:n≤1000) (hm:1≤M.length) (rp:∀x,pv.refsOk (fun b=>decide (b<M.length+x))=true) (rt:∀x,tv.refsOk (fun b=>decide (b<M.length+x))=true) (re:∀x,ev.refsOk (fun b=>decide (b<M.length+x))=true) (cp:pv.cellOk=true) (ct:tv.cellOk=true) (ce:ev.cellOk=true) (kk:pv.known=true∧tv.known=true∧ev.known=true) (hlen:∀N,jw (aM Tryz.prog) 38 N ev=some (.int .i64 n))
  (hev:ev=.slice q 0 n none) {o:Bool}{D:List AV}(hq:∀Z,(M++Z)[q]? =some (.cells o 32 D)) (hD:D.length=n*32) {f0 f1 f2:List AV}
  (r0:(D.drop ((i+0)*32)).take 32=f0) (m0:f0.length=32) (g0:f0.all AV.cellOk=true) (s0:∀x,AV.refsOkL (fun b=>decide (b<M.length+x)) f0=true)
  (r1:(D.drop ((i+1)*32)).take 32=f1) (m1:f1.length=32) (g1:f1.all AV.cellOk=true) (s1:∀x,AV.refsOkL (fun b=>decide (b<M.length+x)) f1=true)
  (r2:(D.drop ((i+2)*32)).take 32=f2) (m2:f2.length=32) (g2:f2.all AV.cellOk=true) (s2:∀x,AV.refsOkL (fun b=>decide (b<M.length+x)) f2=true)
  (u0:∀X:Mem,X.length=6→O (.fn 20) [.agg [pv,tv],.agg f2,vA v] (M++X)=some ⟨.tuple [vA b1,.int .i64 0],none,[]⟩)
  (u1:∀X:Mem,X.length=7→O (.fn 20) [.agg [pv,tv],.agg f1,vA b1] (M++X)=some ⟨.tuple [vA b2,.int .i64 0],none,[]⟩)
  (u2:∀X:Mem,X.length=8→O (.fn 20) [.agg [pv,tv],.agg f0,vA b2] (M++X)=some ⟨.tuple [vA b3,.int .i64 0],none,[]⟩)
  (hT:∀env:Env,(ab env 2=.int .i64 i∧ab env 7=.ptr M.length 0∧ab env 9=.ptr (M.length+2) 0∧ab env 10=.int .i64 0∧ab env 11=.ptr (M.length+3) 0∧ab env 12=.int .i64 0∧ab env 13=.ptr (M.length+4) 0∧ab env 14=.ptr (M.length+5) 0)→bV O dW (M++[.cells true 0 [pv,tv,.str ba,ev],.cells true 0 (vL v),.cells true 0 (vL b3),.cells true 0 (vL c),.cells true 0 (vL b3),.cells true 0 (vL v),.cells true 0 (vL b1),.cells true 0 (vL b2),.cells true 0 (vL b3)]) env):
  ∀env:Env,(ab env 2=.int .i64 i∧ab env 7=.ptr M.length 0∧ab env 9=.ptr (M.length+2) 0∧ab env 10=.int .i64 0∧ab env 11=.ptr (M.length+3) 0∧ab env 12=.int .i64 0∧ab env 13=.ptr (M.length+4) 0∧ab env 14=.ptr (M.length+5) 0)→bV O gM (M++[.cells true 0 [pv,tv,.str ba,ev],.cells true 0 (vL v),.cells true 0 (vL b3),.cells true 0 (vL c),.cells true 0 (vL v),.cells true 0 (vL v)]) env:=by
 rintro env ⟨l2,l7,l9,l10,l11,l12,l13,l14⟩ d;obtain⟨os',hops⟩:∃os',aE Tryz.f5=os' :=⟨_,rfl⟩
 have hbs' :=br hops (ls:=[[0,1,0,0,15,0,0,127,255],[0,0,0,0,13,31],[0,1,0,4,0,28,60,0,255,511,1023,1023,0,6143,16383]]) gA;simp only[aE,bC,Tryz.f5,List.nil_append,List.append_nil,List.cons_append] at hops;subst hops;simp only[List.map_cons,List.map_nil,List.cons.injEq,and_true] at hbs';obtain⟨hb0,hb1,hb2⟩:=hbs';have w0:IntKind.i64.wrap 0=0:=rfl;have w1:IntKind.i64.wrap 1=1:=rfl;have w2:IntKind.i64.wrap 2=2:=rfl;have w3:IntKind.i64.wrap 3=3:=rfl;have hjl:∀j,(M.length+j<1)=False:=fun j=>by rw[eq_iff_iff,iff_false];omega
 have hjl0:(M.length<1)=False:=by rw[eq_iff_iff,iff_false];omega
 have tk:∀Z:Mem,(M++Z).take 1=M.take 1:=fun Z=>List.take_append_of_le_length (by omega)
 obtain⟨k1,k2,k4⟩:=kk;have eV:∀a b c,gT (aM Tryz.prog) 20 31 (.agg [.str a,.str b,.str c]) (.agg [.str a,.str b,.str c])=some true:=fun a b c=>cP (d:=18) a b c
 rw[sb];obtain⟨F,hF⟩:=kX (β:=Env×Mem×Bool) (fun env d h=>hT env h d);have hF1:=fun env d h=>(hF env d h).1
 have hF2:=fun env d h=>(hF env d h).2.1
 have hF3:=fun env d h=>(hF env d h).2.2
 clear hF hT;obtain⟨T,hTe⟩:∃T,T=dW:=⟨_,rfl⟩
 rw[←hTe];simp only[←hTe] at hF1;simp only[tk] at hF3;have a1:¬(n:Int)<(i:Int):=by omega
 have a2:¬(i:Int)<0:=by omega
 have a3:i≤n:=by omega
 have a4:n-i=3:=by omega
 have wi:IntKind.i64.wrap ((i:Int)-1)=(i:Int)-1:=aj (by omega) (by omega);have gi:((i:Int)≤(i:Int)-1)=False:=by rw[eq_iff_iff,iff_false];omega
 have a5:¬i=n:=by omega
 have a6:i<n:=by omega
 have hq2:∀x,(q<M.length+x)=True:=fun x=>by rw[eq_iff_iff,iff_true];have:=hq [];rw[List.append_nil] at this;have:=(List.getElem?_eq_some_iff.1 this).1;omega
 obtain⟨y1,hy1⟩:∃y,y=i+1:=⟨_,rfl⟩
 rw[←hy1] at r1;have c1:(i:Int)≤(y1:Int):=by omega
 have c1' :i≤y1:=by omega
 have n1:y1<n:=by omega
 have wy1:IntKind.i64.wrap ((y1:Int)-1)=(i:Int):=by rw[aj (by omega) (by omega)];omega
 obtain⟨y2,hy2⟩:∃y,y=i+2:=⟨_,rfl⟩
 rw[←hy2] at r2;have c2:(i:Int)≤(y2:Int):=by omega
 have c2' :i≤y2:=by omega
 have n2:y2<n:=by omega
 have wy2:IntKind.i64.wrap ((y2:Int)-1)=(y1:Int):=by rw[aj (by omega) (by omega)];omega
 rw[Nat.add_zero] at r0;have wn:IntKind.i64.wrap ((n:Int)-1)=(y2:Int):=by rw[aj (by omega) (by omega)];omega
 have p0:i*32+32≤D.length:=by omega
 have p0' :i*32+0+32≤D.length:=by omega
 have x0:(D.drop (i*32+0)).take 32=f0:=by rw[show i*32+0=i*32 by omega];exact r0
 have t0:f0.take 32=f0:=List.take_of_length_le (by omega);have p1:y1*32+32≤D.length:=by omega
 have p1' :i*32+32+32≤D.length:=by omega
 have x1:(D.drop (i*32+32)).take 32=f1:=by rw[show i*32+32=y1*32 by omega];exact r1
 have t1:f1.take 32=f1:=List.take_of_length_le (by omega);have p2:y2*32+32≤D.length:=by omega
 have p2' :i*32+64+32≤D.length:=by omega
 have x2:(D.drop (i*32+64)).take 32=f2:=by rw[show i*32+64=y2*32 by omega];exact r2
 have t2:f2.take 32=f2:=List.take_of_length_le (by omega);have pz:n*32≤D.length:=by omega
 have pz2:i*32+96≤D.length:=by omega
 subst hev;unfold vA at u0 u1 u2;simp only[vL] at hF1 hF2 hF3 ⊢;have h:∃e',aT (aM Tryz.prog) zk O 6 138 1 true (.seq (dG 7 aS) T) ⟨env,M++[.cells true 0 [pv,tv,.str ba,.slice q 0 n none],.cells true 0 [.str (ah v.1),.str (ah v.2.1),.str (ah v.2.2)],.cells true 0 [.str (ah b3.1),.str (ah b3.2.1),.str (ah b3.2.2)],.cells true 0 [.str (ah c.1),.str (ah c.2.1),.str (ah c.2.2)],.cells true 0 [.str (ah v.1),.str (ah v.2.1),.str (ah v.2.2)],.cells true 0 [.str (ah v.1),.str (ah v.2.1),.str (ah v.2.2)]],d⟩=some (.ret,e')∧ab e'.env 6=.bool true∧e'.mem.take 1=(M++[.cells true 0 [pv,tv,.str ba,.slice q 0 n none],.cells true 0 [.str (ah v.1),.str (ah v.2.1),.str (ah v.2.2)],.cells true 0 [.str (ah b3.1),.str (ah b3.2.1),.str (ah b3.2.2)],.cells true 0 [.str (ah c.1),.str (ah c.2.1),.str (ah c.2.2)],.cells true 0 [.str (ah v.1),.str (ah v.2.1),.str (ah v.2.2)],.cells true 0 [.str (ah v.1),.str (ah v.2.1),.str (ah v.2.2)]]:Mem).take 1:=by clear hTe;simp (maxSteps:=1000000) [-getElem?_pos,-AV.cellOk,-AV.known,-AV.cells,-bY,-List.all_eq_true,vS,rS,mS,-jw,aS,Tryz.f5,dG,tk,rp,rt,re,-bu,-bd,-aD,-AV.refsOk,-Slot.refsOk,bD hb2,dy,eZ,gf,dx,cj,kQ,bef,Nat.testBit,aB,dV,zk,hlen,l2,l7,l9,l10,l11,l12,l13,l14,hF1,hF2,hF3,wi,gi,a6,hq2,hq,c1,n1,wy1,c2,n2,wy2,wn,p0,r0,s0,p1,r1,s1,p2,r2,s2,u0,u1,u2]
 obtain⟨⟨e1,e2,e3⟩,k1,k2,k3⟩:=h;exact⟨(e1,e2,e3),k1,k2,k3⟩
end
end Go.Proofs
