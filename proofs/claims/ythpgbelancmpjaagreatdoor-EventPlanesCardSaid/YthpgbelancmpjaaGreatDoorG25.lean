/- See G38. -/
import Derived.Test.YthpgbelancmpjaaGreatDoorG22
import Derived.Test.YthpgbelancmpjaaGreatDoorG24
set_option linter.all false
set_option maxRecDepth 100000
set_option maxHeartbeats 40000000
namespace Go.Proofs
open Go.Eng
open Tryz
section
variable (d:Nat)
theorem Br(x y:List UInt8):lg (aX prog) (d+1) 9 (.str x) (.str y)=some (x==y):=by rw[lg];simp
theorem Iy(x y:Int):lg (aX prog) (d+1) 3 (.int .i64 x) (.int .i64 y)=some (decide (x=y)):=by rw[lg];simp
theorem nA(a b c:List UInt8):lg (aX prog) (d+2) 54 (.agg [.str a,.str b,.str c]) (.agg [.str a,.str b,.str c])=some true:=by have i:=ly d;rw[lg];simp[R3,jU,TyI.isAgg,i]
theorem yN(a b c o:List UInt8):lg (aX prog) (d+3) 56 (.agg [.str a,.str b,.str c,.str o]) (.agg [.str a,.str b,.str c,.str o])=some true:=by have i:=ly (d+1);have j:=nA d;rw[lg];simp[R3,jU,TyI.isAgg,i,j]
theorem Ix(a b c o e f g:List UInt8):lg (aX prog) (d+4) 58 (.agg [.str a,.str b,.str c,.str o,.str e,.str f,.str g]) (.agg [.str a,.str b,.str c,.str o,.str e,.str f,.str g])=some true:=by have j:=nA (d+1);have k:=yN d;rw[lg];simp[R3,jU,TyI.isAgg,j,k]
theorem Nl(a b c o w u:List UInt8):lg (aX prog) (d+4) 63 (.agg [.str a,.str b,.str c,.str o,.str w,.str u]) (.agg [.str a,.str b,.str c,.str o,.str w,.str u])=some true:=by have i:=ly (d+2);have Z:=Br (d+2);have k:=yN d;rw[lg];simp[R3,jU,TyI.isAgg,i,Z,k]
theorem Np(t u v w:Int):lg (aX prog) (d+2) 64 (.agg [.int .i64 t,.int .i64 u,.int .i64 v,.int .i64 w]) (.agg [.int .i64 t,.int .i64 u,.int .i64 v,.int .i64 w])=some true:=by have r:List.range' 0 4=[0,1,2,3]:=rfl;have i:=Iy d;rw[lg];simp only[GD,GC,r,Wq];simp[jU,TyI.isAgg,i]
theorem No(t u v w:Int)(a b c:List UInt8):lg (aX prog) (d+3) 66 (.agg [.int .i64 t,.int .i64 u,.int .i64 v,.int .i64 w,.str a,.str b,.str c]) (.agg [.int .i64 t,.int .i64 u,.int .i64 v,.int .i64 w,.str a,.str b,.str c])=some true:=by have j:=nA (d+0);have k:=Np d;rw[lg];simp[R3,jU,TyI.isAgg,j,k]
end
def lf:List (List UInt8):=[[101,48],[101,49],[101,50],[101,51],[101,52],[101,53],[107,48],[107,49],[107,50],[107,51],[107,52],[107,53],[65,49],[65,50],[65,51],[66,49],[66,50],[66,51],[67,49],[67,50],[67,51],[68,49],[68,50],[68,51],[69,49],[69,50],[69,51],[70,49],[70,50],[70,51],[116],[122],[102,105,110,101],[110],[110,95,97],[110,95,98],[110,95,99],[110,95,114,111,99,107]]
theorem ib(nm:List UInt8)(h:nm∈lf)(M:Mem):kO prog 71 [.str nm] M (.int .i64 0) M:=by refine dc (az _) (lv:=aa) (K:=9) rfl rfl ?_ M;simp only[lf,lM] at h;rcases h with h | h | h | h | h | h | h | h | h | h | h | h | h | h | h | h | h | h | h | h | h | h | h | h | h | h | h | h | h | h | h | h | h | h | h | h | h | h<;>(subst h;as_aux_lemma=>kernel_rfl)
def xI:List AV:=[154,155,156,157,158,159,160,161,111,162,163,164,165,166,167,168,169,170,171,172,173,174,175,176,177].map fun i=>.func i []
theorem HC(M:Mem):kO prog 96 [] M (.agg xI) M:=by refine dc (az _) (lv:=aa) (K:=6) rfl rfl ?_ M;as_aux_lemma=>kernel_rfl
theorem pW{T:TypeId->Option TyI}{O:y9}{N m0:Nat}{ops:Array Oper}:∀(a b:List Oper) (s:XS),fz T O N m0 ops (a++b) s=(fz T O N m0 ops a s).bind (fz T O N m0 ops b)
 | [],b,s=>rfl
 |o::a,b,s=>by
  rw[List.cons_append,fz,fz];split
  .split
   .split
    .exact pW a b _
    .rfl
   .exact pW a b _
   .rfl
  .rfl
variable{O:y9}{m0:Nat}{ops:Array Oper}
theorem gd{T:TypeId->Option TyI}{N:Nat}{a b:List Oper}{s s1:XS}{r:Option XS}(h:fz T O N m0 ops a s=some s1)(h2:fz T O N m0 ops b s1=r):fz T O N m0 ops (a++b) s=r:=by rw[pW,h];exact h2
noncomputable def aV:Array Oper:=match f26.body with
 |some (.seq _ (.seq (.region _ ops _) _))=>ops
 |_=> #[]
noncomputable def qV:List Oper:=(aV.toList.drop 0).take 6
noncomputable def qW:List Oper:=(aV.toList.drop 6).take 7
noncomputable def qX:List Oper:=(aV.toList.drop 13).take 9
noncomputable def qY:List Oper:=(aV.toList.drop 22).take 9
noncomputable def qZ:List Oper:=(aV.toList.drop 31).take 9
noncomputable def ra:List Oper:=(aV.toList.drop 40).take 7
noncomputable def rb:List Oper:=(aV.toList.drop 47).take 9
noncomputable def re:List Oper:=(aV.toList.drop 56).take 9
noncomputable def rh:List Oper:=(aV.toList.drop 65).take 9
noncomputable def rl:List Oper:=(aV.toList.drop 74).take 7
noncomputable def oM:List Oper:=(aV.toList.drop 81).take 7
theorem Iz:aV.toList=qV++(qW++(qX++(qY++(qZ++(ra++(rb++(re++(rh++(rl++(oM)))))))))):=by kernel_rfl
structure Evc where
 k:Int
 nm:List UInt8
 B:List (List UInt8):=[]
 U:List (List UInt8):=[]
 S:List (List (List UInt8)):=[]
 K:List (List UInt8×List UInt8):=[]
 (t1 t2 t3 t4:Int:=0)
 (x5 x6 x7 x8 x9 x10 x11 x12 x13 x14 x16 x17 x18 x19 x20 x21 x22 x23 x24 x29 x30 x31:List UInt8:=[])
def Evc.cells(c:Evc)(b u s H:AV):List AV:=[.int .i64 c.k,.str c.nm,b,u,s,.str c.x5,.str c.x6,.str c.x7,.str c.x8,.str c.x9,.str c.x10,.str c.x11,.str c.x12,.str c.x13,.str c.x14,H,.str c.x16,.str c.x17,.str c.x18,.str c.x19,.str c.x20,.str c.x21,.str c.x22,.str c.x23,.str c.x24,.int .i64 c.t1,.int .i64 c.t2,.int .i64 c.t3,.int .i64 c.t4,.str c.x29,.str c.x30,.str c.x31]
noncomputable def Bq:Array Oper:=match f26.body with
 |some (.seq (.region _ ops _) _)=>ops
 |_=> #[]
variable{b b' kn kn' s s' u u' :AV}{c:Evc}{d:Bool}{env:Env}{mem:Mem}{p q:Nat}
section
variable (h2:ad env 2=.ptr p 0)(h3:ad env 3=.ptr q 0)(hp:mem[p]? =some (.cells true 0 (c.cells b u s kn)))(hq:mem[q]? =some (.cells true 0 (c.cells b' u' s' kn')))
include h2 h3 hp hq
theorem Nq:
  ∃Z,fz (aX prog) O 92 m0 ops qV ⟨env,mem,d⟩=some ⟨Z,mem,d⟩/\ad Z 2=.ptr p 0/\ad Z 3=.ptr q 0/\ad Z 10=.bool true:=by
 have X:=fun d=>Iy d
 simp only[Evc.cells] at hp hq;simp[qV,aV,f26,h2,h3,hp,hq]
theorem Nr(hg:(ops[5]?).bind (fun x=>x.dst)=some 10)(h1:ad env 10=.bool true):
  ∃Z,fz (aX prog) O 92 m0 ops qW ⟨env,mem,d⟩=some ⟨Z,mem,d⟩/\ad Z 2=.ptr p 0/\ad Z 3=.ptr q 0/\ad Z 17=.bool true:=by
 have X:=fun d=>Br d
 simp only[Evc.cells] at hp hq;simp[qW,aV,f26,h2,h3,hp,hq,hg,h1]
theorem Nt(hg:(ops[12]?).bind (fun x=>x.dst)=some 17)(h1:ad env 17=.bool true)(H:O (.fn 72) [b,b'] mem=some ⟨.bool true,none,[]⟩):
  ∃Z,fz (aX prog) O 92 m0 ops qX ⟨env,mem,d⟩=some ⟨Z,mem,d⟩/\ad Z 2=.ptr p 0/\ad Z 3=.ptr q 0/\ad Z 26=.bool true:=by
 simp only[Evc.cells] at hp hq;simp[qX,aV,f26,h2,h3,hp,hq,hg,h1,H]
theorem Nu(hg:(ops[21]?).bind (fun x=>x.dst)=some 26)(h1:ad env 26=.bool true)(H:O (.fn 73) [u,u'] mem=some ⟨.bool true,none,[]⟩):
  ∃Z,fz (aX prog) O 92 m0 ops qY ⟨env,mem,d⟩=some ⟨Z,mem,d⟩/\ad Z 2=.ptr p 0/\ad Z 3=.ptr q 0/\ad Z 35=.bool true:=by
 simp only[Evc.cells] at hp hq;simp[qY,aV,f26,h2,h3,hp,hq,hg,h1,H]
theorem Nv(hg:(ops[30]?).bind (fun x=>x.dst)=some 35)(h1:ad env 35=.bool true)(H:O (.fn 74) [s,s'] mem=some ⟨.bool true,none,[]⟩):
  ∃Z,fz (aX prog) O 92 m0 ops qZ ⟨env,mem,d⟩=some ⟨Z,mem,d⟩/\ad Z 2=.ptr p 0/\ad Z 3=.ptr q 0/\ad Z 44=.bool true:=by
 simp only[Evc.cells] at hp hq;simp[qZ,aV,f26,h2,h3,hp,hq,hg,h1,H]
theorem Nw(hg:(ops[39]?).bind (fun x=>x.dst)=some 44)(h1:ad env 44=.bool true):
  ∃Z,fz (aX prog) O 92 m0 ops ra ⟨env,mem,d⟩=some ⟨Z,mem,d⟩/\ad Z 2=.ptr p 0/\ad Z 3=.ptr q 0/\ad Z 51=.bool true:=by
 have X:=fun d=>Ix d
 simp only[Evc.cells] at hp hq;simp[ra,aV,f26,h2,h3,hp,hq,hg,h1,X]
theorem Nx(hg:(ops[46]?).bind (fun x=>x.dst)=some 51)(h1:ad env 51=.bool true):
  ∃Z,fz (aX prog) O 92 m0 ops rb ⟨env,mem,d⟩=some ⟨Z,mem,d⟩/\ad Z 2=.ptr p 0/\ad Z 3=.ptr q 0/\ad Z 60=.bool true:=by
 have X:=fun d=>nA d
 simp only[Evc.cells] at hp hq;simp[rb,aV,f26,h2,h3,hp,hq,hg,h1,X]
theorem Ny(hg:(ops[55]?).bind (fun x=>x.dst)=some 60)(h1:ad env 60=.bool true)(H:O (.fn 75) [kn,kn'] mem=some ⟨.bool true,none,[]⟩):
  ∃Z,fz (aX prog) O 92 m0 ops re ⟨env,mem,d⟩=some ⟨Z,mem,d⟩/\ad Z 2=.ptr p 0/\ad Z 3=.ptr q 0/\ad Z 69=.bool true:=by
 simp only[Evc.cells] at hp hq;simp[re,aV,f26,h2,h3,hp,hq,hg,h1,H]
theorem Nz(hg:(ops[64]?).bind (fun x=>x.dst)=some 69)(h1:ad env 69=.bool true):
  ∃Z,fz (aX prog) O 92 m0 ops rh ⟨env,mem,d⟩=some ⟨Z,mem,d⟩/\ad Z 2=.ptr p 0/\ad Z 3=.ptr q 0/\ad Z 78=.bool true:=by
 have X:=fun d=>nA d
 simp only[Evc.cells] at hp hq;simp[rh,aV,f26,h2,h3,hp,hq,hg,h1,X]
theorem NA(hg:(ops[73]?).bind (fun x=>x.dst)=some 78)(h1:ad env 78=.bool true):
  ∃Z,fz (aX prog) O 92 m0 ops rl ⟨env,mem,d⟩=some ⟨Z,mem,d⟩/\ad Z 2=.ptr p 0/\ad Z 3=.ptr q 0/\ad Z 85=.bool true:=by
 have X:=fun d=>Nl d
 simp only[Evc.cells] at hp hq;simp[rl,aV,f26,h2,h3,hp,hq,hg,h1,X]
theorem IB(hg:(ops[80]?).bind (fun x=>x.dst)=some 85)(h1:ad env 85=.bool true):
  ∃Z,fz (aX prog) O 92 m0 ops oM ⟨env,mem,d⟩=some ⟨Z,mem,d⟩/\ad Z 2=.ptr p 0/\ad Z 3=.ptr q 0/\ad Z 4=.bool true:=by
 have X:=fun d=>No d
 simp only[Evc.cells] at hp hq;simp[oM,aV,f26,h2,h3,hp,hq,hg,h1,X]
theorem QJ(H:O (.fn 72) [b,b'] mem=some ⟨.bool true,none,[]⟩)(I:O (.fn 73) [u,u'] mem=some ⟨.bool true,none,[]⟩)(J:O (.fn 74) [s,s'] mem=some ⟨.bool true,none,[]⟩)(Y:O (.fn 75) [kn,kn'] mem=some ⟨.bool true,none,[]⟩):
  ∃D',fz (aX prog) O 92 m0 aV aV.toList ⟨env,mem,d⟩=some ⟨D',mem,d⟩/\ad D' 4=.bool true:=by
 have g1:(aV[5]?).bind (fun x=>x.dst)=some 10:=by kernel_rfl
 have g2:(aV[12]?).bind (fun x=>x.dst)=some 17:=by kernel_rfl
 have g3:(aV[21]?).bind (fun x=>x.dst)=some 26:=by kernel_rfl
 have g4:(aV[30]?).bind (fun x=>x.dst)=some 35:=by kernel_rfl
 have g5:(aV[39]?).bind (fun x=>x.dst)=some 44:=by kernel_rfl
 have g6:(aV[46]?).bind (fun x=>x.dst)=some 51:=by kernel_rfl
 have g7:(aV[55]?).bind (fun x=>x.dst)=some 60:=by kernel_rfl
 have g8:(aV[64]?).bind (fun x=>x.dst)=some 69:=by kernel_rfl
 have g9:(aV[73]?).bind (fun x=>x.dst)=some 78:=by kernel_rfl
 have Z:(aV[80]?).bind (fun x=>x.dst)=some 85:=by kernel_rfl
 obtain⟨e0,r0,X,V,b0⟩:=Nq (O:=O) (m0:=m0) (ops:=aV) (d:=d) h2 h3 hp hq;obtain⟨e1,r1,U,S,b1⟩:=Nr (O:=O) (m0:=m0) (ops:=aV) (d:=d) X V hp hq g1 b0;obtain⟨e2,r2,R,N,b2⟩:=Nt (O:=O) (m0:=m0) (ops:=aV) (d:=d) U S hp hq g2 b1 H;obtain⟨e3,r3,M,L,b3⟩:=Nu (O:=O) (m0:=m0) (ops:=aV) (d:=d) R N hp hq g3 b2 I;obtain⟨e4,r4,K,G,b4⟩:=Nv (O:=O) (m0:=m0) (ops:=aV) (d:=d) M L hp hq g4 b3 J;obtain⟨e5,r5,F,C,b5⟩:=Nw (O:=O) (m0:=m0) (ops:=aV) (d:=d) K G hp hq g5 b4;obtain⟨e6,r6,B,o,b6⟩:=Nx (O:=O) (m0:=m0) (ops:=aV) (d:=d) F C hp hq g6 b5;obtain⟨e7,r7,m,j,b7⟩:=Ny (O:=O) (m0:=m0) (ops:=aV) (d:=d) B o hp hq g7 b6 Y;obtain⟨e8,r8,aeW,aeX,b8⟩:=Nz (O:=O) (m0:=m0) (ops:=aV) (d:=d) m j hp hq g8 b7;obtain⟨e9,r9,aeY,aeZ,b9⟩:=NA (O:=O) (m0:=m0) (ops:=aV) (d:=d) aeW aeX hp hq g9 b8;obtain⟨e10,r10,ae',afa,b10⟩:=IB (O:=O) (m0:=m0) (ops:=aV) (d:=d) aeY aeZ hp hq Z b9;exact⟨e10,by rw[Iz];exact gd r0 (gd r1 (gd r2 (gd r3 (gd r4 (gd r5 (gd r6 (gd r7 (gd r8 (gd r9 (r10)))))))))),b10⟩
end
theorem P4(hOk:qS prog O){m:Mem}(H:O (.fn 72) [b,b'] (m++[.cells true 0 (c.cells b u s kn),.cells true 0 (c.cells b' u' s' kn')])=some ⟨.bool true,none,[]⟩)(I:O (.fn 73) [u,u'] (m++[.cells true 0 (c.cells b u s kn),.cells true 0 (c.cells b' u' s' kn')])=some ⟨.bool true,none,[]⟩)(J:O (.fn 74) [s,s'] (m++[.cells true 0 (c.cells b u s kn),.cells true 0 (c.cells b' u' s' kn')])=some ⟨.bool true,none,[]⟩)(Y:O (.fn 75) [kn,kn'] (m++[.cells true 0 (c.cells b u s kn),.cells true 0 (c.cells b' u' s' kn')])=some ⟨.bool true,none,[]⟩):
  kO prog 26 [.agg (c.cells b u s kn),.agg (c.cells b' u' s' kn')] m (.bool true) m:=by
 have R:aZ prog 26=some f26:=by kernel_rfl
 obtain⟨ops,X⟩:=xE aV;obtain⟨F,V⟩:=vx (p:=fun e (_:Bool)=>ad e 2=.ptr m.length 0/\ad e 3=.ptr (m.length+1) 0) (q:=fun env (_:Bool) D' =>fz (aX prog) O 92 m.length ops ops.toList ⟨env,(m++[.cells true 0 (c.cells b u s kn),.cells true 0 (c.cells b' u' s' kn')]),false⟩=some ⟨D',(m++[.cells true 0 (c.cells b u s kn),.cells true 0 (c.cells b' u' s' kn')]),false⟩/\ad D' 4=.bool true) (fun env _ h=>by
  subst X;have N:((m++[.cells true 0 (c.cells b u s kn),.cells true 0 (c.cells b' u' s' kn')]))[m.length]? =some (.cells true 0 (c.cells b u s kn)):=by simp
  have M:((m++[.cells true 0 (c.cells b u s kn),.cells true 0 (c.cells b' u' s' kn')]))[m.length+1]? =some (.cells true 0 (c.cells b' u' s' kn')):=by simp
  exact QJ h.1 h.2 N M H I J Y)
 have U:=fun env Z h3=>(V env false ⟨Z,h3⟩).1
 have S:=fun env Z h3=>(V env false ⟨Z,h3⟩).2
 refine nG hOk ?_;have L:f26.body=some (.seq (.region 0 Bq false) (.seq (.region 1 ops false) .ret)):=by rw[X];kernel_rfl
 unfold ae;rw[R];dsimp only;rw[L];dsimp only;simp only[Evc.cells] at U S |-;simp[U,S,Bq,f26]
end Go.Proofs
namespace Go.Proofs
open Go.Eng
end Go.Proofs
namespace Go.Proofs
open Go.Eng
open Tryz
def Gk:y9:=ah fun f Z=>match f,Z with
 |96,[]=>some (.agg xI)
 |_,_=>none
theorem NC:qS prog Gk:=bM fun f Z v h mem=>by
 split at h
 .cases h;exact HC mem
 .cases h
open Classical in
noncomputable def eR:List (FuncId×List AV×AV)->FuncId->List AV->Option AV
 | [],_,_=>none
 |x::L,f,args=>if f=x.1/\args=x.2.1 then some x.2.2 else eR L f args
variable{P:Program}
theorem gi{L:List (FuncId×List AV×AV)}(h:∀x∈L,∀M,kO P x.1 x.2.1 M x.2.2 M):qS P (ah (eR L)):=bM fun f X v Z mem=>by
 induction L with
 |nil=>simp[eR] at Z
 |cons x L ih=>
  rw[eR] at Z;split at Z
  .rename_i V
   cases Z;rw[V.1,V.2];exact h x (by simp) mem
  .exact ih (fun y U=>h y (by simp[U])) Z
theorem Wu{w:Int}(h:0<w):0<hQ w:=by
 rw[mL];have:(0:Rat)<(w:Rat):=by exact_mod_cast h
 grind
theorem oG(s:afv)(M:Mem)(b c:Nat)(o o' :Bool)(H:M[b]? =some (.cells o 2 (pC s.P)))(hc:M[c]? =some (.cells o' 3 (tC s.T))):
  kO prog 46 [.agg [.slice b 0 s.P.length none,.slice c 0 s.T.length none]] M (.int .i64 0) M:=by
 have X:=gL H;have V :=gL hc;have:=kO.frame (M:=M) (new:=[]) [b,c] rfl (by simp[X,V]) (by rfl) (fun i t Z=>by
  match i with
  |0=>simp at Z;subst Z;exact cH (ea _) H P1
  |1=>simp at Z;subst Z;exact cH (fY _) hc P1
  |i+2=>simp at Z) rfl (Fu s)
 simpa [AV.afI,AV.ren,fA] using this
open Classical in
noncomputable def wN:List (FuncId×List AV×Mem×afl)->y9
 | [],_,_,_=>none
 |x::L,c,args,M=>if c=.fn x.1/\args=x.2.1/\M=x.2.2.1 then some x.2.2.2 else wN L c args M
theorem AO{L:List (FuncId×List AV×Mem×afl)}(h:∀x∈L,kO P x.1 x.2.1 x.2.2.1 x.2.2.2.v (x.2.2.2.mem x.2.2.1)/\∀p,x.2.2.2.pre=some p->p.length=x.2.2.1.length):qS P (wN L):=by
 have k:∀c Z M r,wN L c Z M=some r->∃x∈L,c=.fn x.1/\Z=x.2.1/\M=x.2.2.1/\r=x.2.2.2:=by
  clear h;intro c Z M r X;induction L with
  |nil=>simp[wN] at X
  |cons x L ih=>
   rw[wN] at X;split at X
   .rename_i S
    cases X;exact⟨x,by simp,S.1,S.2.1,S.2.2,rfl⟩
   .obtain⟨y,R,V⟩:=ih X
    exact⟨y,by simp[R],V⟩
 refine⟨fun f Z M r X=>?_,fun b Z M r X=>?_,fun c Z M r p X O=>?_⟩
 .obtain⟨x,U,V,rfl,rfl,rfl⟩:=k _ _ _ _ X
  cases V;exact(h x U).1
 .obtain⟨x,U,V,_⟩:=k _ _ _ _ X
  cases V
 .obtain⟨x,U,V,rfl,rfl,rfl⟩:=k _ _ _ _ X
  exact(h x U).2 p O
def shA(s:afv):AV:=.agg [.slice 0 0 s.P.length none,.slice 1 0 s.T.length none]
theorem qS.or'{O H :y9}(h:qS P O)(h' :qS P H):qS P (y9.or O H):=by
 have k:∀c Z mem r,y9.or O H c Z mem=some r->O c Z mem=some r\/H c Z mem=some r:=fun c Z mem r X=>by
  unfold y9.or at X;split at X
  .rename_i q U
   cases X;exact .inl U
  .exact .inr X
 refine⟨fun f Z mem r X=>?_,fun f Z mem r X=>?_,fun c Z mem r p X V=>?_⟩
 .rcases k _ _ _ _ X with h1 | h1
  .exact h.fn _ _ _ _ h1
  .exact h'.fn _ _ _ _ h1
 .rcases k _ _ _ _ X with h1 | h1
  .exact h.yld _ _ _ _ h1
  .exact h'.yld _ _ _ _ h1
 .rcases k _ _ _ _ X with h1 | h1
  .exact h.pre _ _ _ _ _ h1 V
  .exact h'.pre _ _ _ _ _ h1 V
theorem Kh(a b c d e:AV):tP (aX prog) 125 (.agg [a,b,c,d,e]) 0=some a:=by kernel_rfl
theorem Kj(a b c d e:AV):tP (aX prog) 125 (.agg [a,b,c,d,e]) 1=some b:=by kernel_rfl
end Go.Proofs
namespace Go.Proofs
open Go.Eng
end Go.Proofs
namespace Go.Proofs
open Go.Eng
open Tryz
def kC:List (List UInt8×List UInt8)->List AV
 | []=>[]
 |k::l=>.str k.1::.str k.2::kC l
theorem Cu:∀l:List (List UInt8×List UInt8),(kC l).length=2*l.length
 | []=>rfl
 |_::l=>by simp only[kC,List.length_cons,Cu l];omega
theorem TF:∀(l:List (List UInt8×List UInt8)) (i:Nat),(kC l).drop (i*2)=kC (l.drop i)
 |l,0=>by simp
 | [],i+1=>by simp[kC]
 |k::l,i+1=>by
  have:(i+1)*2=i*2+1+1:=by omega
  rw[this];simp only[kC,List.drop_succ_cons];exact TF l i
theorem W9{l:List (List UInt8×List UInt8)}{i:Nat}{k:List UInt8×List UInt8}(h:l[i]? =some k):
  ((kC l).drop (i*2)).take 2=[.str k.1,.str k.2]/\(kC l)[i*2]? =some (.str k.1)/\(kC l)[i*2+1]? =some (.str k.2):=by
 have Z:l.drop i=k::l.drop (i+1):=by rw[O2] at h;obtain⟨X,V⟩:=h;rw[<-V];exact N0 X
 have e:=TF l i;rw[Z] at e;refine⟨by rw[e];rfl,?_,?_⟩
 .have:(kC l)[i*2]? =((kC l).drop (i*2))[0]? :=by rw[QQf];rfl
  rw[this,e];rfl
 .have:(kC l)[i*2+1]? =((kC l).drop (i*2))[1]? :=by rw[QQf]
  rw[this,e];rfl
theorem Oo(n:Nat):∀l:List (List UInt8×List UInt8),AV.afE n (kC l)=[]
 | []=>by simp[kC,AV.afE]
 |k::l=>by simp[kC,AV.afE,AV.refs,Oo n l]
def kT(Q:List (Rat×Rat)):List (List UInt8×List UInt8):=Q.map fun q=>(aq q.1,aq q.2)
theorem lV(Q:List (Rat×Rat)):(kT Q).length=Q.length:=by simp[kT]
noncomputable def lz(f:FuncId)(args:List AV):Option AV:=
 match f,args with
 |51,[.str s]=>if s.length<=1000000000 then some (.bool (zj s==0)) else none
 |56,[.str s,.str t]=>match eh s,eh t with
  |some a,some b=>if (ai a.num.natAbs).length<=2000/\(ai a.den).length<=2000/\(ai b.num.natAbs).length<=2000/\(ai b.den).length<=2000 then some (.int .i64 (ga (a-b))) else none
  |_,_=>none
 |f,args=>gP f args
theorem KN:qS prog (ah lz):=bM fun f X v h mem=>by
 unfold lz at h;split at h
 .split at h
  next Z=>cases h;exact qL _ Z mem
  .cases h
 .split at h
  .rename_i m n V U
   split at h
   next Z=>cases h;rw[aw V,aw U];exact nd m n ⟨Z.1,Z.2.1⟩ ⟨Z.2.2.1,Z.2.2.2⟩ mem
   .cases h
  .cases h
 .have:=jr.fn _ _ mem ⟨v,none,[]⟩ (by unfold ah;simp only;rw[h])
  simpa [afl.mem] using this
def Fa(p:Option Rat)(q:Rat):Bool:=match p with
 |some r=>decide (r<q)
 |none=>true
def ckE(p:Option Rat):List (List UInt8×List UInt8)->Int
 | []=>0
 |k::l=>if zj k.1=0/\zj k.2=0 then (if Fa p ((eh k.1).getD 0) then ckE (eh k.1) l else 6) else 2
def SM(L:List (List UInt8×List UInt8))(n:Nat)(p:Option Rat):Prop:=
 (n=0/\p=none)\/(∃m q k,n=m+1/\p=some q/\L[m]? =some k/\k.1=aq q/\(ai q.num.natAbs).length<=200/\(ai q.den).length<=200)
theorem qU{K:Nat}(L:List (List UInt8×List UInt8))(hL:∀k∈L,k.1.length<=1000000000/\k.2.length<=1000000000)(hl:L.length<=1000000000)(hK:L.length<K){b:Code}(hb:ag f85=[b]):
  ∃F:Env->Bool->Env×Mem×(List UInt8×List UInt8),∀Z d,(ad Z 0=.slice 0 0 L.length none/\ad Z 8=.slice 0 0 L.length none/\ad Z 9=.int .i64 L.length/\ad Z 10=.int .i64 0)->
   aL (aX prog) (fun _=>[10]) (ah bn) K 40 1 true (.loop b) ⟨Z,[.cells false 2 (kC L)],d⟩=some (if ckE none L=0 then .exit 0 else .ret,⟨(F Z d).1,(F Z d).2.1,d⟩)/\
    ((ckE none L=0->(F Z d).2.1=[.cells false 2 (kC L)])/\(ckE none L≠0->(F Z d).2.1=[.cells false 2 (kC L),.cells true 0 [.str (F Z d).2.2.1,.str (F Z d).2.2.2]]/\ad (F Z d).1 2=.int .i64 (ckE none L))):=by
 refine pL (β:=List UInt8×List UInt8) rfl (fun Z=>(ad Z 0=.slice 0 0 L.length none/\ad Z 8=.slice 0 0 L.length none/\ad Z 9=.int .i64 L.length/\ad Z 10=.int .i64 0)) (fun _ D' X x=>(ckE none L=0->X =[.cells false 2 (kC L)])/\(ckE none L≠0->X =[.cells false 2 (kC L),.cells true 0 [.str x.1,.str x.2]]/\ad D' 2=.int .i64 (ckE none L))) ?_;rintro Z d ⟨h0,h8,h9,h10⟩;simp[ag,aE,f85] at hb;have I:an [10] (aa b) Z ((10,.int .i64 ((0:Nat):Int))::Z)=an [10] (aa b) Z Z:=by simp[an,h10]
 rw[<-I];have kl:(kC L).length=2*L.length:=Cu L;refine nY (α:=Nat) (fun n=>⟨an [10] (aa b) Z ((10,.int .i64 (n:Int))::Z),[.cells false 2 (kC L)],d⟩) (fun n=>L.length-n) (fun n=>n<=L.length/\∃p,SM L n p/\ckE none L=ckE p (L.drop n)) (if ckE none L=0 then .exit 0 else .ret) d (fun D' X =>∃x:List UInt8×List UInt8,(ckE none L=0->X =[.cells false 2 (kC L)])/\(ckE none L≠0->X =[.cells false 2 (kC L),.cells true 0 [.str x.1,.str x.2]]/\ad D' 2=.int .i64 (ckE none L))) (by split<;>simp) ?_ K 0 ⟨by omega,none,.inl ⟨rfl,rfl⟩,by rw[List.drop_zero]⟩ (by omega);rintro n ⟨hn1,p,hp,he⟩;clear I;subst hb;by_cases V:n<L.length
 .obtain⟨k,R⟩:∃k,L[n]? =some k:=⟨L[n],G2 V⟩
  obtain⟨S,k2,k3⟩:=W9 R;obtain⟨M,H⟩:=hL k (J1 R);have hd:L.drop n=k::L.drop (n+1):=by rw[O2] at R;obtain⟨h1,h2⟩:=R;rw[<-h2];exact N0 h1
  rw[hd,ckE] at he;have w1:IntKind.i64.wrap ((n:Int)+1)=((n+1:Nat):Int):=by rw[af];omega
  have O:n*2+2<=(kC L).length:=by omega
  by_cases U:zj k.1=0
  .by_cases G:zj k.2=0
   .rw[if_pos ⟨U,G⟩] at he
    obtain⟨q,hq,N,q1,q2⟩:=VF U;rw[hq] at he;have C :(ai q.num.natAbs).length<=40000:=by omega
    have B :(ai q.den).length<=40000:=by omega
    simp only[Option.getD_some] at he;rcases hp with⟨rfl,rfl⟩ | ⟨m,r,j,rfl,rfl,hj,hjs,r1,r2⟩
    .rw[if_pos (by rfl)] at he
     left;refine⟨1,?_⟩;have hz:(0:Int)<L.length:=by omega
     have b1:SM L 1 (some q):=.inr ⟨0,q,k,rfl,rfl,R,N,q1,q2⟩;have w3:IntKind.i64.wrap 1=1:=rfl;simp at S O V;simp[h0,h8,h9,V,ah,bn,M,H,U,G,S,O,w3,Oo,Nat.testBit];exact⟨⟨by omega,_,b1,by simpa using he⟩,by omega⟩
    .obtain⟨j1,j2,j3⟩:=W9 hj
     have w2:IntKind.i64.wrap (((m+1:Nat):Int)-1)=(m:Int):=by rw[af];omega
     have u :(ai r.num.natAbs).length<=40000:=by omega
     have o :(ai r.den).length<=40000:=by omega
     obtain⟨n,I⟩:=xE (m+1);rw[<-I] at R S k2 k3 O w1 w2 V hn1 he hd |-;have n0:(0:Int)<n:=by omega
     have Y :0<n:=by omega
     have hm:m<L.length:=by omega
     rw[N] at M U S;rw[hjs] at j2;have b1:SM L (n+1) (some q):=.inr ⟨n,q,k,rfl,rfl,R,N,q1,q2⟩;obtain⟨v,hv⟩:=xE (n+1);rw[<-hv] at w1 b1 he;by_cases J:r<q
     .have c:¬AL q r<=0:=fun h=>by have:=Oe.1 h;grind
      rw[if_pos (by simp[Fa,J])] at he;left;refine⟨v,?_⟩;simp[h0,h8,h9,V,hm,Y,ah,bn,bH,aF,M,H,U,G,S,O,j2,w1,w2,C,B,u,o,c,Oo,Nat.testBit];exact⟨⟨by omega,_,b1,he⟩,by omega⟩
     .have c:AL q r<=0:=Oe.2 (by grind)
      rw[if_neg (by simp[Fa,J])] at he;right;rw[he];simp[h0,h8,h9,V,hm,Y,ah,bn,bH,aF,M,H,U,G,S,O,j2,w2,C,B,u,o,c,Nat.testBit];exact⟨_,_,⟨rfl,rfl⟩,⟨_,_,rfl⟩,rfl⟩
   .rw[if_neg (fun h=>G h.2)] at he
    right;rw[he];simp[h8,h9,V,ah,bn,M,H,U,G,S,O];exact⟨_,_,⟨rfl,rfl⟩,⟨k.1,k.2,rfl⟩,rfl⟩
  .rw[if_neg (fun h=>U h.1)] at he
   right;rw[he];simp[h8,h9,V,ah,bn,M,U,S,O];exact⟨_,_,⟨rfl,rfl⟩,⟨k.1,k.2,rfl⟩,rfl⟩
 .right
  have e:L.drop n=[]:=ZN (by omega);rw[e,ckE] at he;rw[he];simp[h9,V]
def knE(L:List (List UInt8×List UInt8)):Int:=if 20<L.length then 4 else ckE none L
theorem xt(L:List (List UInt8×List UInt8))(H:∀k∈L,k.1.length<=1000000000/\k.2.length<=1000000000)(I:L.length<=1000000000):
  kO prog 85 [.slice 0 0 L.length none] [.cells false 2 (kC L)] (.int .i64 (knE L)) [.cells false 2 (kC L)]:=by
 have R:aZ prog 85=some f85:=by kernel_rfl
 obtain⟨b,O⟩:∃b,ag f85=[b]:=⟨_,rfl⟩
 obtain⟨F,Z⟩:=qU (K:=L.length+1) L H I (by omega) O;simp[ag,aE,f85] at O;subst O;refine dv (lv:=(fun _=>[10])) (K:=(L.length+1)) cU ?_;unfold knE;by_cases S:20<L.length
 .rw[if_pos S]
  have X:(20:Int)<L.length:=by omega
  simp[ae,R,f85,X]
 .rw[if_neg S]
  have X:¬(20:Int)<L.length:=by omega
  by_cases U:ckE none L=0
  .rw[if_pos U] at Z
   have N:=fun V d h=>(Z V d h).1
   have M:=fun V d h=>(Z V d h).2.1 U
   clear Z;simp[ae,R,f85,X,N,M,U]
  .rw[if_neg U] at Z
   have N:=fun V d h=>(Z V d h).1
   have M:=fun V d h=>((Z V d h).2.2 U).1
   have G:=fun V d h=>((Z V d h).2.2 U).2
   clear Z;simp[ae,R,f85,X,N,M,G]
end Go.Proofs
namespace Go.Proofs
open Go.Eng
end Go.Proofs
