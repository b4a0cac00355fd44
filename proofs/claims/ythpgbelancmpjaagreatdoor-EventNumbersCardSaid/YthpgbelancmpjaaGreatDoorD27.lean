/- See D38. -/
import Derived.Test.YthpgbelancmpjaaGreatDoorD24
import Derived.Test.YthpgbelancmpjaaGreatDoorD26
set_option linter.all false
set_option maxRecDepth 100000
set_option maxHeartbeats 40000000
namespace Go.Proofs
open Go.Eng
open Tryz
section
variable (d:Nat)
theorem Bg(x y:List UInt8):k9 (bd prog) (d+1) 9 (.str x) (.str y)=some (x==y):=by rw[k9];simp
theorem Ir(x y:Int):k9 (bd prog) (d+1) 3 (.int .i64 x) (.int .i64 y)=some (decide (x=y)):=by rw[k9];simp
theorem nG(a b c:List UInt8):k9 (bd prog) (d+2) 54 (.agg [.str a,.str b,.str c]) (.agg [.str a,.str b,.str c])=some true:=by have i:=lz d;rw[k9];simp[RT,jV,TyI.isAgg,i]
theorem yy(a b c o:List UInt8):k9 (bd prog) (d+3) 56 (.agg [.str a,.str b,.str c,.str o]) (.agg [.str a,.str b,.str c,.str o])=some true:=by have i:=lz (d+1);have j:=nG d;rw[k9];simp[RT,jV,TyI.isAgg,i,j]
theorem Iq(a b c o e f g:List UInt8):k9 (bd prog) (d+4) 58 (.agg [.str a,.str b,.str c,.str o,.str e,.str f,.str g]) (.agg [.str a,.str b,.str c,.str o,.str e,.str f,.str g])=some true:=by have j:=nG (d+1);have k:=yy d;rw[k9];simp[RT,jV,TyI.isAgg,j,k]
theorem Nd(a b c o w u:List UInt8):k9 (bd prog) (d+4) 63 (.agg [.str a,.str b,.str c,.str o,.str w,.str u]) (.agg [.str a,.str b,.str c,.str o,.str w,.str u])=some true:=by have i:=lz (d+2);have Z:=Bg (d+2);have k:=yy d;rw[k9];simp[RT,jV,TyI.isAgg,i,Z,k]
theorem Nh(t u v w:Int):k9 (bd prog) (d+2) 64 (.agg [.int .i64 t,.int .i64 u,.int .i64 v,.int .i64 w]) (.agg [.int .i64 t,.int .i64 u,.int .i64 v,.int .i64 w])=some true:=by have r:List.range' 0 4=[0,1,2,3]:=rfl;have i:=Ir d;rw[k9];simp only[Gn,Gm,r,Wi];simp[jV,TyI.isAgg,i]
theorem Ng(t u v w:Int)(a b c:List UInt8):k9 (bd prog) (d+3) 66 (.agg [.int .i64 t,.int .i64 u,.int .i64 v,.int .i64 w,.str a,.str b,.str c]) (.agg [.int .i64 t,.int .i64 u,.int .i64 v,.int .i64 w,.str a,.str b,.str c])=some true:=by have j:=nG (d+0);have k:=Nh d;rw[k9];simp[RT,jV,TyI.isAgg,j,k]
end
def k8:List (List UInt8):=[[101,48],[101,49],[101,50],[101,51],[101,52],[101,53],[107,48],[107,49],[107,50],[107,51],[107,52],[107,53],[65,49],[65,50],[65,51],[66,49],[66,50],[66,51],[67,49],[67,50],[67,51],[68,49],[68,50],[68,51],[69,49],[69,50],[69,51],[70,49],[70,50],[70,51],[116],[122],[102,105,110,101],[110],[110,95,97],[110,95,98],[110,95,99],[110,95,114,111,99,107]]
theorem ig(nm:List UInt8)(h:nm∈k8)(M:Mem):kO prog 71 [.str nm] M (.int .i64 0) M:=by refine de (az _) (lv:=ad) (K:=9) rfl rfl ?_ M;simp only[k8,lM] at h;rcases h with h | h | h | h | h | h | h | h | h | h | h | h | h | h | h | h | h | h | h | h | h | h | h | h | h | h | h | h | h | h | h | h | h | h | h | h | h | h<;>(subst h;as_aux_lemma=>kernel_rfl)
def xv:List AV:=[154,155,156,157,158,159,160,161,111,162,163,164,165,166,167,168,169,170,171,172,173,174,175,176,177].map fun i=>.func i []
theorem Hq(M:Mem):kO prog 96 [] M (.agg xv) M:=by refine de (az _) (lv:=ad) (K:=6) rfl rfl ?_ M;as_aux_lemma=>kernel_rfl
theorem pT{T:TypeId->Option TyI}{O:y9}{N m0:Nat}{ops:Array Oper}:∀(a b:List Oper) (s:XS),fA T O N m0 ops (a++b) s=(fA T O N m0 ops a s).bind (fA T O N m0 ops b)
 | [],b,s=>rfl
 |o::a,b,s=>by
  rw[List.cons_append,fA,fA];split
  .split
   .split
    .exact pT a b _
    .rfl
   .exact pT a b _
   .rfl
  .rfl
variable{O:y9}{m0:Nat}{ops:Array Oper}
theorem gb{T:TypeId->Option TyI}{N:Nat}{a b:List Oper}{s s1:XS}{r:Option XS}(h:fA T O N m0 ops a s=some s1)(h2:fA T O N m0 ops b s1=r):fA T O N m0 ops (a++b) s=r:=by rw[pT,h];exact h2
noncomputable def aS:Array Oper:=match f26.body with
 |some (.seq _ (.seq (.region _ ops _) _))=>ops
 |_=> #[]
noncomputable def qT:List Oper:=(aS.toList.drop 0).take 6
noncomputable def qU:List Oper:=(aS.toList.drop 6).take 7
noncomputable def qV:List Oper:=(aS.toList.drop 13).take 9
noncomputable def qW:List Oper:=(aS.toList.drop 22).take 9
noncomputable def qX:List Oper:=(aS.toList.drop 31).take 9
noncomputable def qY:List Oper:=(aS.toList.drop 40).take 7
noncomputable def qZ:List Oper:=(aS.toList.drop 47).take 9
noncomputable def q9:List Oper:=(aS.toList.drop 56).take 9
noncomputable def ra:List Oper:=(aS.toList.drop 65).take 9
noncomputable def rb:List Oper:=(aS.toList.drop 74).take 7
noncomputable def oO:List Oper:=(aS.toList.drop 81).take 7
theorem Is:aS.toList=qT++(qU++(qV++(qW++(qX++(qY++(qZ++(q9++(ra++(rb++(oO)))))))))):=by kernel_rfl
structure Evc where
 k:Int
 nm:List UInt8
 B:List (List UInt8):=[]
 U:List (List UInt8):=[]
 S:List (List (List UInt8)):=[]
 K:List (List UInt8×List UInt8):=[]
 (t1 t2 t3 t4:Int:=0)
 (x5 x6 x7 x8 x9 x10 x11 x12 x13 x14 x16 x17 x18 x19 x20 x21 x22 x23 x24 x29 x30 x31:List UInt8:=[])
def Evc.cells(c:Evc)(b u s H:AV):List AV:=[.int .i64 c.k,.str c.nm,b,u,s,.str c.x5,.str c.x6,.str c.x7,.str c.x8,.str c.x9,.str c.x10,.str c.x11,.str c.x12,.str c.x13,.str c.x14,H,.str c.x16,.str c.x17,.str c.x18,.str c.x19,.str c.x20,.str c.x21,.str c.x22,.str c.x23,.str c.x24,.int .i64 c.t1,.int .i64 c.t2,.int .i64 c.t3,.int .i64 c.t4,.str c.x29,.str c.x30,.str c.x31]
noncomputable def Bf:Array Oper:=match f26.body with
 |some (.seq (.region _ ops _) _)=>ops
 |_=> #[]
variable{b b' kn kn' s s' u u' :AV}{c:Evc}{d:Bool}{env:Env}{mem:Mem}{p q:Nat}
section
variable (h2:ae env 2=.ptr p 0)(h3:ae env 3=.ptr q 0)(hp:mem[p]? =some (.cells true 0 (c.cells b u s kn)))(hq:mem[q]? =some (.cells true 0 (c.cells b' u' s' kn')))
include h2 h3 hp hq
theorem Ni:
  ∃Z,fA (bd prog) O 92 m0 ops qT ⟨env,mem,d⟩=some ⟨Z,mem,d⟩/\ae Z 2=.ptr p 0/\ae Z 3=.ptr q 0/\ae Z 10=.bool true:=by
 have X:=fun d=>Ir d
 simp only[Evc.cells] at hp hq;simp[qT,aS,f26,h2,h3,hp,hq]
theorem Nj(hg:(ops[5]?).bind (fun x=>x.dst)=some 10)(h1:ae env 10=.bool true):
  ∃Z,fA (bd prog) O 92 m0 ops qU ⟨env,mem,d⟩=some ⟨Z,mem,d⟩/\ae Z 2=.ptr p 0/\ae Z 3=.ptr q 0/\ae Z 17=.bool true:=by
 have X:=fun d=>Bg d
 simp only[Evc.cells] at hp hq;simp[qU,aS,f26,h2,h3,hp,hq,hg,h1]
theorem Nk(hg:(ops[12]?).bind (fun x=>x.dst)=some 17)(h1:ae env 17=.bool true)(H:O (.fn 72) [b,b'] mem=some ⟨.bool true,none,[]⟩):
  ∃Z,fA (bd prog) O 92 m0 ops qV ⟨env,mem,d⟩=some ⟨Z,mem,d⟩/\ae Z 2=.ptr p 0/\ae Z 3=.ptr q 0/\ae Z 26=.bool true:=by
 simp only[Evc.cells] at hp hq;simp[qV,aS,f26,h2,h3,hp,hq,hg,h1,H]
theorem Nl(hg:(ops[21]?).bind (fun x=>x.dst)=some 26)(h1:ae env 26=.bool true)(H:O (.fn 73) [u,u'] mem=some ⟨.bool true,none,[]⟩):
  ∃Z,fA (bd prog) O 92 m0 ops qW ⟨env,mem,d⟩=some ⟨Z,mem,d⟩/\ae Z 2=.ptr p 0/\ae Z 3=.ptr q 0/\ae Z 35=.bool true:=by
 simp only[Evc.cells] at hp hq;simp[qW,aS,f26,h2,h3,hp,hq,hg,h1,H]
theorem Nn(hg:(ops[30]?).bind (fun x=>x.dst)=some 35)(h1:ae env 35=.bool true)(H:O (.fn 74) [s,s'] mem=some ⟨.bool true,none,[]⟩):
  ∃Z,fA (bd prog) O 92 m0 ops qX ⟨env,mem,d⟩=some ⟨Z,mem,d⟩/\ae Z 2=.ptr p 0/\ae Z 3=.ptr q 0/\ae Z 44=.bool true:=by
 simp only[Evc.cells] at hp hq;simp[qX,aS,f26,h2,h3,hp,hq,hg,h1,H]
theorem No(hg:(ops[39]?).bind (fun x=>x.dst)=some 44)(h1:ae env 44=.bool true):
  ∃Z,fA (bd prog) O 92 m0 ops qY ⟨env,mem,d⟩=some ⟨Z,mem,d⟩/\ae Z 2=.ptr p 0/\ae Z 3=.ptr q 0/\ae Z 51=.bool true:=by
 have X:=fun d=>Iq d
 simp only[Evc.cells] at hp hq;simp[qY,aS,f26,h2,h3,hp,hq,hg,h1,X]
theorem Np(hg:(ops[46]?).bind (fun x=>x.dst)=some 51)(h1:ae env 51=.bool true):
  ∃Z,fA (bd prog) O 92 m0 ops qZ ⟨env,mem,d⟩=some ⟨Z,mem,d⟩/\ae Z 2=.ptr p 0/\ae Z 3=.ptr q 0/\ae Z 60=.bool true:=by
 have X:=fun d=>nG d
 simp only[Evc.cells] at hp hq;simp[qZ,aS,f26,h2,h3,hp,hq,hg,h1,X]
theorem Nq(hg:(ops[55]?).bind (fun x=>x.dst)=some 60)(h1:ae env 60=.bool true)(H:O (.fn 75) [kn,kn'] mem=some ⟨.bool true,none,[]⟩):
  ∃Z,fA (bd prog) O 92 m0 ops q9 ⟨env,mem,d⟩=some ⟨Z,mem,d⟩/\ae Z 2=.ptr p 0/\ae Z 3=.ptr q 0/\ae Z 69=.bool true:=by
 simp only[Evc.cells] at hp hq;simp[q9,aS,f26,h2,h3,hp,hq,hg,h1,H]
theorem Nr(hg:(ops[64]?).bind (fun x=>x.dst)=some 69)(h1:ae env 69=.bool true):
  ∃Z,fA (bd prog) O 92 m0 ops ra ⟨env,mem,d⟩=some ⟨Z,mem,d⟩/\ae Z 2=.ptr p 0/\ae Z 3=.ptr q 0/\ae Z 78=.bool true:=by
 have X:=fun d=>nG d
 simp only[Evc.cells] at hp hq;simp[ra,aS,f26,h2,h3,hp,hq,hg,h1,X]
theorem Nt(hg:(ops[73]?).bind (fun x=>x.dst)=some 78)(h1:ae env 78=.bool true):
  ∃Z,fA (bd prog) O 92 m0 ops rb ⟨env,mem,d⟩=some ⟨Z,mem,d⟩/\ae Z 2=.ptr p 0/\ae Z 3=.ptr q 0/\ae Z 85=.bool true:=by
 have X:=fun d=>Nd d
 simp only[Evc.cells] at hp hq;simp[rb,aS,f26,h2,h3,hp,hq,hg,h1,X]
theorem Iu(hg:(ops[80]?).bind (fun x=>x.dst)=some 85)(h1:ae env 85=.bool true):
  ∃Z,fA (bd prog) O 92 m0 ops oO ⟨env,mem,d⟩=some ⟨Z,mem,d⟩/\ae Z 2=.ptr p 0/\ae Z 3=.ptr q 0/\ae Z 4=.bool true:=by
 have X:=fun d=>Ng d
 simp only[Evc.cells] at hp hq;simp[oO,aS,f26,h2,h3,hp,hq,hg,h1,X]
theorem Qv(H:O (.fn 72) [b,b'] mem=some ⟨.bool true,none,[]⟩)(I:O (.fn 73) [u,u'] mem=some ⟨.bool true,none,[]⟩)(J:O (.fn 74) [s,s'] mem=some ⟨.bool true,none,[]⟩)(W:O (.fn 75) [kn,kn'] mem=some ⟨.bool true,none,[]⟩):
  ∃AC,fA (bd prog) O 92 m0 aS aS.toList ⟨env,mem,d⟩=some ⟨AC,mem,d⟩/\ae AC 4=.bool true:=by
 have g1:(aS[5]?).bind (fun x=>x.dst)=some 10:=by kernel_rfl
 have g2:(aS[12]?).bind (fun x=>x.dst)=some 17:=by kernel_rfl
 have g3:(aS[21]?).bind (fun x=>x.dst)=some 26:=by kernel_rfl
 have g4:(aS[30]?).bind (fun x=>x.dst)=some 35:=by kernel_rfl
 have g5:(aS[39]?).bind (fun x=>x.dst)=some 44:=by kernel_rfl
 have g6:(aS[46]?).bind (fun x=>x.dst)=some 51:=by kernel_rfl
 have g7:(aS[55]?).bind (fun x=>x.dst)=some 60:=by kernel_rfl
 have g8:(aS[64]?).bind (fun x=>x.dst)=some 69:=by kernel_rfl
 have g9:(aS[73]?).bind (fun x=>x.dst)=some 78:=by kernel_rfl
 have Z:(aS[80]?).bind (fun x=>x.dst)=some 85:=by kernel_rfl
 obtain⟨e0,r0,X,V,b0⟩:=Ni (O:=O) (m0:=m0) (ops:=aS) (d:=d) h2 h3 hp hq;obtain⟨e1,r1,U,S,b1⟩:=Nj (O:=O) (m0:=m0) (ops:=aS) (d:=d) X V hp hq g1 b0;obtain⟨e2,r2,R,N,b2⟩:=Nk (O:=O) (m0:=m0) (ops:=aS) (d:=d) U S hp hq g2 b1 H;obtain⟨e3,r3,M,L,b3⟩:=Nl (O:=O) (m0:=m0) (ops:=aS) (d:=d) R N hp hq g3 b2 I;obtain⟨e4,r4,K,G,b4⟩:=Nn (O:=O) (m0:=m0) (ops:=aS) (d:=d) M L hp hq g4 b3 J;obtain⟨e5,r5,F,D,b5⟩:=No (O:=O) (m0:=m0) (ops:=aS) (d:=d) K G hp hq g5 b4;obtain⟨e6,r6,C,B,b6⟩:=Np (O:=O) (m0:=m0) (ops:=aS) (d:=d) F D hp hq g6 b5;obtain⟨e7,r7,o,m,b7⟩:=Nq (O:=O) (m0:=m0) (ops:=aS) (d:=d) C B hp hq g7 b6 W;obtain⟨e8,r8,j,Y,b8⟩:=Nr (O:=O) (m0:=m0) (ops:=aS) (d:=d) o m hp hq g8 b7;obtain⟨e9,r9,aeV,aeW,b9⟩:=Nt (O:=O) (m0:=m0) (ops:=aS) (d:=d) j Y hp hq g9 b8;obtain⟨e10,r10,ae5,ae6,b10⟩:=Iu (O:=O) (m0:=m0) (ops:=aS) (d:=d) aeV aeW hp hq Z b9;exact⟨e10,by rw[Is];exact gb r0 (gb r1 (gb r2 (gb r3 (gb r4 (gb r5 (gb r6 (gb r7 (gb r8 (gb r9 (r10)))))))))),b10⟩
end
theorem PQ(hOk:qS prog O){m:Mem}(H:O (.fn 72) [b,b'] (m++[.cells true 0 (c.cells b u s kn),.cells true 0 (c.cells b' u' s' kn')])=some ⟨.bool true,none,[]⟩)(I:O (.fn 73) [u,u'] (m++[.cells true 0 (c.cells b u s kn),.cells true 0 (c.cells b' u' s' kn')])=some ⟨.bool true,none,[]⟩)(J:O (.fn 74) [s,s'] (m++[.cells true 0 (c.cells b u s kn),.cells true 0 (c.cells b' u' s' kn')])=some ⟨.bool true,none,[]⟩)(W:O (.fn 75) [kn,kn'] (m++[.cells true 0 (c.cells b u s kn),.cells true 0 (c.cells b' u' s' kn')])=some ⟨.bool true,none,[]⟩):
  kO prog 26 [.agg (c.cells b u s kn),.agg (c.cells b' u' s' kn')] m (.bool true) m:=by
 have R:aX prog 26=some f26:=by kernel_rfl
 obtain⟨ops,X⟩:=xE aS;obtain⟨F,V⟩:=vm (p:=fun e (_:Bool)=>ae e 2=.ptr m.length 0/\ae e 3=.ptr (m.length+1) 0) (q:=fun env (_:Bool) AC =>fA (bd prog) O 92 m.length ops ops.toList ⟨env,(m++[.cells true 0 (c.cells b u s kn),.cells true 0 (c.cells b' u' s' kn')]),false⟩=some ⟨AC,(m++[.cells true 0 (c.cells b u s kn),.cells true 0 (c.cells b' u' s' kn')]),false⟩/\ae AC 4=.bool true) (fun env _ h=>by
  subst X;have N:((m++[.cells true 0 (c.cells b u s kn),.cells true 0 (c.cells b' u' s' kn')]))[m.length]? =some (.cells true 0 (c.cells b u s kn)):=by simp
  have M:((m++[.cells true 0 (c.cells b u s kn),.cells true 0 (c.cells b' u' s' kn')]))[m.length+1]? =some (.cells true 0 (c.cells b' u' s' kn')):=by simp
  exact Qv h.1 h.2 N M H I J W)
 have U:=fun env Z h3=>(V env false ⟨Z,h3⟩).1
 have S:=fun env Z h3=>(V env false ⟨Z,h3⟩).2
 refine iS hOk ?_;have L:f26.body=some (.seq (.region 0 Bf false) (.seq (.region 1 ops false) .ret)):=by rw[X];kernel_rfl
 unfold aa;rw[R];dsimp only;rw[L];dsimp only;simp only[Evc.cells] at U S |-;simp[U,S,Bf,f26]
end Go.Proofs
namespace Go.Proofs
open Go.Eng
end Go.Proofs
namespace Go.Proofs
open Go.Eng
open Tryz
def F8:y9:=ag fun f Z=>match f,Z with
 |96,[]=>some (.agg xv)
 |_,_=>none
theorem Nv:qS prog F8:=bP fun f Z v h mem=>by
 split at h
 .cases h;exact Hq mem
 .cases h
open Classical in
noncomputable def fD:List (FuncId×List AV×AV)->FuncId->List AV->Option AV
 | [],_,_=>none
 |x::L,f,args=>if f=x.1/\args=x.2.1 then some x.2.2 else fD L f args
variable{P:Program}
theorem ic{L:List (FuncId×List AV×AV)}(h:∀x∈L,∀M,kO P x.1 x.2.1 M x.2.2 M):qS P (ag (fD L)):=bP fun f X v Z mem=>by
 induction L with
 |nil=>simp[fD] at Z
 |cons x L ih=>
  rw[fD] at Z;split at Z
  .rename_i V
   cases Z;rw[V.1,V.2];exact h x (by simp) mem
  .exact ih (fun y U=>h y (by simp[U])) Z
theorem XD{w:Int}(h:0<w):0<hQ w:=by
 rw[mO];have:(0:Rat)<(w:Rat):=by exact_mod_cast h
 grind
theorem oI(s:afq)(M:Mem)(b c:Nat)(o o' :Bool)(H:M[b]? =some (.cells o 2 (pC s.P)))(hc:M[c]? =some (.cells o' 3 (tC s.T))):
  kO prog 46 [.agg [.slice b 0 s.P.length none,.slice c 0 s.T.length none]] M (.int .i64 0) M:=by
 have X:=gL H;have V :=gL hc;have:=kO.frame (M:=M) (new:=[]) [b,c] rfl (by simp[X,V]) (by rfl) (fun i t Z=>by
  match i with
  |0=>simp at Z;subst Z;exact cw (dX _) H P1
  |1=>simp at Z;subst Z;exact cw (fW _) hc P1
  |i+2=>simp at Z) rfl (Fh s)
 simpa [AV.afz,AV.ren,fa] using this
open Classical in
noncomputable def wE:List (FuncId×List AV×Mem×afh)->y9
 | [],_,_,_=>none
 |x::L,c,args,M=>if c=.fn x.1/\args=x.2.1/\M=x.2.2.1 then some x.2.2.2 else wE L c args M
theorem AA{L:List (FuncId×List AV×Mem×afh)}(h:∀x∈L,kO P x.1 x.2.1 x.2.2.1 x.2.2.2.v (x.2.2.2.mem x.2.2.1)/\∀p,x.2.2.2.pre=some p->p.length=x.2.2.1.length):qS P (wE L):=by
 have k:∀c Z M r,wE L c Z M=some r->∃x∈L,c=.fn x.1/\Z=x.2.1/\M=x.2.2.1/\r=x.2.2.2:=by
  clear h;intro c Z M r X;induction L with
  |nil=>simp[wE] at X
  |cons x L ih=>
   rw[wE] at X;split at X
   .rename_i S
    cases X;exact⟨x,by simp,S.1,S.2.1,S.2.2,rfl⟩
   .obtain⟨y,R,V⟩:=ih X
    exact⟨y,by simp[R],V⟩
 refine⟨fun f Z M r X=>?_,fun b Z M r X=>?_,fun c Z M r p X O=>?_⟩
 .obtain⟨x,U,V,rfl,rfl,rfl⟩:=k _ _ _ _ X
  cases V;exact(h x U).1
 .obtain⟨x,U,V,_⟩:=k _ _ _ _ X
  cases V
 .obtain⟨x,U,V,rfl,rfl,rfl⟩:=k _ _ _ _ X
  exact(h x U).2 p O
def shA(s:afq):AV:=.agg [.slice 0 0 s.P.length none,.slice 1 0 s.T.length none]
theorem qS.or'{O H :y9}(h:qS P O)(h' :qS P H):qS P (y9.or O H):=by
 have k:∀c Z mem r,y9.or O H c Z mem=some r->O c Z mem=some r\/H c Z mem=some r:=fun c Z mem r X=>by
  unfold y9.or at X;split at X
  .rename_i q U
   cases X;exact .inl U
  .exact .inr X
 refine⟨fun f Z mem r X=>?_,fun f Z mem r X=>?_,fun c Z mem r p X V=>?_⟩
 .rcases k _ _ _ _ X with h1 | h1
  .exact h.fn _ _ _ _ h1
  .exact h'.fn _ _ _ _ h1
 .rcases k _ _ _ _ X with h1 | h1
  .exact h.yld _ _ _ _ h1
  .exact h'.yld _ _ _ _ h1
 .rcases k _ _ _ _ X with h1 | h1
  .exact h.pre _ _ _ _ _ h1 V
  .exact h'.pre _ _ _ _ _ h1 V
theorem Ka(a b c d e:AV):kZ (bd prog) 125 (.agg [a,b,c,d,e]) 0=some a:=by kernel_rfl
theorem Kb(a b c d e:AV):kZ (bd prog) 125 (.agg [a,b,c,d,e]) 1=some b:=by kernel_rfl
end Go.Proofs
namespace Go.Proofs
open Go.Eng
end Go.Proofs
namespace Go.Proofs
open Go.Eng
open Tryz
def kC:List (List UInt8×List UInt8)->List AV
 | []=>[]
 |k::l=>.str k.1::.str k.2::kC l
theorem n9:∀l:List (List UInt8×List UInt8),(kC l).length=2*l.length
 | []=>rfl
 |_::l=>by simp only[kC,List.length_cons,n9 l];omega
theorem Tt:∀(l:List (List UInt8×List UInt8)) (i:Nat),(kC l).drop (i*2)=kC (l.drop i)
 |l,0=>by simp
 | [],i+1=>by simp[kC]
 |k::l,i+1=>by
  have:(i+1)*2=i*2+1+1:=by omega
  rw[this];simp only[kC,List.drop_succ_cons];exact Tt l i
variable{i:Nat}
theorem VF{l:List (List UInt8×List UInt8)}{k:List UInt8×List UInt8}(h:l[i]? =some k):
  ((kC l).drop (i*2)).take 2=[.str k.1,.str k.2]/\(kC l)[i*2]? =some (.str k.1)/\(kC l)[i*2+1]? =some (.str k.2):=by
 have Z:l.drop i=k::l.drop (i+1):=by rw[Ns] at h;obtain⟨X,V⟩:=h;rw[<-V];exact N0 X
 have e:=Tt l i;rw[Z] at e;refine⟨by rw[e];rfl,?_,?_⟩
 .have:(kC l)[i*2]? =((kC l).drop (i*2))[0]? :=by rw[QQa];rfl
  rw[this,e];rfl
 .have:(kC l)[i*2+1]? =((kC l).drop (i*2))[1]? :=by rw[QQa]
  rw[this,e];rfl
theorem Ch(n:Nat):∀l:List (List UInt8×List UInt8),AV.afy n (kC l)=[]
 | []=>by simp[kC,AV.afy]
 |k::l=>by simp[kC,AV.afy,AV.refs,Ch n l]
def kT(Q:List (Rat×Rat)):List (List UInt8×List UInt8):=Q.map fun q=>(ao q.1,ao q.2)
theorem mc(Q:List (Rat×Rat)):(kT Q).length=Q.length:=by simp[kT]
variable{Q:List (Rat×Rat)}
theorem YF{q:Rat×Rat}(h:Q[i]? =some q):(kT Q)[i]? =some (ao q.1,ao q.2):=by simp[kT,h]
theorem LV{u:Rat}:∀{i:Nat} {q:Rat×Rat},Q[i]? =some q->fg (Q.take (i+1)) u=fg (Q.take i) u+if q.1<=u then 1 else 0:=by
 induction Q with
 |nil=>intro i q h;simp at h
 |cons a Q ih=>
  intro i q h;cases i with
  |zero=>simp at h;subst h;simp[fg]
  |succ i=>
   simp at h;have:=ih h;simp only[List.take_succ_cons,fg] at this |-;omega
def SX(Q:List (Rat×Rat)):Prop:=∀q∈Q,ek q.1/\ek q.2
theorem zI{K:Nat}(Q:List (Rat×Rat))(u:Rat)(hQ:SX Q)(I:ek u)(J:Q.length<=1000000000)(W:Q.length<K){b:Code}(H:ah f141=[b]):
  ∃F:Env->Bool->Env,∀Z d,(ae Z 1=.str (ao u)/\ae Z 5=.int .i64 0/\ae Z 8=.slice 0 0 Q.length none/\ae Z 9=.int .i64 Q.length/\ae Z 10=.int .i64 0)->
   aU (bd prog) (fun _=>[5,10]) (ag aV) K 23 1 true (.loop b) ⟨Z,[.cells false 2 (kC (kT Q))],d⟩=some (.exit 0,⟨F Z d,[.cells false 2 (kC (kT Q))],d⟩)/\
    ae (F Z d) 5=.int .i64 (fg Q u):=by
 refine bl rfl (fun Z=>ae Z 1=.str (ao u)/\ae Z 5=.int .i64 0/\ae Z 8=.slice 0 0 Q.length none/\ae Z 9=.int .i64 Q.length/\ae Z 10=.int .i64 0) (fun _ D =>ae D 5=.int .i64 (fg Q u)) ?_;rintro Z d ⟨h1,h5,h8,h9,ZS⟩;simp[ah,aE,f141] at H;have R:aw [5,10] (ad b) Z ((5,.int .i64 ((0:Nat):Int))::(10,.int .i64 ((0:Nat):Int))::Z)=aw [5,10] (ad b) Z Z:=by simp[aw,h5,ZS]
 rw[<-R];have o:(kC (kT Q)).length=2*Q.length:=by rw[n9,mc]
 refine bG (α:=Nat) (fun n=>⟨aw [5,10] (ad b) Z ((5,.int .i64 ((fg (Q.take n) u:Nat):Int))::(10,.int .i64 (n:Int))::Z),[.cells false 2 (kC (kT Q))],d⟩) (fun n=>Q.length-n) (fun n=>n<=Q.length) (.exit 0) _ d _ (by simp) ?_ K 0 (by omega) (by omega);intro n j;clear R;subst H;by_cases U:n<Q.length
 .left
  obtain⟨q,S⟩:∃q,Q[n]? =some q:=⟨Q[n],GT U⟩
  obtain⟨O,Y,k3⟩:=VF (YF S);have V:=LV (u:=u) S;have N:=ES (Q.take n) u;rw[S2] at N;obtain⟨P,C⟩:∃P,fg (Q.take n) u=P:=⟨_,rfl⟩
  rw[C] at V N |-;have w1:IntKind.i64.wrap ((n:Int)+1)=((n+1:Nat):Int):=by rw[af];omega
  have w2:IntKind.i64.wrap ((P:Int)+1)=((P+1:Nat):Int):=by rw[af];omega
  obtain⟨m,B⟩:=xE (n+1);rw[<-B] at w1 V;obtain⟨⟨f1,f2⟩,_⟩:=hQ q (J1 S);obtain⟨M,L⟩:=I;have G:n*2+2<=(kC (kT Q)).length:=by omega
  by_cases X:q.1<=u
  .have c:=B0.2 X
   rw[if_pos X] at V;rw[<-V] at w2;refine⟨m,?_⟩;simp[h1,h8,h9,U,ag,aV,aB,f1,f2,M,L,O,G,c,w1,w2,Ch];omega
  .have c:¬qu q.1 u<=0:=fun h=>X (B0.1 h)
   rw[if_neg X,Nat.add_zero] at V;refine⟨m,?_⟩;simp[h1,h8,h9,U,ag,aV,aB,f1,f2,M,L,O,G,c,w1,V,Ch];omega
 .right
  have e:Q.take n=Q:=B5 (by omega);rw[e];have Y5 :¬(n:Int)<Q.length:=by omega
  simp[h9,U]
theorem Wo(f:Nat->Option Nat):∀l:List (List UInt8×List UInt8),AV.afz f (kC l)=kC l
 | []=>by simp[kC,AV.afz]
 |k::l=>by simp[kC,AV.afz,AV.ren,Wo f l]
theorem Fa(Q:List (Rat×Rat))(u:Rat)(hQ:SX Q)(H:ek u)(I:Q.length<=1000000000):
  kO prog 141 [.slice 0 0 Q.length none,.str (ao u)] [.cells false 2 (kC (kT Q))] (.int .i64 (fg Q u)) [.cells false 2 (kC (kT Q))]:=by
 have X:aX prog 141=some f141:=by kernel_rfl
 obtain⟨b,Z⟩:∃b,ah f141=[b]:=⟨_,rfl⟩
 obtain⟨F,V⟩:=zI (K:=Q.length+1) Q u hQ H I (by omega) Z;simp[ah,aE,f141] at Z;subst Z;refine dj (lv:=(fun _=>[5,10])) (K:=(Q.length+1)) kH ?_;simp[aa,X,f141,V]
noncomputable def lC(f:FuncId)(args:List AV):Option AV:=
 match f,args with
 |51,[.str s]=>if s.length<=1000000000 then some (.bool (yT s==0)) else none
 |56,[.str s,.str t]=>match dY s,dY t with
  |some a,some b=>if (ai a.num.natAbs).length<=2000/\(ai a.den).length<=2000/\(ai b.num.natAbs).length<=2000/\(ai b.den).length<=2000 then some (.int .i64 (gd (a-b))) else none
  |_,_=>none
 |f,args=>gP f args
theorem Kz:qS prog (ag lC):=bP fun f X v h mem=>by
 unfold lC at h;split at h
 .split at h
  next Z=>cases h;exact HJ _ Z mem
  .cases h
 .split at h
  .rename_i m n V U
   split at h
   next Z=>cases h;rw[au V,au U];exact nj m n ⟨Z.1,Z.2.1⟩ ⟨Z.2.2.1,Z.2.2.2⟩ mem
   .cases h
  .cases h
 .have:=ju.fn _ _ mem ⟨v,none,[]⟩ (by unfold ag;simp only;rw[h])
  simpa [afh.mem] using this
def EX(p:Option Rat)(q:Rat):Bool:=match p with
 |some r=>decide (r<q)
 |none=>true
def ckE(p:Option Rat):List (List UInt8×List UInt8)->Int
 | []=>0
 |k::l=>if yT k.1=0/\yT k.2=0 then (if EX p ((dY k.1).getD 0) then ckE (dY k.1) l else 6) else 2
def Sz(L:List (List UInt8×List UInt8))(n:Nat)(p:Option Rat):Prop:=
 (n=0/\p=none)\/(∃m q k,n=m+1/\p=some q/\L[m]? =some k/\k.1=ao q/\(ai q.num.natAbs).length<=200/\(ai q.den).length<=200)
theorem qQ{K:Nat}(L:List (List UInt8×List UInt8))(hL:∀k∈L,k.1.length<=1000000000/\k.2.length<=1000000000)(hl:L.length<=1000000000)(hK:L.length<K){b:Code}(hb:ah f85=[b]):
  ∃F:Env->Bool->Env×Mem×(List UInt8×List UInt8),∀Z d,(ae Z 0=.slice 0 0 L.length none/\ae Z 8=.slice 0 0 L.length none/\ae Z 9=.int .i64 L.length/\ae Z 10=.int .i64 0)->
   aU (bd prog) (fun _=>[10]) (ag aT) K 40 1 true (.loop b) ⟨Z,[.cells false 2 (kC L)],d⟩=some (if ckE none L=0 then .exit 0 else .ret,⟨(F Z d).1,(F Z d).2.1,d⟩)/\
    ((ckE none L=0->(F Z d).2.1=[.cells false 2 (kC L)])/\(ckE none L≠0->(F Z d).2.1=[.cells false 2 (kC L),.cells true 0 [.str (F Z d).2.2.1,.str (F Z d).2.2.2]]/\ae (F Z d).1 2=.int .i64 (ckE none L))):=by
 refine pK (β:=List UInt8×List UInt8) rfl (fun Z=>(ae Z 0=.slice 0 0 L.length none/\ae Z 8=.slice 0 0 L.length none/\ae Z 9=.int .i64 L.length/\ae Z 10=.int .i64 0)) (fun _ H X x=>(ckE none L=0->X =[.cells false 2 (kC L)])/\(ckE none L≠0->X =[.cells false 2 (kC L),.cells true 0 [.str x.1,.str x.2]]/\ae H 2=.int .i64 (ckE none L))) ?_;rintro Z d ⟨h0,h8,h9,ZS⟩;simp[ah,aE,f85] at hb;have W:aw [10] (ad b) Z ((10,.int .i64 ((0:Nat):Int))::Z)=aw [10] (ad b) Z Z:=by simp[aw,ZS]
 rw[<-W];have kl:(kC L).length=2*L.length:=n9 L;refine n8 (α:=Nat) (fun n=>⟨aw [10] (ad b) Z ((10,.int .i64 (n:Int))::Z),[.cells false 2 (kC L)],d⟩) (fun n=>L.length-n) (fun n=>n<=L.length/\∃p,Sz L n p/\ckE none L=ckE p (L.drop n)) (if ckE none L=0 then .exit 0 else .ret) d (fun H X =>∃x:List UInt8×List UInt8,(ckE none L=0->X =[.cells false 2 (kC L)])/\(ckE none L≠0->X =[.cells false 2 (kC L),.cells true 0 [.str x.1,.str x.2]]/\ae H 2=.int .i64 (ckE none L))) (by split<;>simp) ?_ K 0 ⟨by omega,none,.inl ⟨rfl,rfl⟩,by rw[List.drop_zero]⟩ (by omega);rintro n ⟨Z5,p,hp,he⟩;clear W;subst hb;by_cases V:n<L.length
 .obtain⟨k,R⟩:∃k,L[n]? =some k:=⟨L[n],GT V⟩
  obtain⟨S,k2,k3⟩:=VF R;obtain⟨M,J⟩:=hL k (J1 R);have hd:L.drop n=k::L.drop (n+1):=by rw[Ns] at R;obtain⟨h1,h2⟩:=R;rw[<-h2];exact N0 h1
  rw[hd,ckE] at he;have w1:IntKind.i64.wrap ((n:Int)+1)=((n+1:Nat):Int):=by rw[af];omega
  have O:n*2+2<=(kC L).length:=by omega
  by_cases U:yT k.1=0
  .by_cases G:yT k.2=0
   .rw[if_pos ⟨U,G⟩] at he
    obtain⟨q,hq,N,q1,q2⟩:=Vr U;rw[hq] at he;have D :(ai q.num.natAbs).length<=40000:=by omega
    have C :(ai q.den).length<=40000:=by omega
    simp only[Option.getD_some] at he;rcases hp with⟨rfl,rfl⟩ | ⟨m,r,j,rfl,rfl,hj,hjs,r1,r2⟩
    .rw[if_pos (by rfl)] at he
     left;refine⟨1,?_⟩;have hz:(0:Int)<L.length:=by omega
     have I:Sz L 1 (some q):=.inr ⟨0,q,k,rfl,rfl,R,N,q1,q2⟩;have w3:IntKind.i64.wrap 1=1:=rfl;simp at S O V;simp[h0,h8,h9,V,ag,aT,M,J,U,G,S,O,w3,Ch,Nat.testBit];exact⟨⟨by omega,_,I,by simpa using he⟩,by omega⟩
    .obtain⟨j1,j2,j3⟩:=VF hj
     have w2:IntKind.i64.wrap (((m+1:Nat):Int)-1)=(m:Int):=by rw[af];omega
     have B :(ai r.num.natAbs).length<=40000:=by omega
     have u :(ai r.den).length<=40000:=by omega
     obtain⟨n,W⟩:=xE (m+1);rw[<-W] at R S k2 k3 O w1 w2 V Z5 he hd |-;have n0:(0:Int)<n:=by omega
     have o :0<n:=by omega
     have hm:m<L.length:=by omega
     rw[N] at M U S;rw[hjs] at j2;have I:Sz L (n+1) (some q):=.inr ⟨n,q,k,rfl,rfl,R,N,q1,q2⟩;obtain⟨v,hv⟩:=xE (n+1);rw[<-hv] at w1 I he;by_cases Y:r<q
     .have c:¬qu q r<=0:=fun h=>by have:=B0.1 h;grind
      rw[if_pos (by simp[EX,Y])] at he;left;refine⟨v,?_⟩;simp[h0,h8,h9,V,hm,o,ag,aT,aV,aB,M,J,U,G,S,O,j2,w1,w2,D,C,B,u,c,Ch,Nat.testBit];exact⟨⟨by omega,_,I,he⟩,by omega⟩
     .have c:qu q r<=0:=B0.2 (by grind)
      rw[if_neg (by simp[EX,Y])] at he;right;rw[he];simp[h0,h8,h9,V,hm,o,ag,aT,aV,aB,M,J,U,G,S,O,j2,w2,D,C,B,u,c,Nat.testBit];exact⟨_,_,⟨rfl,rfl⟩,⟨_,_,rfl⟩,rfl⟩
   .rw[if_neg (fun h=>G h.2)] at he
    right;rw[he];simp[h8,h9,V,ag,aT,M,J,U,G,S,O];exact⟨_,_,⟨rfl,rfl⟩,⟨k.1,k.2,rfl⟩,rfl⟩
  .rw[if_neg (fun h=>U h.1)] at he
   right;rw[he];simp[h8,h9,V,ag,aT,M,U,S,O];exact⟨_,_,⟨rfl,rfl⟩,⟨k.1,k.2,rfl⟩,rfl⟩
 .right
  have e:L.drop n=[]:=ZN (by omega);rw[e,ckE] at he;rw[he];simp[h9,V]
def knE(L:List (List UInt8×List UInt8)):Int:=if 20<L.length then 4 else ckE none L
theorem xh(L:List (List UInt8×List UInt8))(H:∀k∈L,k.1.length<=1000000000/\k.2.length<=1000000000)(I:L.length<=1000000000):
  kO prog 85 [.slice 0 0 L.length none] [.cells false 2 (kC L)] (.int .i64 (knE L)) [.cells false 2 (kC L)]:=by
 have R:aX prog 85=some f85:=by kernel_rfl
 obtain⟨b,O⟩:∃b,ah f85=[b]:=⟨_,rfl⟩
 obtain⟨F,Z⟩:=qQ (K:=L.length+1) L H I (by omega) O;simp[ah,aE,f85] at O;subst O;refine dj (lv:=(fun _=>[10])) (K:=(L.length+1)) cQ ?_;unfold knE;by_cases S:20<L.length
 .rw[if_pos S]
  have X:(20:Int)<L.length:=by omega
  simp[aa,R,f85,X]
 .rw[if_neg S]
  have X:¬(20:Int)<L.length:=by omega
  by_cases U:ckE none L=0
  .rw[if_pos U] at Z
   have N:=fun V d h=>(Z V d h).1
   have M:=fun V d h=>(Z V d h).2.1 U
   clear Z;simp[aa,R,f85,X,N,M,U]
  .rw[if_neg U] at Z
   have N:=fun V d h=>(Z V d h).1
   have M:=fun V d h=>((Z V d h).2.2 U).1
   have G:=fun V d h=>((Z V d h).2.2 U).2
   clear Z;simp[aa,R,f85,X,N,M,G]
end Go.Proofs
namespace Go.Proofs
open Go.Eng
end Go.Proofs
