/- See P53. -/
import Derived.Test.YtmhkeaphiadacaaGreatDoorP30
set_option linter.all false
set_option maxRecDepth 100000
set_option maxHeartbeats 40000000
namespace Go.Proofs
open Go.Eng
open Tryz
section
variable (d:Nat)
theorem nG(a b c a' b' c' :List UInt8):iI (aC prog) (d+2) 51 (.agg [.str a,.str b,.str c]) (.agg [.str a',.str b',.str c'])=some ((a==a')&&((b==b')&&(c==c'))):=by have i:=fV d;rw[iI];simp[Kl,fR,TyI.isAgg,i]
theorem uG(a b c o a' b' c' o' :List UInt8):iI (aC prog) (d+3) 53 (.agg [.str a,.str b,.str c,.str o]) (.agg [.str a',.str b',.str c',.str o'])=some (((a==a')&&((b==b')&&(c==c')))&&(o==o')):=by have i:=fV (d+1);have j:=nG d;rw[iI];simp[Kl,fR,TyI.isAgg,i,j]
theorem Et(a b c o e f g a' b' c' o' e' f' g' :List UInt8)(h:(a==a')=false):iI (aC prog) (d+4) 55 (.agg [.str a,.str b,.str c,.str o,.str e,.str f,.str g]) (.agg [.str a',.str b',.str c',.str o',.str e',.str f',.str g'])=some false:=by have j:=nG (d+1);have k:=uG d;rw[iI];simp[Kl,fR,TyI.isAgg,j,k,h]
theorem LP(a b c a' b' c' :List UInt8)(h:(a==a')=false):iI (aC prog) (d+2) 51 (.agg [.str a,.str b,.str c]) (.agg [.str a',.str b',.str c'])=some false:=by rw[nG,h,Bool.false_and]
theorem GK(a b c o w u a' b' c' o' w' u' :List UInt8)(h:(a==a')=false∨(u==u')=false):iI (aC prog) (d+4) 60 (.agg [.str a,.str b,.str c,.str o,.str w,.str u]) (.agg [.str a',.str b',.str c',.str o',.str w',.str u'])=some false:=by have i:=fV (d+2);have i2:=mI (d+2);have k:=uG d;rw[iI];rcases h with h | h<;>simp[Kl,fR,TyI.isAgg,i,i2,k,h]
theorem GS(t u v w t' u' v' w' :Int):∃r,iI (aC prog) (d+2) 61 (.agg [.int .i64 t,.int .i64 u,.int .i64 v,.int .i64 w]) (.agg [.int .i64 t',.int .i64 u',.int .i64 v',.int .i64 w'])=some r:=by have r:List.range' 0 4=[0,1,2,3]:=rfl;have i:=uF d;rw[iI];simp only[E7,E6,r,Ug];simp[fR,TyI.isAgg,i]
theorem GR(t u v w t' u' v' w' :Int)(a b c a' b' c' :List UInt8)(h:(a==a')=false):iI (aC prog) (d+3) 63 (.agg [.int .i64 t,.int .i64 u,.int .i64 v,.int .i64 w,.str a,.str b,.str c]) (.agg [.int .i64 t',.int .i64 u',.int .i64 v',.int .i64 w',.str a',.str b',.str c'])=some false:=by have j:=nG (d+0);obtain⟨r,k⟩:=GS d t u v w t' u' v' w';rw[iI];simp[Kl,fR,TyI.isAgg,j,k,h]
end
theorem Vn{a b:List UInt8}(h:a≠b):(a==b)=false:=by simpa using h
variable{O:aac}{b b' kn WT s s' u u' :AV}{c c' :Evc}{env:Env}{m0 p q:Nat}{mem:Mem}{ops:Array Oper}
section
variable{d:Bool}(h2:aa env 2=.ptr p 0)(h3:aa env 3=.ptr q 0)
include d h2 h3
section
variable (hp:mem[p]? =some (.cells true 0 (c.cells b u s kn)))(hq:mem[q]? =some (.cells true 0 (c'.cells b' u' s' WT)))
include hp hq
theorem pP(hx:c'.k=c.k):
  ∃z',aX (aC prog) O 92 m0 ops iy ⟨env,mem,d⟩=some ⟨z',mem,d⟩∧aa z' 2=.ptr p 0∧aa z' 3=.ptr q 0∧aa z' 10=.bool true:=by
 have e:=fun d=>uF d
 simp only[Evc.cells] at hp hq;simp[iy,ae,f49,h2,h3,hp,hq,hx]
theorem pQ(hg:(ops[5]?).bind (fun x=>x.dst)=some 10)(h1:aa env 10=.bool true)(hx:c'.nm=c.nm):
  ∃z',aX (aC prog) O 92 m0 ops iz ⟨env,mem,d⟩=some ⟨z',mem,d⟩∧aa z' 2=.ptr p 0∧aa z' 3=.ptr q 0∧aa z' 17=.bool true:=by
 have e:=fun d=>mI d
 simp only[Evc.cells] at hp hq;simp[iz,ae,f49,h2,h3,hp,hq,hg,h1,hx]
section
variable (hg:(ops[12]?).bind (fun x=>x.dst)=some 17)(h1:aa env 17=.bool true)
include hg h1
theorem uH(hO:O (.fn 82) [b,b'] mem=some ⟨.bool true,none,[]⟩):
  ∃z',aX (aC prog) O 92 m0 ops fy ⟨env,mem,d⟩=some ⟨z',mem,d⟩∧aa z' 2=.ptr p 0∧aa z' 3=.ptr q 0∧aa z' 26=.bool true:=by
 simp only[Evc.cells] at hp hq;simp[fy,ae,f49,h2,h3,hp,hq,hg,h1,hO]
theorem QB(hO:O (.fn 82) [b,b'] mem=some ⟨.bool false,none,[]⟩):
  ∃z',aX (aC prog) O 92 m0 ops fy ⟨env,mem,d⟩=some ⟨z',mem,d⟩∧aa z' 2=.ptr p 0∧aa z' 3=.ptr q 0∧aa z' 26=.bool false:=by
 simp only[Evc.cells] at hp hq;simp[fy,ae,f49,h2,h3,hp,hq,hg,h1,hO]
end
theorem uI(hg:(ops[21]?).bind (fun x=>x.dst)=some 26)(h1:aa env 26=.bool true)(hO:O (.fn 32) [u,u'] mem=some ⟨.bool true,none,[]⟩):
  ∃z',aX (aC prog) O 92 m0 ops eO ⟨env,mem,d⟩=some ⟨z',mem,d⟩∧aa z' 2=.ptr p 0∧aa z' 3=.ptr q 0∧aa z' 35=.bool true:=by
 simp only[Evc.cells] at hp hq;simp[eO,ae,f49,h2,h3,hp,hq,hg,h1,hO]
end
theorem QK(hg:(ops[21]?).bind (fun x=>x.dst)=some 26)(h1:aa env 26=.bool false):
  ∃z',aX (aC prog) O 92 m0 ops eO ⟨env,mem,d⟩=some ⟨z',mem,d⟩∧aa z' 2=.ptr p 0∧aa z' 3=.ptr q 0∧aa z' 35=.bool false:=by
 simp[eO,ae,f49,h2,h3,hg,h1]
theorem uJ(hp:mem[p]? =some (.cells true 0 (c.cells b u s kn)))(hq:mem[q]? =some (.cells true 0 (c'.cells b' u' s' WT)))(hg:(ops[30]?).bind (fun x=>x.dst)=some 35)(h1:aa env 35=.bool true)(hO:O (.fn 83) [s,s'] mem=some ⟨.bool true,none,[]⟩):
  ∃z',aX (aC prog) O 92 m0 ops dV ⟨env,mem,d⟩=some ⟨z',mem,d⟩∧aa z' 2=.ptr p 0∧aa z' 3=.ptr q 0∧aa z' 44=.bool true:=by
 simp only[Evc.cells] at hp hq;simp[dV,ae,f49,h2,h3,hp,hq,hg,h1,hO]
theorem QL(hg:(ops[30]?).bind (fun x=>x.dst)=some 35)(h1:aa env 35=.bool false):
  ∃z',aX (aC prog) O 92 m0 ops dV ⟨env,mem,d⟩=some ⟨z',mem,d⟩∧aa z' 2=.ptr p 0∧aa z' 3=.ptr q 0∧aa z' 44=.bool false:=by
 simp[dV,ae,f49,h2,h3,hg,h1]
section
variable (hp:mem[p]? =some (.cells true 0 (c.cells b u s kn)))(hq:mem[q]? =some (.cells true 0 (c'.cells b' u' s' WT)))(hg:(ops[39]?).bind (fun x=>x.dst)=some 44)(h1:aa env 44=.bool true)
include hp hq hg h1
theorem Al(hx:c'.x5=c.x5∧c'.x6=c.x6∧c'.x7=c.x7∧c'.x8=c.x8∧c'.x9=c.x9∧c'.x10=c.x10∧c'.x11=c.x11):
  ∃z',aX (aC prog) O 92 m0 ops da ⟨env,mem,d⟩=some ⟨z',mem,d⟩∧aa z' 2=.ptr p 0∧aa z' 3=.ptr q 0∧aa z' 51=.bool true:=by
 obtain⟨w0,w1,w2,w3,w4,w5,w6⟩:=hx;have e:=fun d=>xh d
 simp only[Evc.cells] at hp hq;simp[da,ae,f49,h2,h3,hp,hq,hg,h1,e,w0,w1,w2,w3,w4,w5,w6]
theorem QC(H':c.x5≠c'.x5):
  ∃z',aX (aC prog) O 92 m0 ops da ⟨env,mem,d⟩=some ⟨z',mem,d⟩∧aa z' 2=.ptr p 0∧aa z' 3=.ptr q 0∧aa z' 51=.bool false:=by
 have e:=fun d=>Et d c.x5 c.x6 c.x7 c.x8 c.x9 c.x10 c.x11 c'.x5 c'.x6 c'.x7 c'.x8 c'.x9 c'.x10 c'.x11 (Vn H')
 simp only[Evc.cells] at hp hq;simp[da,ae,f49,h2,h3,hp,hq,hg,h1,e]
end
theorem QM(hg:(ops[39]?).bind (fun x=>x.dst)=some 44)(h1:aa env 44=.bool false):
  ∃z',aX (aC prog) O 92 m0 ops da ⟨env,mem,d⟩=some ⟨z',mem,d⟩∧aa z' 2=.ptr p 0∧aa z' 3=.ptr q 0∧aa z' 51=.bool false:=by
 simp[da,ae,f49,h2,h3,hg,h1]
section
variable (hp:mem[p]? =some (.cells true 0 (c.cells b u s kn)))(hq:mem[q]? =some (.cells true 0 (c'.cells b' u' s' WT)))(hg:(ops[46]?).bind (fun x=>x.dst)=some 51)(h1:aa env 51=.bool true)
include hp hq hg h1
theorem GO(hx:c'.x12=c.x12∧c'.x13=c.x13∧c'.x14=c.x14):
  ∃z',aX (aC prog) O 92 m0 ops cL ⟨env,mem,d⟩=some ⟨z',mem,d⟩∧aa z' 2=.ptr p 0∧aa z' 3=.ptr q 0∧aa z' 60=.bool true:=by
 obtain⟨w0,w1,w2⟩:=hx;have e:=fun d=>ja d
 simp only[Evc.cells] at hp hq;simp[cL,ae,f49,h2,h3,hp,hq,hg,h1,e,w0,w1,w2]
theorem QD(H':c.x12≠c'.x12):
  ∃z',aX (aC prog) O 92 m0 ops cL ⟨env,mem,d⟩=some ⟨z',mem,d⟩∧aa z' 2=.ptr p 0∧aa z' 3=.ptr q 0∧aa z' 60=.bool false:=by
 have e:=fun d=>LP d c.x12 c.x13 c.x14 c'.x12 c'.x13 c'.x14 (Vn H')
 simp only[Evc.cells] at hp hq;simp[cL,ae,f49,h2,h3,hp,hq,hg,h1,e]
end
theorem QN(hg:(ops[46]?).bind (fun x=>x.dst)=some 51)(h1:aa env 51=.bool false):
  ∃z',aX (aC prog) O 92 m0 ops cL ⟨env,mem,d⟩=some ⟨z',mem,d⟩∧aa z' 2=.ptr p 0∧aa z' 3=.ptr q 0∧aa z' 60=.bool false:=by
 simp[cL,ae,f49,h2,h3,hg,h1]
theorem GP(hp:mem[p]? =some (.cells true 0 (c.cells b u s kn)))(hq:mem[q]? =some (.cells true 0 (c'.cells b' u' s' WT)))(hg:(ops[55]?).bind (fun x=>x.dst)=some 60)(h1:aa env 60=.bool true)(hO:O (.fn 84) [kn,WT] mem=some ⟨.bool true,none,[]⟩):
  ∃z',aX (aC prog) O 92 m0 ops db ⟨env,mem,d⟩=some ⟨z',mem,d⟩∧aa z' 2=.ptr p 0∧aa z' 3=.ptr q 0∧aa z' 69=.bool true:=by
 simp only[Evc.cells] at hp hq;simp[db,ae,f49,h2,h3,hp,hq,hg,h1,hO]
theorem QO(hg:(ops[55]?).bind (fun x=>x.dst)=some 60)(h1:aa env 60=.bool false):
  ∃z',aX (aC prog) O 92 m0 ops db ⟨env,mem,d⟩=some ⟨z',mem,d⟩∧aa z' 2=.ptr p 0∧aa z' 3=.ptr q 0∧aa z' 69=.bool false:=by
 simp[db,ae,f49,h2,h3,hg,h1]
theorem GQ(hp:mem[p]? =some (.cells true 0 (c.cells b u s kn)))(hq:mem[q]? =some (.cells true 0 (c'.cells b' u' s' WT)))(hg:(ops[64]?).bind (fun x=>x.dst)=some 69)(h1:aa env 69=.bool true)(hx:c'.x16=c.x16∧c'.x17=c.x17∧c'.x18=c.x18):
  ∃z',aX (aC prog) O 92 m0 ops cM ⟨env,mem,d⟩=some ⟨z',mem,d⟩∧aa z' 2=.ptr p 0∧aa z' 3=.ptr q 0∧aa z' 78=.bool true:=by
 obtain⟨w0,w1,w2⟩:=hx;have e:=fun d=>ja d
 simp only[Evc.cells] at hp hq;simp[cM,ae,f49,h2,h3,hp,hq,hg,h1,e,w0,w1,w2]
theorem QP(hg:(ops[64]?).bind (fun x=>x.dst)=some 69)(h1:aa env 69=.bool false):
  ∃z',aX (aC prog) O 92 m0 ops cM ⟨env,mem,d⟩=some ⟨z',mem,d⟩∧aa z' 2=.ptr p 0∧aa z' 3=.ptr q 0∧aa z' 78=.bool false:=by
 simp[cM,ae,f49,h2,h3,hg,h1]
section
variable (hp:mem[p]? =some (.cells true 0 (c.cells b u s kn)))(hq:mem[q]? =some (.cells true 0 (c'.cells b' u' s' WT)))(hg:(ops[73]?).bind (fun x=>x.dst)=some 78)(h1:aa env 78=.bool true)
include hp hq hg h1
theorem QR(hx:c'.x19=c.x19∧c'.x20=c.x20∧c'.x21=c.x21∧c'.x22=c.x22∧c'.x23=c.x23∧c'.x24=c.x24):
  ∃z',aX (aC prog) O 92 m0 ops bX ⟨env,mem,d⟩=some ⟨z',mem,d⟩∧aa z' 2=.ptr p 0∧aa z' 3=.ptr q 0∧aa z' 85=.bool true:=by
 obtain⟨w0,w1,w2,w3,w4,w5⟩:=hx;have e:=fun d=>Aj d
 simp only[Evc.cells] at hp hq;simp[bX,ae,f49,h2,h3,hp,hq,hg,h1,e,w0,w1,w2,w3,w4,w5]
theorem QE(H':c.x19≠c'.x19∨c.x24≠c'.x24):
  ∃z',aX (aC prog) O 92 m0 ops bX ⟨env,mem,d⟩=some ⟨z',mem,d⟩∧aa z' 2=.ptr p 0∧aa z' 3=.ptr q 0∧aa z' 85=.bool false:=by
 have e:=fun d=>GK d c.x19 c.x20 c.x21 c.x22 c.x23 c.x24 c'.x19 c'.x20 c'.x21 c'.x22 c'.x23 c'.x24 (H'.imp Vn Vn)
 simp only[Evc.cells] at hp hq;simp[bX,ae,f49,h2,h3,hp,hq,hg,h1,e]
end
theorem QQ(hg:(ops[73]?).bind (fun x=>x.dst)=some 78)(h1:aa env 78=.bool false):
  ∃z',aX (aC prog) O 92 m0 ops bX ⟨env,mem,d⟩=some ⟨z',mem,d⟩∧aa z' 2=.ptr p 0∧aa z' 3=.ptr q 0∧aa z' 85=.bool false:=by
 simp[bX,ae,f49,h2,h3,hg,h1]
theorem OI(hp:mem[p]? =some (.cells true 0 (c.cells b u s kn)))(hq:mem[q]? =some (.cells true 0 (c'.cells b' u' s' WT)))(hg:(ops[80]?).bind (fun x=>x.dst)=some 85)(h1:aa env 85=.bool true)(H':c.x29≠c'.x29):
  ∃z',aX (aC prog) O 92 m0 ops bS ⟨env,mem,d⟩=some ⟨z',mem,d⟩∧aa z' 2=.ptr p 0∧aa z' 3=.ptr q 0∧aa z' 4=.bool false:=by
 have e:=fun d=>GR d c.t1 c.t2 c.t3 c.t4 c'.t1 c'.t2 c'.t3 c'.t4 c.x29 c.x30 c.x31 c'.x29 c'.x30 c'.x31 (Vn H')
 simp only[Evc.cells] at hp hq;simp[bS,ae,f49,h2,h3,hp,hq,hg,h1,e]
theorem OJ(hg:(ops[80]?).bind (fun x=>x.dst)=some 85)(h1:aa env 85=.bool false):
  ∃z',aX (aC prog) O 92 m0 ops bS ⟨env,mem,d⟩=some ⟨z',mem,d⟩∧aa z' 2=.ptr p 0∧aa z' 3=.ptr q 0∧aa z' 4=.bool false:=by
 simp[bS,ae,f49,h2,h3,hg,h1]
end
theorem pR:(ae[5]?).bind (fun x=>x.dst)=some 10:=by kernel_rfl
theorem pS:(ae[12]?).bind (fun x=>x.dst)=some 17:=by kernel_rfl
theorem pT:(ae[21]?).bind (fun x=>x.dst)=some 26:=by kernel_rfl
theorem pU:(ae[30]?).bind (fun x=>x.dst)=some 35:=by kernel_rfl
theorem pV:(ae[39]?).bind (fun x=>x.dst)=some 44:=by kernel_rfl
theorem uK:(ae[46]?).bind (fun x=>x.dst)=some 51:=by kernel_rfl
theorem Am:(ae[55]?).bind (fun x=>x.dst)=some 60:=by kernel_rfl
theorem An:(ae[64]?).bind (fun x=>x.dst)=some 69:=by kernel_rfl
theorem Ao:(ae[73]?).bind (fun x=>x.dst)=some 78:=by kernel_rfl
theorem CJ:(ae[80]?).bind (fun x=>x.dst)=some 85:=by kernel_rfl
section
variable{d:Bool}(h2:aa env 2=.ptr p 0)(h3:aa env 3=.ptr q 0)
include d h2 h3
theorem CI(h1:aa env 85=.bool false):
  ∃z',aX (aC prog) O 92 m0 ae bS ⟨env,mem,d⟩=some ⟨z',mem,d⟩∧aa z' 4=.bool false:=by
 obtain⟨e,r,_,_,b⟩:=OJ (O:=O) (m0:=m0) (ops:=ae) (mem:=mem) (d:=d) h2 h3 CJ h1;exact⟨e,r,b⟩
theorem QJ(h1:aa env 78=.bool false):
  ∃z',aX (aC prog) O 92 m0 ae (bX++bS) ⟨env,mem,d⟩=some ⟨z',mem,d⟩∧aa z' 4=.bool false:=by
 obtain⟨e,r,k2,k3,b⟩:=QQ (O:=O) (m0:=m0) (ops:=ae) (mem:=mem) (d:=d) h2 h3 Ao h1;obtain⟨e2,r2,b2⟩:=CI (O:=O) (m0:=m0) (mem:=mem) (d:=d) k2 k3 b;exact⟨e2,aq r r2,b2⟩
theorem QI(h1:aa env 69=.bool false):
  ∃z',aX (aC prog) O 92 m0 ae (cM++(bX++bS)) ⟨env,mem,d⟩=some ⟨z',mem,d⟩∧aa z' 4=.bool false:=by
 obtain⟨e,r,k2,k3,b⟩:=QP (O:=O) (m0:=m0) (ops:=ae) (mem:=mem) (d:=d) h2 h3 An h1;obtain⟨e2,r2,b2⟩:=QJ (O:=O) (m0:=m0) (mem:=mem) (d:=d) k2 k3 b;exact⟨e2,aq r r2,b2⟩
theorem GM(h1:aa env 60=.bool false):
  ∃z',aX (aC prog) O 92 m0 ae (db++(cM++(bX++bS))) ⟨env,mem,d⟩=some ⟨z',mem,d⟩∧aa z' 4=.bool false:=by
 obtain⟨e,r,k2,k3,b⟩:=QO (O:=O) (m0:=m0) (ops:=ae) (mem:=mem) (d:=d) h2 h3 Am h1;obtain⟨e2,r2,b2⟩:=QI (O:=O) (m0:=m0) (mem:=mem) (d:=d) k2 k3 b;exact⟨e2,aq r r2,b2⟩
theorem GL(h1:aa env 51=.bool false):
  ∃z',aX (aC prog) O 92 m0 ae (cL++(db++(cM++(bX++bS)))) ⟨env,mem,d⟩=some ⟨z',mem,d⟩∧aa z' 4=.bool false:=by
 obtain⟨e,r,k2,k3,b⟩:=QN (O:=O) (m0:=m0) (ops:=ae) (mem:=mem) (d:=d) h2 h3 uK h1;obtain⟨e2,r2,b2⟩:=GM (O:=O) (m0:=m0) (mem:=mem) (d:=d) k2 k3 b;exact⟨e2,aq r r2,b2⟩
theorem QH(h1:aa env 44=.bool false):
  ∃z',aX (aC prog) O 92 m0 ae (da++(cL++(db++(cM++(bX++bS))))) ⟨env,mem,d⟩=some ⟨z',mem,d⟩∧aa z' 4=.bool false:=by
 obtain⟨e,r,k2,k3,b⟩:=QM (O:=O) (m0:=m0) (ops:=ae) (mem:=mem) (d:=d) h2 h3 pV h1;obtain⟨e2,r2,b2⟩:=GL (O:=O) (m0:=m0) (mem:=mem) (d:=d) k2 k3 b;exact⟨e2,aq r r2,b2⟩
theorem QG(h1:aa env 35=.bool false):
  ∃z',aX (aC prog) O 92 m0 ae (dV++(da++(cL++(db++(cM++(bX++bS)))))) ⟨env,mem,d⟩=some ⟨z',mem,d⟩∧aa z' 4=.bool false:=by
 obtain⟨e,r,k2,k3,b⟩:=QL (O:=O) (m0:=m0) (ops:=ae) (mem:=mem) (d:=d) h2 h3 pU h1;obtain⟨e2,r2,b2⟩:=QH (O:=O) (m0:=m0) (mem:=mem) (d:=d) k2 k3 b;exact⟨e2,aq r r2,b2⟩
theorem QF(h1:aa env 26=.bool false):
  ∃z',aX (aC prog) O 92 m0 ae (eO++(dV++(da++(cL++(db++(cM++(bX++bS))))))) ⟨env,mem,d⟩=some ⟨z',mem,d⟩∧aa z' 4=.bool false:=by
 obtain⟨e,r,k2,k3,b⟩:=QK (O:=O) (m0:=m0) (ops:=ae) (mem:=mem) (d:=d) h2 h3 pT h1;obtain⟨e2,r2,b2⟩:=QG (O:=O) (m0:=m0) (mem:=mem) (d:=d) k2 k3 b;exact⟨e2,aq r r2,b2⟩
end
variable{m:Mem}
theorem mD{r:Bool}(hOk:qS prog O)(hr:∀env,aa env 2=.ptr m.length 0→aa env 3=.ptr (m.length+1) 0→(m++[.cells true 0 (c.cells b u s kn),.cells true 0 (c'.cells b' u' s' WT)])[m.length]? =some (.cells true 0 (c.cells b u s kn))→(m++[.cells true 0 (c.cells b u s kn),.cells true 0 (c'.cells b' u' s' WT)])[m.length+1]? =some (.cells true 0 (c'.cells b' u' s' WT))→∃z',aX (aC prog) O 92 m.length ae (iy++(iz++(fy++(eO++(dV++(da++(cL++(db++(cM++(bX++bS)))))))))) ⟨env,(m++[.cells true 0 (c.cells b u s kn),.cells true 0 (c'.cells b' u' s' WT)]),false⟩=some ⟨z',(m++[.cells true 0 (c.cells b u s kn),.cells true 0 (c'.cells b' u' s' WT)]),false⟩∧aa z' 4=.bool r):
  mB prog 49 [.agg (c.cells b u s kn),.agg (c'.cells b' u' s' WT)] m (.bool r) m:=by
 have hG:aO prog 49=some f49:=by kernel_rfl
 rw[←xi] at hr;obtain⟨ops,F'⟩:∃o,o=ae:=⟨_,rfl⟩
 rw[←F'] at hr;obtain⟨F,hF⟩:=rq (p:=fun e (_:Bool)=>aa e 2=.ptr m.length 0∧aa e 3=.ptr (m.length+1) 0) (q:=fun env (_:Bool) z' =>aX (aC prog) O 92 m.length ops ops.toList ⟨env,(m++[.cells true 0 (c.cells b u s kn),.cells true 0 (c'.cells b' u' s' WT)]),false⟩=some ⟨z',(m++[.cells true 0 (c.cells b u s kn),.cells true 0 (c'.cells b' u' s' WT)]),false⟩∧aa z' 4=.bool r) (fun env _ h=>hr env h.1 h.2 (by simp) (by simp));have H1:=fun env h2 h3=>(hF env false ⟨h2,h3⟩).1
 have P':=fun env h2 h3=>(hF env false ⟨h2,h3⟩).2
 refine aY (K:=1) (lv:=fun _=>[]) hOk ?_;have hb:f49.body=some (.seq (.region 0 nF false) (.seq (.region 1 ops false) .ret)):=by rw[F'];kernel_rfl
 clear hF hr;unfold ad;rw[hG];dsimp only;rw[hb];dsimp only;simp only[Evc.cells] at H1 P' ⊢;simp[H1,P',nF,f49]
section
variable (hOk:qS prog O)(y0:c'.k=c.k)(y1:c'.nm=c.nm)
include hOk y0 y1
theorem Lj(y2:O (.fn 82) [b,b'] (m++[.cells true 0 (c.cells b u s kn),.cells true 0 (c'.cells b' u' s' WT)])=some ⟨.bool false,none,[]⟩):
  mB prog 49 [.agg (c.cells b u s kn),.agg (c'.cells b' u' s' WT)] m (.bool false) m:=mD hOk fun env h2 h3 hp hq=>by
 obtain⟨e0,r0,Yt,Yu,b0⟩:=pP (O:=O) (m0:=m.length) (ops:=ae) (d:=false) h2 h3 hp hq y0;obtain⟨e1,r1,Yv,Yw,b1⟩:=pQ (O:=O) (m0:=m.length) (ops:=ae) (d:=false) Yt Yu hp hq pR b0 y1;obtain⟨e2,r2,Yx,Yy,b2⟩:=QB (O:=O) (m0:=m.length) (ops:=ae) (d:=false) Yv Yw hp hq pS b1 y2;obtain⟨e,r,b⟩:=QF (O:=O) (m0:=m.length) (mem:=(m++[.cells true 0 (c.cells b u s kn),.cells true 0 (c'.cells b' u' s' WT)])) (d:=false) Yx Yy b2;exact⟨e,aq r0 (aq r1 (aq r2 (r))),b⟩
section
variable (y2:O (.fn 82) [b,b'] (m++[.cells true 0 (c.cells b u s kn),.cells true 0 (c'.cells b' u' s' WT)])=some ⟨.bool true,none,[]⟩)(y3:O (.fn 32) [u,u'] (m++[.cells true 0 (c.cells b u s kn),.cells true 0 (c'.cells b' u' s' WT)])=some ⟨.bool true,none,[]⟩)(y4:O (.fn 83) [s,s'] (m++[.cells true 0 (c.cells b u s kn),.cells true 0 (c'.cells b' u' s' WT)])=some ⟨.bool true,none,[]⟩)
include y2 y3 y4
theorem Lk(y5:c.x5≠c'.x5):
  mB prog 49 [.agg (c.cells b u s kn),.agg (c'.cells b' u' s' WT)] m (.bool false) m:=mD hOk fun env h2 h3 hp hq=>by
 obtain⟨e0,r0,Yt,Yu,b0⟩:=pP (O:=O) (m0:=m.length) (ops:=ae) (d:=false) h2 h3 hp hq y0;obtain⟨e1,r1,Yv,Yw,b1⟩:=pQ (O:=O) (m0:=m.length) (ops:=ae) (d:=false) Yt Yu hp hq pR b0 y1;obtain⟨e2,r2,Yx,Yy,b2⟩:=uH (O:=O) (m0:=m.length) (ops:=ae) (d:=false) Yv Yw hp hq pS b1 y2;obtain⟨e3,r3,Za,Zb,b3⟩:=uI (O:=O) (m0:=m.length) (ops:=ae) (d:=false) Yx Yy hp hq pT b2 y3;obtain⟨e4,r4,Zc,Zd,b4⟩:=uJ (O:=O) (m0:=m.length) (ops:=ae) (d:=false) Za Zb hp hq pU b3 y4;obtain⟨e5,r5,Ze,Zf,b5⟩:=QC (O:=O) (m0:=m.length) (ops:=ae) (d:=false) Zc Zd hp hq pV b4 y5;obtain⟨e,r,b⟩:=GL (O:=O) (m0:=m.length) (mem:=(m++[.cells true 0 (c.cells b u s kn),.cells true 0 (c'.cells b' u' s' WT)])) (d:=false) Ze Zf b5;exact⟨e,aq r0 (aq r1 (aq r2 (aq r3 (aq r4 (aq r5 (r)))))),b⟩
section
variable (y5:c'.x5=c.x5∧c'.x6=c.x6∧c'.x7=c.x7∧c'.x8=c.x8∧c'.x9=c.x9∧c'.x10=c.x10∧c'.x11=c.x11)
include y5
theorem Ll(y6:c.x12≠c'.x12):
  mB prog 49 [.agg (c.cells b u s kn),.agg (c'.cells b' u' s' WT)] m (.bool false) m:=mD hOk fun env h2 h3 hp hq=>by
 obtain⟨e0,r0,Yt,Yu,b0⟩:=pP (O:=O) (m0:=m.length) (ops:=ae) (d:=false) h2 h3 hp hq y0;obtain⟨e1,r1,Yv,Yw,b1⟩:=pQ (O:=O) (m0:=m.length) (ops:=ae) (d:=false) Yt Yu hp hq pR b0 y1;obtain⟨e2,r2,Yx,Yy,b2⟩:=uH (O:=O) (m0:=m.length) (ops:=ae) (d:=false) Yv Yw hp hq pS b1 y2;obtain⟨e3,r3,Za,Zb,b3⟩:=uI (O:=O) (m0:=m.length) (ops:=ae) (d:=false) Yx Yy hp hq pT b2 y3;obtain⟨e4,r4,Zc,Zd,b4⟩:=uJ (O:=O) (m0:=m.length) (ops:=ae) (d:=false) Za Zb hp hq pU b3 y4;obtain⟨e5,r5,Ze,Zf,b5⟩:=Al (O:=O) (m0:=m.length) (ops:=ae) (d:=false) Zc Zd hp hq pV b4 y5;obtain⟨e6,r6,ZX,ZY,b6⟩:=QD (O:=O) (m0:=m.length) (ops:=ae) (d:=false) Ze Zf hp hq uK b5 y6;obtain⟨e,r,b⟩:=GM (O:=O) (m0:=m.length) (mem:=(m++[.cells true 0 (c.cells b u s kn),.cells true 0 (c'.cells b' u' s' WT)])) (d:=false) ZX ZY b6;exact⟨e,aq r0 (aq r1 (aq r2 (aq r3 (aq r4 (aq r5 (aq r6 (r))))))),b⟩
section
variable (y6:c'.x12=c.x12∧c'.x13=c.x13∧c'.x14=c.x14)(y7:O (.fn 84) [kn,WT] (m++[.cells true 0 (c.cells b u s kn),.cells true 0 (c'.cells b' u' s' WT)])=some ⟨.bool true,none,[]⟩)(y8:c'.x16=c.x16∧c'.x17=c.x17∧c'.x18=c.x18)
include y6 y7 y8
theorem zI(y9:c.x19≠c'.x19∨c.x24≠c'.x24):
  mB prog 49 [.agg (c.cells b u s kn),.agg (c'.cells b' u' s' WT)] m (.bool false) m:=mD hOk fun env h2 h3 hp hq=>by
 obtain⟨e0,r0,Yt,Yu,b0⟩:=pP (O:=O) (m0:=m.length) (ops:=ae) (d:=false) h2 h3 hp hq y0;obtain⟨e1,r1,Yv,Yw,b1⟩:=pQ (O:=O) (m0:=m.length) (ops:=ae) (d:=false) Yt Yu hp hq pR b0 y1;obtain⟨e2,r2,Yx,Yy,b2⟩:=uH (O:=O) (m0:=m.length) (ops:=ae) (d:=false) Yv Yw hp hq pS b1 y2;obtain⟨e3,r3,Za,Zb,b3⟩:=uI (O:=O) (m0:=m.length) (ops:=ae) (d:=false) Yx Yy hp hq pT b2 y3;obtain⟨e4,r4,Zc,Zd,b4⟩:=uJ (O:=O) (m0:=m.length) (ops:=ae) (d:=false) Za Zb hp hq pU b3 y4;obtain⟨e5,r5,Ze,Zf,b5⟩:=Al (O:=O) (m0:=m.length) (ops:=ae) (d:=false) Zc Zd hp hq pV b4 y5;obtain⟨e6,r6,ZX,ZY,b6⟩:=GO (O:=O) (m0:=m.length) (ops:=ae) (d:=false) Ze Zf hp hq uK b5 y6;obtain⟨e7,r7,h2_7,h3_7,b7⟩:=GP (O:=O) (m0:=m.length) (ops:=ae) (d:=false) ZX ZY hp hq Am b6 y7;obtain⟨e8,r8,h2_8,h3_8,b8⟩:=GQ (O:=O) (m0:=m.length) (ops:=ae) (d:=false) h2_7 h3_7 hp hq An b7 y8;obtain⟨e9,r9,h2_9,h3_9,b9⟩:=QE (O:=O) (m0:=m.length) (ops:=ae) (d:=false) h2_8 h3_8 hp hq Ao b8 y9;obtain⟨e,r,b⟩:=CI (O:=O) (m0:=m.length) (mem:=(m++[.cells true 0 (c.cells b u s kn),.cells true 0 (c'.cells b' u' s' WT)])) (d:=false) h2_9 h3_9 b9;exact⟨e,aq r0 (aq r1 (aq r2 (aq r3 (aq r4 (aq r5 (aq r6 (aq r7 (aq r8 (aq r9 (r)))))))))),b⟩
theorem Gc(y9:c'.x19=c.x19∧c'.x20=c.x20∧c'.x21=c.x21∧c'.x22=c.x22∧c'.x23=c.x23∧c'.x24=c.x24)(y10:c.x29≠c'.x29):
  mB prog 49 [.agg (c.cells b u s kn),.agg (c'.cells b' u' s' WT)] m (.bool false) m:=mD hOk fun env h2 h3 hp hq=>by
 obtain⟨e0,r0,Yt,Yu,b0⟩:=pP (O:=O) (m0:=m.length) (ops:=ae) (d:=false) h2 h3 hp hq y0;obtain⟨e1,r1,Yv,Yw,b1⟩:=pQ (O:=O) (m0:=m.length) (ops:=ae) (d:=false) Yt Yu hp hq pR b0 y1;obtain⟨e2,r2,Yx,Yy,b2⟩:=uH (O:=O) (m0:=m.length) (ops:=ae) (d:=false) Yv Yw hp hq pS b1 y2;obtain⟨e3,r3,Za,Zb,b3⟩:=uI (O:=O) (m0:=m.length) (ops:=ae) (d:=false) Yx Yy hp hq pT b2 y3;obtain⟨e4,r4,Zc,Zd,b4⟩:=uJ (O:=O) (m0:=m.length) (ops:=ae) (d:=false) Za Zb hp hq pU b3 y4;obtain⟨e5,r5,Ze,Zf,b5⟩:=Al (O:=O) (m0:=m.length) (ops:=ae) (d:=false) Zc Zd hp hq pV b4 y5;obtain⟨e6,r6,ZX,ZY,b6⟩:=GO (O:=O) (m0:=m.length) (ops:=ae) (d:=false) Ze Zf hp hq uK b5 y6;obtain⟨e7,r7,h2_7,h3_7,b7⟩:=GP (O:=O) (m0:=m.length) (ops:=ae) (d:=false) ZX ZY hp hq Am b6 y7;obtain⟨e8,r8,h2_8,h3_8,b8⟩:=GQ (O:=O) (m0:=m.length) (ops:=ae) (d:=false) h2_7 h3_7 hp hq An b7 y8;obtain⟨e9,r9,h2_9,h3_9,b9⟩:=QR (O:=O) (m0:=m.length) (ops:=ae) (d:=false) h2_8 h3_8 hp hq Ao b8 y9;obtain⟨e10,r10,h2_10,h3_10,b10⟩:=OI (O:=O) (m0:=m.length) (ops:=ae) (d:=false) h2_9 h3_9 hp hq CJ b9 y10;exact⟨e10,aq r0 (aq r1 (aq r2 (aq r3 (aq r4 (aq r5 (aq r6 (aq r7 (aq r8 (aq r9 (r10)))))))))),b10⟩
end
end
end
end
end Go.Proofs
