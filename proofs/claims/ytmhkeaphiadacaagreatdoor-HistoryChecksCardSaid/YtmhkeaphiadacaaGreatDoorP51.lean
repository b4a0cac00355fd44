/- See P53. -/
import Derived.Test.YtmhkeaphiadacaaGreatDoorP50
import Derived.Test.YtmhkeaphiadacaaGreatDoorP36
set_option linter.all false
set_option maxRecDepth 100000
set_option maxHeartbeats 40000000
namespace Go.Proofs
open Go.Eng
open Tryz
noncomputable def aE:Code:=match f5.body with
 |some c=>c
 |none=>.skip
noncomputable def ao:Array Oper:=match cK 18 aE with
 |.region _ ops _=>ops
 |_=> #[]
noncomputable def qd:List Oper:=(ao.toList.drop 0).take 4
noncomputable def qe:List Oper:=(ao.toList.drop 4).take 5
noncomputable def qf:List Oper:=(ao.toList.drop 9).take 5
noncomputable def qg:List Oper:=(ao.toList.drop 14).take 5
noncomputable def qh:List Oper:=(ao.toList.drop 19).take 5
noncomputable def qi:List Oper:=(ao.toList.drop 24).take 5
noncomputable def qj:List Oper:=(ao.toList.drop 29).take 5
noncomputable def qm:List Oper:=(ao.toList.drop 34).take 5
noncomputable def qo:List Oper:=(ao.toList.drop 39).take 5
noncomputable def qp:List Oper:=(ao.toList.drop 44).take 5
noncomputable def nV:List Oper:=(ao.toList.drop 49).take 5
noncomputable def nW:List Oper:=(ao.toList.drop 54).take 4
noncomputable def nX:List Oper:=(ao.toList.drop 58).take 4
noncomputable def nY:List Oper:=(ao.toList.drop 62).take 5
noncomputable def nZ:List Oper:=(ao.toList.drop 67).take 5
noncomputable def n8:List Oper:=(ao.toList.drop 72).take 5
noncomputable def n9:List Oper:=(ao.toList.drop 77).take 10
noncomputable def oa:List Oper:=(ao.toList.drop 87).take 4
noncomputable def ob:List Oper:=(ao.toList.drop 91).take 4
noncomputable def oc:List Oper:=(ao.toList.drop 95).take 4
noncomputable def od:List Oper:=(ao.toList.drop 99).take 4
theorem IK:ao.toList=qd++(qe++(qf++(qg++(qh++(qi++(qj++(qm++(qo++(qp++(nV++(nW++(nX++(nY++(nZ++(n8++(n9++(oa++(ob++(oc++(od)))))))))))))))))))):=by kernel_rfl
variable{O:aac}{m0:Nat}{ops:Array Oper}
theorem fv{T:TypeId→Option TyI}{K:Nat}{l:List Oper}{s s' :XS}(h:aX T O K m0 ops l s=some s')(hl:(l.filterMap (·.dst)).all (fun t:Nat=>decide (32≤t))=true):∀t,t<32→aa s'.env t=aa s.env t:=fun t ht=>kR h t fun hm=>by exact absurd (of_decide_eq_true (List.all_eq_true.1 hl t hm):(32:Nat)≤t) (by omega)
variable{W:Int}{d:Bool}{env:Env}{mem:Mem}
theorem L4{a10 a12 a14 a23 a25 a27:Nat}(l6:aa env 6=.int .i64 W)(l9:aa env 9=.int .i64 W):
  ∃z',aX (aC prog) O 223 m0 ops qd ⟨env,mem,d⟩=some ⟨z',mem,d⟩∧aa z' 124=.bool true:=by
 simp[qd,ao,aE,cK,f5,l6,l9]
theorem L5{a10 a12 a14 a23 a25 a27:Nat}(hg:(ops[3]?).bind (fun x=>x.dst)=some 124)(h1:aa env 124=.bool true)(l6:aa env 6=.int .i64 W)(l11:aa env 11=.int .i64 W):
  ∃z',aX (aC prog) O 223 m0 ops qe ⟨env,mem,d⟩=some ⟨z',mem,d⟩∧aa z' 129=.bool true:=by
 simp[qe,ao,aE,cK,f5,l6,l11,hg,h1]
theorem L6{a10 a12 a14 a23 a25 a27:Nat}(hg:(ops[8]?).bind (fun x=>x.dst)=some 129)(h1:aa env 129=.bool true)(l6:aa env 6=.int .i64 W)(l13:aa env 13=.int .i64 W):
  ∃z',aX (aC prog) O 223 m0 ops qf ⟨env,mem,d⟩=some ⟨z',mem,d⟩∧aa z' 134=.bool true:=by
 simp[qf,ao,aE,cK,f5,l6,l13,hg,h1]
theorem L7{a10 a12 a14 a23 a25 a27:Nat}(hg:(ops[13]?).bind (fun x=>x.dst)=some 134)(h1:aa env 134=.bool true)(l6:aa env 6=.int .i64 W)(l15:aa env 15=.int .i64 W):
  ∃z',aX (aC prog) O 223 m0 ops qg ⟨env,mem,d⟩=some ⟨z',mem,d⟩∧aa z' 139=.bool true:=by
 simp[qg,ao,aE,cK,f5,l6,l15,hg,h1]
theorem L8{a10 a12 a14 a23 a25 a27:Nat}(hg:(ops[18]?).bind (fun x=>x.dst)=some 139)(h1:aa env 139=.bool true)(l6:aa env 6=.int .i64 W)(l17:aa env 17=.int .i64 W):
  ∃z',aX (aC prog) O 223 m0 ops qh ⟨env,mem,d⟩=some ⟨z',mem,d⟩∧aa z' 144=.bool true:=by
 simp[qh,ao,aE,cK,f5,l6,l17,hg,h1]
theorem L9{a10 a12 a14 a23 a25 a27:Nat}(hg:(ops[23]?).bind (fun x=>x.dst)=some 144)(h1:aa env 144=.bool true)(l6:aa env 6=.int .i64 W)(l19:aa env 19=.int .i64 W):
  ∃z',aX (aC prog) O 223 m0 ops qi ⟨env,mem,d⟩=some ⟨z',mem,d⟩∧aa z' 149=.bool true:=by
 simp[qi,ao,aE,cK,f5,l6,l19,hg,h1]
theorem Ma{a10 a12 a14 a23 a25 a27:Nat}(hg:(ops[28]?).bind (fun x=>x.dst)=some 149)(h1:aa env 149=.bool true)(l6:aa env 6=.int .i64 W)(l22:aa env 22=.int .i64 W):
  ∃z',aX (aC prog) O 223 m0 ops qj ⟨env,mem,d⟩=some ⟨z',mem,d⟩∧aa z' 154=.bool true:=by
 simp[qj,ao,aE,cK,f5,l6,l22,hg,h1]
theorem Mb{a10 a12 a14 a23 a25 a27:Nat}(hg:(ops[33]?).bind (fun x=>x.dst)=some 154)(h1:aa env 154=.bool true)(l6:aa env 6=.int .i64 W)(l24:aa env 24=.int .i64 W):
  ∃z',aX (aC prog) O 223 m0 ops qm ⟨env,mem,d⟩=some ⟨z',mem,d⟩∧aa z' 159=.bool true:=by
 simp[qm,ao,aE,cK,f5,l6,l24,hg,h1]
theorem Mc{a10 a12 a14 a23 a25 a27:Nat}(hg:(ops[38]?).bind (fun x=>x.dst)=some 159)(h1:aa env 159=.bool true)(l6:aa env 6=.int .i64 W)(l26:aa env 26=.int .i64 W):
  ∃z',aX (aC prog) O 223 m0 ops qo ⟨env,mem,d⟩=some ⟨z',mem,d⟩∧aa z' 164=.bool true:=by
 simp[qo,ao,aE,cK,f5,l6,l26,hg,h1]
theorem Md{a10 a12 a14 a23 a25 a27:Nat}(hg:(ops[43]?).bind (fun x=>x.dst)=some 164)(h1:aa env 164=.bool true)(l6:aa env 6=.int .i64 W)(l28:aa env 28=.int .i64 W):
  ∃z',aX (aC prog) O 223 m0 ops qp ⟨env,mem,d⟩=some ⟨z',mem,d⟩∧aa z' 169=.bool true:=by
 simp[qp,ao,aE,cK,f5,l6,l28,hg,h1]
theorem IL{a10 a12 a14 a23 a25 a27:Nat}(hg:(ops[48]?).bind (fun x=>x.dst)=some 169)(h1:aa env 169=.bool true)(l6:aa env 6=.int .i64 W)(l31:aa env 31=.int .i64 W):
  ∃z',aX (aC prog) O 223 m0 ops nV ⟨env,mem,d⟩=some ⟨z',mem,d⟩∧aa z' 174=.bool true:=by
 simp[nV,ao,aE,cK,f5,l6,l31,hg,h1]
theorem IM{W:Int}{a10 a12 a14 a23 a25 a27:Nat}(hg:(ops[53]?).bind (fun x=>x.dst)=some 174)(h1:aa env 174=.bool true)(l8:aa env 8=.str []):
  ∃z',aX (aC prog) O 223 m0 ops nW ⟨env,mem,d⟩=some ⟨z',mem,d⟩∧aa z' 178=.bool true:=by
 simp[nW,ao,aE,cK,f5,l8,hg,h1]
variable{a10:Nat}
theorem IN{W:Int}{a12 a14 a23 a25 a27:Nat}(hg:(ops[57]?).bind (fun x=>x.dst)=some 178)(h1:aa env 178=.bool true)(l10:aa env 10=.ptr a10 0)(h10:mem[a10]? =some (.cells true 0 [.str [],.kO,.int .i64 0,.str [],.str [],.str []]))(e10:O (.fn 30) [.agg [.str [],.kO,.int .i64 0,.str [],.str [],.str []]] mem=some ⟨.bool true,none,[]⟩):
  ∃z',aX (aC prog) O 223 m0 ops nX ⟨env,mem,d⟩=some ⟨z',mem,d⟩∧aa z' 182=.bool true:=by
 simp[nX,ao,aE,cK,f5,l10,h10,e10,hg,h1]
variable{a12:Nat}
theorem IP{W:Int}{a10 a14 a23 a25 a27:Nat}(hg:(ops[61]?).bind (fun x=>x.dst)=some 182)(h1:aa env 182=.bool true)(l12:aa env 12=.ptr a12 0)(h12:mem[a12]? =some (.cells true 0 [.str [],.str [],.str []])):
  ∃z',aX (aC prog) O 223 m0 ops nY ⟨env,mem,d⟩=some ⟨z',mem,d⟩∧aa z' 187=.bool true:=by
 have eV:iI (aC prog) 20 51 (.agg [.str [],.str [],.str []]) (.agg [.str [],.str [],.str []])=some true:=by kernel_rfl
 simp[nY,ao,aE,cK,f5,l12,h12,eV,hg,h1,bO]
variable{a14:Nat}
theorem IQ{W:Int}{a10 a23 a25 a27:Nat}(hg:(ops[66]?).bind (fun x=>x.dst)=some 187)(h1:aa env 187=.bool true)(l12:aa env 12=.ptr a12 0)(h12:mem[a12]? =some (.cells true 0 [.str [],.str [],.str []]))(l14:aa env 14=.ptr a14 0)(h14:mem[a14]? =some (.cells true 0 [.str [],.str [],.str []])):
  ∃z',aX (aC prog) O 223 m0 ops nZ ⟨env,mem,d⟩=some ⟨z',mem,d⟩∧aa z' 192=.bool true:=by
 have eV:iI (aC prog) 20 51 (.agg [.str [],.str [],.str []]) (.agg [.str [],.str [],.str []])=some true:=by kernel_rfl
 simp[nZ,ao,aE,cK,f5,l12,h12,l14,h14,eV,hg,h1]
theorem IS{W:Int}{a10 a12 a14 a23 a25 a27:Nat}(hg:(ops[71]?).bind (fun x=>x.dst)=some 192)(h1:aa env 192=.bool true)(l16:aa env 16=.kO):
  ∃z',aX (aC prog) O 223 m0 ops n8 ⟨env,mem,d⟩=some ⟨z',mem,d⟩∧aa z' 197=.bool true:=by
 simp[n8,ao,aE,cK,f5,l16,hg,h1]
theorem IT{W:Int}{a10 a12 a14 a23 a25 a27:Nat}(hg:(ops[76]?).bind (fun x=>x.dst)=some 197)(h1:aa env 197=.bool true)(l18:aa env 18=.int .i64 0)(l20:aa env 20=.int .i64 0)(l21:aa env 21=.int .i64 0)(l29:aa env 29=.int .i64 0):
  ∃z',aX (aC prog) O 223 m0 ops n9 ⟨env,mem,d⟩=some ⟨z',mem,d⟩∧aa z' 207=.bool true:=by
 simp[n9,ao,aE,cK,f5,l18,l20,l21,l29,w0,hg,h1]
variable{a23:Nat}
theorem IU{W:Int}{a10 a12 a14 a25 a27:Nat}(hg:(ops[86]?).bind (fun x=>x.dst)=some 207)(h1:aa env 207=.bool true)(l23:aa env 23=.ptr a23 0)(h23:mem[a23]? =some (.cells true 0 [.kO,.kO,.str [],.kO]))(eE:O (.fn 13) [.agg [.kO,.kO,.str [],.kO]] mem=some ⟨.bool true,none,[]⟩):
  ∃z',aX (aC prog) O 223 m0 ops oa ⟨env,mem,d⟩=some ⟨z',mem,d⟩∧aa z' 211=.bool true:=by
 simp[oa,ao,aE,cK,f5,l23,h23,eE,hg,h1]
variable{a25:Nat}
theorem IV{W:Int}{a10 a12 a14 a23 a27:Nat}(hg:(ops[90]?).bind (fun x=>x.dst)=some 211)(h1:aa env 211=.bool true)(l25:aa env 25=.ptr a25 0)(h25:mem[a25]? =some (.cells true 0 [.kO,.kO,.str [],.kO]))(eE:O (.fn 13) [.agg [.kO,.kO,.str [],.kO]] mem=some ⟨.bool true,none,[]⟩):
  ∃z',aX (aC prog) O 223 m0 ops ob ⟨env,mem,d⟩=some ⟨z',mem,d⟩∧aa z' 215=.bool true:=by
 simp[ob,ao,aE,cK,f5,l25,h25,eE,hg,h1]
variable{a27:Nat}
theorem IW{W:Int}{a10 a12 a14 a23 a25:Nat}(hg:(ops[94]?).bind (fun x=>x.dst)=some 215)(h1:aa env 215=.bool true)(l27:aa env 27=.ptr a27 0)(h27:mem[a27]? =some (.cells true 0 [.kO,.kO,.str [],.kO]))(eE:O (.fn 13) [.agg [.kO,.kO,.str [],.kO]] mem=some ⟨.bool true,none,[]⟩):
  ∃z',aX (aC prog) O 223 m0 ops oc ⟨env,mem,d⟩=some ⟨z',mem,d⟩∧aa z' 219=.bool true:=by
 simp[oc,ao,aE,cK,f5,l27,h27,eE,hg,h1]
theorem IX{W:Int}{a10 a12 a14 a23 a25 a27:Nat}(hg:(ops[98]?).bind (fun x=>x.dst)=some 219)(h1:aa env 219=.bool true)(l30:aa env 30=.bool false):
  ∃z',aX (aC prog) O 223 m0 ops od ⟨env,mem,d⟩=some ⟨z',mem,d⟩∧aa z' 4=.bool true:=by
 simp[od,ao,aE,cK,f5,l30,hg,h1]
theorem OM(l6:aa env 6=.int .i64 W)(l8:aa env 8=.str [])(l9:aa env 9=.int .i64 W)(l10:aa env 10=.ptr a10 0)(l11:aa env 11=.int .i64 W)(l12:aa env 12=.ptr a12 0)(l13:aa env 13=.int .i64 W)(l14:aa env 14=.ptr a14 0)(l15:aa env 15=.int .i64 W)(l16:aa env 16=.kO)(l17:aa env 17=.int .i64 W)(l18:aa env 18=.int .i64 0)(l19:aa env 19=.int .i64 W)(l20:aa env 20=.int .i64 0)(l21:aa env 21=.int .i64 0)(l22:aa env 22=.int .i64 W)(l23:aa env 23=.ptr a23 0)(l24:aa env 24=.int .i64 W)(l25:aa env 25=.ptr a25 0)(l26:aa env 26=.int .i64 W)(l27:aa env 27=.ptr a27 0)(l28:aa env 28=.int .i64 W)(l29:aa env 29=.int .i64 0)(l30:aa env 30=.bool false)(l31:aa env 31=.int .i64 W)(h10:mem[a10]? =some (.cells true 0 [.str [],.kO,.int .i64 0,.str [],.str [],.str []]))(h12:mem[a12]? =some (.cells true 0 [.str [],.str [],.str []]))(h14:mem[a14]? =some (.cells true 0 [.str [],.str [],.str []]))(h23:mem[a23]? =some (.cells true 0 [.kO,.kO,.str [],.kO]))(h25:mem[a25]? =some (.cells true 0 [.kO,.kO,.str [],.kO]))(h27:mem[a27]? =some (.cells true 0 [.kO,.kO,.str [],.kO]))(e10:O (.fn 30) [.agg [.str [],.kO,.int .i64 0,.str [],.str [],.str []]] mem=some ⟨.bool true,none,[]⟩)(eE:O (.fn 13) [.agg [.kO,.kO,.str [],.kO]] mem=some ⟨.bool true,none,[]⟩):
  ∃z',aX (aC prog) O 223 m0 ao ao.toList ⟨env,mem,d⟩=some ⟨z',mem,d⟩∧aa z' 4=.bool true:=by
 obtain⟨e0',r0,b0⟩:=L4 (O:=O) (m0:=m0) (ops:=ao) (mem:=mem) (d:=d) (W:=W) (a10:=a10) (a12:=a12) (a14:=a14) (a23:=a23) (a25:=a25) (a27:=a27) (l6:=l6) (l9:=l9);have k0:∀t,t<32→aa e0' t=aa env t:=fun t ht=>(fv r0 (by kernel_rfl) t ht)
 have g1:(ao[3]?).bind (fun x=>x.dst)=some 124:=by kernel_rfl
 obtain⟨e1',r1,b1⟩:=L5 (O:=O) (m0:=m0) (ops:=ao) (mem:=mem) (d:=d) (W:=W) (a10:=a10) (a12:=a12) (a14:=a14) (a23:=a23) (a25:=a25) (a27:=a27) (l6:=(k0 6 (by omega)).trans l6) (l11:=(k0 11 (by omega)).trans l11) (hg:=g1) (h1:=b0);have k1:∀t,t<32→aa e1' t=aa env t:=fun t ht=>(fv r1 (by kernel_rfl) t ht).trans (k0 t ht)
 have g2:(ao[8]?).bind (fun x=>x.dst)=some 129:=by kernel_rfl
 obtain⟨e2',r2,b2⟩:=L6 (O:=O) (m0:=m0) (ops:=ao) (mem:=mem) (d:=d) (W:=W) (a10:=a10) (a12:=a12) (a14:=a14) (a23:=a23) (a25:=a25) (a27:=a27) (l6:=(k1 6 (by omega)).trans l6) (l13:=(k1 13 (by omega)).trans l13) (hg:=g2) (h1:=b1);have k2:∀t,t<32→aa e2' t=aa env t:=fun t ht=>(fv r2 (by kernel_rfl) t ht).trans (k1 t ht)
 have g3:(ao[13]?).bind (fun x=>x.dst)=some 134:=by kernel_rfl
 obtain⟨e3',r3,b3⟩:=L7 (O:=O) (m0:=m0) (ops:=ao) (mem:=mem) (d:=d) (W:=W) (a10:=a10) (a12:=a12) (a14:=a14) (a23:=a23) (a25:=a25) (a27:=a27) (l6:=(k2 6 (by omega)).trans l6) (l15:=(k2 15 (by omega)).trans l15) (hg:=g3) (h1:=b2);have k3:∀t,t<32→aa e3' t=aa env t:=fun t ht=>(fv r3 (by kernel_rfl) t ht).trans (k2 t ht)
 have g4:(ao[18]?).bind (fun x=>x.dst)=some 139:=by kernel_rfl
 obtain⟨e4',r4,b4⟩:=L8 (O:=O) (m0:=m0) (ops:=ao) (mem:=mem) (d:=d) (W:=W) (a10:=a10) (a12:=a12) (a14:=a14) (a23:=a23) (a25:=a25) (a27:=a27) (l6:=(k3 6 (by omega)).trans l6) (l17:=(k3 17 (by omega)).trans l17) (hg:=g4) (h1:=b3);have k4:∀t,t<32→aa e4' t=aa env t:=fun t ht=>(fv r4 (by kernel_rfl) t ht).trans (k3 t ht)
 have g5:(ao[23]?).bind (fun x=>x.dst)=some 144:=by kernel_rfl
 obtain⟨e5',r5,b5⟩:=L9 (O:=O) (m0:=m0) (ops:=ao) (mem:=mem) (d:=d) (W:=W) (a10:=a10) (a12:=a12) (a14:=a14) (a23:=a23) (a25:=a25) (a27:=a27) (l6:=(k4 6 (by omega)).trans l6) (l19:=(k4 19 (by omega)).trans l19) (hg:=g5) (h1:=b4);have k5:∀t,t<32→aa e5' t=aa env t:=fun t ht=>(fv r5 (by kernel_rfl) t ht).trans (k4 t ht)
 have g6:(ao[28]?).bind (fun x=>x.dst)=some 149:=by kernel_rfl
 obtain⟨e6',r6,b6⟩:=Ma (O:=O) (m0:=m0) (ops:=ao) (mem:=mem) (d:=d) (W:=W) (a10:=a10) (a12:=a12) (a14:=a14) (a23:=a23) (a25:=a25) (a27:=a27) (l6:=(k5 6 (by omega)).trans l6) (l22:=(k5 22 (by omega)).trans l22) (hg:=g6) (h1:=b5);have k6:∀t,t<32→aa e6' t=aa env t:=fun t ht=>(fv r6 (by kernel_rfl) t ht).trans (k5 t ht)
 have g7:(ao[33]?).bind (fun x=>x.dst)=some 154:=by kernel_rfl
 obtain⟨e7',r7,b7⟩:=Mb (O:=O) (m0:=m0) (ops:=ao) (mem:=mem) (d:=d) (W:=W) (a10:=a10) (a12:=a12) (a14:=a14) (a23:=a23) (a25:=a25) (a27:=a27) (l6:=(k6 6 (by omega)).trans l6) (l24:=(k6 24 (by omega)).trans l24) (hg:=g7) (h1:=b6);have k7:∀t,t<32→aa e7' t=aa env t:=fun t ht=>(fv r7 (by kernel_rfl) t ht).trans (k6 t ht)
 have g8:(ao[38]?).bind (fun x=>x.dst)=some 159:=by kernel_rfl
 obtain⟨e8',r8,b8⟩:=Mc (O:=O) (m0:=m0) (ops:=ao) (mem:=mem) (d:=d) (W:=W) (a10:=a10) (a12:=a12) (a14:=a14) (a23:=a23) (a25:=a25) (a27:=a27) (l6:=(k7 6 (by omega)).trans l6) (l26:=(k7 26 (by omega)).trans l26) (hg:=g8) (h1:=b7);have k8:∀t,t<32→aa e8' t=aa env t:=fun t ht=>(fv r8 (by kernel_rfl) t ht).trans (k7 t ht)
 have g9:(ao[43]?).bind (fun x=>x.dst)=some 164:=by kernel_rfl
 obtain⟨e9',r9,b9⟩:=Md (O:=O) (m0:=m0) (ops:=ao) (mem:=mem) (d:=d) (W:=W) (a10:=a10) (a12:=a12) (a14:=a14) (a23:=a23) (a25:=a25) (a27:=a27) (l6:=(k8 6 (by omega)).trans l6) (l28:=(k8 28 (by omega)).trans l28) (hg:=g9) (h1:=b8);have k9:∀t,t<32→aa e9' t=aa env t:=fun t ht=>(fv r9 (by kernel_rfl) t ht).trans (k8 t ht)
 have g10:(ao[48]?).bind (fun x=>x.dst)=some 169:=by kernel_rfl
 obtain⟨e10',r10,b10⟩:=IL (O:=O) (m0:=m0) (ops:=ao) (mem:=mem) (d:=d) (W:=W) (a10:=a10) (a12:=a12) (a14:=a14) (a23:=a23) (a25:=a25) (a27:=a27) (l6:=(k9 6 (by omega)).trans l6) (l31:=(k9 31 (by omega)).trans l31) (hg:=g10) (h1:=b9);have k10:∀t,t<32→aa e10' t=aa env t:=fun t ht=>(fv r10 (by kernel_rfl) t ht).trans (k9 t ht)
 have g11:(ao[53]?).bind (fun x=>x.dst)=some 174:=by kernel_rfl
 obtain⟨e11',r11,b11⟩:=IM (O:=O) (m0:=m0) (ops:=ao) (mem:=mem) (d:=d) (W:=W) (a10:=a10) (a12:=a12) (a14:=a14) (a23:=a23) (a25:=a25) (a27:=a27) (l8:=(k10 8 (by omega)).trans l8) (hg:=g11) (h1:=b10);have k11:∀t,t<32→aa e11' t=aa env t:=fun t ht=>(fv r11 (by kernel_rfl) t ht).trans (k10 t ht)
 have g12:(ao[57]?).bind (fun x=>x.dst)=some 178:=by kernel_rfl
 obtain⟨e12',r12,b12⟩:=IN (O:=O) (m0:=m0) (ops:=ao) (mem:=mem) (d:=d) (W:=W) (a10:=a10) (a12:=a12) (a14:=a14) (a23:=a23) (a25:=a25) (a27:=a27) (l10:=(k11 10 (by omega)).trans l10) (h10:=h10) (e10:=e10) (hg:=g12) (h1:=b11);have k12:∀t,t<32→aa e12' t=aa env t:=fun t ht=>(fv r12 (by kernel_rfl) t ht).trans (k11 t ht)
 have g13:(ao[61]?).bind (fun x=>x.dst)=some 182:=by kernel_rfl
 obtain⟨e13',r13,b13⟩:=IP (O:=O) (m0:=m0) (ops:=ao) (mem:=mem) (d:=d) (W:=W) (a10:=a10) (a12:=a12) (a14:=a14) (a23:=a23) (a25:=a25) (a27:=a27) (l12:=(k12 12 (by omega)).trans l12) (h12:=h12) (hg:=g13) (h1:=b12);have k13:∀t,t<32→aa e13' t=aa env t:=fun t ht=>(fv r13 (by kernel_rfl) t ht).trans (k12 t ht)
 have g14:(ao[66]?).bind (fun x=>x.dst)=some 187:=by kernel_rfl
 obtain⟨e14',r14,b14⟩:=IQ (O:=O) (m0:=m0) (ops:=ao) (mem:=mem) (d:=d) (W:=W) (a10:=a10) (a12:=a12) (a14:=a14) (a23:=a23) (a25:=a25) (a27:=a27) (l12:=(k13 12 (by omega)).trans l12) (h12:=h12) (l14:=(k13 14 (by omega)).trans l14) (h14:=h14) (hg:=g14) (h1:=b13);have k14:∀t,t<32→aa e14' t=aa env t:=fun t ht=>(fv r14 (by kernel_rfl) t ht).trans (k13 t ht)
 have g15:(ao[71]?).bind (fun x=>x.dst)=some 192:=by kernel_rfl
 obtain⟨e15',r15,b15⟩:=IS (O:=O) (m0:=m0) (ops:=ao) (mem:=mem) (d:=d) (W:=W) (a10:=a10) (a12:=a12) (a14:=a14) (a23:=a23) (a25:=a25) (a27:=a27) (l16:=(k14 16 (by omega)).trans l16) (hg:=g15) (h1:=b14);have k15:∀t,t<32→aa e15' t=aa env t:=fun t ht=>(fv r15 (by kernel_rfl) t ht).trans (k14 t ht)
 have g16:(ao[76]?).bind (fun x=>x.dst)=some 197:=by kernel_rfl
 obtain⟨e16',r16,b16⟩:=IT (O:=O) (m0:=m0) (ops:=ao) (mem:=mem) (d:=d) (W:=W) (a10:=a10) (a12:=a12) (a14:=a14) (a23:=a23) (a25:=a25) (a27:=a27) (l18:=(k15 18 (by omega)).trans l18) (l20:=(k15 20 (by omega)).trans l20) (l21:=(k15 21 (by omega)).trans l21) (l29:=(k15 29 (by omega)).trans l29) (hg:=g16) (h1:=b15);have k16:∀t,t<32→aa e16' t=aa env t:=fun t ht=>(fv r16 (by kernel_rfl) t ht).trans (k15 t ht)
 have g17:(ao[86]?).bind (fun x=>x.dst)=some 207:=by kernel_rfl
 obtain⟨e17',r17,b17⟩:=IU (O:=O) (m0:=m0) (ops:=ao) (mem:=mem) (d:=d) (W:=W) (a10:=a10) (a12:=a12) (a14:=a14) (a23:=a23) (a25:=a25) (a27:=a27) (l23:=(k16 23 (by omega)).trans l23) (h23:=h23) (eE:=eE) (hg:=g17) (h1:=b16);have k17:∀t,t<32→aa e17' t=aa env t:=fun t ht=>(fv r17 (by kernel_rfl) t ht).trans (k16 t ht)
 have g18:(ao[90]?).bind (fun x=>x.dst)=some 211:=by kernel_rfl
 obtain⟨e18',r18,b18⟩:=IV (O:=O) (m0:=m0) (ops:=ao) (mem:=mem) (d:=d) (W:=W) (a10:=a10) (a12:=a12) (a14:=a14) (a23:=a23) (a25:=a25) (a27:=a27) (l25:=(k17 25 (by omega)).trans l25) (h25:=h25) (eE:=eE) (hg:=g18) (h1:=b17);have k18:∀t,t<32→aa e18' t=aa env t:=fun t ht=>(fv r18 (by kernel_rfl) t ht).trans (k17 t ht)
 have g19:(ao[94]?).bind (fun x=>x.dst)=some 215:=by kernel_rfl
 obtain⟨e19',r19,b19⟩:=IW (O:=O) (m0:=m0) (ops:=ao) (mem:=mem) (d:=d) (W:=W) (a10:=a10) (a12:=a12) (a14:=a14) (a23:=a23) (a25:=a25) (a27:=a27) (l27:=(k18 27 (by omega)).trans l27) (h27:=h27) (eE:=eE) (hg:=g19) (h1:=b18);have k19:∀t,t<32→aa e19' t=aa env t:=fun t ht=>(fv r19 (by kernel_rfl) t ht).trans (k18 t ht)
 have g20:(ao[98]?).bind (fun x=>x.dst)=some 219:=by kernel_rfl
 obtain⟨e20',r20,b20⟩:=IX (O:=O) (m0:=m0) (ops:=ao) (mem:=mem) (d:=d) (W:=W) (a10:=a10) (a12:=a12) (a14:=a14) (a23:=a23) (a25:=a25) (a27:=a27) (l30:=(k19 30 (by omega)).trans l30) (hg:=g20) (h1:=b19);exact⟨e20',by rw[IK];exact aq r0 (aq r1 (aq r2 (aq r3 (aq r4 (aq r5 (aq r6 (aq r7 (aq r8 (aq r9 (aq r10 (aq r11 (aq r12 (aq r13 (aq r14 (aq r15 (aq r16 (aq r17 (aq r18 (aq r19 (r20)))))))))))))))))))),b20⟩
noncomputable def qq:Code:=ui 2 aE
noncomputable def qs:Code:=ui 3 aE
noncomputable def mP:Code:=ui 6 aE
noncomputable def mM:Code:=ui 11 aE
noncomputable def mN:Code:=ui 14 aE
noncomputable def mO:Code:=ui 18 aE
theorem Mk:mP=.seq (cK 6 aE) (.seq (cK 7 aE) (.seq (cK 8 aE) (.seq (cK 9 aE) (.seq (cK 10 aE) (mM))))):=by kernel_rfl
theorem IZ:mM=.seq (cK 11 aE) (.seq (cK 12 aE) (.seq (cK 13 aE) (mN))):=by kernel_rfl
theorem I2:mN=.seq (cK 14 aE) (.seq (cK 15 aE) (.seq (cK 16 aE) (.seq (cK 17 aE) (mO)))):=by kernel_rfl
theorem I3:mO=.seq (.region 21 ao false) .ret:=by kernel_rfl
def eJ(O:aac) (T:Code) (N:Mem) (env:Env):Prop:=
 ∀d:Bool,∃r:Env×Mem×Bool,aQ (aC prog) (fun _=>[]) O 1 223 1 true T ⟨env,N,d⟩=some (.ret,⟨r.1,r.2.1,r.2.2⟩)∧aa r.1 4=.bool true∧r.2.1.take 1=N.take 1
theorem FZ(M:Mem):mB prog 30 [.agg [.str [],.kO,.int .i64 0,.str [],.str [],.str []]] M (.bool true) M:=by
 have hG:aO prog 30=some f30:=by kernel_rfl
 have eV:iI (aC prog) 20 51 (.agg [.str [],.str [],.str []]) (.agg [.str [],.str [],.str []])=some true:=by kernel_rfl
 refine aB (ah _) (lv:=fun _=>[]) (K:=1) rfl rfl ?_ M;simp[ad,hG,f30,bO,eV]
variable{N:Mem}
theorem Mh{x:List AV}(hm:1≤N.length)(e10:∀Z,O (.fn 30) [.agg [.str [],.kO,.int .i64 0,.str [],.str [],.str []]] (N++Z)=some ⟨.bool true,none,[]⟩)(eE:∀Z,O (.fn 13) [.agg [.kO,.kO,.str [],.kO]] (N++Z)=some ⟨.bool true,none,[]⟩):
  ∀env:Env,(aa env 6=.int .i64 W∧aa env 8=.str []∧aa env 9=.int .i64 W∧aa env 10=.ptr (N.length+1) 0∧aa env 11=.int .i64 W∧aa env 12=.ptr (N.length+2) 0∧aa env 13=.int .i64 W∧aa env 14=.ptr (N.length+3) 0∧aa env 15=.int .i64 W∧aa env 16=.kO∧aa env 17=.int .i64 W∧aa env 18=.int .i64 0∧aa env 19=.int .i64 W∧aa env 20=.int .i64 0∧aa env 21=.int .i64 0∧aa env 22=.int .i64 W∧aa env 23=.ptr (N.length+4) 0∧aa env 24=.int .i64 W∧aa env 25=.ptr (N.length+5) 0∧aa env 26=.int .i64 W∧aa env 27=.ptr (N.length+6) 0∧aa env 28=.int .i64 W∧aa env 29=.int .i64 0∧aa env 30=.bool false∧aa env 31=.int .i64 W)→eJ O mO (N++[.cells true 0 x,.cells true 0 [.str [],.kO,.int .i64 0,.str [],.str [],.str []],.cells true 0 [.str [],.str [],.str []],.cells true 0 [.str [],.str [],.str []],.cells true 0 [.kO,.kO,.str [],.kO],.cells true 0 [.kO,.kO,.str [],.kO],.cells true 0 [.kO,.kO,.str [],.kO]]) env:=by
 rintro env ⟨l6,l8,l9,l10,l11,l12,l13,l14,l15,l16,l17,l18,l19,l20,l21,l22,l23,l24,l25,l26,l27,l28,l29,l30,l31⟩ d;rw[I3];obtain⟨z',h1,h2⟩:=OM (O:=O) (m0:=1) (mem:=N++[.cells true 0 x,.cells true 0 [.str [],.kO,.int .i64 0,.str [],.str [],.str []],.cells true 0 [.str [],.str [],.str []],.cells true 0 [.str [],.str [],.str []],.cells true 0 [.kO,.kO,.str [],.kO],.cells true 0 [.kO,.kO,.str [],.kO],.cells true 0 [.kO,.kO,.str [],.kO]]) (d:=d) l6 l8 l9 l10 l11 l12 l13 l14 l15 l16 l17 l18 l19 l20 l21 l22 l23 l24 l25 l26 l27 l28 l29 l30 l31 (dO _ _ 1) (dO _ _ 2) (dO _ _ 3) (dO _ _ 4) (dO _ _ 5) (dO _ _ 6) (e10 _) (eE _);refine⟨(z',N++[.cells true 0 x,.cells true 0 [.str [],.kO,.int .i64 0,.str [],.str [],.str []],.cells true 0 [.str [],.str [],.str []],.cells true 0 [.str [],.str [],.str []],.cells true 0 [.kO,.kO,.str [],.kO],.cells true 0 [.kO,.kO,.str [],.kO],.cells true 0 [.kO,.kO,.str [],.kO]],d),?_,h2,rfl⟩;obtain⟨ops,ho⟩:∃ops,ops=ao:=⟨_,rfl⟩
 rw[←ho] at h1 ⊢;simp[h1]
variable{a1 a2 a4:AV}{a3 x1 x2 x3:List UInt8}{a5:Nat}
section
variable (hm:1≤N.length)(d1:a1.qK=true)(d2:a2.qK=true)(d4:a4.qK=true)(k1:a1.known=true)(k2:a2.known=true)(k4:a4.known=true)(h5:N[a5]? =some (.cells true 0 [a1,a2,.str a3,a4]))
include hm d1 d2 d4 k1 k2 k4 h5
theorem Mg(eBefore:∀Z,O (.fn 16) [.agg [a1,a2,.str a3,a4],.int .i64 0] (N++Z)=some ⟨.tuple [.agg [.kO,.kO,.str [],.kO],.int .i64 W],none,[]⟩)(eWithout:∀Z,O (.fn 15) [.agg [a1,a2,.str a3,a4],.int .i64 0] (N++Z)=some ⟨.tuple [.agg [.kO,.kO,.str [],.kO],.int .i64 W],none,[]⟩)(eAppend:∀Z,O (.fn 10) [.agg [a1,a2,.str a3,a4],.agg [.int .i64 0,.str [],.kO,.kO,.kO,.str [],.str [],.str [],.str [],.str [],.str [],.str [],.str [],.str [],.str [],.kO,.str [],.str [],.str [],.str [],.str [],.str [],.str [],.str [],.str [],.int .i64 0,.int .i64 0,.int .i64 0,.int .i64 0,.str [],.str [],.str []]] (N++Z)=some ⟨.tuple [.agg [.kO,.kO,.str [],.kO],.int .i64 W],none,[]⟩)(ZB:∀Z,O (.fn 29) [.agg [a1,a2,.str a3,a4],.kO] (N++Z)=some ⟨.tuple [.int .i64 0,.bool false,.int .i64 W],none,[]⟩)(hT:∀env:Env,(aa env 6=.int .i64 W∧aa env 8=.str []∧aa env 9=.int .i64 W∧aa env 10=.ptr (N.length+1) 0∧aa env 11=.int .i64 W∧aa env 12=.ptr (N.length+2) 0∧aa env 13=.int .i64 W∧aa env 14=.ptr (N.length+3) 0∧aa env 15=.int .i64 W∧aa env 16=.kO∧aa env 17=.int .i64 W∧aa env 18=.int .i64 0∧aa env 19=.int .i64 W∧aa env 20=.int .i64 0∧aa env 21=.int .i64 0∧aa env 22=.int .i64 W∧aa env 23=.ptr (N.length+4) 0∧aa env 24=.int .i64 W∧aa env 25=.ptr (N.length+5) 0∧aa env 26=.int .i64 W∧aa env 27=.ptr (N.length+6) 0∧aa env 28=.int .i64 W∧aa env 29=.int .i64 0∧aa env 30=.bool false∧aa env 31=.int .i64 W)→eJ O mO (N++[.cells true 0 [.str x1,.str x2,.str x3],.cells true 0 [.str [],.kO,.int .i64 0,.str [],.str [],.str []],.cells true 0 [.str [],.str [],.str []],.cells true 0 [.str [],.str [],.str []],.cells true 0 [.kO,.kO,.str [],.kO],.cells true 0 [.kO,.kO,.str [],.kO],.cells true 0 [.kO,.kO,.str [],.kO]]) env):
  ∀env:Env,(aa env 5=.ptr a5 0∧aa env 6=.int .i64 W∧aa env 8=.str []∧aa env 9=.int .i64 W∧aa env 10=.ptr (N.length+1) 0∧aa env 11=.int .i64 W∧aa env 12=.ptr (N.length+2) 0∧aa env 13=.int .i64 W∧aa env 14=.ptr (N.length+3) 0∧aa env 15=.int .i64 W∧aa env 16=.kO∧aa env 17=.int .i64 W∧aa env 18=.int .i64 0∧aa env 19=.int .i64 W∧aa env 20=.int .i64 0∧aa env 21=.int .i64 0∧aa env 22=.int .i64 W)→eJ O mN (N++[.cells true 0 [.str x1,.str x2,.str x3],.cells true 0 [.str [],.kO,.int .i64 0,.str [],.str [],.str []],.cells true 0 [.str [],.str [],.str []],.cells true 0 [.str [],.str [],.str []]]) env:=by
 rintro env ⟨l5,l6,l8,l9,l10,l11,l12,l13,l14,l15,l16,l17,l18,l19,l20,l21,l22⟩;intro d;have WB:∀j,(N.length+j<1)=False:=fun j=>by rw[eq_iff_iff,iff_false];omega
 have Z0:(N.length<1)=False:=by rw[eq_iff_iff,iff_false];omega
 have Xq:¬N=[]:=by rintro rfl;simp at hm
 have tk:∀Z:Mem,(N++Z).take 1=N.take 1:=fun Z=>List.take_append_of_le_length (by omega)
 have l5a:=(List.getElem?_eq_some_iff.1 h5).1;have h5' :∀Z,(N++Z)[a5]? =some (.cells true 0 [a1,a2,.str a3,a4]):=fun Z=>by rw[List.getElem?_append_left l5a];exact h5
 rw[I2];obtain⟨F,hF⟩:=rr (β:=Env×Mem×Bool) (fun env d h=>hT env h d);have H1:=fun env d h=>(hF env d h).1
 have P':=fun env d h=>(hF env d h).2.1
 have Xv:=fun env d h=>(hF env d h).2.2
 clear hF hT;obtain⟨T,X'⟩:∃T,T=mO:=⟨_,rfl⟩
 rw[←X'];simp only[←X'] at H1;simp only[tk] at Xv;have h:∃e',aQ (aC prog) (fun _=>[]) O 1 223 1 true (.seq (cK 14 aE) (.seq (cK 15 aE) (.seq (cK 16 aE) (.seq (cK 17 aE) T)))) ⟨env,(N++[.cells true 0 [.str x1,.str x2,.str x3],.cells true 0 [.str [],.kO,.int .i64 0,.str [],.str [],.str []],.cells true 0 [.str [],.str [],.str []],.cells true 0 [.str [],.str [],.str []]]),d⟩=some (.ret,e')∧aa e'.env 4=.bool true∧e'.mem.take 1=N.take 1:=by clear X';simp[-AV.qK,-AV.known,-AV.cells,vS,-dY,-List.all_eq_true,aE,f5,cK,bO,l5,l6,l8,l9,l10,l11,l12,l13,l14,l15,l16,l17,l18,l19,l20,l21,l22,h5',eBefore,eWithout,eAppend,ZB,Xq,H1,P',Xv];done
 obtain⟨⟨e1,e2,e3⟩,k1,k2,k3⟩:=h;exact⟨(e1,e2,e3),k1,k2,by rw[k3];exact(tk _).symm⟩
theorem Mf(eUnits:∀Z,O (.fn 26) [.agg [a1,a2,.str a3,a4]] (N++Z)=some ⟨.tuple [.kO,.int .i64 W],none,[]⟩)(eRank:∀Z,O (.fn 27) [.agg [a1,a2,.str a3,a4],.str [98,97,115,101]] (N++Z)=some ⟨.tuple [.int .i64 0,.int .i64 W],none,[]⟩)(eSource:∀Z,O (.fn 28) [.agg [a1,a2,.str a3,a4],.str [98,97,115,101]] (N++Z)=some ⟨.tuple [.int .i64 0,.int .i64 0,.int .i64 W],none,[]⟩)(hT:∀env:Env,(aa env 5=.ptr a5 0∧aa env 6=.int .i64 W∧aa env 8=.str []∧aa env 9=.int .i64 W∧aa env 10=.ptr (N.length+1) 0∧aa env 11=.int .i64 W∧aa env 12=.ptr (N.length+2) 0∧aa env 13=.int .i64 W∧aa env 14=.ptr (N.length+3) 0∧aa env 15=.int .i64 W∧aa env 16=.kO∧aa env 17=.int .i64 W∧aa env 18=.int .i64 0∧aa env 19=.int .i64 W∧aa env 20=.int .i64 0∧aa env 21=.int .i64 0∧aa env 22=.int .i64 W)→eJ O mN (N++[.cells true 0 [.str x1,.str x2,.str x3],.cells true 0 [.str [],.kO,.int .i64 0,.str [],.str [],.str []],.cells true 0 [.str [],.str [],.str []],.cells true 0 [.str [],.str [],.str []]]) env):
  ∀env:Env,(aa env 5=.ptr a5 0∧aa env 6=.int .i64 W∧aa env 7=.ptr N.length 0∧aa env 8=.str []∧aa env 9=.int .i64 W∧aa env 10=.ptr (N.length+1) 0∧aa env 11=.int .i64 W∧aa env 12=.ptr (N.length+2) 0∧aa env 13=.int .i64 W∧aa env 14=.ptr (N.length+3) 0∧aa env 15=.int .i64 W)→eJ O mM (N++[.cells true 0 [.str x1,.str x2,.str x3],.cells true 0 [.str [],.kO,.int .i64 0,.str [],.str [],.str []],.cells true 0 [.str [],.str [],.str []],.cells true 0 [.str [],.str [],.str []]]) env:=by
 rintro env ⟨l5,l6,l7,l8,l9,l10,l11,l12,l13,l14,l15⟩;intro d;have WB:∀j,(N.length+j<1)=False:=fun j=>by rw[eq_iff_iff,iff_false];omega
 have Z0:(N.length<1)=False:=by rw[eq_iff_iff,iff_false];omega
 have Xq:¬N=[]:=by rintro rfl;simp at hm
 have tk:∀Z:Mem,(N++Z).take 1=N.take 1:=fun Z=>List.take_append_of_le_length (by omega)
 have l5a:=(List.getElem?_eq_some_iff.1 h5).1;have h5' :∀Z,(N++Z)[a5]? =some (.cells true 0 [a1,a2,.str a3,a4]):=fun Z=>by rw[List.getElem?_append_left l5a];exact h5
 rw[IZ];obtain⟨F,hF⟩:=rr (β:=Env×Mem×Bool) (fun env d h=>hT env h d);have H1:=fun env d h=>(hF env d h).1
 have P':=fun env d h=>(hF env d h).2.1
 have Xv:=fun env d h=>(hF env d h).2.2
 clear hF hT;obtain⟨T,X'⟩:∃T,T=mN:=⟨_,rfl⟩
 rw[←X'];simp only[←X'] at H1;simp only[tk] at Xv;have h:∃e',aQ (aC prog) (fun _=>[]) O 1 223 1 true (.seq (cK 11 aE) (.seq (cK 12 aE) (.seq (cK 13 aE) T))) ⟨env,(N++[.cells true 0 [.str x1,.str x2,.str x3],.cells true 0 [.str [],.kO,.int .i64 0,.str [],.str [],.str []],.cells true 0 [.str [],.str [],.str []],.cells true 0 [.str [],.str [],.str []]]),d⟩=some (.ret,e')∧aa e'.env 4=.bool true∧e'.mem.take 1=N.take 1:=by clear X';simp[-AV.qK,-AV.known,-AV.cells,-dY,-List.all_eq_true,aE,f5,cK,l5,l6,l8,l9,l10,l11,l12,l13,l14,l15,h5',eUnits,eRank,eSource,H1,P',Xv];done
 obtain⟨⟨e1,e2,e3⟩,k1,k2,k3⟩:=h;exact⟨(e1,e2,e3),k1,k2,by rw[k3];exact(tk _).symm⟩
theorem OP(espot:∀Z,O (.fn 21) [.int .i64 0,.int .i64 0,.int .i64 0] (N++Z)=some ⟨.agg [.str x1,.str x2,.str x3],none,[]⟩)(eAt:∀Z,O (.fn 22) [.agg [a1,a2,.str a3,a4],.agg [.str x1,.str x2,.str x3]] (N++Z)=some ⟨.tuple [.str [],.int .i64 W],none,[]⟩)(eFollow:∀Z,O (.fn 23) [.agg [a1,a2,.str a3,a4],.agg [.str x1,.str x2,.str x3]] (N++Z)=some ⟨.tuple [.agg [.str [],.kO,.int .i64 0,.str [],.str [],.str []],.int .i64 W],none,[]⟩)(eBack:∀Z,O (.fn 24) [.agg [a1,a2,.str a3,a4],.agg [.str x1,.str x2,.str x3],.int .i64 0] (N++Z)=some ⟨.tuple [.agg [.str [],.str [],.str []],.int .i64 W],none,[]⟩)(eForth:∀Z,O (.fn 25) [.agg [a1,a2,.str a3,a4],.agg [.str x1,.str x2,.str x3],.int .i64 0] (N++Z)=some ⟨.tuple [.agg [.str [],.str [],.str []],.int .i64 W],none,[]⟩)(hT:∀env:Env,(aa env 5=.ptr a5 0∧aa env 6=.int .i64 W∧aa env 7=.ptr N.length 0∧aa env 8=.str []∧aa env 9=.int .i64 W∧aa env 10=.ptr (N.length+1) 0∧aa env 11=.int .i64 W∧aa env 12=.ptr (N.length+2) 0∧aa env 13=.int .i64 W∧aa env 14=.ptr (N.length+3) 0∧aa env 15=.int .i64 W)→eJ O mM (N++[.cells true 0 [.str x1,.str x2,.str x3],.cells true 0 [.str [],.kO,.int .i64 0,.str [],.str [],.str []],.cells true 0 [.str [],.str [],.str []],.cells true 0 [.str [],.str [],.str []]]) env):
  ∀env:Env,(aa env 5=.ptr a5 0∧aa env 6=.int .i64 W)→eJ O mP N env:=by
 rintro env ⟨l5,l6⟩;intro d;have WB:∀j,(N.length+j<1)=False:=fun j=>by rw[eq_iff_iff,iff_false];omega
 have Z0:(N.length<1)=False:=by rw[eq_iff_iff,iff_false];omega
 have Xq:¬N=[]:=by rintro rfl;simp at hm
 have tk:∀Z:Mem,(N++Z).take 1=N.take 1:=fun Z=>List.take_append_of_le_length (by omega)
 have l5a:=(List.getElem?_eq_some_iff.1 h5).1;have h5' :∀Z,(N++Z)[a5]? =some (.cells true 0 [a1,a2,.str a3,a4]):=fun Z=>by rw[List.getElem?_append_left l5a];exact h5
 have espot0:=espot [];rw[List.append_nil] at espot0;rw[Mk];obtain⟨F,hF⟩:=rr (β:=Env×Mem×Bool) (fun env d h=>hT env h d);have H1:=fun env d h=>(hF env d h).1
 have P':=fun env d h=>(hF env d h).2.1
 have Xv:=fun env d h=>(hF env d h).2.2
 clear hF hT;obtain⟨T,X'⟩:∃T,T=mM:=⟨_,rfl⟩
 rw[←X'];simp only[←X'] at H1;simp only[tk] at Xv;have h:∃e',aQ (aC prog) (fun _=>[]) O 1 223 1 true (.seq (cK 6 aE) (.seq (cK 7 aE) (.seq (cK 8 aE) (.seq (cK 9 aE) (.seq (cK 10 aE) T))))) ⟨env,N,d⟩=some (.ret,e')∧aa e'.env 4=.bool true∧e'.mem.take 1=N.take 1:=by clear X';simp[-AV.qK,-AV.known,-AV.cells,vS,-dY,-List.all_eq_true,aE,f5,cK,l5,l6,h5',espot0,eAt,eFollow,eBack,eForth,Xq,H1,P',Xv];done
 obtain⟨⟨e1,e2,e3⟩,k1,k2,k3⟩:=h;exact⟨(e1,e2,e3),k1,k2,by rw[k3]⟩
end
theorem Mj:qs=.seq (cK 3 aE) (.seq (cK 4 aE) (.seq (cK 5 aE) (mP))):=by kernel_rfl
variable{q1 q2 q4 u5:AV}{q3:List UInt8}{u1 u2 u3:Int}{u4:Bool}
theorem OO{new2:Mem}(hm:1≤N.length)(d1:a1.qK=true)(d2:a2.qK=true)(d4:a4.qK=true)(k1:a1.known=true)(k2:a2.known=true)(k4:a4.known=true)(h5:N[a5]? =some (.cells true 0 [a1,a2,.str a3,a4]))(h2:N[1]? =some (.cells true 0 [.int .u8 u1,.int .i8 u2,.int .i8 u3,.bool u4,u5]))(cu:u5.qK=true)(ku:u5.known=true)(eCk:O (.fn 12) [.agg [a1,a2,.str a3,a4]] N=some ⟨.int .i64 W,none,[]⟩)(eCh:O (.fn 20) [.agg [a1,a2,.str a3,a4]] N=some ⟨.int .i64 W,none,[]⟩)(eM:O (.fn 8) [.agg [.int .u8 u1,.int .i8 u2,.int .i8 u3,.bool u4,u5]] N=some ⟨.agg [q1,q2,.str q3,q4],none,new2⟩)(eC2:O (.fn 20) [.agg [q1,q2,.str q3,q4]] (N++new2)=some ⟨.int .i64 0,none,[]⟩)(hT:W≠0→∀env:Env,(aa env 5=.ptr a5 0∧aa env 6=.int .i64 W)→eJ O mP (N++new2) env):
  ∀env:Env,(aa env 2=.ptr 1 0∧aa env 5=.ptr a5 0)→eJ O qs N env:=by
 rintro env ⟨l2,l5⟩ d;have tk:∀Z:Mem,(N++Z).take 1=N.take 1:=fun Z=>List.take_append_of_le_length (by omega)
 rw[Mj];by_cases hW:W=0
 ·subst hW
  obtain⟨T,X'⟩:∃T,T=mP:=⟨_,rfl⟩
  rw[←X'];have h:∃e',aQ (aC prog) (fun _=>[]) O 1 223 1 true (.seq (cK 3 aE) (.seq (cK 4 aE) (.seq (cK 5 aE) T))) ⟨env,N,d⟩=some (.ret,e')∧aa e'.env 4=.bool true∧e'.mem.take 1=N.take 1:=by clear X' hT;simp[-AV.qK,-AV.known,-AV.cells,-dY,-List.all_eq_true,aE,f5,cK,l2,l5,h2,h5,eCk,eCh,eM,eC2,tk];done
  obtain⟨⟨e1,e2,e3⟩,k1,k2,k3⟩:=h;exact⟨(e1,e2,e3),k1,k2,k3⟩
 ·have hT:=hT hW
  obtain⟨F,hF⟩:=rr (β:=Env×Mem×Bool) (fun env d h=>hT env h d);have H1:=fun env d h=>(hF env d h).1
  have P':=fun env d h=>(hF env d h).2.1
  have Xv:=fun env d h=>(hF env d h).2.2
  clear hF hT;obtain⟨T,X'⟩:∃T,T=mP:=⟨_,rfl⟩
  rw[←X'];simp only[←X'] at H1;simp only[tk] at Xv;have h:∃e',aQ (aC prog) (fun _=>[]) O 1 223 1 true (.seq (cK 3 aE) (.seq (cK 4 aE) (.seq (cK 5 aE) T))) ⟨env,N,d⟩=some (.ret,e')∧aa e'.env 4=.bool true∧e'.mem.take 1=N.take 1:=by clear X';simp[-AV.qK,-AV.known,-AV.cells,-dY,-List.all_eq_true,aE,f5,cK,l2,l5,h2,h5,eCk,eCh,eM,eC2,hW,H1,P',Xv];done
  obtain⟨⟨e1,e2,e3⟩,k1,k2,k3⟩:=h;exact⟨(e1,e2,e3),k1,k2,k3⟩
theorem Mi:qq=.seq (cK 2 aE) qs:=by kernel_rfl
variable{M nC nM:Mem}{i k:Int}
theorem ON(hm:3≤M.length)(d1:a1.qK=true)(d2:a2.qK=true)(d4:a4.qK=true)(k1:a1.known=true)(k2:a2.known=true)(k4:a4.known=true)(h2:M[1]? =some (.cells true 0 [.int .u8 u1,.int .i8 u2,.int .i8 u3,.bool u4,u5]))(h3:M[2]? =some (.cells true 0 [.int .u8 k,.int .u8 i]))(cu:u5.qK=true)(ku:u5.known=true)(cq:q1.qK=true∧q2.qK=true∧q4.qK=true∧q1.known=true∧q2.known=true∧q4.known=true)(eM:O (.fn 8) [.agg [.int .u8 u1,.int .i8 u2,.int .i8 u3,.bool u4,u5]] M=some ⟨.agg [q1,q2,.str q3,q4],none,nM⟩)(eC:O (.fn 19) [.agg [q1,q2,.str q3,q4],.agg [.int .u8 k,.int .u8 i]] (M++nM)=some ⟨.agg [a1,a2,.str a3,a4],none,nC⟩)(rP:aaZ M.length [.int .u8 u1,.int .i8 u2,.int .i8 u3,.bool u4,u5])(rM:aaZ (M.length+nM.length) [q1,q2,.str q3,q4])(rC:aaZ (M.length+(nM.length+nC.length)) [a1,a2,.str a3,a4])(oM:OkN (M.length+nM.length) nM)(oC:OkN (M.length+(nM.length+nC.length)) nC)(hT:∀env:Env,(aa env 2=.ptr 1 0∧aa env 5=.ptr (M.length+(nM.length+nC.length)) 0)→eJ O qs (M++(nM++(nC++[.cells true 0 [a1,a2,.str a3,a4]]))) env):
  ∀env:Env,(aa env 2=.ptr 1 0∧aa env 3=.ptr 2 0)→eJ O qq M env:=by
 rintro env ⟨l2,l3⟩ d;have WM :=bH (rfl:aP f5=_) (ls:=[[0,1,0,7,0,31]]) (by kernel_rfl);simp only[aP,bQ,f5,List.nil_append,List.append_nil,List.map_cons,List.map_nil,List.cons.injEq,and_true] at WM;have tk:∀Z:Mem,(M++Z).take 1=M.take 1:=fun Z=>List.take_append_of_le_length (by omega)
 have WB:∀j,(M.length+j<1)=False:=fun j=>by rw[eq_iff_iff,iff_false];omega
 have Z0:(M.length<1)=False:=by rw[eq_iff_iff,iff_false];omega
 have Xq:¬M=[]:=by rintro rfl;simp at hm
 have Zq :∀Z,(M++Z)[1]? =some (.cells true 0 [.int .u8 u1,.int .i8 u2,.int .i8 u3,.bool u4,u5]):=fun Z=>by rw[List.getElem?_append_left (by omega)];exact h2
 have h3' :∀Z,(M++Z)[2]? =some (.cells true 0 [.int .u8 k,.int .u8 i]):=fun Z=>by rw[List.getElem?_append_left (by omega)];exact h3
 have x1:∀j,(1<M.length+j)=True:=fun j=>by rw[eq_iff_iff,iff_true];omega
 have x2:∀j,(2<M.length+j)=True:=fun j=>by rw[eq_iff_iff,iff_true];omega
 have x10:(1<M.length)=True:=by rw[eq_iff_iff,iff_true];omega
 have x20:(2<M.length)=True:=by rw[eq_iff_iff,iff_true];omega
 have y1:∀j,(1=M.length+j)=False:=fun j=>by rw[eq_iff_iff,iff_false];omega
 have y2:∀j,(2=M.length+j)=False:=fun j=>by rw[eq_iff_iff,iff_false];omega
 have y10:(1=M.length)=False:=by rw[eq_iff_iff,iff_false];omega
 have y20:(2=M.length)=False:=by rw[eq_iff_iff,iff_false];omega
 have z1:∀j,(M.length+j≤1)=False:=fun j=>by rw[eq_iff_iff,iff_false];omega
 have z2:∀j,(M.length+j≤2)=False:=fun j=>by rw[eq_iff_iff,iff_false];omega
 obtain⟨c1,c2,c4,kk1,kk2,kk4⟩:=cq;have p_1:=rP (fun b=>decide (b<M.length)) (by intro b hb;simp only[decide_eq_true_eq];omega);have p_2:=rP (fun b=>decide (b<M.length+1)) (by intro b hb;simp only[decide_eq_true_eq];omega);have m_1:=rM (fun b=>decide (b<M.length+nM.length)) (by intro b hb;simp only[decide_eq_true_eq];omega);have m_2:=rM (fun b=>decide (b<M.length+(nM.length+1))) (by intro b hb;simp only[decide_eq_true_eq];omega);have c_1:=rC (fun b=>decide (b<M.length+(nM.length+nC.length))) (by intro b hb;simp only[decide_eq_true_eq];omega);have c_2:=rC (fun b=>decide (b<M.length+(nM.length+(nC.length+1)))) (by intro b hb;simp only[decide_eq_true_eq];omega);have o_1:=oM (fun b=>decide (b<M.length+nM.length)) (by intro b hb;simp only[decide_eq_true_eq];omega);have o_2:=oC (fun b=>decide (b<M.length+(nM.length+nC.length))) (by intro b hb;simp only[decide_eq_true_eq];omega);simp only[AV.aaa,Bool.and_eq_true] at p_1 p_2 m_1 m_2 c_1 c_2;obtain⟨_,_,_,_,p11,_⟩:=p_1;obtain⟨_,_,_,_,p21,_⟩:=p_2;obtain⟨m11,m12,_,m13,_⟩:=m_1;obtain⟨m21,m22,_,m23,_⟩:=m_2;obtain⟨c11,c12,_,c13,_⟩:=c_1;obtain⟨c21,c22,_,c23,_⟩:=c_2;clear rP rM rC oM oC;rw[Mi];obtain⟨F,hF⟩:=rr (β:=Env×Mem×Bool) (fun env d h=>hT env h d);have H1:=fun env d h=>(hF env d h).1
 have P':=fun env d h=>(hF env d h).2.1
 have Xv:=fun env d h=>(hF env d h).2.2
 clear hF hT;obtain⟨T,X'⟩:∃T,T=qs:=⟨_,rfl⟩
 rw[←X'];simp only[←X'] at H1;simp only[tk] at Xv;have h:∃e',aQ (aC prog) (fun _=>[]) O 1 223 1 true (.seq (cK 2 aE) T) ⟨env,M,d⟩=some (.ret,e')∧aa e'.env 4=.bool true∧e'.mem.take 1=M.take 1:=by clear X';simp[-getElem?_pos,-AV.qK,-AV.known,-AV.cells,-eI,-bD,-bh,-ay,-AV.HK,-aae.HK,-List.all_eq_true,vS,rS,mS,fa,br WM,cO,eB,fg,cY,cj,iT,bef,Nat.testBit,aE,f5,cK,l2,l3,h2,h3',x20,eM,eC,d1,d2,d4,p11,m11,m12,m13,c11,c12,c13,c21,c22,c23,o_1,o_2,Xq,H1,P',Xv];done
 obtain⟨⟨e1,e2,e3⟩,k1,k2,k3⟩:=h;exact⟨(e1,e2,e3),k1,k2,k3⟩
theorem Ff{P:Program}{f:FuncId}{args:List AV}{M' :Mem}{v:AV}(h:mB P f args M v M'):mB P f args M v (M' ++[]):=by rwa [List.append_nil]
theorem QS:f5.body=some (.seq (cK 0 aE) (.seq (cK 1 aE) qq)):=by kernel_rfl
variable{X:aae}{a:AV}{s:aaf}
theorem Me(hO:qS prog O)(hack:a.qK=true)(hakn:a.known=true)(e1:O (.fn 6) [] [X,.cells true 0 [.int .u8 s.kind,.int .i8 s.sx,.int .i8 s.sy,.bool s.half,a],.cells true 0 [.int .u8 k,.int .u8 i]]=some ⟨.bool true,none,[]⟩)(e2:O (.fn 7) [kM s a] [X,.cells true 0 [.int .u8 s.kind,.int .i8 s.sx,.int .i8 s.sy,.bool s.half,a],.cells true 0 [.int .u8 k,.int .u8 i]]=some ⟨.bool true,none,[]⟩)(hT:∀env:Env,(aa env 2=.ptr 1 0∧aa env 3=.ptr 2 0)→eJ O qq [X,.cells true 0 [.int .u8 s.kind,.int .i8 s.sx,.int .i8 s.sy,.bool s.half,a],.cells true 0 [.int .u8 k,.int .u8 i]] env):
  mB prog 5 [kM s a,.agg [.int .u8 k,.int .u8 i]] [X] (.bool true) [X]:=by
 have hG:aO prog 5=some f5:=by kernel_rfl
 have hb:=QS;obtain⟨F,hF⟩:=rr (β:=Env×Mem×Bool) (fun env d h=>hT env h d);have H1:=fun env d h=>(hF env d h).1
 have P':=fun env d h=>(hF env d h).2.1
 have Xv:=fun env d h=>(hF env d h).2.2
 clear hF hT;obtain⟨T,X'⟩:∃T,T=qq:=⟨_,rfl⟩
 simp only[←X'] at H1;rw[←X'] at hb;simp only[List.take_succ_cons,List.take_zero] at Xv;have h:∃r,aK (aC prog) (fun _=>[]) (aO prog) O 1 5 [kM s a,.agg [.int .u8 k,.int .u8 i]] [X]=some r∧r.1=.bool true∧r.2.take 1=[X]:=by unfold aK;rw[hG];dsimp only;rw[hb];dsimp only;clear X' hb hO;simp only[kM] at e2 ⊢;simp[-AV.qK,-AV.known,-AV.cells,vS,-dY,-List.all_eq_true,aE,f5,cK,e1,e2,H1,P',Xv]
 obtain⟨⟨v,M'⟩,h1,h2,h3⟩:=h;have h4:=bn af (aw _) hO (ax _) h1;simp only at h2 h3;subst h2;have h5:M' =[X]++M'.drop 1:=by rw[←h3,List.take_append_drop]
 rw[h5] at h4;exact h4.forget rfl
theorem IY{M0 n2 B:Mem}{p t q p2 t2 q2:Nat}{cs X8:List Evc}{evs evs2:List (List AV)}(hack:a.qK=true)(hakn:a.known=true)(hM0:M0=[X,.cells true 0 [.int .u8 s.kind,.int .i8 s.sx,.int .i8 s.sy,.bool s.half,a],.cells true 0 [.int .u8 k,.int .u8 i]])(hB:B=(M0++nM)++nC)(hN:N=B++[.cells true 0 [a1,a2,.str a3,a4]])(ck:a1.qK=true∧a2.qK=true∧a4.qK=true∧a1.known=true∧a2.known=true∧a4.known=true)(rP:aaZ M0.length [.int .u8 s.kind,.int .i8 s.sx,.int .i8 s.sy,.bool s.half,a])(H:aaE s p t q evs cs (M0++nM))(H2:aaE s p2 t2 q2 evs2 X8 (N++n2))(hp2:N.length≤p2)(hd2:zm [bm] (X8.map unE)=false)(oM:OkN (M0.length+nM.length) nM)(oC:OkN ((M0++nM).length+nC.length) nC)(rC:aaZ ((M0++nM).length+nC.length) [a1,a2,.str a3,a4])(fF:∀M,mB prog 7 [kM s a] M (.bool true) M)(fM:mB prog 8 [kM s a] M0 (.agg (cI s p t q cs.length)) (M0++nM))(fM2:mB prog 8 [kM s a] N (.agg (cI s p2 t2 q2 X8.length)) (N++n2))(fC:mB prog 19 [.agg (cI s p t q cs.length),.agg [.int .u8 k,.int .u8 i]] (M0++nM) (.agg [a1,a2,.str a3,a4]) ((M0++nM)++nC))(fh:∀Z,mB prog 20 [.agg [a1,a2,.str a3,a4]] (B++Z) (.int .i64 W) (B++Z))(fc:∀Z,mB prog 12 [.agg [a1,a2,.str a3,a4]] (B++Z) (.int .i64 W) (B++Z)):
  mB prog 5 [kM s a,.agg [.int .u8 k,.int .u8 i]] [X] (.bool true) [X]:=by
 obtain⟨d1,d2,d4,k1,k2,k4⟩:=ck;have l0:M0.length=3:=by rw[hM0];rfl
 have lB:B.length=3+nM.length+nC.length:=by rw[hB,List.length_append,List.length_append,l0]
 have lN:N.length=3+nM.length+nC.length+1:=by rw[hN,List.length_append,lB];rfl
 have ln2:0<n2.length:=by obtain⟨o,h⟩:=H2.hp;have:=(List.getElem?_eq_some_iff.1 h).1;rw[List.length_append] at this;omega
 have fh2:mB prog 20 [.agg (cI s p2 t2 q2 X8.length)] (N++n2) (.int .i64 0) (N++n2):=by have:=(H2.aaP bm cr cn).1;rw[hd2] at this;exact this
 have fo:=fun(he:W≠0)=>Pq (x1:=zS 0) (x2:=zS 0) (x3:=zS 0) d1 d2 d4 k1 k2 k4 he fh
 have ft:=fun(he:W≠0) (b:Bool)=>E4 (x1:=zS 0) (x2:=zS 0) (x3:=zS 0) (i:=0) (b:=b) d1 d2 d4 k1 k2 k4 he (fo he)
 obtain⟨L,hL⟩:∃L:List (FuncId×List AV×(Mem→Prop)×HS),L=[(6,[],fun _=>True,⟨.bool true,none,[]⟩),(7,[kM s a],fun _=>True,⟨.bool true,none,[]⟩),(8,[kM s a],fun M' =>M' =M0,⟨.agg (cI s p t q cs.length),none,nM⟩),(19,[.agg (cI s p t q cs.length),.agg [.int .u8 k,.int .u8 i]],fun M' =>M' =M0++nM,⟨.agg [a1,a2,.str a3,a4],none,nC⟩),(12,[.agg [a1,a2,.str a3,a4]],fun M' =>M' =N,⟨.int .i64 W,none,[]⟩),(20,[.agg [a1,a2,.str a3,a4]],fun M' =>M' =N,⟨.int .i64 W,none,[]⟩),(8,[kM s a],fun M' =>M' =N,⟨.agg (cI s p2 t2 q2 X8.length),none,n2⟩),(20,[.agg (cI s p2 t2 q2 X8.length)],fun M' =>M' =N++n2,⟨.int .i64 0,none,[]⟩),(21,[.int .i64 0,.int .i64 0,.int .i64 0],fun _=>True,⟨.agg [.str (zS 0),.str (zS 0),.str (zS 0)],none,[]⟩),(30,[.agg [.str [],.kO,.int .i64 0,.str [],.str [],.str []]],fun _=>True,⟨.bool true,none,[]⟩),(13,[.agg [.kO,.kO,.str [],.kO]],fun _=>True,⟨.bool true,none,[]⟩),(22,[.agg [a1,a2,.str a3,a4],.agg [.str (zS 0),.str (zS 0),.str (zS 0)]],fun M' =>W≠0∧∃Z,M' =B++Z,⟨.tuple [.str [],.int .i64 W],none,[]⟩),(23,[.agg [a1,a2,.str a3,a4],.agg [.str (zS 0),.str (zS 0),.str (zS 0)]],fun M' =>W≠0∧∃Z,M' =B++Z,⟨.tuple [.agg [.str [],.kO,.int .i64 0,.str [],.str [],.str []],.int .i64 W],none,[]⟩),(24,[.agg [a1,a2,.str a3,a4],.agg [.str (zS 0),.str (zS 0),.str (zS 0)],.int .i64 0],fun M' =>W≠0∧∃Z,M' =B++Z,⟨.tuple [.agg [.str [],.str [],.str []],.int .i64 W],none,[]⟩),(25,[.agg [a1,a2,.str a3,a4],.agg [.str (zS 0),.str (zS 0),.str (zS 0)],.int .i64 0],fun M' =>W≠0∧∃Z,M' =B++Z,⟨.tuple [.agg [.str [],.str [],.str []],.int .i64 W],none,[]⟩),(26,[.agg [a1,a2,.str a3,a4]],fun M' =>W≠0∧∃Z,M' =B++Z,⟨.tuple [.kO,.int .i64 W],none,[]⟩),(27,[.agg [a1,a2,.str a3,a4],.str bm],fun M' =>W≠0∧∃Z,M' =B++Z,⟨.tuple [.int .i64 0,.int .i64 W],none,[]⟩),(28,[.agg [a1,a2,.str a3,a4],.str bm],fun M' =>W≠0∧∃Z,M' =B++Z,⟨.tuple [.int .i64 0,.int .i64 0,.int .i64 W],none,[]⟩),(16,[.agg [a1,a2,.str a3,a4],.int .i64 0],fun M' =>W≠0∧∃Z,M' =B++Z,⟨.tuple [.agg [.kO,.kO,.str [],.kO],.int .i64 W],none,[]⟩),(15,[.agg [a1,a2,.str a3,a4],.int .i64 0],fun M' =>W≠0∧∃Z,M' =B++Z,⟨.tuple [.agg [.kO,.kO,.str [],.kO],.int .i64 W],none,[]⟩),(10,[.agg [a1,a2,.str a3,a4],.agg [.int .i64 0,.str [],.kO,.kO,.kO,.str [],.str [],.str [],.str [],.str [],.str [],.str [],.str [],.str [],.str [],.kO,.str [],.str [],.str [],.str [],.str [],.str [],.str [],.str [],.str [],.int .i64 0,.int .i64 0,.int .i64 0,.int .i64 0,.str [],.str [],.str []]],fun M' =>W≠0∧∃Z,M' =B++Z,⟨.tuple [.agg [.kO,.kO,.str [],.kO],.int .i64 W],none,[]⟩),(29,[.agg [a1,a2,.str a3,a4],.kO],fun M' =>W≠0∧∃Z,M' =B++Z,⟨.tuple [.int .i64 0,.bool false,.int .i64 W],none,[]⟩)]:=⟨_,rfl⟩
 have hO:qS prog (qI L):=NO fun y hy M' hp=>by
  rw[hL] at hy;simp only[List.mem_cons,List.not_mem_nil,or_false] at hy;rcases hy with rfl | rfl | rfl | rfl | rfl | rfl | rfl | rfl | rfl | rfl | rfl | rfl | rfl | rfl | rfl | rfl | rfl | rfl | rfl | rfl | rfl | rfl
  ·exact ak (Ff (ux _))
  ·exact ak (Ff (fF _))
  ·exact ak (by rw[show M' =M0 from hp];exact fM)
  ·exact ak (by rw[show M' =M0++nM from hp];exact fC)
  ·exact ak (by rw[show M' =N from hp,hN];exact Ff (fc _))
  ·exact ak (by rw[show M' =N from hp,hN];exact Ff (fh _))
  ·exact ak (by rw[show M' =N from hp];exact fM2)
  ·exact ak (by rw[show M' =N++n2 from hp];exact Ff fh2)
  ·exact ak (Ff (nu (0,0,0) (by decide) _))
  ·exact ak (Ff (FZ _))
  ·exact ak (Ff (lC _))
  ·obtain⟨he,Z,rfl⟩:=hp
   exact ak (Ff (SS d1 d2 d4 k1 k2 k4 he (fo he) Z))
  ·obtain⟨he,Z,rfl⟩:=hp
   exact ak (Ff (JN d1 d2 d4 k1 k2 k4 he (fo he) Z))
  ·obtain⟨he,Z,rfl⟩:=hp
   exact ak (Ff (Pp d1 d2 d4 k1 k2 k4 he (ft he true) Z))
  ·obtain⟨he,Z,rfl⟩:=hp
   exact ak (Ff (ML d1 d2 d4 k1 k2 k4 he (ft he false) Z))
  ·obtain⟨he,Z,rfl⟩:=hp
   exact ak (Ff (MM d1 d2 d4 k1 k2 k4 he fh Z))
  ·obtain⟨he,Z,rfl⟩:=hp
   exact ak (Ff (Pr d1 d2 d4 k1 k2 k4 he fh Z))
  ·obtain⟨he,Z,rfl⟩:=hp
   exact ak (Ff (JO d1 d2 d4 k1 k2 k4 he fh Z))
  ·obtain⟨he,Z,rfl⟩:=hp
   exact ak (Ff (JM d1 d2 d4 k1 k2 k4 he fh Z))
  ·obtain⟨he,Z,rfl⟩:=hp
   exact ak (Ff (E5 d1 d2 d4 k1 k2 k4 he fh Z))
  ·obtain⟨he,Z,rfl⟩:=hp
   exact ak (Ff (JL rfl rfl d1 d2 d4 k1 k2 k4 he fh Z))
  ·obtain⟨he,Z,rfl⟩:=hp
   exact ak (Ff (yL d1 d2 d4 k1 k2 k4 he fh Z))
 have b1:(AV.slice p 0 s.P.length none).qK=true:=rfl;have b2:(AV.slice t 0 s.T.length none).qK=true:=rfl;have rM:=H.refs;rw[List.length_append] at rM rC oC;have hN3:M0++(nM++(nC++[.cells true 0 [a1,a2,.str a3,a4]]))=N:=by rw[hN,hB,List.append_assoc,List.append_assoc]
 have n1:M0[1]? =some (.cells true 0 [.int .u8 s.kind,.int .i8 s.sx,.int .i8 s.sy,.bool s.half,a]):=by rw[hM0];rfl
 have n3:M0[2]? =some (.cells true 0 [.int .u8 k,.int .u8 i]):=by rw[hM0];rfl
 have n1N:N[1]? =some (.cells true 0 [.int .u8 s.kind,.int .i8 s.sx,.int .i8 s.sy,.bool s.half,a]):=by rw[←hN3,List.getElem?_append_left (by omega)];exact n1
 have n5:N[B.length]? =some (.cells true 0 [a1,a2,.str a3,a4]):=by rw[hN];exact FE _ _
 have n52:(N++n2)[B.length]? =some (.cells true 0 [a1,a2,.str a3,a4]):=by rw[List.getElem?_append_left (by omega)];exact n5
 have hm2:1≤(N++n2).length:=by rw[List.length_append];omega
 refine Me hO hack hakn (by rw[hL];exact cG trivial) (by rw[hL];(iterate rw[bP (.inl (by decide))]);exact cG trivial) ?_;rw[←hM0];refine ON (by omega) d1 d2 d4 k1 k2 k4 n1 n3 hack hakn ⟨b1,b2,dn q cs.length,rfl,rfl,jE q cs.length⟩ (by rw[hL];(iterate rw[bP (.inl (by decide))]);exact cG rfl) (by rw[hL];(iterate rw[bP (.inl (by decide))]);exact cG rfl) rP rM (by rwa [Nat.add_assoc] at rC) oM (by rwa [Nat.add_assoc] at oC) ?_;rw[hN3,show M0.length+(nM.length+nC.length)=B.length by omega];refine OO (by omega) d1 d2 d4 k1 k2 k4 n5 n1N hack hakn (by rw[hL];(iterate rw[bP (.inl (by decide))]);exact cG rfl) (by rw[hL];(iterate rw[bP (.inl (by decide))]);exact cG rfl) (by rw[hL];(iterate rw[bP (.inl (by decide))]);rw[bP (.inr (fun h=>by have:=congrArg List.length h;omega))];(iterate rw[bP (.inl (by decide))]);exact cG rfl) (by rw[hL];(iterate rw[bP (.inl (by decide))]);rw[bP (.inr (fun h=>by have:=congrArg List.length h;rw[List.length_append] at this;omega))];(iterate rw[bP (.inl (by decide))]);exact cG rfl) fun he=>?_
 refine OP hm2 d1 d2 d4 k1 k2 k4 n52 (fun Z=>by rw[hL];(iterate rw[bP (.inl (by decide))]);exact cG trivial) (fun Z=>by rw[hL];(iterate rw[bP (.inl (by decide))]);exact cG ⟨he,_,by rw[hN,List.append_assoc,List.append_assoc]⟩) (fun Z=>by rw[hL];(iterate rw[bP (.inl (by decide))]);exact cG ⟨he,_,by rw[hN,List.append_assoc,List.append_assoc]⟩) (fun Z=>by rw[hL];(iterate rw[bP (.inl (by decide))]);exact cG ⟨he,_,by rw[hN,List.append_assoc,List.append_assoc]⟩) (fun Z=>by rw[hL];(iterate rw[bP (.inl (by decide))]);exact cG ⟨he,_,by rw[hN,List.append_assoc,List.append_assoc]⟩) ?_;refine Mf hm2 d1 d2 d4 k1 k2 k4 n52 (fun Z=>by rw[hL];(iterate rw[bP (.inl (by decide))]);exact cG ⟨he,_,by rw[hN,List.append_assoc,List.append_assoc]⟩) (fun Z=>by rw[hL];(iterate rw[bP (.inl (by decide))]);exact cG ⟨he,_,by rw[hN,List.append_assoc,List.append_assoc]⟩) (fun Z=>by rw[hL];(iterate rw[bP (.inl (by decide))]);exact cG ⟨he,_,by rw[hN,List.append_assoc,List.append_assoc]⟩) ?_;refine Mg hm2 d1 d2 d4 k1 k2 k4 n52 (fun Z=>by rw[hL];(iterate rw[bP (.inl (by decide))]);exact cG ⟨he,_,by rw[hN,List.append_assoc,List.append_assoc]⟩) (fun Z=>by rw[hL];(iterate rw[bP (.inl (by decide))]);exact cG ⟨he,_,by rw[hN,List.append_assoc,List.append_assoc]⟩) (fun Z=>by rw[hL];(iterate rw[bP (.inl (by decide))]);exact cG ⟨he,_,by rw[hN,List.append_assoc,List.append_assoc]⟩) (fun Z=>by rw[hL];(iterate rw[bP (.inl (by decide))]);exact cG ⟨he,_,by rw[hN,List.append_assoc,List.append_assoc]⟩) ?_;exact Mh hm2 (fun Z=>by rw[hL];(iterate rw[bP (.inl (by decide))]);exact cG trivial) (fun Z=>by rw[hL];(iterate rw[bP (.inl (by decide))]);exact cG trivial)
theorem j9(s:aaf)(hs:s.Ok)(ds:List aao)(hd:∀d∈ds,d.Ok)(X:aae)(a:AV)(hx:Vm ds X a)(k i:Nat)(hk:k<256)(hi:i<256):
  mB prog 5 [kM s a,.agg [.int .u8 k,.int .u8 i]] [X] (.bool true) [X]:=by
 have hG:aO prog 5=some f5:=by kernel_rfl
 have Xj:=fun N=>Oq s a ds.length (by rcases hx with⟨rfl,rfl⟩ | ⟨_,rfl⟩;exact .inl ⟨rfl,rfl⟩;exact .inr rfl) N
 have hack:a.qK=true:=by rcases hx with⟨_,rfl⟩ | ⟨_,rfl⟩<;>rfl
 have hakn:a.known=true:=by rcases hx with⟨_,rfl⟩ | ⟨_,rfl⟩<;>rfl
 by_cases h3:ds.length≤3
 rotate_left
 ·have hO:qS prog (ar (de [(6,[],.bool true),(7,[kM s a],.bool false)])):=fJ fun y hy M=>by
   simp only[List.mem_cons,List.not_mem_nil,or_false] at hy;rcases hy with rfl | rfl
   ·exact ux M
   ·have:=Xj M;rwa [decide_eq_false h3] at this
  have h:ad (aC prog) (fun _=>[]) (aO prog) (ar (de [(6,[],.bool true),(7,[kM s a],.bool false)])) 1 5 [kM s a,.agg [.int .u8 k,.int .u8 i]] [X]=some ⟨.bool true,none,[]⟩:=by clear hO Xj;simp[-AV.qK,-List.all_eq_true,ad,hG,f5,ar,de,kM];done
  have:=(au af (aw _) hO (ax _) h).1;simpa [HS.mem] using this
 have hfit3:∀M,mB prog 7 [kM s a] M (.bool true) M:=fun M=>by have:=Xj M;rwa [decide_eq_true h3] at this
 obtain⟨M0,hM0⟩:∃M0:Mem,M0=[X,.cells true 0 [.int .u8 s.kind,.int .i8 s.sx,.int .i8 s.sy,.bool s.half,a],.cells true 0 [.int .u8 (k:Int),.int .u8 (i:Int)]]:=⟨_,rfl⟩
 have hr:∀Z:Mem,(ds=[]∧a=.kO)∨∃b o,(M0++Z)[b]? =some (.cells o 12 (gN ds))∧a=.slice b 0 ds.length none:=fun Z=>by
  rcases hx with h | ⟨rfl,rfl⟩
  ·exact .inl h
  ·exact .inr ⟨0,false,by rw[hM0];rfl,rfl⟩
 have rP:aaZ M0.length [.int .u8 s.kind,.int .i8 s.sx,.int .i8 s.sy,.bool s.half,a]:=.of (by
  have l0:0<M0.length:=by rw[hM0];exact Nat.succ_pos _
  rcases hx with⟨rfl,rfl⟩ | ⟨rfl,rfl⟩<;>simp[AV.aaa,AV.HK,l0])
 obtain⟨q,evs,cs,nM,fM,H,oM,Y3,hl⟩:=zR s hs ds hd h3 M0 a (by have:=hr [];rwa [List.append_nil] at this);have hd0:zm [bm] (cs.map unE)=false:=wF (by simpa using Y3);obtain⟨a1,a2,a4,a3,nC,W,fC,ck,fh,fc,oC,rC⟩:=MB H hd0 (by omega) k i hk hi;obtain⟨q2,evs2,X8,n2,fM2,H2,_,hnd2,_⟩:=zR s hs ds hd h3 (((M0++nM)++nC)++[.cells true 0 [a1,a2,.str a3,a4]]) a (by rw[List.append_assoc,List.append_assoc];exact hr _);exact IY hack hakn hM0 rfl rfl ck rP H H2 (by omega) (wF (by simpa using hnd2)) oM oC rC hfit3 fM fM2 fC fh fc
end Go.Proofs
