/- See P53. -/
import Derived.Test.YtmhkeaphiadacaaGreatDoorP45
import Derived.Test.YtmhkeaphiadacaaGreatDoorP46
set_option linter.all false
set_option maxRecDepth 100000
set_option maxHeartbeats 40000000
namespace Go.Proofs
open Go.Eng
open Tryz
variable{R:List AV}{m t:Nat}{ot:Bool}
section
variable {O:aac}{M:Mem}{pv tv ev cv:AV}{nm:List UInt8}{n k i:Nat}{XC:aae}
theorem aaL:aO prog 19=some f19:=by kernel_rfl
section
variable (c1:pv.qK=true)(c2:tv.qK=true)(c3:ev.qK=true)(c4:cv.qK=true)(d4:cv.cells=[cv])(k4:cv.known=true)(hn:n≤1000)(hi:i<256)(A':∀N,dY (aC prog) 39 N cv=some (.int .i64 n))(eK:O (.fn 11) [ev] (M++[.cells true 0 [pv,tv,.str nm,ev],.cells true 0 [.int .u8 k,.int .u8 i],.cells true 0 [.kO,.kO,.str [],.kO]])=some ⟨cv,none,[.qF,XC]⟩)
include c1 c2 c3 c4 d4 k4 hn hi A' eK
theorem GC(hr:(k:Int).tmod 8=0):
  aK (aC prog) (fun _=>[]) (aO prog) O 1 19 [.agg [pv,tv,.str nm,ev],.agg [.int .u8 k,.int .u8 i]] M=some (.agg [pv,tv,.str nm,cv],M++[.cells true 0 [pv,tv,.str nm,cv],.cells true 0 [.int .u8 k,.int .u8 i],.cells true 0 [pv,tv,.str nm,cv],.qF,XC]):=by
 have WB:∀j,(M.length+j<M.length)=False:=fun j=>bK _ _
 have w0:IntKind.u8.wrap 0=0:=rfl;have wi:IntKind.i64.wrap (i:Int)=(i:Int):=ai (by omega) (by omega);have h:aK (aC prog) (fun _=>[]) (aO prog) O 1 19 [.agg [pv,tv,.str nm,ev],.agg [.int .u8 k,.int .u8 i]] M=some (.agg [pv,tv,.str nm,cv],M++[.cells true 0 [pv,tv,.str nm,cv],.cells true 0 [.int .u8 k,.int .u8 i],.cells true 0 [pv,tv,.str nm,cv],.qF,XC]):=by
  by_cases UV:n=0
  ·subst UV
   simp[-getElem?_pos,-AV.qK,-AV.known,-AV.cells,-List.all_eq_true,vS,mS,-dY,A',aK,aaL,f19,eK,c1,c2,c4,d4,k4,WB,wi,hr];done
  ·have m1:¬(n:Int)<1:=by omega
   have m2:¬(n:Int)=0:=by omega
   have m3:0<n:=by omega
   simp[-getElem?_pos,-AV.qK,-AV.known,-AV.cells,-List.all_eq_true,vS,mS,-dY,A',aK,aaL,f19,eK,c1,c2,c4,d4,k4,WB,wi,hr,m1,UV];done
 exact h
theorem Ek(h0:n=0)(hr:(k:Int).tmod 8=4):
  aK (aC prog) (fun _=>[]) (aO prog) O 1 19 [.agg [pv,tv,.str nm,ev],.agg [.int .u8 k,.int .u8 i]] M=some (.agg [pv,tv,.str nm,cv],M++[.cells true 0 [pv,tv,.str nm,cv],.cells true 0 [.int .u8 k,.int .u8 i],.cells true 0 [pv,tv,.str nm,cv],.qF,XC]):=by
 have WB:∀j,(M.length+j<M.length)=False:=fun j=>bK _ _
 have w0:IntKind.u8.wrap 0=0:=rfl;have wi:IntKind.i64.wrap (i:Int)=(i:Int):=ai (by omega) (by omega);subst h0;simp[-getElem?_pos,-AV.qK,-AV.known,-AV.cells,-List.all_eq_true,vS,mS,-dY,A',aK,aaL,f19,eK,c1,c2,c4,d4,k4,WB,wi,hr]
theorem El(h0:n=0)(hr:(k:Int).tmod 8=5):
  aK (aC prog) (fun _=>[]) (aO prog) O 1 19 [.agg [pv,tv,.str nm,ev],.agg [.int .u8 k,.int .u8 i]] M=some (.agg [pv,tv,.str nm,cv],M++[.cells true 0 [pv,tv,.str nm,cv],.cells true 0 [.int .u8 k,.int .u8 i],.cells true 0 [pv,tv,.str nm,cv],.qF,XC]):=by
 have WB:∀j,(M.length+j<M.length)=False:=fun j=>bK _ _
 have w0:IntKind.u8.wrap 0=0:=rfl;have wi:IntKind.i64.wrap (i:Int)=(i:Int):=ai (by omega) (by omega);subst h0;simp[-getElem?_pos,-AV.qK,-AV.known,-AV.cells,-List.all_eq_true,vS,mS,-dY,A',aK,aaL,f19,eK,c1,c2,c4,d4,k4,WB,wi,hr]
theorem Em(h0:n=0)(hr:(k:Int).tmod 8=6):
  aK (aC prog) (fun _=>[]) (aO prog) O 1 19 [.agg [pv,tv,.str nm,ev],.agg [.int .u8 k,.int .u8 i]] M=some (.agg [pv,tv,.str nm,cv],M++[.cells true 0 [pv,tv,.str nm,cv],.cells true 0 [.int .u8 k,.int .u8 i],.cells true 0 [pv,tv,.str nm,cv],.qF,XC]):=by
 have WB:∀j,(M.length+j<M.length)=False:=fun j=>bK _ _
 have w0:IntKind.u8.wrap 0=0:=rfl;have wi:IntKind.i64.wrap (i:Int)=(i:Int):=ai (by omega) (by omega);subst h0;simp[-getElem?_pos,-AV.qK,-AV.known,-AV.cells,-List.all_eq_true,vS,mS,-dY,A',aK,aaL,f19,eK,c1,c2,c4,d4,k4,WB,wi,hr]
theorem Eo(h0:n=0)(hr:(k:Int).tmod 8=7):
  aK (aC prog) (fun _=>[]) (aO prog) O 1 19 [.agg [pv,tv,.str nm,ev],.agg [.int .u8 k,.int .u8 i]] M=some (.agg [pv,tv,.str nm,cv],M++[.cells true 0 [pv,tv,.str nm,cv],.cells true 0 [.int .u8 k,.int .u8 i],.cells true 0 [pv,tv,.str nm,cv],.qF,XC]):=by
 have WB:∀j,(M.length+j<M.length)=False:=fun j=>bK _ _
 have w0:IntKind.u8.wrap 0=0:=rfl;have wi:IntKind.i64.wrap (i:Int)=(i:Int):=ai (by omega) (by omega);subst h0;simp[-getElem?_pos,-AV.qK,-AV.known,-AV.cells,-List.all_eq_true,vS,mS,-dY,A',aK,aaL,f19,eK,c1,c2,c4,d4,k4,WB,wi,hr]
section
variable (hr:(k:Int).tmod 8=1)
include hr
theorem BZ(h5:(i:Int).tmod 5=0):
  aK (aC prog) (fun _=>[]) (aO prog) O 1 19 [.agg [pv,tv,.str nm,ev],.agg [.int .u8 k,.int .u8 i]] M=some (.agg [pv,tv,.str [],cv],M++[.cells true 0 [pv,tv,.str [],cv],.cells true 0 [.int .u8 k,.int .u8 i],.cells true 0 [pv,tv,.str [],cv],.qF,XC,.cells true 1 [.str [],.str [49],.str [97,32,98],.str [65,49],.str [107,48]]]):=by
 have WB:∀j,(M.length+j<M.length)=False:=fun j=>bK _ _
 have w0:IntKind.u8.wrap 0=0:=rfl;have wi:IntKind.i64.wrap (i:Int)=(i:Int):=ai (by omega) (by omega);have h:aK (aC prog) (fun _=>[]) (aO prog) O 1 19 [.agg [pv,tv,.str nm,ev],.agg [.int .u8 k,.int .u8 i]] M=some (.agg [pv,tv,.str [],cv],M++[.cells true 0 [pv,tv,.str [],cv],.cells true 0 [.int .u8 k,.int .u8 i],.cells true 0 [pv,tv,.str [],cv],.qF,XC,.cells true 1 [.str [],.str [49],.str [97,32,98],.str [65,49],.str [107,48]]]):=by
  by_cases UV:n=0
  ·subst UV
   simp[-getElem?_pos,-AV.qK,-AV.known,-AV.cells,-List.all_eq_true,vS,mS,-dY,A',aK,aaL,f19,eK,c1,c2,c4,d4,k4,WB,wi,hr,h5];done
  ·have m1:¬(n:Int)<1:=by omega
   have m2:¬(n:Int)=0:=by omega
   have m3:0<n:=by omega
   simp[-getElem?_pos,-AV.qK,-AV.known,-AV.cells,-List.all_eq_true,vS,mS,-dY,A',aK,aaL,f19,eK,c1,c2,c4,d4,k4,WB,wi,hr,h5,m1,UV];done
 exact h
theorem B0(h5:(i:Int).tmod 5=1):
  aK (aC prog) (fun _=>[]) (aO prog) O 1 19 [.agg [pv,tv,.str nm,ev],.agg [.int .u8 k,.int .u8 i]] M=some (.agg [pv,tv,.str [49],cv],M++[.cells true 0 [pv,tv,.str [49],cv],.cells true 0 [.int .u8 k,.int .u8 i],.cells true 0 [pv,tv,.str [49],cv],.qF,XC,.cells true 1 [.str [],.str [49],.str [97,32,98],.str [65,49],.str [107,48]]]):=by
 have WB:∀j,(M.length+j<M.length)=False:=fun j=>bK _ _
 have w0:IntKind.u8.wrap 0=0:=rfl;have wi:IntKind.i64.wrap (i:Int)=(i:Int):=ai (by omega) (by omega);have h:aK (aC prog) (fun _=>[]) (aO prog) O 1 19 [.agg [pv,tv,.str nm,ev],.agg [.int .u8 k,.int .u8 i]] M=some (.agg [pv,tv,.str [49],cv],M++[.cells true 0 [pv,tv,.str [49],cv],.cells true 0 [.int .u8 k,.int .u8 i],.cells true 0 [pv,tv,.str [49],cv],.qF,XC,.cells true 1 [.str [],.str [49],.str [97,32,98],.str [65,49],.str [107,48]]]):=by
  by_cases UV:n=0
  ·subst UV
   simp[-getElem?_pos,-AV.qK,-AV.known,-AV.cells,-List.all_eq_true,vS,mS,-dY,A',aK,aaL,f19,eK,c1,c2,c4,d4,k4,WB,wi,hr,h5];done
  ·have m1:¬(n:Int)<1:=by omega
   have m2:¬(n:Int)=0:=by omega
   have m3:0<n:=by omega
   simp[-getElem?_pos,-AV.qK,-AV.known,-AV.cells,-List.all_eq_true,vS,mS,-dY,A',aK,aaL,f19,eK,c1,c2,c4,d4,k4,WB,wi,hr,h5,m1,UV];done
 exact h
theorem B4(h5:(i:Int).tmod 5=2):
  aK (aC prog) (fun _=>[]) (aO prog) O 1 19 [.agg [pv,tv,.str nm,ev],.agg [.int .u8 k,.int .u8 i]] M=some (.agg [pv,tv,.str [97,32,98],cv],M++[.cells true 0 [pv,tv,.str [97,32,98],cv],.cells true 0 [.int .u8 k,.int .u8 i],.cells true 0 [pv,tv,.str [97,32,98],cv],.qF,XC,.cells true 1 [.str [],.str [49],.str [97,32,98],.str [65,49],.str [107,48]]]):=by
 have WB:∀j,(M.length+j<M.length)=False:=fun j=>bK _ _
 have w0:IntKind.u8.wrap 0=0:=rfl;have wi:IntKind.i64.wrap (i:Int)=(i:Int):=ai (by omega) (by omega);have h:aK (aC prog) (fun _=>[]) (aO prog) O 1 19 [.agg [pv,tv,.str nm,ev],.agg [.int .u8 k,.int .u8 i]] M=some (.agg [pv,tv,.str [97,32,98],cv],M++[.cells true 0 [pv,tv,.str [97,32,98],cv],.cells true 0 [.int .u8 k,.int .u8 i],.cells true 0 [pv,tv,.str [97,32,98],cv],.qF,XC,.cells true 1 [.str [],.str [49],.str [97,32,98],.str [65,49],.str [107,48]]]):=by
  by_cases UV:n=0
  ·subst UV
   simp[-getElem?_pos,-AV.qK,-AV.known,-AV.cells,-List.all_eq_true,vS,mS,-dY,A',aK,aaL,f19,eK,c1,c2,c4,d4,k4,WB,wi,hr,h5];done
  ·have m1:¬(n:Int)<1:=by omega
   have m2:¬(n:Int)=0:=by omega
   have m3:0<n:=by omega
   simp[-getElem?_pos,-AV.qK,-AV.known,-AV.cells,-List.all_eq_true,vS,mS,-dY,A',aK,aaL,f19,eK,c1,c2,c4,d4,k4,WB,wi,hr,h5,m1,UV];done
 exact h
theorem B5(h5:(i:Int).tmod 5=3):
  aK (aC prog) (fun _=>[]) (aO prog) O 1 19 [.agg [pv,tv,.str nm,ev],.agg [.int .u8 k,.int .u8 i]] M=some (.agg [pv,tv,.str [65,49],cv],M++[.cells true 0 [pv,tv,.str [65,49],cv],.cells true 0 [.int .u8 k,.int .u8 i],.cells true 0 [pv,tv,.str [65,49],cv],.qF,XC,.cells true 1 [.str [],.str [49],.str [97,32,98],.str [65,49],.str [107,48]]]):=by
 have WB:∀j,(M.length+j<M.length)=False:=fun j=>bK _ _
 have w0:IntKind.u8.wrap 0=0:=rfl;have wi:IntKind.i64.wrap (i:Int)=(i:Int):=ai (by omega) (by omega);have h:aK (aC prog) (fun _=>[]) (aO prog) O 1 19 [.agg [pv,tv,.str nm,ev],.agg [.int .u8 k,.int .u8 i]] M=some (.agg [pv,tv,.str [65,49],cv],M++[.cells true 0 [pv,tv,.str [65,49],cv],.cells true 0 [.int .u8 k,.int .u8 i],.cells true 0 [pv,tv,.str [65,49],cv],.qF,XC,.cells true 1 [.str [],.str [49],.str [97,32,98],.str [65,49],.str [107,48]]]):=by
  by_cases UV:n=0
  ·subst UV
   simp[-getElem?_pos,-AV.qK,-AV.known,-AV.cells,-List.all_eq_true,vS,mS,-dY,A',aK,aaL,f19,eK,c1,c2,c4,d4,k4,WB,wi,hr,h5];done
  ·have m1:¬(n:Int)<1:=by omega
   have m2:¬(n:Int)=0:=by omega
   have m3:0<n:=by omega
   simp[-getElem?_pos,-AV.qK,-AV.known,-AV.cells,-List.all_eq_true,vS,mS,-dY,A',aK,aaL,f19,eK,c1,c2,c4,d4,k4,WB,wi,hr,h5,m1,UV];done
 exact h
theorem B6(h5:(i:Int).tmod 5=4):
  aK (aC prog) (fun _=>[]) (aO prog) O 1 19 [.agg [pv,tv,.str nm,ev],.agg [.int .u8 k,.int .u8 i]] M=some (.agg [pv,tv,.str [107,48],cv],M++[.cells true 0 [pv,tv,.str [107,48],cv],.cells true 0 [.int .u8 k,.int .u8 i],.cells true 0 [pv,tv,.str [107,48],cv],.qF,XC,.cells true 1 [.str [],.str [49],.str [97,32,98],.str [65,49],.str [107,48]]]):=by
 have WB:∀j,(M.length+j<M.length)=False:=fun j=>bK _ _
 have w0:IntKind.u8.wrap 0=0:=rfl;have wi:IntKind.i64.wrap (i:Int)=(i:Int):=ai (by omega) (by omega);have h:aK (aC prog) (fun _=>[]) (aO prog) O 1 19 [.agg [pv,tv,.str nm,ev],.agg [.int .u8 k,.int .u8 i]] M=some (.agg [pv,tv,.str [107,48],cv],M++[.cells true 0 [pv,tv,.str [107,48],cv],.cells true 0 [.int .u8 k,.int .u8 i],.cells true 0 [pv,tv,.str [107,48],cv],.qF,XC,.cells true 1 [.str [],.str [49],.str [97,32,98],.str [65,49],.str [107,48]]]):=by
  by_cases UV:n=0
  ·subst UV
   simp[-getElem?_pos,-AV.qK,-AV.known,-AV.cells,-List.all_eq_true,vS,mS,-dY,A',aK,aaL,f19,eK,c1,c2,c4,d4,k4,WB,wi,hr,h5];done
  ·have m1:¬(n:Int)<1:=by omega
   have m2:¬(n:Int)=0:=by omega
   have m3:0<n:=by omega
   simp[-getElem?_pos,-AV.qK,-AV.known,-AV.cells,-List.all_eq_true,vS,mS,-dY,A',aK,aaL,f19,eK,c1,c2,c4,d4,k4,WB,wi,hr,h5,m1,UV];done
 exact h
end
section
variable (Yi:tv=.slice t 0 m none)(ht:M[t]? =some (.cells ot 3 R))(hR:m*3≤R.length)
include Yi ht hR
theorem GD(hm:1<m)(hr:(k:Int).tmod 8=2):
  aK (aC prog) (fun _=>[]) (aO prog) O 1 19 [.agg [pv,tv,.str nm,ev],.agg [.int .u8 k,.int .u8 i]] M=some (.agg [pv,.slice t 3 (m-1) none,.str nm,cv],M++[.cells true 0 [pv,.slice t 3 (m-1) none,.str nm,cv],.cells true 0 [.int .u8 k,.int .u8 i],.cells true 0 [pv,.slice t 3 (m-1) none,.str nm,cv],.qF,XC]):=by
 have WB:∀j,(M.length+j<M.length)=False:=fun j=>bK _ _
 have w0:IntKind.u8.wrap 0=0:=rfl;have wi:IntKind.i64.wrap (i:Int)=(i:Int):=ai (by omega) (by omega);have lt:=(List.getElem?_eq_some_iff.1 ht).1;have XX :∀Z,(M++Z)[t]? =some (.cells ot 3 R):=fun Z=>by rw[List.getElem?_append_left lt];exact ht
 subst Yi;have q1:(1:Int)≤(m:Int):=by omega
 have q2:(1:Int)<(m:Int):=by omega
 have q3:1≤m:=by omega
 have h:aK (aC prog) (fun _=>[]) (aO prog) O 1 19 [.agg [pv,(AV.slice t 0 m none),.str nm,ev],.agg [.int .u8 k,.int .u8 i]] M=some (.agg [pv,.slice t 3 (m-1) none,.str nm,cv],M++[.cells true 0 [pv,.slice t 3 (m-1) none,.str nm,cv],.cells true 0 [.int .u8 k,.int .u8 i],.cells true 0 [pv,.slice t 3 (m-1) none,.str nm,cv],.qF,XC]):=by
  by_cases UV:n=0
  ·subst UV
   simp[-getElem?_pos,-AV.qK,-AV.known,-AV.cells,-List.all_eq_true,vS,mS,-dY,A',aK,aaL,f19,eK,c1,c4,d4,k4,WB,wi,hr,XX,hR,q1,q2];done
  ·have m1:¬(n:Int)<1:=by omega
   have m2:¬(n:Int)=0:=by omega
   have m3:0<n:=by omega
   simp[-getElem?_pos,-AV.qK,-AV.known,-AV.cells,-List.all_eq_true,vS,mS,-dY,A',aK,aaL,f19,eK,c1,c4,d4,k4,WB,wi,hr,XX,hR,q1,q2,m1,UV];done
 exact h
theorem Ej(hm:m=1)(hr:(k:Int).tmod 8=2):
  aK (aC prog) (fun _=>[]) (aO prog) O 1 19 [.agg [pv,tv,.str nm,ev],.agg [.int .u8 k,.int .u8 i]] M=some (.agg [pv,.slice (M.length+5) 0 0 none,.str nm,cv],M++[.cells true 0 [pv,.slice (M.length+5) 0 0 none,.str nm,cv],.cells true 0 [.int .u8 k,.int .u8 i],.cells true 0 [pv,.slice (M.length+5) 0 0 none,.str nm,cv],.qF,XC,.qF]):=by
 have WB:∀j,(M.length+j<M.length)=False:=fun j=>bK _ _
 have w0:IntKind.u8.wrap 0=0:=rfl;have wi:IntKind.i64.wrap (i:Int)=(i:Int):=ai (by omega) (by omega);have lt:=(List.getElem?_eq_some_iff.1 ht).1;have XX :∀Z,(M++Z)[t]? =some (.cells ot 3 R):=fun Z=>by rw[List.getElem?_append_left lt];exact ht
 subst Yi;subst hm;have hR3:3≤R.length:=by omega
 have h:aK (aC prog) (fun _=>[]) (aO prog) O 1 19 [.agg [pv,(AV.slice t 0 1 none),.str nm,ev],.agg [.int .u8 k,.int .u8 i]] M=some (.agg [pv,.slice (M.length+5) 0 0 none,.str nm,cv],M++[.cells true 0 [pv,.slice (M.length+5) 0 0 none,.str nm,cv],.cells true 0 [.int .u8 k,.int .u8 i],.cells true 0 [pv,.slice (M.length+5) 0 0 none,.str nm,cv],.qF,XC,.qF]):=by
  by_cases UV:n=0
  ·subst UV
   simp[-getElem?_pos,-AV.qK,-AV.known,-AV.cells,-List.all_eq_true,vS,mS,-dY,A',aK,aaL,f19,eK,c1,c4,d4,k4,WB,wi,hr,XX,hR];done
  ·have m1:¬(n:Int)<1:=by omega
   have m2:¬(n:Int)=0:=by omega
   have m3:0<n:=by omega
   simp[-getElem?_pos,-AV.qK,-AV.known,-AV.cells,-List.all_eq_true,vS,mS,-dY,A',aK,aaL,f19,eK,c1,c4,d4,k4,WB,wi,hr,XX,hR,m1,UV];done
 exact h
end
end
end
end Go.Proofs
namespace Go.Proofs
open Go.Eng
open Tryz
def eg(h:List AV) (k i:Nat) (M:Mem):Prop:=∃(a1 a2 a4:AV) (a3:List UInt8) (new:Mem) (W:Int),
 mB prog 19 [.agg h,.agg [.int .u8 k,.int .u8 i]] M (.agg [a1,a2,.str a3,a4]) (M++new)∧
 (a1.qK=true∧a2.qK=true∧a4.qK=true∧a1.known=true∧a2.known=true∧a4.known=true)∧
 (∀Z,mB prog 20 [.agg [a1,a2,.str a3,a4]] ((M++new)++Z) (.int .i64 W) ((M++new)++Z))∧
 (∀Z,mB prog 12 [.agg [a1,a2,.str a3,a4]] ((M++new)++Z) (.int .i64 W) ((M++new)++Z))∧
 OkN (M.length+new.length) new∧aaZ (M.length+new.length) [a1,a2,.str a3,a4]
section
variable {s:aaf}{p t q:Nat}{evs:List (List AV)}{cs:List Evc}{M:Mem}
section
variable (H:aaE s p t q evs cs M)
include H
theorem Tryz.aaE.aaQ(X:Mem)(hX:X.length=3):∃O:aac,qS prog O∧
  O (.fn 11) [evV q cs.length] (M++X)=some ⟨clV (M.length+3) cs.length,none,[.qF,clX 32 cs.length evs.flatten]⟩:=by
 have h:=Ut ((H.more X).adj) H.flat (by have:=H.small;omega) (UN H.cok);rw[List.length_append,hX] at h;refine⟨gj [(11,[evV q cs.length],M++X,⟨clV (M.length+3) cs.length,none,[.qF,clX 32 cs.length evs.flatten]⟩)],iK fun y hy=>?_,TI⟩;simp only[List.mem_cons,List.not_mem_nil,or_false] at hy;subst hy;exact⟨h,fun p h=>by cases h⟩
theorem Tryz.aaE.aaS(x y z:aae)(R:Mem):aaE s p t (M.length+4) evs cs (M++(x::y::z::.qF::clX 32 cs.length evs.flatten::R)) where
 hp:=(H.more _).hp
 ht:=(H.more _).ht
 hq:=fun h=>⟨true,by
  rw[dO];have:cs.length≠0:=fun e=>h (H.acL e).2
  show some (clX 32 cs.length evs.flatten)=_
  unfold clX;rw[if_neg this]⟩
 len:=H.len
 small:=H.small
 abf:=H.abf
 con:=fun i e c h1 h2=>(H.con i e c h1 h2).more _
theorem Tryz.aaE.abb{T:Nat}(hT:M.length+5≤T){h:List AV}(ha:aaZ T h)(k i:Nat):OkN T [.cells true 0 h,.cells true 0 [.int .u8 (k:Int),.int .u8 (i:Int)],.cells true 0 h,.qF,clX 32 cs.length evs.flatten]:=by
 intro f hf;have h1:=ha f hf;have h2:(clX 32 cs.length evs.flatten).HK f=true:=by
  unfold clX;split
  ·rfl
  ·rw[du]
   refine dI fun e he=>?_
   obtain⟨j,hj⟩:=List.getElem?_of_mem he;have hl:=(List.getElem?_eq_some_iff.1 hj).1;have:=(H.con j e _ hj (List.getElem?_eq_getElem (by rw[←H.len];exact hl))).refs 0;exact AV.aan (fun b hb=>hf b (by simp only[decide_eq_true_eq] at hb;omega)) e this
 have h3:fj (clX 32 cs.length evs.flatten)=true:=Rq _ _ _;have h4:fj .qF=true:=rfl;simp only[List.all_cons,List.all_nil,h1,h2,h3,h4,du,gw,AV.aaa,AV.HK,nr,Bool.and_self]
theorem iA(hd:zm [bm] (cs.map unE)=false)(k i:Nat)(hi:i<256)(hk:(k:Int).tmod 8=0∨cs.length=0∧((k:Int).tmod 8=4∨(k:Int).tmod 8=5∨(k:Int).tmod 8=6∨(k:Int).tmod 8=7)):
  eg (cI s p t q cs.length) k i M:=by
 obtain⟨O,hO,eK⟩:=H.aaQ [.cells true 0 (cI s p t q cs.length),.cells true 0 [.int .u8 (k:Int),.int .u8 (i:Int)],.cells true 0 [.kO,.kO,.str [],.kO]] rfl;have YU:=H.small;have A':∀N,dY (aC prog) 39 N (clV (M.length+3) cs.length)=some (.int .i64 cs.length):=fun N=>cB (M.length+4) cs.length N
 have hr:aK (aC prog) (fun _=>[]) (aO prog) O 1 19 [.agg (cI s p t q cs.length),.agg [.int .u8 k,.int .u8 i]] M=some (.agg (cI s p t (M.length+4) cs.length),M++[.cells true 0 (cI s p t (M.length+4) cs.length),.cells true 0 [.int .u8 k,.int .u8 i],.cells true 0 (cI s p t (M.length+4) cs.length),.qF,clX 32 cs.length evs.flatten]):=by
  have c1:(AV.slice p 0 s.P.length none).qK=true:=rfl;have c2:(AV.slice t 0 s.T.length none).qK=true:=rfl;have c4:=mZ (M.length+3) cs.length;have d4:=kx (M.length+3) cs.length;have k4:=ky (M.length+3) cs.length;rcases hk with hk | ⟨h0,hk | hk | hk | hk⟩
  ·exact GC c1 c2 (dn q cs.length) c4 d4 k4 (by omega) hi A' eK hk
  ·exact Ek c1 c2 (dn q cs.length) c4 d4 k4 (by omega) hi A' eK h0 hk
  ·exact El c1 c2 (dn q cs.length) c4 d4 k4 (by omega) hi A' eK h0 hk
  ·exact Em c1 c2 (dn q cs.length) c4 d4 k4 (by omega) hi A' eK h0 hk
  ·exact Eo c1 c2 (dn q cs.length) c4 d4 k4 (by omega) hi A' eK h0 hk
 have hs:=bn af (aw _) hO (ax _) hr;have H2:=H.aaS (.cells true 0 (cI s p t (M.length+4) cs.length)) (.cells true 0 [.int .u8 (k:Int),.int .u8 (i:Int)]) (.cells true 0 (cI s p t (M.length+4) cs.length)) [];have rh:aaZ (M.length+5) (cI s p t (M.length+4) cs.length):=by
  have:=H2.refs
  rwa [List.length_append] at this
 refine⟨_,_,evV (M.length+4) cs.length,_,_,0,hs,⟨rfl,rfl,dn _ _,rfl,rfl,jE _ _⟩,fun Z=>?_,fun Z=>?_,H.abb (Nat.le_refl _) rh k i,rh⟩
 ·have:=((H2.more Z).aaP bm cr cn).1
  rw[hd] at this;exact this
 ·have:=((H2.more Z).aaP bm cr cn).2
  rw[hd] at this;exact this
end
end
end Go.Proofs
namespace Go.Proofs
open Go.Eng
open Tryz
variable{A:Mem}{T T' :Nat}
theorem OkN.up(h:OkN T A)(hT:T≤T'):OkN T' A:=fun f hf=>h f fun b hb=>hf b (by omega)
theorem OkN.append{B:Mem}(h:OkN T A)(h' :OkN T B):OkN T (A++B):=fun f hf=>by rw[List.all_append,h f hf,h' f hf];rfl
theorem aaZ.up{A:List AV}(h:aaZ T A)(hT:T≤T'):aaZ T' A:=fun f hf=>h f fun b hb=>hf b (by omega)
section
variable {s:aaf}{p t q:Nat}{evs:List (List AV)}{cs:List Evc}{M:Mem}
theorem Tryz.aaE.abg(H:aaE s p t q evs cs M)(Z:Mem):mB prog 41 [.agg [.slice p 0 s.P.length none,.slice t 0 s.T.length none]] (M++Z) (.int .i64 0) (M++Z):=by obtain⟨o,hp⟩:=(H.more Z).hp;obtain⟨o',ht⟩:=(H.more Z).ht;have:=bl s (M++Z) p t o o' hp ht;simpa [shB] using this
theorem xp(H:aaE s p t q evs cs M)(k i:Nat)(hi:i<256)(hk:(k:Int).tmod 8=1):eg (cI s p t q cs.length) k i M:=by
 obtain⟨O,hO,eK⟩:=H.aaQ [.cells true 0 (cI s p t q cs.length),.cells true 0 [.int .u8 (k:Int),.int .u8 (i:Int)],.cells true 0 [.kO,.kO,.str [],.kO]] rfl;have YU:=H.small;have A':∀N,dY (aC prog) 39 N (clV (M.length+3) cs.length)=some (.int .i64 cs.length):=fun N=>cB (M.length+4) cs.length N
 have c1:(AV.slice p 0 s.P.length none).qK=true:=rfl;have c2:(AV.slice t 0 s.T.length none).qK=true:=rfl;have c4:=mZ (M.length+3) cs.length;have d4:=kx (M.length+3) cs.length;have k4:=ky (M.length+3) cs.length;have hr:∃nm b,(nm,b)∈CF∧aK (aC prog) (fun _=>[]) (aO prog) O 1 19 [.agg (cI s p t q cs.length),.agg [.int .u8 k,.int .u8 i]] M=some (.agg [.slice p 0 s.P.length none,.slice t 0 s.T.length none,.str nm,evV (M.length+4) cs.length],M++[.cells true 0 [.slice p 0 s.P.length none,.slice t 0 s.T.length none,.str nm,evV (M.length+4) cs.length],.cells true 0 [.int .u8 k,.int .u8 i],.cells true 0 [.slice p 0 s.P.length none,.slice t 0 s.T.length none,.str nm,evV (M.length+4) cs.length],.qF,clX 32 cs.length evs.flatten,.cells true 1 [.str [],.str [49],.str [97,32,98],.str [65,49],.str [107,48]]]):=by
  have h5:(i:Int).tmod 5=((i%5:Nat):Int):=rfl;have:i%5=0∨i%5=1∨i%5=2∨i%5=3∨i%5=4:=by omega
  rcases this with e | e | e | e | e<;>rw[e] at h5
  ·exact⟨[],false,by simp[CF],BZ c1 c2 (dn q cs.length) c4 d4 k4 (by omega) hi A' eK hk h5⟩
  ·exact⟨[49],false,by simp[CF],B0 c1 c2 (dn q cs.length) c4 d4 k4 (by omega) hi A' eK hk h5⟩
  ·exact⟨[97,32,98],false,by simp[CF],B4 c1 c2 (dn q cs.length) c4 d4 k4 (by omega) hi A' eK hk h5⟩
  ·exact⟨[65,49],true,by simp[CF],B5 c1 c2 (dn q cs.length) c4 d4 k4 (by omega) hi A' eK hk h5⟩
  ·exact⟨[107,48],true,by simp[CF],B6 c1 c2 (dn q cs.length) c4 d4 k4 (by omega) hi A' eK hk h5⟩
 obtain⟨nm,b,hnm,hr⟩:=hr;have hs:=bn af (aw _) hO (ax _) hr;obtain⟨h',hh⟩:∃h',h' =[AV.slice p 0 s.P.length none,.slice t 0 s.T.length none,.str nm,evV (M.length+4) cs.length]:=⟨_,rfl⟩
 obtain⟨NS,hNS⟩:∃x:aae,x=.cells true 1 [.str [],.str [49],.str [97,32,98],.str [65,49],.str [107,48]]:=⟨_,rfl⟩
 rw[←hh,←hNS] at hs;have H2:=H.aaS (.cells true 0 h') (.cells true 0 [.int .u8 (k:Int),.int .u8 (i:Int)]) (.cells true 0 h') [NS];have rh:aaZ (M.length+5) h' :=by have:=(H.aaS (.cells true 0 h') (.cells true 0 h') (.cells true 0 h') []).refs;rw[List.length_append] at this;rw[hh];intro f hf;have:=this f hf;simp only[cI,AV.aaa,jV,Bool.true_and] at this ⊢;exact this
 have ok:OkN (M.length+6) ([.cells true 0 h',.cells true 0 [.int .u8 (k:Int),.int .u8 (i:Int)],.cells true 0 h',.qF,clX 32 cs.length evs.flatten]++[NS]):=((H.abb (Nat.le_refl _) rh k i).up (by omega)).append fun f _=>by rw[hNS];rfl
 have gk:(AV.slice p 0 s.P.length none).qK=true∧(AV.slice t 0 s.T.length none).qK=true∧(evV (M.length+4) cs.length).qK=true∧(AV.slice p 0 s.P.length none).known=true∧(AV.slice t 0 s.T.length none).known=true∧(evV (M.length+4) cs.length).known=true:=⟨rfl,rfl,dn _ _,rfl,rfl,jE _ _⟩;have rh6:aaZ (M.length+6) [AV.slice p 0 s.P.length none,.slice t 0 s.T.length none,.str nm,evV (M.length+4) cs.length]:=by rw[←hh];exact rh.up (by omega)
 have Zp :=hs;rw[hh] at Zp;cases b with
 |true=>
  refine⟨_,_,_,nm,[.cells true 0 h',.cells true 0 [.int .u8 (k:Int),.int .u8 (i:Int)],.cells true 0 h',.qF,clX 32 cs.length evs.flatten,NS],bif zm [nm] (cs.map unE) then 9 else 0,by rw[←hh];exact hs,gk,fun Z=>?_,fun Z=>?_,ok,rh6⟩
  ·exact((H2.more Z).aaP nm (nv nm true hnm) (nt nm true hnm)).1
  ·exact((H2.more Z).aaP nm (nv nm true hnm) (nt nm true hnm)).2
 |false=>
  refine⟨_,_,_,nm,[.cells true 0 h',.cells true 0 [.int .u8 (k:Int),.int .u8 (i:Int)],.cells true 0 h',.qF,clX 32 cs.length evs.flatten,NS],8,by rw[←hh];exact hs,gk,fun Z=>?_,fun Z=>?_,ok,rh6⟩
  ·exact Mm gk.1 gk.2.1 gk.2.2.1 gk.2.2.2.1 gk.2.2.2.2.1 gk.2.2.2.2.2 (fun Z=>H2.abg Z) (fun Z=>nv nm false hnm _) Z
  ·exact Mv gk.1 gk.2.1 gk.2.2.1 gk.2.2.2.1 gk.2.2.2.2.1 gk.2.2.2.2.2 (fun Z=>H2.abg Z) (fun Z=>nt nm false hnm _) Z
end
end Go.Proofs
namespace Go.Proofs
open Go.Eng
open Tryz
variable{cs:List Evc}{evs:List (List AV)}{s:aaf}
theorem Jy{p t q:Nat}{M:Mem}(H:aaE s p t q evs cs M)(h1:s.T.length=1)(k i:Nat)(hi:i<256)(hk:(k:Int).tmod 8=2):eg (cI s p t q cs.length) k i M:=by
 obtain⟨O,hO,eK⟩:=H.aaQ [.cells true 0 (cI s p t q cs.length),.cells true 0 [.int .u8 (k:Int),.int .u8 (i:Int)],.cells true 0 [.kO,.kO,.str [],.kO]] rfl;have YU:=H.small;have A':∀N,dY (aC prog) 39 N (clV (M.length+3) cs.length)=some (.int .i64 cs.length):=fun N=>cB (M.length+4) cs.length N
 have c4:=mZ (M.length+3) cs.length;obtain⟨ot,ht⟩:=H.ht;have hr:=Ej (k:=k) (i:=i) (m:=s.T.length) (rfl:(AV.slice p 0 s.P.length none).qK=true) (rfl:(AV.slice t 0 s.T.length none).qK=true) (dn q cs.length) c4 (kx (M.length+3) cs.length) (ky (M.length+3) cs.length) (by omega) hi A' eK rfl ht (by rw[vB];omega) h1 hk;have hs:=bn af (aw _) hO (ax _) hr;obtain⟨h',hh⟩:∃h',h' =[AV.slice p 0 s.P.length none,.slice (M.length+5) 0 0 none,.str bm,evV (M.length+4) cs.length]:=⟨_,rfl⟩
 have e0:[AV.slice p 0 s.P.length none,.slice (M.length+5) 0 0 none,.str bm,clV (M.length+3) cs.length]=h' :=by rw[hh];rfl
 rw[e0] at hs;have rh:aaZ (M.length+6) h' :=by
  have:=(H.aaS (.cells true 0 h') (.cells true 0 h') (.cells true 0 h') []).refs;rw[List.length_append] at this;rw[hh];intro f hf;have:=this f fun b hb=>hf b (by simp only[List.length_cons,List.length_nil] at hb;omega)
  simp only[cI,AV.aaa,jV,KP,Bool.true_and,Bool.and_eq_true] at this ⊢;exact⟨this.1,hf _ (by omega),this.2.2⟩
 have ok:OkN (M.length+6) ([.cells true 0 h',.cells true 0 [.int .u8 (k:Int),.int .u8 (i:Int)],.cells true 0 h',.qF,clX 32 cs.length evs.flatten]++[.qF]):=(H.abb (by omega) rh k i).append fun f _=>rfl
 have g1:(AV.slice p 0 s.P.length none).qK=true:=rfl;have g2:(AV.slice (M.length+5) 0 0 none).qK=true:=rfl;have hm:∀Z:Mem,mB prog 41 [.agg [.slice p 0 s.P.length none,.slice (M.length+5) 0 0 none]] ((M++[.cells true 0 h',.cells true 0 [.int .u8 (k:Int),.int .u8 (i:Int)],.cells true 0 h',.qF,clX 32 cs.length evs.flatten,.qF])++Z) (.int .i64 13) ((M++[.cells true 0 h',.cells true 0 [.int .u8 (k:Int),.int .u8 (i:Int)],.cells true 0 h',.qF,clX 32 cs.length evs.flatten,.qF])++Z):=
  fun Z=>BV g1 g2 fun N=>by simp[dY]
 refine⟨_,_,_,bm,[.cells true 0 h',.cells true 0 [.int .u8 (k:Int),.int .u8 (i:Int)],.cells true 0 h',.qF,clX 32 cs.length evs.flatten,.qF],13,by rw[←hh];exact hs,⟨rfl,rfl,dn _ _,rfl,rfl,jE _ _⟩,fun Z=>?_,fun Z=>?_,ok,by rw[←hh];exact rh⟩
 ·exact Ar g1 g2 (dn _ _) rfl rfl (jE _ _) (by decide) hm Z
 ·exact At g1 g2 (dn _ _) rfl rfl (jE _ _) (by decide) hm Z
theorem Rp{e:Int}(he:e≠0):∀(es:List Int) (us:List (List (List UInt8))) (L:List (List UInt8)),es.length=us.length→(∀x∈es,x=0∨x=e)→e∈es→zm L us=false→ckW L es us=e
 | [],_,_,_,_,h,_=>by simp at h
 |x::es,[],_,h,_,_,_=>by simp at h
 |x::es,U::us,L,hl,h0,hm,hd=>by
  rw[ckW];by_cases hx:x=0
  ·subst hx
   rw[zm,Bool.or_eq_false_iff] at hd;rw[if_neg (by simp),hd.1,if_neg (by simp)];refine Rp he es us (L++U) (by simpa using hl) (fun y hy=>h0 y (by simp[hy])) ?_ hd.2;rcases List.mem_cons.1 hm with h | h
   ·exact absurd h he
   ·exact h
  ·rw[if_pos hx]
   exact(h0 x (by simp)).resolve_left hx
variable{e:Int}{v:List AV}
open Classical in
theorem Tryz.aby.bad{pv tv:AV}{p t q q' :Nat}{M:Mem}(H:aaE s p t q evs cs M)(YW:pv=.slice p 0 s.P.length none)(Yi:tv=.slice t 0 s.T.length none){x:Nat}(hx:x<evs.length)(lv:v.length=32)(cv:∀y∈v,y.qK=true)(hq:∃o,M[q']? =some (.cells o 32 (evs.set x v).flatten))(hchk:∀X,mB prog 43 [.agg [pv,tv],.agg v] (M++X) (.int .i64 e) (M++X))(he:e≠0):
  aby pv tv bm q' (evs.set x v) (cs.map unE) ((evs.set x v).map fun w=>if w=v then e else 0) M where
 cp:=by rw[YW];rfl
 ct:=by rw[Yi];rfl
 hq:=fun _=>hq
 len:=by rw[List.length_map,List.length_set,H.len]
 aco:=by rw[List.length_map]
 small:=by have:=H.small;have:=H.len;rw[List.length_set];omega
 l32:=fun w hw=>by
  rcases List.mem_or_eq_of_mem_set hw with h | h
  ·exact H.l32 w h
  ·rw[h];exact lv
 cok:=fun w hw=>by
  rcases List.mem_or_eq_of_mem_set hw with h | h
  ·exact H.cok w h
  ·rw[h];exact cv
 abx:=H.at.abx
 nd:=fun i j w U U' a b h1 h2 h3 h4 h5 h6=>by
  rw[List.getElem?_map,h1] at h5;rw[List.getElem?_map,h2] at h6;simp only[Option.map_some,Option.some.injEq] at h5 h6;refine⟨h5.symm.trans h6,fun ha=>?_⟩;have hwv:w≠v:=fun h=>by rw[if_pos h] at h5;exact he (h5.trans ha)
  have key:∀i,(evs.set x v)[i]? =some w→evs[i]? =some w:=fun i h=>by
   by_cases hi:x=i
   ·subst hi
    rw[List.getElem?_set_self hx] at h;exact absurd (Option.some.inj h).symm hwv
   ·rwa [List.getElem?_set_ne hi] at h
  exact H.at.nd (key i h1) (key j h2) h3 h4
 acS:=fun X=>by rw[YW,Yi];exact H.abg X
 nmR:=cr
 nmL:=cn
 chk:=fun i w a h1 h2 X=>by
  rw[List.getElem?_map,h1] at h2;simp only[Option.map_some,Option.some.injEq] at h2;by_cases hw:w=v
  ·rw[if_pos hw] at h2
   rw[←h2,hw];exact hchk X
  ·rw[if_neg hw] at h2
   rw[←h2,YW,Yi];rcases List.mem_or_eq_of_mem_set (List.mem_of_getElem? h1) with h | h
   ·exact H.at.chk w h X
   ·exact absurd h hw
 un:=fun i w U h1 h2 h3 X=>by
  rw[List.getElem?_map,h1] at h3;simp only[Option.map_some,Option.some.injEq] at h3;have hwv:w≠v:=fun h=>by rw[if_pos h] at h3;exact he h3
  have hk:evs[i]? =some w:=by
   by_cases hi:x=i
   ·subst hi
    rw[List.getElem?_set_self hx] at h1;exact absurd (Option.some.inj h1).symm hwv
   ·rwa [List.getElem?_set_ne hi] at h1
  exact H.at.un i w U hk h2 X
open Classical in
theorem jF{pv tv:AV}{p t q q' :Nat}{M:Mem}(H:aaE s p t q evs cs M)(hd:zm [bm] (cs.map unE)=false)(YW:pv=.slice p 0 s.P.length none)(Yi:tv=.slice t 0 s.T.length none){x:Nat}(hx:x<evs.length)(lv:v.length=32)(cv:∀y∈v,y.qK=true)(hq:∃o,M[q']? =some (.cells o 32 (evs.set x v).flatten))(hchk:∀X,mB prog 43 [.agg [pv,tv],.agg v] (M++X) (.int .i64 e) (M++X))(he:e≠0):
  mB prog 20 [.agg [pv,tv,.str bm,evV q' evs.length]] M (.int .i64 e) M∧mB prog 12 [.agg [pv,tv,.str bm,evV q' evs.length]] M (.int .i64 e) M:=by
 have K:=aby.bad H YW Yi hx lv cv hq hchk he;have hw:ckW [bm] ((evs.set x v).map fun w=>if w=v then e else 0) (cs.map unE)=e:=by
  refine Rp he _ _ _ (by rw[List.length_map,List.length_map,List.length_set,H.len]) (fun y hy=>?_) ?_ hd
  ·obtain⟨w,_,rfl⟩:=List.mem_map.1 hy
   by_cases h:w=v
   ·rw[if_pos h];exact .inr rfl
   ·rw[if_neg h];exact .inl rfl
  ·exact List.mem_map.2 ⟨v,List.mem_set hx v,by rw[if_pos rfl]⟩
 have a:=mj K;have b:=ml K;rw[hw] at a b;rw[List.length_set] at a b;exact⟨a,b⟩
section
variable {O:aac}{M:Mem}{pv tv ev cv:AV}{nm:List UInt8}{n k i x:Nat}{XC:aae}{D:List AV}
section
variable (c1:pv.qK=true)(c2:tv.qK=true)(c3:ev.qK=true)(c4:cv.qK=true)(d4:cv.cells=[cv])(k4:cv.known=true)(hn:n≤1000)(hi:i<256)(A':∀N,dY (aC prog) 39 N cv=some (.int .i64 n))(eK:O (.fn 11) [ev] (M++[.cells true 0 [pv,tv,.str nm,ev],.cells true 0 [.int .u8 k,.int .u8 i],.cells true 0 [.kO,.kO,.str [],.kO]])=some ⟨cv,none,[.qF,XC]⟩)(Yd:cv=.slice (M.length+4) 0 n none)(Z1:XC=.cells true 32 D)(hD:D.length=n*32)(h0:0<n)(hx:x=i%n)
include c1 c2 c3 c4 d4 k4 hn hi A' eK Yd Z1 hD h0 hx
theorem pK(hr:(k:Int).tmod 8=5):
  aK (aC prog) (fun _=>[]) (aO prog) O 1 19 [.agg [pv,tv,.str nm,ev],.agg [.int .u8 k,.int .u8 i]] M=some (.agg [pv,tv,.str nm,cv],M++[.cells true 0 [pv,tv,.str nm,cv],.cells true 0 [.int .u8 k,.int .u8 i],.cells true 0 [pv,tv,.str nm,cv],.qF,.cells true 32 (D.take (x*32)++.int .i64 ((i:Int)-1)::D.drop (x*32+1))]):=by
 have WB:∀j,(M.length+j<M.length)=False:=fun j=>bK _ _
 have w0:IntKind.u8.wrap 0=0:=rfl;have wi:IntKind.i64.wrap (i:Int)=(i:Int):=ai (by omega) (by omega);have XO:x<n:=by rw[hx];exact Nat.mod_lt _ h0
 have hxi:(i:Int).tmod (n:Int)=(x:Int):=by rw[hx];rfl
 have hwx:IntKind.i64.wrap (x:Int)=(x:Int):=ai (by omega) (by omega);have m1:¬(n:Int)<1:=by omega
 have m2:¬(n:Int)=0:=by omega
 have m3:(x:Int)<(n:Int):=by omega
 have m4:¬n=0:=by omega
 have hwi:IntKind.i64.wrap ((i:Int)-1)=(i:Int)-1:=ai (by omega) (by omega);have q1:x*32+1≤D.length:=by rw[hD];omega
 have q2:x*32+24+1≤D.length:=by rw[hD];omega
 have q3:x*32+1+1≤D.length:=by rw[hD];omega
 subst Z1;rw[Yd] at A';rw[Yd] at eK;simp[-getElem?_pos,-AV.qK,-AV.known,-AV.cells,-List.all_eq_true,vS,mS,-dY,A',aK,aaL,f19,eK,c1,c2,WB,wi,hr,Yd,hxi,m1,m3,m4,hwi,h0,q1]
theorem xf(hr:(k:Int).tmod 8=7):
  aK (aC prog) (fun _=>[]) (aO prog) O 1 19 [.agg [pv,tv,.str nm,ev],.agg [.int .u8 k,.int .u8 i]] M=some (.agg [pv,tv,.str nm,cv],M++[.cells true 0 [pv,tv,.str nm,cv],.cells true 0 [.int .u8 k,.int .u8 i],.cells true 0 [pv,tv,.str nm,cv],.qF,.cells true 32 (D.take (x*32+24)++.str [122]::D.drop (x*32+25))]):=by
 have WB:∀j,(M.length+j<M.length)=False:=fun j=>bK _ _
 have w0:IntKind.u8.wrap 0=0:=rfl;have wi:IntKind.i64.wrap (i:Int)=(i:Int):=ai (by omega) (by omega);have XO:x<n:=by rw[hx];exact Nat.mod_lt _ h0
 have hxi:(i:Int).tmod (n:Int)=(x:Int):=by rw[hx];rfl
 have hwx:IntKind.i64.wrap (x:Int)=(x:Int):=ai (by omega) (by omega);have m1:¬(n:Int)<1:=by omega
 have m2:¬(n:Int)=0:=by omega
 have m3:(x:Int)<(n:Int):=by omega
 have m4:¬n=0:=by omega
 have hwi:IntKind.i64.wrap ((i:Int)-1)=(i:Int)-1:=ai (by omega) (by omega);have q1:x*32+1≤D.length:=by rw[hD];omega
 have q2:x*32+24+1≤D.length:=by rw[hD];omega
 have q3:x*32+1+1≤D.length:=by rw[hD];omega
 subst Z1;rw[Yd] at A';rw[Yd] at eK;simp[-getElem?_pos,-AV.qK,-AV.known,-AV.cells,-List.all_eq_true,vS,mS,-dY,A',aK,aaL,f19,eK,c1,c2,WB,wi,hr,Yd,hxi,m1,m3,m4,h0,q2,Nat.add_assoc]
end
end
end Go.Proofs
namespace Go.Proofs
open Go.Eng
open Tryz
section
variable {M:Mem}{pv tv:AV}{k:Int}{nm:List UInt8}{R:List AV}
theorem Ai(hk:k<1∨5<k)(h1:pv.qK=true)(h2:tv.qK=true)(hl:R.length=30)(hc:R.all AV.qK=true)(hC:∀Z,mB prog 41 [.agg [pv,tv]] (M++Z) (.int .i64 0) (M++Z))(Z:Mem):
  mB prog 43 [.agg [pv,tv],.agg (.int .i64 k::.str nm::R)] (M++Z) (.int .i64 12) (M++Z):=by
 have hG:aO prog 43=some f43:=by kernel_rfl
 have Xg :∀Z',mB prog 41 [.agg [pv,tv]] ((M++Z)++Z') (.int .i64 0) ((M++Z)++Z'):=fun Z' =>by rw[List.append_assoc];exact hC _
 have YH :∀Z',mB prog 13 [.agg [.kO,.kO,.str [],.kO]] ((M++Z)++Z') (.bool true) ((M++Z)++Z'):=fun Z' =>lC _
 obtain⟨O,hO,e1,e2⟩:=xV Xg YH (by decide);obtain⟨N,Xp⟩:∃N,N=M++Z:=⟨_,rfl⟩
 rw[←Xp];simp only[←Xp] at e1 e2;have w8:IntKind.i64.wrap 12=12:=rfl;have e10:=e1 [];have e20:=e2 [];rw[List.append_nil] at e10 e20;have hc2:(∀y:AV,y∈R→y.qK=true)=True:=eq_true (List.all_eq_true.1 hc);have h:ad (aC prog) (fun _=>[]) (aO prog) O 1 43 [.agg [pv,tv],.agg (.int .i64 k::.str nm::R)] N=some ⟨.int .i64 12,none,[]⟩:=by
  clear hO hC Xg;by_cases hz:k<1
  ·simp[-getElem?_pos,-AV.qK,-AV.known,-AV.cells,-List.all_eq_true,vS,mS,ad,hG,f43,e1,hz]
  ·have h5:5<k:=hk.resolve_left hz
   simp[-getElem?_pos,-AV.qK,-AV.known,-AV.cells,-List.all_eq_true,vS,mS,ad,hG,f43,e1,hz,h5]
 have:=(au af (aw _) hO (ax _) h).1;simpa [HS.mem] using this
theorem LL(hk:1≤k∧k≤5)(h1:pv.qK=true)(h2:tv.qK=true)(hl:R.length=30)(hc:R.all AV.qK=true)(hC:∀Z,mB prog 41 [.agg [pv,tv]] (M++Z) (.int .i64 0) (M++Z))(hN:∀Z,mB prog 80 [.str nm] (M++Z) (.int .i64 8) (M++Z))(Z:Mem):
  mB prog 43 [.agg [pv,tv],.agg (.int .i64 k::.str nm::R)] (M++Z) (.int .i64 8) (M++Z):=by
 have hG:aO prog 43=some f43:=by kernel_rfl
 have Xg :∀Z',mB prog 41 [.agg [pv,tv]] ((M++Z)++Z') (.int .i64 0) ((M++Z)++Z'):=fun Z' =>by rw[List.append_assoc];exact hC _
 have YH :∀Z',mB prog 80 [.str nm] ((M++Z)++Z') (.int .i64 8) ((M++Z)++Z'):=fun Z' =>by rw[List.append_assoc];exact hN _
 obtain⟨O,hO,e1,e2⟩:=xV Xg YH (by decide);obtain⟨N,Xp⟩:∃N,N=M++Z:=⟨_,rfl⟩
 rw[←Xp];simp only[←Xp] at e1 e2;have e10:=e1 [];have e20:=e2 [];rw[List.append_nil] at e10 e20;have hc2:(∀y:AV,y∈R→y.qK=true)=True:=eq_true (List.all_eq_true.1 hc);have h:ad (aC prog) (fun _=>[]) (aO prog) O 1 43 [.agg [pv,tv],.agg (.int .i64 k::.str nm::R)] N=some ⟨.int .i64 8,none,[]⟩:=by
  clear hO hC Xg hN;have z1:¬k<1:=by omega
  have z2:¬5<k:=by omega
  simp[-getElem?_pos,-AV.qK,-AV.known,-AV.cells,-List.all_eq_true,vS,mS,ad,hG,f43,e1,e2,z1,z2]
 have:=(au af (aw _) hO (ax _) h).1;simpa [HS.mem] using this
end
end Go.Proofs
namespace Go.Proofs
open Go.Eng
open Tryz
theorem A0:∀{evs:List (List AV)}{x:Nat}{a b:AV}{r:List AV},(∀e∈evs,e.length=32)→evs[x]? =some (a::r)→evs.flatten.take (x*32)++b::evs.flatten.drop (x*32+1)=(evs.set x (b::r)).flatten
 | [],x,_,_,_,_,h=>by simp at h
 |e::l,0,a,b,r,_,h=>by simp at h;subst h;simp
 |e::l,x+1,a,b,r,hl,h=>by have he:=hl e (by simp);have:=A0 (b:=b) (fun w hw=>hl w (by simp[hw])) (by simpa using h:l[x]? =some (a::r));rw[List.set_cons_succ,List.flatten_cons,List.flatten_cons,←this];rw[List.take_append,List.drop_append,List.take_of_length_le (by omega),List.drop_of_length_le (by omega),List.nil_append,List.append_assoc,show(x+1)*32-e.length=x*32 by omega,show(x+1)*32+1-e.length=x*32+1 by omega]
variable{M:Mem}
theorem Tryz.aaE.abS{s:aaf}{p t q:Nat}{evs:List (List AV)}{cs:List Evc}(H:aaE s p t q evs cs M){x:Nat}(hx:x<evs.length):∃c R,cs[x]? =some c∧evs[x]? =some (.int .i64 c.k::.str c.nm::R)∧R.length=30∧R.all AV.qK=true:=by
 have h1:evs[x]? =some evs[x]:=List.getElem?_eq_getElem hx;have hc:x<cs.length:=by rw[←H.len];exact hx
 have h2:cs[x]? =some cs[x]:=List.getElem?_eq_getElem hc;have hE:=H.con x _ _ h1 h2;have l32:=hE.l32;have ck:=hE.cok;obtain⟨b,u,s',kn,e,_⟩:=hE;obtain⟨c,hcc⟩:∃c,c=cs[x]:=⟨_,rfl⟩
 rw[←hcc] at e h2;rw[e] at h1 ck;refine⟨c,(c.cells b u s' kn).drop 2,h2,h1,rfl,List.all_eq_true.2 fun y hy=>ck y (List.mem_of_mem_drop hy)⟩
theorem Jw{s:aaf}{p t q:Nat}{evs:List (List AV)}{cs:List Evc}(H:aaE s p t q evs cs M)(hd:zm [bm] (cs.map unE)=false)(k i:Nat)(hi:i<256)(h0:0<cs.length)(ZP:i<2∨6<i)(hk:(k:Int).tmod 8=5):eg (cI s p t q cs.length) k i M:=by
 obtain⟨O,hO,eK⟩:=H.aaQ [.cells true 0 (cI s p t q cs.length),.cells true 0 [.int .u8 (k:Int),.int .u8 (i:Int)],.cells true 0 [.kO,.kO,.str [],.kO]] rfl;have YU:=H.small;have A':∀N,dY (aC prog) 39 N (clV (M.length+3) cs.length)=some (.int .i64 cs.length):=fun N=>cB (M.length+4) cs.length N
 have c4:=mZ (M.length+3) cs.length;obtain⟨x,hx⟩:∃x,x=i%cs.length:=⟨_,rfl⟩
 have XO:x<evs.length:=by rw[H.len,hx];exact Nat.mod_lt _ h0
 obtain⟨c,R,hcx,ZT,lR,cR⟩:=H.abS XO;have hr:=pK (k:=k) (i:=i) (x:=x) (D:=evs.flatten) (rfl:(AV.slice p 0 s.P.length none).qK=true) (rfl:(AV.slice t 0 s.T.length none).qK=true) (dn q cs.length) c4 (kx (M.length+3) cs.length) (ky (M.length+3) cs.length) (by omega) hi A' eK (by unfold clV;rw[if_neg (by omega)]) (by unfold clX;rw[if_neg (by omega)]) H.flat h0 hx hk;have hs:=bn af (aw _) hO (ax _) hr;rw[A0 H.l32 ZT] at hs;obtain⟨v,hv⟩:∃v,v=AV.int .i64 ((i:Int)-1)::.str c.nm::R:=⟨_,rfl⟩
 obtain⟨h',hh⟩:∃h',h' =cI s p t (M.length+4) cs.length:=⟨_,rfl⟩
 have e0:[AV.slice p 0 s.P.length none,.slice t 0 s.T.length none,.str bm,clV (M.length+3) cs.length]=h' :=by rw[hh];rfl
 rw[e0,←hv] at hs;obtain⟨nw,Xm⟩:∃nw:Mem,nw=[.cells true 0 h',.cells true 0 [.int .u8 (k:Int),.int .u8 (i:Int)],.cells true 0 h',.qF,.cells true 32 (evs.set x v).flatten]:=⟨_,rfl⟩
 rw[←Xm] at hs;have rh:aaZ (M.length+5) h' :=by
  have:=(H.aaS (.cells true 0 h') (.cells true 0 h') (.cells true 0 h') []).refs
  rwa [List.length_append,←hh] at this
 have rv:∀w∈evs.set x v,aaZ (M.length+5) w:=fun w hw f hf=>by
  have key:∀u∈evs,AV.aaa f u=true:=fun u hu=>by obtain⟨j,hj⟩:=List.getElem?_of_mem hu;have hl:=(List.getElem?_eq_some_iff.1 hj).1;have:=(H.con j u _ hj (List.getElem?_eq_getElem (by rw[←H.len];exact hl))).refs 0;exact AV.aan (fun b hb=>hf b (by simp only[decide_eq_true_eq] at hb;omega)) u this
  rcases List.mem_or_eq_of_mem_set hw with h | h
  ·exact key w h
  ·have:=key _ (List.mem_of_getElem? ZT)
   rw[h,hv];simp only[AV.aaa,AV.HK,Bool.true_and] at this ⊢;exact this
 have ok:OkN (M.length+5) nw:=fun f hf=>by
  have h1:=rh f hf;have h2:AV.aaa f (evs.set x v).flatten=true:=dI fun w hw=>rv w hw f hf
  have h4:fj .qF=true:=rfl;rw[Xm];simp only[List.all_cons,List.all_nil,h1,h2,h4,du,gw,AV.aaa,AV.HK,nr,Bool.and_self]
 have lv:v.length=32:=by rw[hv,List.length_cons,List.length_cons,lR]
 have cv:∀y∈v,y.qK=true:=fun y hy=>by
  rw[hv,List.mem_cons,List.mem_cons] at hy;rcases hy with rfl | rfl | hy
  ·rfl
  ·rfl
  ·exact List.all_eq_true.1 cR y hy
 have H2:=H.more nw;have hb:∀Z,_:=fun Z=>jF (q' :=M.length+4) (e:=12) (H2.more Z) hd rfl rfl XO lv cv ⟨true,by rw[List.append_assoc,Xm,dO];rfl⟩ (fun X=>by rw[hv];have:=Ai (M:=(M++nw)++Z) (pv:=.slice p 0 s.P.length none) (tv:=.slice t 0 s.T.length none) (k:=(i:Int)-1) (nm:=c.nm) (R:=R) (by omega) rfl rfl lR cR (fun Z' =>(H2.more Z).abg Z') X;exact this) (by decide)
 rw[H.len] at hb;refine⟨_,_,evV (M.length+4) cs.length,bm,nw,12,by rw[hh] at hs;exact hs,⟨rfl,rfl,dn _ _,rfl,rfl,jE _ _⟩,fun Z=>(hb Z).1,fun Z=>(hb Z).2,by rw[Xm] at ok ⊢;exact ok,?_⟩;rw[hh] at rh;rw[Xm];exact rh
end Go.Proofs
