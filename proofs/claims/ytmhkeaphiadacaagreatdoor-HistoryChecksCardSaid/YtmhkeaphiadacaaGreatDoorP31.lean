/- See P53. -/
import Derived.Test.YtmhkeaphiadacaaGreatDoorP30
set_option linter.all false
set_option maxRecDepth 100000
set_option maxHeartbeats 40000000
namespace Go.Proofs
open Go.Eng
open Tryz
theorem mE(L:List (List UInt8))(hl:L.length≤1000)(m:Mem)(b:Nat)(o:Bool)(hb:m[b]? =some (.cells o 1 (stC L))):
  mB prog 82 [.slice b 0 L.length none,.slice b 0 L.length none] m (.bool true) m:=by
 have hG:aO prog 82=some f82:=by kernel_rfl
 have lb:=(List.getElem?_eq_some_iff.1 hb).1;have hO:qS prog (gP 113 [.slice b 0 L.length none,.slice b 0 L.length none] (.bool true) (fun M=>∃ext,M=m++ext)):=ij fun M hM=>by obtain⟨ext,rfl⟩:=hM;exact Qu L hl _ b o (by rw[List.getElem?_append_left lb];exact hb)
 refine aY (K:=1) (lv:=fun _=>[]) hO ?_;have e0:∃ext,m=m++ext:=⟨[],by simp⟩
 have e1:(∃ext,m=m++ext)=True:=eq_true e0;clear hO;simp[ad,hG,f82,gP,-List.self_eq_append_right,e1]
section
variable (n:Nat)(hn:n≤1000)(L1:List (List UInt8))(Xb:L1.length=n)
include n hn L1 Xb
theorem Lm(m:Mem)(c r1:Nat)(o q1:Bool)(hc:m[c]? =some (.cells o 1 [.slice r1 0 n none]))(WL:m[r1]? =some (.cells q1 1 (stC L1))):
  mB prog 114 [.slice c 0 1 none,.slice c 0 1 none,.func 82 []] m (.bool true) m:=by
 have hG:aO prog 114=some f114:=by kernel_rfl
 have hO:qS prog (iV [(82,[.slice r1 0 n none,.slice r1 0 n none],.bool true)] (fun M=>M=m)):=ma fun e he M hM=>by
  subst hM;simp only[List.mem_cons,List.not_mem_nil,or_false] at he;subst he
  ·have:=mE L1 (by omega) M r1 q1 WL
   rw[Xb] at this;exact this
 refine aY (lv:=(fun _=>[17])) (K:=5) hO ?_;clear hO;simp[ad,hG,f114,iV,ar,de,aR,gl,hc,w1]
theorem Ln(L2:List (List UInt8))(WZ:L2.length=n)(m:Mem)(c r1 r2:Nat)(o q1 q2:Bool)(hc:m[c]? =some (.cells o 1 [.slice r1 0 n none,.slice r2 0 n none]))(WL:m[r1]? =some (.cells q1 1 (stC L1)))(WR:m[r2]? =some (.cells q2 1 (stC L2))):
  mB prog 114 [.slice c 0 2 none,.slice c 0 2 none,.func 82 []] m (.bool true) m:=by
 have hG:aO prog 114=some f114:=by kernel_rfl
 have hO:qS prog (iV [(82,[.slice r1 0 n none,.slice r1 0 n none],.bool true),(82,[.slice r2 0 n none,.slice r2 0 n none],.bool true)] (fun M=>M=m)):=ma fun e he M hM=>by
  subst hM;simp only[List.mem_cons,List.not_mem_nil,or_false] at he;rcases he with rfl | rfl
  ·have:=mE L1 (by omega) M r1 q1 WL
   rw[Xb] at this;exact this
  ·have:=mE L2 (by omega) M r2 q2 WR
   rw[WZ] at this;exact this
 refine aY (lv:=(fun _=>[17])) (K:=5) hO ?_;clear hO;simp[ad,hG,f114,iV,ar,de,aR,gl,hc,w1,w2]
theorem Qy(m:Mem)(c r1:Nat)(o q1:Bool)(hc:m[c]? =some (.cells o 1 [.slice r1 0 n none]))(WL:m[r1]? =some (.cells q1 1 (stC L1))):
  mB prog 83 [.slice c 0 1 none,.slice c 0 1 none] m (.bool true) m:=by
 have hG:aO prog 83=some f83:=by kernel_rfl
 have hO:qS prog (gP 114 [.slice c 0 1 none,.slice c 0 1 none,.func 82 []] (.bool true) (fun M=>M=m)):=ij fun M hM=>by subst hM;exact Lm n hn L1 Xb M c r1 o q1 hc WL
 refine aY (K:=1) (lv:=fun _=>[]) hO ?_;clear hO;simp[ad,hG,f83,gP]
theorem Qz(L2:List (List UInt8))(WZ:L2.length=n)(m:Mem)(c r1 r2:Nat)(o q1 q2:Bool)(hc:m[c]? =some (.cells o 1 [.slice r1 0 n none,.slice r2 0 n none]))(WL:m[r1]? =some (.cells q1 1 (stC L1)))(WR:m[r2]? =some (.cells q2 1 (stC L2))):
  mB prog 83 [.slice c 0 2 none,.slice c 0 2 none] m (.bool true) m:=by
 have hG:aO prog 83=some f83:=by kernel_rfl
 have hO:qS prog (gP 114 [.slice c 0 2 none,.slice c 0 2 none,.func 82 []] (.bool true) (fun M=>M=m)):=ij fun M hM=>by subst hM;exact Ln n hn L1 Xb L2 WZ M c r1 r2 o q1 q2 hc WL WR
 refine aY (K:=1) (lv:=fun _=>[]) hO ?_;clear hO;simp[ad,hG,f83,gP]
end
section
variable (nm:List UInt8)(B U:List (List UInt8))(hB:B.length≤1000)(hU:U.length≤1000)
include nm B U hB hU
theorem BH(m:Mem)(b u:Nat)(o1 o2:Bool)(hb:m[b]? =some (.cells o1 1 (stC B)))(hu:m[u]? =some (.cells o2 1 (stC U))):
  mB prog 49 [.agg (aZ nm (.slice b 0 B.length none) (.slice u 0 U.length none) (.kO)),.agg (aZ nm (.slice b 0 B.length none) (.slice u 0 U.length none) (.kO))] m (.bool true) m:=by
 have lb:=(List.getElem?_eq_some_iff.1 hb).1;have lu:=(List.getElem?_eq_some_iff.1 hu).1;have hO:qS prog (iV [(82,[.slice b 0 B.length none,.slice b 0 B.length none],.bool true),(32,[.slice u 0 U.length none,.slice u 0 U.length none],.bool true)] (fun M=>∃ext,M=m++ext)):=ma fun e he M hM=>by
  obtain⟨ext,rfl⟩:=hM;simp only[List.mem_cons,List.not_mem_nil,or_false] at he;rcases he with rfl | rfl
  ·exact mE B hB _ b o1 (by rw[List.getElem?_append_left lb];exact hb)
  ·exact zP U hU _ u o2 (by rw[List.getElem?_append_left lu];exact hu)
 have k:∀f args v E,(f,args,v)∈[(82,[.slice b 0 B.length none,.slice b 0 B.length none],.bool true),(32,[.slice u 0 U.length none,.slice u 0 U.length none],.bool true)]→iV [(82,[.slice b 0 B.length none,.slice b 0 B.length none],.bool true),(32,[.slice u 0 U.length none,.slice u 0 U.length none],.bool true)] (fun M=>∃ext,M=m++ext) (.fn f) args (m++E)=some ⟨v,none,[]⟩:=fun f args v E h=>by simp only[List.mem_cons,List.not_mem_nil,or_false,Prod.mk.injEq] at h;rcases h with⟨rfl,rfl,rfl⟩ | ⟨rfl,rfl,rfl⟩<;>simp[iV,ar,de]
 have k2:∀f args E,iV [(82,[.slice b 0 B.length none,.slice b 0 B.length none],.bool true),(32,[.slice u 0 U.length none,.slice u 0 U.length none],.bool true)] (fun M=>∃ext,M=m++ext) (.fn f) args (m++E)=ar (de [(82,[.slice b 0 B.length none,.slice b 0 B.length none],.bool true),(32,[.slice u 0 U.length none,.slice u 0 U.length none],.bool true)]) (.fn f) args (m++E):=fun f args E=>by simp[iV]
 refine iW (qS.or' hO eA) ?_ ?_ ?_ ?_
 ·unfold aac.or
  rw[k _ _ (.bool true) _ (by simp)]
 ·unfold aac.or
  rw[k _ _ (.bool true) _ (by simp)]
 ·unfold aac.or
  rw[k2];simp[ar,de,rH]
 ·unfold aac.or
  rw[k2];simp[ar,de,rH]
section
variable (L1:List (List UInt8))(Xb:L1.length=B.length)
include L1 Xb
theorem BI(m:Mem)(b u c r1:Nat)(o1 o2 o3 q1:Bool)(hb:m[b]? =some (.cells o1 1 (stC B)))(hu:m[u]? =some (.cells o2 1 (stC U)))(hc:m[c]? =some (.cells o3 1 [.slice r1 0 B.length none]))(WL:m[r1]? =some (.cells q1 1 (stC L1))):
  mB prog 49 [.agg (aZ nm (.slice b 0 B.length none) (.slice u 0 U.length none) (.slice c 0 1 none)),.agg (aZ nm (.slice b 0 B.length none) (.slice u 0 U.length none) (.slice c 0 1 none))] m (.bool true) m:=by
 have lb:=(List.getElem?_eq_some_iff.1 hb).1;have lu:=(List.getElem?_eq_some_iff.1 hu).1;have lc:=(List.getElem?_eq_some_iff.1 hc).1;have lr1:=(List.getElem?_eq_some_iff.1 WL).1;have hO:qS prog (iV [(82,[.slice b 0 B.length none,.slice b 0 B.length none],.bool true),(32,[.slice u 0 U.length none,.slice u 0 U.length none],.bool true),(83,[.slice c 0 1 none,.slice c 0 1 none],.bool true)] (fun M=>∃ext,M=m++ext)):=ma fun e he M hM=>by
  obtain⟨ext,rfl⟩:=hM;simp only[List.mem_cons,List.not_mem_nil,or_false] at he;rcases he with rfl | rfl | rfl
  ·exact mE B hB _ b o1 (by rw[List.getElem?_append_left lb];exact hb)
  ·exact zP U hU _ u o2 (by rw[List.getElem?_append_left lu];exact hu)
  ·exact Qy B.length hB L1 Xb _ c r1 o3 q1 (by rw[List.getElem?_append_left lc];exact hc) (by rw[List.getElem?_append_left lr1];exact WL)
 have k:∀f args v E,(f,args,v)∈[(82,[.slice b 0 B.length none,.slice b 0 B.length none],.bool true),(32,[.slice u 0 U.length none,.slice u 0 U.length none],.bool true),(83,[.slice c 0 1 none,.slice c 0 1 none],.bool true)]→iV [(82,[.slice b 0 B.length none,.slice b 0 B.length none],.bool true),(32,[.slice u 0 U.length none,.slice u 0 U.length none],.bool true),(83,[.slice c 0 1 none,.slice c 0 1 none],.bool true)] (fun M=>∃ext,M=m++ext) (.fn f) args (m++E)=some ⟨v,none,[]⟩:=fun f args v E h=>by simp only[List.mem_cons,List.not_mem_nil,or_false,Prod.mk.injEq] at h;rcases h with⟨rfl,rfl,rfl⟩ | ⟨rfl,rfl,rfl⟩ | ⟨rfl,rfl,rfl⟩<;>simp[iV,ar,de]
 have k2:∀f args E,iV [(82,[.slice b 0 B.length none,.slice b 0 B.length none],.bool true),(32,[.slice u 0 U.length none,.slice u 0 U.length none],.bool true),(83,[.slice c 0 1 none,.slice c 0 1 none],.bool true)] (fun M=>∃ext,M=m++ext) (.fn f) args (m++E)=ar (de [(82,[.slice b 0 B.length none,.slice b 0 B.length none],.bool true),(32,[.slice u 0 U.length none,.slice u 0 U.length none],.bool true),(83,[.slice c 0 1 none,.slice c 0 1 none],.bool true)]) (.fn f) args (m++E):=fun f args E=>by simp[iV]
 refine iW (qS.or' hO eA) ?_ ?_ ?_ ?_
 ·unfold aac.or
  rw[k _ _ (.bool true) _ (by simp)]
 ·unfold aac.or
  rw[k _ _ (.bool true) _ (by simp)]
 ·unfold aac.or
  rw[k _ _ (.bool true) _ (by simp)]
 ·unfold aac.or
  rw[k2];simp[ar,de,rH]
theorem BJ(L2:List (List UInt8))(WZ:L2.length=B.length)(m:Mem)(b u c r1 r2:Nat)(o1 o2 o3 q1 q2:Bool)(hb:m[b]? =some (.cells o1 1 (stC B)))(hu:m[u]? =some (.cells o2 1 (stC U)))(hc:m[c]? =some (.cells o3 1 [.slice r1 0 B.length none,.slice r2 0 B.length none]))(WL:m[r1]? =some (.cells q1 1 (stC L1)))(WR:m[r2]? =some (.cells q2 1 (stC L2))):
  mB prog 49 [.agg (aZ nm (.slice b 0 B.length none) (.slice u 0 U.length none) (.slice c 0 2 none)),.agg (aZ nm (.slice b 0 B.length none) (.slice u 0 U.length none) (.slice c 0 2 none))] m (.bool true) m:=by
 have lb:=(List.getElem?_eq_some_iff.1 hb).1;have lu:=(List.getElem?_eq_some_iff.1 hu).1;have lc:=(List.getElem?_eq_some_iff.1 hc).1;have lr1:=(List.getElem?_eq_some_iff.1 WL).1;have lr2:=(List.getElem?_eq_some_iff.1 WR).1;have hO:qS prog (iV [(82,[.slice b 0 B.length none,.slice b 0 B.length none],.bool true),(32,[.slice u 0 U.length none,.slice u 0 U.length none],.bool true),(83,[.slice c 0 2 none,.slice c 0 2 none],.bool true)] (fun M=>∃ext,M=m++ext)):=ma fun e he M hM=>by
  obtain⟨ext,rfl⟩:=hM;simp only[List.mem_cons,List.not_mem_nil,or_false] at he;rcases he with rfl | rfl | rfl
  ·exact mE B hB _ b o1 (by rw[List.getElem?_append_left lb];exact hb)
  ·exact zP U hU _ u o2 (by rw[List.getElem?_append_left lu];exact hu)
  ·exact Qz B.length hB L1 Xb L2 WZ _ c r1 r2 o3 q1 q2 (by rw[List.getElem?_append_left lc];exact hc) (by rw[List.getElem?_append_left lr1];exact WL) (by rw[List.getElem?_append_left lr2];exact WR)
 have k:∀f args v E,(f,args,v)∈[(82,[.slice b 0 B.length none,.slice b 0 B.length none],.bool true),(32,[.slice u 0 U.length none,.slice u 0 U.length none],.bool true),(83,[.slice c 0 2 none,.slice c 0 2 none],.bool true)]→iV [(82,[.slice b 0 B.length none,.slice b 0 B.length none],.bool true),(32,[.slice u 0 U.length none,.slice u 0 U.length none],.bool true),(83,[.slice c 0 2 none,.slice c 0 2 none],.bool true)] (fun M=>∃ext,M=m++ext) (.fn f) args (m++E)=some ⟨v,none,[]⟩:=fun f args v E h=>by simp only[List.mem_cons,List.not_mem_nil,or_false,Prod.mk.injEq] at h;rcases h with⟨rfl,rfl,rfl⟩ | ⟨rfl,rfl,rfl⟩ | ⟨rfl,rfl,rfl⟩<;>simp[iV,ar,de]
 have k2:∀f args E,iV [(82,[.slice b 0 B.length none,.slice b 0 B.length none],.bool true),(32,[.slice u 0 U.length none,.slice u 0 U.length none],.bool true),(83,[.slice c 0 2 none,.slice c 0 2 none],.bool true)] (fun M=>∃ext,M=m++ext) (.fn f) args (m++E)=ar (de [(82,[.slice b 0 B.length none,.slice b 0 B.length none],.bool true),(32,[.slice u 0 U.length none,.slice u 0 U.length none],.bool true),(83,[.slice c 0 2 none,.slice c 0 2 none],.bool true)]) (.fn f) args (m++E):=fun f args E=>by simp[iV]
 refine iW (qS.or' hO eA) ?_ ?_ ?_ ?_
 ·unfold aac.or
  rw[k _ _ (.bool true) _ (by simp)]
 ·unfold aac.or
  rw[k _ _ (.bool true) _ (by simp)]
 ·unfold aac.or
  rw[k _ _ (.bool true) _ (by simp)]
 ·unfold aac.or
  rw[k2];simp[ar,de,rH]
end
end
def bG:AV:=.agg [.func 149 [],.func 150 [],.func 151 [],.func 152 [],.func 153 []]
theorem zK(nm:List UInt8)(n k:Nat):mB prog 81 [.agg (aZ nm (.slice 0 0 n none) (.slice 1 0 k none) (.kO))] [.qF,.qF] bG [.qF,.qF]:=by
 have h:ad (aC prog) ab (aO prog) og 6 81 [.agg (aZ nm (.slice 0 0 n none) (.slice 1 0 k none) (.kO))] [.qF,.qF]=some ⟨bG,none,[]⟩:=by as_aux_lemma=>kernel_rfl
 have:=(au af (aw _) gp (ax _) h).1;simpa [HS.mem] using this
theorem sr(nm:List UInt8)(n k:Nat)(M:Mem)(hM:5≤M.length∨(4≤M.length∧0=0)):mB prog 81 [.agg (aZ nm (.slice 2 0 n none) (.slice 3 0 k none) (.kO))] M bG M:=by
 have:=mB.frame (M:=M) (new:=[]) [2,3] rfl (by intro k hk;simp at hk;omega) (by rfl) (fun i t hs=>by
  match i with
  |0=>simp at hs;subst hs;trivial
  |1=>simp at hs;subst hs;trivial
  |i+2=>simp at hs) rfl (zK nm n k)
 simpa [aZ,AV.aal,AV.ren,dr,bG] using this
def mw(s:aaf) (u0:List UInt8) (Z:List Int):Mem:=[.cells false 2 (pC s.P),.cells false 3 (tC s.T),.cells false 1 (qC (qH Z)),.cells false 1 [.str u0]]
def ia(s:aaf) (u0:List UInt8) (Z:List Int) (ev:List AV):Mem:=[.cells false 2 (pC s.P),.cells false 3 (tC s.T),.cells false 1 (qC (qH Z)),.cells false 1 [.str u0],.cells true 0 [.slice 0 0 s.P.length none,.slice 1 0 s.T.length none],.cells true 0 ev]
theorem aci:aO prog 149=some f149:=by kernel_rfl
theorem ya(s:aaf)(nm:List UInt8)(u0:List UInt8)(Z:List Int):
  mB prog 149 [.agg (aZ nm (.slice 2 0 Z.length none) (.slice 3 0 1 none) (.kO)),.ptr 6 0] (ia s u0 Z (aZ nm (.slice 2 0 Z.length none) (.slice 3 0 1 none) (.kO))++[.cells true 0 (cS 1 nm)]) (.tuple []) (ia s u0 Z (aZ nm (.slice 2 0 Z.length none) (.slice 3 0 1 none) (.kO))++[.cells true 0 (aZ nm (.slice 2 0 Z.length none) (.slice 3 0 1 none) (.kO))]):=by
 have h:ad (aC prog) (fun _=>[]) (aO prog) bt 1 149 [.agg (aZ nm (.slice 2 0 Z.length none) (.slice 3 0 1 none) (.kO)),.ptr 6 0] (ia s u0 Z (aZ nm (.slice 2 0 Z.length none) (.slice 3 0 1 none) (.kO))++[.cells true 0 (cS 1 nm)])=some ⟨.tuple [],some (ia s u0 Z (aZ nm (.slice 2 0 Z.length none) (.slice 3 0 1 none) (.kO))++[.cells true 0 (aZ nm (.slice 2 0 Z.length none) (.slice 3 0 1 none) (.kO))]),[]⟩:=by simp[ad,aci,f149,ia,cS,aZ,be,bM,cz,iQ,fY,eG]
 have:=(au af (aw _) (ah _) (ax _) h).1;simpa [HS.mem] using this
noncomputable def lI(s:aaf) (u0:List UInt8) (Z:List Int) (nm:List UInt8) (ev:List AV):List (FuncId×List AV×Mem×HS):=[
 (41,[shA s],ia s u0 Z ev,⟨.int .i64 0,none,[]⟩),
 (81,[.agg ev],ia s u0 Z ev++[.cells true 0 (cS 1 nm)],⟨bG,none,[]⟩),
 (149,[.agg ev,.ptr 6 0],ia s u0 Z ev++[.cells true 0 (cS 1 nm)],⟨.tuple [],some (ia s u0 Z ev++[.cells true 0 ev]),[]⟩),
 (49,[.agg ev,.agg ev],ia s u0 Z ev++[.cells true 0 ev],⟨.bool true,none,[]⟩),
 (81,[.agg ev],ia s u0 Z ev++[.cells true 0 ev],⟨bG,none,[]⟩),
 (150,[shA s,.agg ev],ia s u0 Z ev++[.cells true 0 ev],⟨.int .i64 0,none,[]⟩)]
theorem acj:aO prog 43=some f43:=by kernel_rfl
theorem ack:ba [0,1,3,0,15] 4=true:=by decide
theorem acm:ba [0,1,3,0,0,31,63] 6=true:=by decide
def acn:=bH (rfl:aP f43=_) (ls:=[[0,1,3,0,15],[0,1,3,0,0,31,63]]) (by kernel_rfl)
theorem vN(s:aaf)(nm:List UInt8)(u0:List UInt8)(Z:List Int)(hm:nm∈bk)(n0:u0∈bk)(hZ:∀z∈Z,z.natAbs<1000)(hl:Z.length≤1000)(hn:Z.length=s.P.length):
  mB prog 43 [shA s,.agg (aZ nm (.slice 2 0 Z.length none) (.slice 3 0 1 none) (.kO))] (mw s u0 Z) (.int .i64 0) (mw s u0 Z):=by
 have PP:=acn;simp only[aP,bQ,f43,List.nil_append,List.append_nil,List.cons_append,List.map_cons,List.map_nil,List.cons.injEq,and_true] at PP;obtain⟨WS,hb1⟩:=PP;have Xx:qS prog (ar (de [(80,[.str nm],.int .i64 0)])):=fJ fun e he M=>by simp only[List.mem_cons,List.not_mem_nil,or_false] at he;subst he;exact cW nm hm M
 obtain⟨ev,WQ⟩:∃ev,ev=aZ nm (.slice 2 0 Z.length none) (.slice 3 0 1 none) (.kO):=⟨_,rfl⟩
 have W0:qS prog (gj (lI s u0 Z nm ev)):=iK fun e he=>by
  simp only[lI,List.mem_cons,List.not_mem_nil,or_false] at he;subst WQ;have hc:=F3 s nm u0 n0  Z hZ hl hn (ia s u0 Z (aZ nm (.slice 2 0 Z.length none) (.slice 3 0 1 none) (.kO))++[.cells true 0 (aZ nm (.slice 2 0 Z.length none) (.slice 3 0 1 none) (.kO))]) 2 3 false false false false rfl rfl rfl rfl;have hq:=BH nm ((qH Z).map aN) [u0] (by simp[qH];omega) (by simp) (ia s u0 Z (aZ nm (.slice 2 0 Z.length none) (.slice 3 0 1 none) (.kO))++[.cells true 0 (aZ nm (.slice 2 0 Z.length none) (.slice 3 0 1 none) (.kO))]) 2 3 false false (by rw[←xP];rfl) rfl;have hz:((qH Z).map aN).length=Z.length:=by simp[qH]
  rw[hz] at hq;rcases he with rfl | rfl | rfl | rfl | rfl | rfl
  ·exact⟨by simpa [HS.mem,shA] using bl s (ia s u0 Z (aZ nm (.slice 2 0 Z.length none) (.slice 3 0 1 none) (.kO))) 0 1 false false rfl rfl,by simp⟩
  ·exact⟨by simpa [HS.mem] using sr nm Z.length 1 (ia s u0 Z (aZ nm (.slice 2 0 Z.length none) (.slice 3 0 1 none) (.kO))++[.cells true 0 (cS 1 nm)]) (by simp[ia]),by simp⟩
  ·exact⟨by simpa [HS.mem] using ya s nm u0 Z,by simp[ia]⟩
  ·exact⟨by simpa [HS.mem] using hq,by simp⟩
  ·exact⟨by simpa [HS.mem] using sr nm Z.length 1 (ia s u0 Z (aZ nm (.slice 2 0 Z.length none) (.slice 3 0 1 none) (.kO))++[.cells true 0 (aZ nm (.slice 2 0 Z.length none) (.slice 3 0 1 none) (.kO))]) (by simp[ia]),by simp⟩
  ·exact⟨by simpa [HS.mem] using hc,by simp⟩
 have hO:=qS.or' Xx W0;have h:ad (aC prog) (fun _=>[]) (aO prog) (aac.or (ar (de [(80,[.str nm],.int .i64 0)])) (gj (lI s u0 Z nm ev))) 1 43 [shA s,.agg (aZ nm (.slice 2 0 Z.length none) (.slice 3 0 1 none) (.kO))] (mw s u0 Z)=some ⟨.int .i64 0,some (mw s u0 Z),[]⟩:=by rw[WQ];clear hO Xx W0 hn;simp[cf,-ay,ag WS,ag hb1,aJ,aG,aH,ack,acm,Nat.testBit,-lY,fz,gn,ad,acj,f43,aac.or,ar,de,gj,lI,bG,shA,ia,mw,cS,aZ,bO,aL,be,bM,cz,iQ,oI,BB,fY,eG,KK]
 have:=(au af (aw _) hO (ax _) h).1;simpa [HS.mem] using this
theorem zL(nm:List UInt8)(n k:Nat):mB prog 81 [.agg (aZ nm (.slice 0 0 n none) (.slice 1 0 k none) (.slice 2 0 1 none))] [.qF,.qF,.qF] bG [.qF,.qF,.qF]:=by
 have h:ad (aC prog) ab (aO prog) og 6 81 [.agg (aZ nm (.slice 0 0 n none) (.slice 1 0 k none) (.slice 2 0 1 none))] [.qF,.qF,.qF]=some ⟨bG,none,[]⟩:=by as_aux_lemma=>kernel_rfl
 have:=(au af (aw _) gp (ax _) h).1;simpa [HS.mem] using this
theorem ss(nm:List UInt8)(n k:Nat)(M:Mem)(hM:5≤M.length∨(4≤M.length∧1=0)):mB prog 81 [.agg (aZ nm (.slice 2 0 n none) (.slice 3 0 k none) (.slice 4 0 1 none))] M bG M:=by
 have:=mB.frame (M:=M) (new:=[]) [2,3,4] rfl (by intro k hk;simp at hk;omega) (by rfl) (fun i t hs=>by
  match i with
  |0=>simp at hs;subst hs;trivial
  |1=>simp at hs;subst hs;trivial
  |2=>simp at hs;subst hs;trivial
  |i+3=>simp at hs) rfl (zL nm n k)
 simpa [aZ,AV.aal,AV.ren,dr,bG] using this
def jB(s:aaf) (u0 u1:List UInt8) (Z Y1:List Int):Mem:=[.cells false 2 (pC s.P),.cells false 3 (tC s.T),.cells false 1 (qC (qH Z)),.cells false 1 [.str u0,.str u1],.cells false 1 [.slice 5 0 Z.length none],.cells false 1 (qC (qH Y1))]
def ib(s:aaf) (u0 u1:List UInt8) (Z Y1:List Int) (ev:List AV):Mem:=[.cells false 2 (pC s.P),.cells false 3 (tC s.T),.cells false 1 (qC (qH Z)),.cells false 1 [.str u0,.str u1],.cells false 1 [.slice 5 0 Z.length none],.cells false 1 (qC (qH Y1)),.cells true 0 [.slice 0 0 s.P.length none,.slice 1 0 s.T.length none],.cells true 0 ev]
theorem yb(s:aaf)(nm:List UInt8)(u0 u1:List UInt8)(Z Y1:List Int):
  mB prog 149 [.agg (aZ nm (.slice 2 0 Z.length none) (.slice 3 0 2 none) (.slice 4 0 1 none)),.ptr 8 0] (ib s u0 u1 Z Y1 (aZ nm (.slice 2 0 Z.length none) (.slice 3 0 2 none) (.slice 4 0 1 none))++[.cells true 0 (cS 1 nm)]) (.tuple []) (ib s u0 u1 Z Y1 (aZ nm (.slice 2 0 Z.length none) (.slice 3 0 2 none) (.slice 4 0 1 none))++[.cells true 0 (aZ nm (.slice 2 0 Z.length none) (.slice 3 0 2 none) (.slice 4 0 1 none))]):=by
 have h:ad (aC prog) (fun _=>[]) (aO prog) bt 1 149 [.agg (aZ nm (.slice 2 0 Z.length none) (.slice 3 0 2 none) (.slice 4 0 1 none)),.ptr 8 0] (ib s u0 u1 Z Y1 (aZ nm (.slice 2 0 Z.length none) (.slice 3 0 2 none) (.slice 4 0 1 none))++[.cells true 0 (cS 1 nm)])=some ⟨.tuple [],some (ib s u0 u1 Z Y1 (aZ nm (.slice 2 0 Z.length none) (.slice 3 0 2 none) (.slice 4 0 1 none))++[.cells true 0 (aZ nm (.slice 2 0 Z.length none) (.slice 3 0 2 none) (.slice 4 0 1 none))]),[]⟩:=by simp[ad,aci,f149,ib,cS,aZ,be,bM,cz,iQ,fY,eG]
 have:=(au af (aw _) (ah _) (ax _) h).1;simpa [HS.mem] using this
noncomputable def lJ(s:aaf) (u0 u1:List UInt8) (Z Y1:List Int) (nm:List UInt8) (ev:List AV):List (FuncId×List AV×Mem×HS):=[
 (41,[shA s],ib s u0 u1 Z Y1 ev,⟨.int .i64 0,none,[]⟩),
 (81,[.agg ev],ib s u0 u1 Z Y1 ev++[.cells true 0 (cS 1 nm)],⟨bG,none,[]⟩),
 (149,[.agg ev,.ptr 8 0],ib s u0 u1 Z Y1 ev++[.cells true 0 (cS 1 nm)],⟨.tuple [],some (ib s u0 u1 Z Y1 ev++[.cells true 0 ev]),[]⟩),
 (49,[.agg ev,.agg ev],ib s u0 u1 Z Y1 ev++[.cells true 0 ev],⟨.bool true,none,[]⟩),
 (81,[.agg ev],ib s u0 u1 Z Y1 ev++[.cells true 0 ev],⟨bG,none,[]⟩),
 (150,[shA s,.agg ev],ib s u0 u1 Z Y1 ev++[.cells true 0 ev],⟨.int .i64 0,none,[]⟩)]
theorem vO(s:aaf)(nm:List UInt8)(u0 u1:List UInt8)(Z Y1:List Int)(hm:nm∈bk)(n0:u0∈bk)(n1:u1∈bk)(YL:u1≠u0)(hZ:∀z∈Z,z.natAbs<1000)(hl:Z.length≤1000)(hn:Z.length=s.P.length)(YG:∀z∈Y1,z.natAbs<1000)(Xb:Y1.length=s.P.length)(W5:∀(i:Nat) z y,Z[i]? =some z→Y1[i]? =some y→z≤y):
  mB prog 43 [shA s,.agg (aZ nm (.slice 2 0 Z.length none) (.slice 3 0 2 none) (.slice 4 0 1 none))] (jB s u0 u1 Z Y1) (.int .i64 0) (jB s u0 u1 Z Y1):=by
 have PP:=acn;simp only[aP,bQ,f43,List.nil_append,List.append_nil,List.cons_append,List.map_cons,List.map_nil,List.cons.injEq,and_true] at PP;obtain⟨WS,hb1⟩:=PP;have Xx:qS prog (ar (de [(80,[.str nm],.int .i64 0)])):=fJ fun e he M=>by simp only[List.mem_cons,List.not_mem_nil,or_false] at he;subst he;exact cW nm hm M
 obtain⟨ev,WQ⟩:∃ev,ev=aZ nm (.slice 2 0 Z.length none) (.slice 3 0 2 none) (.slice 4 0 1 none):=⟨_,rfl⟩
 have W0:qS prog (gj (lJ s u0 u1 Z Y1 nm ev)):=iK fun e he=>by
  simp only[lJ,List.mem_cons,List.not_mem_nil,or_false] at he;subst WQ;have hc:=F4 s nm u0 u1 n0 n1 YL Z hZ hl hn Y1 YG Xb W5 (ib s u0 u1 Z Y1 (aZ nm (.slice 2 0 Z.length none) (.slice 3 0 2 none) (.slice 4 0 1 none))++[.cells true 0 (aZ nm (.slice 2 0 Z.length none) (.slice 3 0 2 none) (.slice 4 0 1 none))]) 2 3 4 5 false false false false false false rfl rfl rfl rfl rfl rfl;have hq:=BI nm ((qH Z).map aN) [u0,u1] (by simp[qH];omega) (by simp) ((qH Y1).map aN) (by simp[qH];omega) (ib s u0 u1 Z Y1 (aZ nm (.slice 2 0 Z.length none) (.slice 3 0 2 none) (.slice 4 0 1 none))++[.cells true 0 (aZ nm (.slice 2 0 Z.length none) (.slice 3 0 2 none) (.slice 4 0 1 none))]) 2 3 4 5 false false false false (by rw[←xP];rfl) rfl (by rw[show((qH Z).map aN).length=Z.length by simp[qH]];rfl) (by rw[←xP];rfl);have hz:((qH Z).map aN).length=Z.length:=by simp[qH]
  rw[hz] at hq;rcases he with rfl | rfl | rfl | rfl | rfl | rfl
  ·exact⟨by simpa [HS.mem,shA] using bl s (ib s u0 u1 Z Y1 (aZ nm (.slice 2 0 Z.length none) (.slice 3 0 2 none) (.slice 4 0 1 none))) 0 1 false false rfl rfl,by simp⟩
  ·exact⟨by simpa [HS.mem] using ss nm Z.length 2 (ib s u0 u1 Z Y1 (aZ nm (.slice 2 0 Z.length none) (.slice 3 0 2 none) (.slice 4 0 1 none))++[.cells true 0 (cS 1 nm)]) (by simp[ib]),by simp⟩
  ·exact⟨by simpa [HS.mem] using yb s nm u0 u1 Z Y1,by simp[ib]⟩
  ·exact⟨by simpa [HS.mem] using hq,by simp⟩
  ·exact⟨by simpa [HS.mem] using ss nm Z.length 2 (ib s u0 u1 Z Y1 (aZ nm (.slice 2 0 Z.length none) (.slice 3 0 2 none) (.slice 4 0 1 none))++[.cells true 0 (aZ nm (.slice 2 0 Z.length none) (.slice 3 0 2 none) (.slice 4 0 1 none))]) (by simp[ib]),by simp⟩
  ·exact⟨by simpa [HS.mem] using hc,by simp⟩
 have hO:=qS.or' Xx W0;have h:ad (aC prog) (fun _=>[]) (aO prog) (aac.or (ar (de [(80,[.str nm],.int .i64 0)])) (gj (lJ s u0 u1 Z Y1 nm ev))) 1 43 [shA s,.agg (aZ nm (.slice 2 0 Z.length none) (.slice 3 0 2 none) (.slice 4 0 1 none))] (jB s u0 u1 Z Y1)=some ⟨.int .i64 0,some (jB s u0 u1 Z Y1),[]⟩:=by rw[WQ];clear hO Xx W0 hn;simp[cf,-ay,ag WS,ag hb1,aJ,aG,aH,ack,acm,Nat.testBit,-lY,fz,gn,ad,acj,f43,aac.or,ar,de,gj,lJ,bG,shA,ib,jB,cS,aZ,bO,aL,be,bM,cz,iQ,oI,BB,fY,eG,KK]
 have:=(au af (aw _) hO (ax _) h).1;simpa [HS.mem] using this
theorem zM(nm:List UInt8)(n k:Nat):mB prog 81 [.agg (aZ nm (.slice 0 0 n none) (.slice 1 0 k none) (.slice 2 0 2 none))] [.qF,.qF,.qF] bG [.qF,.qF,.qF]:=by
 have h:ad (aC prog) ab (aO prog) og 6 81 [.agg (aZ nm (.slice 0 0 n none) (.slice 1 0 k none) (.slice 2 0 2 none))] [.qF,.qF,.qF]=some ⟨bG,none,[]⟩:=by as_aux_lemma=>kernel_rfl
 have:=(au af (aw _) gp (ax _) h).1;simpa [HS.mem] using this
theorem su(nm:List UInt8)(n k:Nat)(M:Mem)(hM:5≤M.length∨(4≤M.length∧2=0)):mB prog 81 [.agg (aZ nm (.slice 2 0 n none) (.slice 3 0 k none) (.slice 4 0 2 none))] M bG M:=by
 have:=mB.frame (M:=M) (new:=[]) [2,3,4] rfl (by intro k hk;simp at hk;omega) (by rfl) (fun i t hs=>by
  match i with
  |0=>simp at hs;subst hs;trivial
  |1=>simp at hs;subst hs;trivial
  |2=>simp at hs;subst hs;trivial
  |i+3=>simp at hs) rfl (zM nm n k)
 simpa [aZ,AV.aal,AV.ren,dr,bG] using this
def jb(s:aaf) (u0 u1 u2:List UInt8) (Z Y1 Y2:List Int):Mem:=[.cells false 2 (pC s.P),.cells false 3 (tC s.T),.cells false 1 (qC (qH Z)),.cells false 1 [.str u0,.str u1,.str u2],.cells false 1 [.slice 5 0 Z.length none,.slice 6 0 Z.length none],.cells false 1 (qC (qH Y1)),.cells false 1 (qC (qH Y2))]
def ic(s:aaf) (u0 u1 u2:List UInt8) (Z Y1 Y2:List Int) (ev:List AV):Mem:=[.cells false 2 (pC s.P),.cells false 3 (tC s.T),.cells false 1 (qC (qH Z)),.cells false 1 [.str u0,.str u1,.str u2],.cells false 1 [.slice 5 0 Z.length none,.slice 6 0 Z.length none],.cells false 1 (qC (qH Y1)),.cells false 1 (qC (qH Y2)),.cells true 0 [.slice 0 0 s.P.length none,.slice 1 0 s.T.length none],.cells true 0 ev]
theorem yc(s:aaf)(nm:List UInt8)(u0 u1 u2:List UInt8)(Z Y1 Y2:List Int):
  mB prog 149 [.agg (aZ nm (.slice 2 0 Z.length none) (.slice 3 0 3 none) (.slice 4 0 2 none)),.ptr 9 0] (ic s u0 u1 u2 Z Y1 Y2 (aZ nm (.slice 2 0 Z.length none) (.slice 3 0 3 none) (.slice 4 0 2 none))++[.cells true 0 (cS 1 nm)]) (.tuple []) (ic s u0 u1 u2 Z Y1 Y2 (aZ nm (.slice 2 0 Z.length none) (.slice 3 0 3 none) (.slice 4 0 2 none))++[.cells true 0 (aZ nm (.slice 2 0 Z.length none) (.slice 3 0 3 none) (.slice 4 0 2 none))]):=by
 have h:ad (aC prog) (fun _=>[]) (aO prog) bt 1 149 [.agg (aZ nm (.slice 2 0 Z.length none) (.slice 3 0 3 none) (.slice 4 0 2 none)),.ptr 9 0] (ic s u0 u1 u2 Z Y1 Y2 (aZ nm (.slice 2 0 Z.length none) (.slice 3 0 3 none) (.slice 4 0 2 none))++[.cells true 0 (cS 1 nm)])=some ⟨.tuple [],some (ic s u0 u1 u2 Z Y1 Y2 (aZ nm (.slice 2 0 Z.length none) (.slice 3 0 3 none) (.slice 4 0 2 none))++[.cells true 0 (aZ nm (.slice 2 0 Z.length none) (.slice 3 0 3 none) (.slice 4 0 2 none))]),[]⟩:=by simp[ad,aci,f149,ic,cS,aZ,be,bM,cz,iQ,fY,eG]
 have:=(au af (aw _) (ah _) (ax _) h).1;simpa [HS.mem] using this
noncomputable def lK(s:aaf) (u0 u1 u2:List UInt8) (Z Y1 Y2:List Int) (nm:List UInt8) (ev:List AV):List (FuncId×List AV×Mem×HS):=[
 (41,[shA s],ic s u0 u1 u2 Z Y1 Y2 ev,⟨.int .i64 0,none,[]⟩),
 (81,[.agg ev],ic s u0 u1 u2 Z Y1 Y2 ev++[.cells true 0 (cS 1 nm)],⟨bG,none,[]⟩),
 (149,[.agg ev,.ptr 9 0],ic s u0 u1 u2 Z Y1 Y2 ev++[.cells true 0 (cS 1 nm)],⟨.tuple [],some (ic s u0 u1 u2 Z Y1 Y2 ev++[.cells true 0 ev]),[]⟩),
 (49,[.agg ev,.agg ev],ic s u0 u1 u2 Z Y1 Y2 ev++[.cells true 0 ev],⟨.bool true,none,[]⟩),
 (81,[.agg ev],ic s u0 u1 u2 Z Y1 Y2 ev++[.cells true 0 ev],⟨bG,none,[]⟩),
 (150,[shA s,.agg ev],ic s u0 u1 u2 Z Y1 Y2 ev++[.cells true 0 ev],⟨.int .i64 0,none,[]⟩)]
theorem vP(s:aaf)(nm:List UInt8)(u0 u1 u2:List UInt8)(Z Y1 Y2:List Int)(hm:nm∈bk)(n0:u0∈bk)(n1:u1∈bk)(n2:u2∈bk)(YL:u1≠u0)(d02:u2≠u0)(d12:u2≠u1)(hZ:∀z∈Z,z.natAbs<1000)(hl:Z.length≤1000)(hn:Z.length=s.P.length)(YG:∀z∈Y1,z.natAbs<1000)(Xb:Y1.length=s.P.length)(W5:∀(i:Nat) z y,Z[i]? =some z→Y1[i]? =some y→z≤y)(hY2:∀z∈Y2,z.natAbs<1000)(WZ:Y2.length=s.P.length)(YM:∀(i:Nat) z y,Y1[i]? =some z→Y2[i]? =some y→z≤y):
  mB prog 43 [shA s,.agg (aZ nm (.slice 2 0 Z.length none) (.slice 3 0 3 none) (.slice 4 0 2 none))] (jb s u0 u1 u2 Z Y1 Y2) (.int .i64 0) (jb s u0 u1 u2 Z Y1 Y2):=by
 have PP:=acn;simp only[aP,bQ,f43,List.nil_append,List.append_nil,List.cons_append,List.map_cons,List.map_nil,List.cons.injEq,and_true] at PP;obtain⟨WS,hb1⟩:=PP;have Xx:qS prog (ar (de [(80,[.str nm],.int .i64 0)])):=fJ fun e he M=>by simp only[List.mem_cons,List.not_mem_nil,or_false] at he;subst he;exact cW nm hm M
 obtain⟨ev,WQ⟩:∃ev,ev=aZ nm (.slice 2 0 Z.length none) (.slice 3 0 3 none) (.slice 4 0 2 none):=⟨_,rfl⟩
 have W0:qS prog (gj (lK s u0 u1 u2 Z Y1 Y2 nm ev)):=iK fun e he=>by
  simp only[lK,List.mem_cons,List.not_mem_nil,or_false] at he;subst WQ;have hc:=F6 s nm u0 u1 u2 n0 n1 n2 YL d02 d12 Z hZ hl hn Y1 Y2 YG Xb W5 hY2 WZ YM (ic s u0 u1 u2 Z Y1 Y2 (aZ nm (.slice 2 0 Z.length none) (.slice 3 0 3 none) (.slice 4 0 2 none))++[.cells true 0 (aZ nm (.slice 2 0 Z.length none) (.slice 3 0 3 none) (.slice 4 0 2 none))]) 2 3 4 5 6 false false false false false false false rfl rfl rfl rfl rfl rfl rfl;have hq:=BJ nm ((qH Z).map aN) [u0,u1,u2] (by simp[qH];omega) (by simp) ((qH Y1).map aN) (by simp[qH];omega) ((qH Y2).map aN) (by simp[qH];omega) (ic s u0 u1 u2 Z Y1 Y2 (aZ nm (.slice 2 0 Z.length none) (.slice 3 0 3 none) (.slice 4 0 2 none))++[.cells true 0 (aZ nm (.slice 2 0 Z.length none) (.slice 3 0 3 none) (.slice 4 0 2 none))]) 2 3 4 5 6 false false false false false (by rw[←xP];rfl) rfl (by rw[show((qH Z).map aN).length=Z.length by simp[qH]];rfl) (by rw[←xP];rfl) (by rw[←xP];rfl);have hz:((qH Z).map aN).length=Z.length:=by simp[qH]
  rw[hz] at hq;rcases he with rfl | rfl | rfl | rfl | rfl | rfl
  ·exact⟨by simpa [HS.mem,shA] using bl s (ic s u0 u1 u2 Z Y1 Y2 (aZ nm (.slice 2 0 Z.length none) (.slice 3 0 3 none) (.slice 4 0 2 none))) 0 1 false false rfl rfl,by simp⟩
  ·exact⟨by simpa [HS.mem] using su nm Z.length 3 (ic s u0 u1 u2 Z Y1 Y2 (aZ nm (.slice 2 0 Z.length none) (.slice 3 0 3 none) (.slice 4 0 2 none))++[.cells true 0 (cS 1 nm)]) (by simp[ic]),by simp⟩
  ·exact⟨by simpa [HS.mem] using yc s nm u0 u1 u2 Z Y1 Y2,by simp[ic]⟩
  ·exact⟨by simpa [HS.mem] using hq,by simp⟩
  ·exact⟨by simpa [HS.mem] using su nm Z.length 3 (ic s u0 u1 u2 Z Y1 Y2 (aZ nm (.slice 2 0 Z.length none) (.slice 3 0 3 none) (.slice 4 0 2 none))++[.cells true 0 (aZ nm (.slice 2 0 Z.length none) (.slice 3 0 3 none) (.slice 4 0 2 none))]) (by simp[ic]),by simp⟩
  ·exact⟨by simpa [HS.mem] using hc,by simp⟩
 have hO:=qS.or' Xx W0;have h:ad (aC prog) (fun _=>[]) (aO prog) (aac.or (ar (de [(80,[.str nm],.int .i64 0)])) (gj (lK s u0 u1 u2 Z Y1 Y2 nm ev))) 1 43 [shA s,.agg (aZ nm (.slice 2 0 Z.length none) (.slice 3 0 3 none) (.slice 4 0 2 none))] (jb s u0 u1 u2 Z Y1 Y2)=some ⟨.int .i64 0,some (jb s u0 u1 u2 Z Y1 Y2),[]⟩:=by rw[WQ];clear hO Xx W0 hn;simp[cf,-ay,ag WS,ag hb1,aJ,aG,aH,ack,acm,Nat.testBit,-lY,fz,gn,ad,acj,f43,aac.or,ar,de,gj,lK,bG,shA,ic,jb,cS,aZ,bO,aL,be,bM,cz,iQ,oI,BB,fY,eG,KK]
 have:=(au af (aw _) hO (ax _) h).1;simpa [HS.mem] using this
end Go.Proofs
