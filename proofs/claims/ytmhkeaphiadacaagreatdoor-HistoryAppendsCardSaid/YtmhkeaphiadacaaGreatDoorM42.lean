/- See M58. -/
import Derived.Test.YtmhkeaphiadacaaGreatDoorM41
set_option linter.all false
namespace Go.Proofs
open Go.Eng
theorem lk(L:List (List UInt8)) (hl:L.length≤1000) (m:Mem) (b:Nat) (o:Bool) (hb:m[b]? =some (.cells o 1 (stC L))):
  ACallsTo Tryz.prog 82 [.slice b 0 L.length none,.slice b 0 L.length none] m (.bool true) m:=by
 have hG:aF Tryz.prog 82=some Tryz.f82:=by kernel_rfl
 have lb:=(List.getElem?_eq_some_iff.1 hb).1
 have hO:OracleOk Tryz.prog (gS 113 [.slice b 0 L.length none,.slice b 0 L.length none] (.bool true) (fun M=>∃ext,M=m++ext)):=jM fun M hM=>by
  obtain⟨ext,rfl⟩:=hM
  exact NB L hl _ b o (by rw[List.getElem?_append_left lb];exact hb)
 have h:ad (aA Tryz.prog) (fun _=>[]) (aF Tryz.prog) (gS 113 [.slice b 0 L.length none,.slice b 0 L.length none] (.bool true) (fun M=>∃ext,M=m++ext)) 1 82 [.slice b 0 L.length none,.slice b 0 L.length none] m=some ⟨.bool true,none,[]⟩:=by
  have e0:∃ext,m=m++ext:=⟨[],by simp⟩
  have e1:(∃ext,m=m++ext)=True:=eq_true e0
  clear hO
  simp[ad,hG,Tryz.f82,gS,-List.self_eq_append_right,e1]
 have:=(ae aa (aj _) hO (al _) h).1
 simpa [CallRes.mem] using this
set_option maxHeartbeats 1600000 in
theorem I8(n:Nat) (hn:n≤1000) (L1:List (List UInt8)) (hl1:L1.length=n) (m:Mem) (c r1:Nat) (o q1:Bool) (hc:m[c]? =some (.cells o 1 [.slice r1 0 n none])) (hr1:m[r1]? =some (.cells q1 1 (stC L1))):
  ACallsTo Tryz.prog 114 [.slice c 0 1 none,.slice c 0 1 none,.func 82 []] m (.bool true) m:=by
 have hG:aF Tryz.prog 114=some Tryz.f114:=by kernel_rfl
 have hO:OracleOk Tryz.prog (fz [(82,[.slice r1 0 n none,.slice r1 0 n none],.bool true)] (fun M=>M=m)):=ka fun e he M hM=>by
  subst hM
  simp only[List.mem_cons,List.not_mem_nil,or_false] at he
  subst he
  ·have:=lk L1 (by omega) M r1 q1 hr1
   rw[hl1] at this
   exact this
 have w1:IntKind.i64.wrap 1=1:=rfl
 have w2:IntKind.i64.wrap 2=2:=rfl
 have h:ad (aA Tryz.prog) (fun _=>[17]) (aF Tryz.prog) (fz [(82,[.slice r1 0 n none,.slice r1 0 n none],.bool true)] (fun M=>M=m)) 5 114 [.slice c 0 1 none,.slice c 0 1 none,.func 82 []] m=some ⟨.bool true,none,[]⟩:=by
  clear hO
  simp[ad,hG,Tryz.f114,fz,ao,bU,ay,dN,hc,w1,w2]
 have:=(ae aa (aj _) hO (al _) h).1
 simpa [CallRes.mem] using this
set_option maxHeartbeats 1600000 in
theorem Iz(n:Nat) (hn:n≤1000) (L1:List (List UInt8)) (hl1:L1.length=n) (L2:List (List UInt8)) (hl2:L2.length=n) (m:Mem) (c r1 r2:Nat) (o q1 q2:Bool) (hc:m[c]? =some (.cells o 1 [.slice r1 0 n none,.slice r2 0 n none])) (hr1:m[r1]? =some (.cells q1 1 (stC L1))) (hr2:m[r2]? =some (.cells q2 1 (stC L2))):
  ACallsTo Tryz.prog 114 [.slice c 0 2 none,.slice c 0 2 none,.func 82 []] m (.bool true) m:=by
 have hG:aF Tryz.prog 114=some Tryz.f114:=by kernel_rfl
 have hO:OracleOk Tryz.prog (fz [(82,[.slice r1 0 n none,.slice r1 0 n none],.bool true),(82,[.slice r2 0 n none,.slice r2 0 n none],.bool true)] (fun M=>M=m)):=ka fun e he M hM=>by
  subst hM
  simp only[List.mem_cons,List.not_mem_nil,or_false] at he
  rcases he with rfl | rfl
  ·have:=lk L1 (by omega) M r1 q1 hr1
   rw[hl1] at this
   exact this
  ·have:=lk L2 (by omega) M r2 q2 hr2
   rw[hl2] at this
   exact this
 have w1:IntKind.i64.wrap 1=1:=rfl
 have w2:IntKind.i64.wrap 2=2:=rfl
 have h:ad (aA Tryz.prog) (fun _=>[17]) (aF Tryz.prog) (fz [(82,[.slice r1 0 n none,.slice r1 0 n none],.bool true),(82,[.slice r2 0 n none,.slice r2 0 n none],.bool true)] (fun M=>M=m)) 5 114 [.slice c 0 2 none,.slice c 0 2 none,.func 82 []] m=some ⟨.bool true,none,[]⟩:=by
  clear hO
  simp[ad,hG,Tryz.f114,fz,ao,bU,ay,dN,hc,w1,w2]
 have:=(ae aa (aj _) hO (al _) h).1
 simpa [CallRes.mem] using this
theorem Mb(n:Nat) (hn:n≤1000) (L1:List (List UInt8)) (hl1:L1.length=n) (m:Mem) (c r1:Nat) (o q1:Bool) (hc:m[c]? =some (.cells o 1 [.slice r1 0 n none])) (hr1:m[r1]? =some (.cells q1 1 (stC L1))):
  ACallsTo Tryz.prog 83 [.slice c 0 1 none,.slice c 0 1 none] m (.bool true) m:=by
 have hG:aF Tryz.prog 83=some Tryz.f83:=by kernel_rfl
 have hO:OracleOk Tryz.prog (gS 114 [.slice c 0 1 none,.slice c 0 1 none,.func 82 []] (.bool true) (fun M=>M=m)):=jM fun M hM=>by
  subst hM
  exact I8 n hn L1 hl1 M c r1 o q1 hc hr1
 have h:ad (aA Tryz.prog) (fun _=>[]) (aF Tryz.prog) (gS 114 [.slice c 0 1 none,.slice c 0 1 none,.func 82 []] (.bool true) (fun M=>M=m)) 1 83 [.slice c 0 1 none,.slice c 0 1 none] m=some ⟨.bool true,none,[]⟩:=by
  clear hO
  simp[ad,hG,Tryz.f83,gS]
 have:=(ae aa (aj _) hO (al _) h).1
 simpa [CallRes.mem] using this
theorem MH(n:Nat) (hn:n≤1000) (L1:List (List UInt8)) (hl1:L1.length=n) (L2:List (List UInt8)) (hl2:L2.length=n) (m:Mem) (c r1 r2:Nat) (o q1 q2:Bool) (hc:m[c]? =some (.cells o 1 [.slice r1 0 n none,.slice r2 0 n none])) (hr1:m[r1]? =some (.cells q1 1 (stC L1))) (hr2:m[r2]? =some (.cells q2 1 (stC L2))):
  ACallsTo Tryz.prog 83 [.slice c 0 2 none,.slice c 0 2 none] m (.bool true) m:=by
 have hG:aF Tryz.prog 83=some Tryz.f83:=by kernel_rfl
 have hO:OracleOk Tryz.prog (gS 114 [.slice c 0 2 none,.slice c 0 2 none,.func 82 []] (.bool true) (fun M=>M=m)):=jM fun M hM=>by
  subst hM
  exact Iz n hn L1 hl1 L2 hl2 M c r1 r2 o q1 q2 hc hr1 hr2
 have h:ad (aA Tryz.prog) (fun _=>[]) (aF Tryz.prog) (gS 114 [.slice c 0 2 none,.slice c 0 2 none,.func 82 []] (.bool true) (fun M=>M=m)) 1 83 [.slice c 0 2 none,.slice c 0 2 none] m=some ⟨.bool true,none,[]⟩:=by
  clear hO
  simp[ad,hG,Tryz.f83,gS]
 have:=(ae aa (aj _) hO (al _) h).1
 simpa [CallRes.mem] using this
theorem yT(nm:List UInt8) (B U:List (List UInt8)) (hB:B.length≤1000) (hU:U.length≤1000) (m:Mem) (b u:Nat) (o1 o2:Bool) (hb:m[b]? =some (.cells o1 1 (stC B))) (hu:m[u]? =some (.cells o2 1 (stC U))):
  ACallsTo Tryz.prog 49 [.agg (aL nm (.slice b 0 B.length none) (.slice u 0 U.length none) (.nilslice)),.agg (aL nm (.slice b 0 B.length none) (.slice u 0 U.length none) (.nilslice))] m (.bool true) m:=by
 have lb:=(List.getElem?_eq_some_iff.1 hb).1
 have lu:=(List.getElem?_eq_some_iff.1 hu).1
 have hO:OracleOk Tryz.prog (fz [(82,[.slice b 0 B.length none,.slice b 0 B.length none],.bool true),(32,[.slice u 0 U.length none,.slice u 0 U.length none],.bool true)] (fun M=>∃ext,M=m++ext)):=ka fun e he M hM=>by
  obtain⟨ext,rfl⟩:=hM
  simp only[List.mem_cons,List.not_mem_nil,or_false] at he
  rcases he with rfl | rfl
  ·exact lk B hB _ b o1 (by rw[List.getElem?_append_left lb];exact hb)
  ·exact yG U hU _ u o2 (by rw[List.getElem?_append_left lu];exact hu)
 have k:∀f args v E,(f,args,v)∈[(82,[.slice b 0 B.length none,.slice b 0 B.length none],.bool true),(32,[.slice u 0 U.length none,.slice u 0 U.length none],.bool true)]→fz [(82,[.slice b 0 B.length none,.slice b 0 B.length none],.bool true),(32,[.slice u 0 U.length none,.slice u 0 U.length none],.bool true)] (fun M=>∃ext,M=m++ext) (.fn f) args (m++E)=some ⟨v,none,[]⟩:=fun f args v E h=>by
  simp only[List.mem_cons,List.not_mem_nil,or_false,Prod.mk.injEq] at h
  rcases h with⟨rfl,rfl,rfl⟩ | ⟨rfl,rfl,rfl⟩<;>simp[fz,ao,bU]
 have k2:∀f args E,fz [(82,[.slice b 0 B.length none,.slice b 0 B.length none],.bool true),(32,[.slice u 0 U.length none,.slice u 0 U.length none],.bool true)] (fun M=>∃ext,M=m++ext) (.fn f) args (m++E)=ao (bU [(82,[.slice b 0 B.length none,.slice b 0 B.length none],.bool true),(32,[.slice u 0 U.length none,.slice u 0 U.length none],.bool true)]) (.fn f) args (m++E):=fun f args E=>by
  simp[fz]
 refine gD (OracleOk.or' hO fX) ?_ ?_ ?_ ?_
 ·unfold Oracle.or
  rw[k _ _ (.bool true) _ (by simp)]
 ·unfold Oracle.or
  rw[k _ _ (.bool true) _ (by simp)]
 ·unfold Oracle.or
  rw[k2]
  simp[ao,bU,pn]
 ·unfold Oracle.or
  rw[k2]
  simp[ao,bU,pn]
theorem zb(nm:List UInt8) (B U:List (List UInt8)) (hB:B.length≤1000) (hU:U.length≤1000) (L1:List (List UInt8)) (hl1:L1.length=B.length) (m:Mem) (b u c r1:Nat) (o1 o2 o3 q1:Bool) (hb:m[b]? =some (.cells o1 1 (stC B))) (hu:m[u]? =some (.cells o2 1 (stC U))) (hc:m[c]? =some (.cells o3 1 [.slice r1 0 B.length none])) (hr1:m[r1]? =some (.cells q1 1 (stC L1))):
  ACallsTo Tryz.prog 49 [.agg (aL nm (.slice b 0 B.length none) (.slice u 0 U.length none) (.slice c 0 1 none)),.agg (aL nm (.slice b 0 B.length none) (.slice u 0 U.length none) (.slice c 0 1 none))] m (.bool true) m:=by
 have lb:=(List.getElem?_eq_some_iff.1 hb).1
 have lu:=(List.getElem?_eq_some_iff.1 hu).1
 have lc:=(List.getElem?_eq_some_iff.1 hc).1
 have lr1:=(List.getElem?_eq_some_iff.1 hr1).1
 have hO:OracleOk Tryz.prog (fz [(82,[.slice b 0 B.length none,.slice b 0 B.length none],.bool true),(32,[.slice u 0 U.length none,.slice u 0 U.length none],.bool true),(83,[.slice c 0 1 none,.slice c 0 1 none],.bool true)] (fun M=>∃ext,M=m++ext)):=ka fun e he M hM=>by
  obtain⟨ext,rfl⟩:=hM
  simp only[List.mem_cons,List.not_mem_nil,or_false] at he
  rcases he with rfl | rfl | rfl
  ·exact lk B hB _ b o1 (by rw[List.getElem?_append_left lb];exact hb)
  ·exact yG U hU _ u o2 (by rw[List.getElem?_append_left lu];exact hu)
  ·exact Mb B.length hB L1 hl1 _ c r1 o3 q1 (by rw[List.getElem?_append_left lc];exact hc) (by rw[List.getElem?_append_left lr1];exact hr1)
 have k:∀f args v E,(f,args,v)∈[(82,[.slice b 0 B.length none,.slice b 0 B.length none],.bool true),(32,[.slice u 0 U.length none,.slice u 0 U.length none],.bool true),(83,[.slice c 0 1 none,.slice c 0 1 none],.bool true)]→fz [(82,[.slice b 0 B.length none,.slice b 0 B.length none],.bool true),(32,[.slice u 0 U.length none,.slice u 0 U.length none],.bool true),(83,[.slice c 0 1 none,.slice c 0 1 none],.bool true)] (fun M=>∃ext,M=m++ext) (.fn f) args (m++E)=some ⟨v,none,[]⟩:=fun f args v E h=>by
  simp only[List.mem_cons,List.not_mem_nil,or_false,Prod.mk.injEq] at h
  rcases h with⟨rfl,rfl,rfl⟩ | ⟨rfl,rfl,rfl⟩ | ⟨rfl,rfl,rfl⟩<;>simp[fz,ao,bU]
 have k2:∀f args E,fz [(82,[.slice b 0 B.length none,.slice b 0 B.length none],.bool true),(32,[.slice u 0 U.length none,.slice u 0 U.length none],.bool true),(83,[.slice c 0 1 none,.slice c 0 1 none],.bool true)] (fun M=>∃ext,M=m++ext) (.fn f) args (m++E)=ao (bU [(82,[.slice b 0 B.length none,.slice b 0 B.length none],.bool true),(32,[.slice u 0 U.length none,.slice u 0 U.length none],.bool true),(83,[.slice c 0 1 none,.slice c 0 1 none],.bool true)]) (.fn f) args (m++E):=fun f args E=>by
  simp[fz]
 refine gD (OracleOk.or' hO fX) ?_ ?_ ?_ ?_
 ·unfold Oracle.or
  rw[k _ _ (.bool true) _ (by simp)]
 ·unfold Oracle.or
  rw[k _ _ (.bool true) _ (by simp)]
 ·unfold Oracle.or
  rw[k _ _ (.bool true) _ (by simp)]
 ·unfold Oracle.or
  rw[k2]
  simp[ao,bU,pn]
theorem yX(nm:List UInt8) (B U:List (List UInt8)) (hB:B.length≤1000) (hU:U.length≤1000) (L1:List (List UInt8)) (hl1:L1.length=B.length) (L2:List (List UInt8)) (hl2:L2.length=B.length) (m:Mem) (b u c r1 r2:Nat) (o1 o2 o3 q1 q2:Bool) (hb:m[b]? =some (.cells o1 1 (stC B))) (hu:m[u]? =some (.cells o2 1 (stC U))) (hc:m[c]? =some (.cells o3 1 [.slice r1 0 B.length none,.slice r2 0 B.length none])) (hr1:m[r1]? =some (.cells q1 1 (stC L1))) (hr2:m[r2]? =some (.cells q2 1 (stC L2))):
  ACallsTo Tryz.prog 49 [.agg (aL nm (.slice b 0 B.length none) (.slice u 0 U.length none) (.slice c 0 2 none)),.agg (aL nm (.slice b 0 B.length none) (.slice u 0 U.length none) (.slice c 0 2 none))] m (.bool true) m:=by
 have lb:=(List.getElem?_eq_some_iff.1 hb).1
 have lu:=(List.getElem?_eq_some_iff.1 hu).1
 have lc:=(List.getElem?_eq_some_iff.1 hc).1
 have lr1:=(List.getElem?_eq_some_iff.1 hr1).1
 have lr2:=(List.getElem?_eq_some_iff.1 hr2).1
 have hO:OracleOk Tryz.prog (fz [(82,[.slice b 0 B.length none,.slice b 0 B.length none],.bool true),(32,[.slice u 0 U.length none,.slice u 0 U.length none],.bool true),(83,[.slice c 0 2 none,.slice c 0 2 none],.bool true)] (fun M=>∃ext,M=m++ext)):=ka fun e he M hM=>by
  obtain⟨ext,rfl⟩:=hM
  simp only[List.mem_cons,List.not_mem_nil,or_false] at he
  rcases he with rfl | rfl | rfl
  ·exact lk B hB _ b o1 (by rw[List.getElem?_append_left lb];exact hb)
  ·exact yG U hU _ u o2 (by rw[List.getElem?_append_left lu];exact hu)
  ·exact MH B.length hB L1 hl1 L2 hl2 _ c r1 r2 o3 q1 q2 (by rw[List.getElem?_append_left lc];exact hc) (by rw[List.getElem?_append_left lr1];exact hr1) (by rw[List.getElem?_append_left lr2];exact hr2)
 have k:∀f args v E,(f,args,v)∈[(82,[.slice b 0 B.length none,.slice b 0 B.length none],.bool true),(32,[.slice u 0 U.length none,.slice u 0 U.length none],.bool true),(83,[.slice c 0 2 none,.slice c 0 2 none],.bool true)]→fz [(82,[.slice b 0 B.length none,.slice b 0 B.length none],.bool true),(32,[.slice u 0 U.length none,.slice u 0 U.length none],.bool true),(83,[.slice c 0 2 none,.slice c 0 2 none],.bool true)] (fun M=>∃ext,M=m++ext) (.fn f) args (m++E)=some ⟨v,none,[]⟩:=fun f args v E h=>by
  simp only[List.mem_cons,List.not_mem_nil,or_false,Prod.mk.injEq] at h
  rcases h with⟨rfl,rfl,rfl⟩ | ⟨rfl,rfl,rfl⟩ | ⟨rfl,rfl,rfl⟩<;>simp[fz,ao,bU]
 have k2:∀f args E,fz [(82,[.slice b 0 B.length none,.slice b 0 B.length none],.bool true),(32,[.slice u 0 U.length none,.slice u 0 U.length none],.bool true),(83,[.slice c 0 2 none,.slice c 0 2 none],.bool true)] (fun M=>∃ext,M=m++ext) (.fn f) args (m++E)=ao (bU [(82,[.slice b 0 B.length none,.slice b 0 B.length none],.bool true),(32,[.slice u 0 U.length none,.slice u 0 U.length none],.bool true),(83,[.slice c 0 2 none,.slice c 0 2 none],.bool true)]) (.fn f) args (m++E):=fun f args E=>by
  simp[fz]
 refine gD (OracleOk.or' hO fX) ?_ ?_ ?_ ?_
 ·unfold Oracle.or
  rw[k _ _ (.bool true) _ (by simp)]
 ·unfold Oracle.or
  rw[k _ _ (.bool true) _ (by simp)]
 ·unfold Oracle.or
  rw[k _ _ (.bool true) _ (by simp)]
 ·unfold Oracle.or
  rw[k2]
  simp[ao,bU,pn]
def bc:AV:=.agg [.func 149 [],.func 150 [],.func 151 [],.func 152 [],.func 153 []]
theorem xy(nm:List UInt8) (n k:Nat):ACallsTo Tryz.prog 81 [.agg (aL nm (.slice 0 0 n none) (.slice 1 0 k none) (.nilslice))] [.absent,.absent] bc [.absent,.absent]:=by
 have h:ad (aA Tryz.prog) ab (aF Tryz.prog) ra 6 81 [.agg (aL nm (.slice 0 0 n none) (.slice 1 0 k none) (.nilslice))] [.absent,.absent]=some ⟨bc,none,[]⟩:=by as_aux_lemma=>kernel_rfl
 have:=(ae aa (aj _) fU (al _) h).1
 simpa [CallRes.mem] using this
theorem pK(nm:List UInt8) (n k:Nat) (M:Mem) (hM:5≤M.length∨(4≤M.length∧0=0)):ACallsTo Tryz.prog 81 [.agg (aL nm (.slice 2 0 n none) (.slice 3 0 k none) (.nilslice))] M bc M:=by
 have:=ACallsTo.frame (M:=M) (new:=[]) [2,3] rfl (by intro k hk;simp at hk;omega) (by rfl) (fun i t hs=>by
  match i with
  |0=>simp at hs;subst hs;trivial
  |1=>simp at hs;subst hs;trivial
  |i+2=>simp at hs) rfl (xy nm n k)
 simpa [aL,AV.rens,AV.ren,cR,bc] using this
def kD(s:Sheet) (u0:List UInt8) (Z:List Int):Mem:=[.cells false 2 (pC s.P),.cells false 3 (tC s.T),.cells false 1 (qC (qH Z)),.cells false 1 [.str u0]]
def fG(s:Sheet) (u0:List UInt8) (Z:List Int) (ev:List AV):Mem:=[.cells false 2 (pC s.P),.cells false 3 (tC s.T),.cells false 1 (qC (qH Z)),.cells false 1 [.str u0],.cells true 0 [.slice 0 0 s.P.length none,.slice 1 0 s.T.length none],.cells true 0 ev]
set_option maxHeartbeats 1600000 in
theorem uZ(s:Sheet) (nm:List UInt8) (u0:List UInt8) (Z:List Int):
  ACallsTo Tryz.prog 149 [.agg (aL nm (.slice 2 0 Z.length none) (.slice 3 0 1 none) (.nilslice)),.ptr 6 0] (fG s u0 Z (aL nm (.slice 2 0 Z.length none) (.slice 3 0 1 none) (.nilslice))++[.cells true 0 (bZ 1 nm)]) (.tuple []) (fG s u0 Z (aL nm (.slice 2 0 Z.length none) (.slice 3 0 1 none) (.nilslice))++[.cells true 0 (aL nm (.slice 2 0 Z.length none) (.slice 3 0 1 none) (.nilslice))]):=by
 have hG:aF Tryz.prog 149=some Tryz.f149:=by kernel_rfl
 have h:ad (aA Tryz.prog) (fun _=>[]) (aF Tryz.prog) aD 1 149 [.agg (aL nm (.slice 2 0 Z.length none) (.slice 3 0 1 none) (.nilslice)),.ptr 6 0] (fG s u0 Z (aL nm (.slice 2 0 Z.length none) (.slice 3 0 1 none) (.nilslice))++[.cells true 0 (bZ 1 nm)])=some ⟨.tuple [],some (fG s u0 Z (aL nm (.slice 2 0 Z.length none) (.slice 3 0 1 none) (.nilslice))++[.cells true 0 (aL nm (.slice 2 0 Z.length none) (.slice 3 0 1 none) (.nilslice))]),[]⟩:=by
  simp[ad,hG,Tryz.f149,fG,bZ,aL,cu,cJ,dX,gv,eJ,cY,List.idxOf?_cons]
 have:=(ae aa (aj _) (af _) (al _) h).1
 simpa [CallRes.mem] using this
noncomputable def jH(s:Sheet) (u0:List UInt8) (Z:List Int) (nm:List UInt8) (ev:List AV):List (FuncId×List AV×Mem×CallRes):=[
 (41,[shA s],fG s u0 Z ev,⟨.int .i64 0,none,[]⟩),
 (81,[.agg ev],fG s u0 Z ev++[.cells true 0 (bZ 1 nm)],⟨bc,none,[]⟩),
 (149,[.agg ev,.ptr 6 0],fG s u0 Z ev++[.cells true 0 (bZ 1 nm)],⟨.tuple [],some (fG s u0 Z ev++[.cells true 0 ev]),[]⟩),
 (49,[.agg ev,.agg ev],fG s u0 Z ev++[.cells true 0 ev],⟨.bool true,none,[]⟩),
 (81,[.agg ev],fG s u0 Z ev++[.cells true 0 ev],⟨bc,none,[]⟩),
 (150,[shA s,.agg ev],fG s u0 Z ev++[.cells true 0 ev],⟨.int .i64 0,none,[]⟩)]
set_option maxHeartbeats 4000000 in
theorem tN(s:Sheet) (nm:List UInt8) (u0:List UInt8) (Z:List Int) (hm:nm∈bu) (n0:u0∈bu)  (hZ:∀z∈Z,z.natAbs<1000) (hl:Z.length≤1000) (hn:Z.length=s.P.length):
  ACallsTo Tryz.prog 43 [shA s,.agg (aL nm (.slice 2 0 Z.length none) (.slice 3 0 1 none) (.nilslice))] (kD s u0 Z) (.int .i64 0) (kD s u0 Z):=by
 have hG:aF Tryz.prog 43=some Tryz.f43:=by kernel_rfl
 obtain⟨os,hops⟩:∃os,aE Tryz.f43=os:=⟨_,rfl⟩
 have hbs:=aS hops (ls:=[[0,1,3,0,15],[0,1,3,0,0,31,63]]) (by kernel_rfl)
 simp only[aE,bw,Tryz.f43,List.nil_append,List.append_nil,List.cons_append] at hops
 subst hops
 simp only[List.map_cons,List.map_nil,List.cons.injEq,and_true] at hbs
 obtain⟨hb0,hb1⟩:=hbs
 have a0:aN [0,1,3,0,15] 4=true:=by decide
 have a1:aN [0,1,3,0,0,31,63] 6=true:=by decide
 have hO1:OracleOk Tryz.prog (ao (bU [(80,[.str nm],.int .i64 0)])):=ee fun e he M=>by
  simp only[List.mem_cons,List.not_mem_nil,or_false] at he
  subst he
  exact cw nm hm M
 obtain⟨ev,hev⟩:∃ev,ev=aL nm (.slice 2 0 Z.length none) (.slice 3 0 1 none) (.nilslice):=⟨_,rfl⟩
 have hO2:OracleOk Tryz.prog (cd (jH s u0 Z nm ev)):=du fun e he=>by
  simp only[jH,List.mem_cons,List.not_mem_nil,or_false] at he
  subst hev
  have hc:=C7 s nm u0 n0  Z hZ hl hn (fG s u0 Z (aL nm (.slice 2 0 Z.length none) (.slice 3 0 1 none) (.nilslice))++[.cells true 0 (aL nm (.slice 2 0 Z.length none) (.slice 3 0 1 none) (.nilslice))]) 2 3 false false false false rfl rfl rfl rfl
  have hq:=yT nm ((qH Z).map aK) [u0] (by simp[qH];omega) (by simp) (fG s u0 Z (aL nm (.slice 2 0 Z.length none) (.slice 3 0 1 none) (.nilslice))++[.cells true 0 (aL nm (.slice 2 0 Z.length none) (.slice 3 0 1 none) (.nilslice))]) 2 3 false false (by rw[←tP];rfl) rfl
  have hz:((qH Z).map aK).length=Z.length:=by simp[qH]
  rw[hz] at hq
  rcases he with rfl | rfl | rfl | rfl | rfl | rfl
  ·exact⟨by simpa [CallRes.mem,shA] using di s (fG s u0 Z (aL nm (.slice 2 0 Z.length none) (.slice 3 0 1 none) (.nilslice))) 0 1 false false rfl rfl,by simp⟩
  ·exact⟨by simpa [CallRes.mem] using pK nm Z.length 1 (fG s u0 Z (aL nm (.slice 2 0 Z.length none) (.slice 3 0 1 none) (.nilslice))++[.cells true 0 (bZ 1 nm)]) (by simp[fG]),by simp⟩
  ·exact⟨by simpa [CallRes.mem] using uZ s nm u0 Z,by simp[fG]⟩
  ·exact⟨by simpa [CallRes.mem] using hq,by simp⟩
  ·exact⟨by simpa [CallRes.mem] using pK nm Z.length 1 (fG s u0 Z (aL nm (.slice 2 0 Z.length none) (.slice 3 0 1 none) (.nilslice))++[.cells true 0 (aL nm (.slice 2 0 Z.length none) (.slice 3 0 1 none) (.nilslice))]) (by simp[fG]),by simp⟩
  ·exact⟨by simpa [CallRes.mem] using hc,by simp⟩
 have hO:=OracleOk.or' hO1 hO2
 have h:ad (aA Tryz.prog) (fun _=>[]) (aF Tryz.prog) (Oracle.or (ao (bU [(80,[.str nm],.int .i64 0)])) (cd (jH s u0 Z nm ev))) 1 43 [shA s,.agg (aL nm (.slice 2 0 Z.length none) (.slice 3 0 1 none) (.nilslice))] (kD s u0 Z)=some ⟨.int .i64 0,some (kD s u0 Z),[]⟩:=by
  rw[hev]
  clear hO hO1 hO2 hn
  simp[bO,-aC,ar hb0,ar hb1,bN,bt,bJ,a0,a1,Nat.testBit,-kW,fh,fc,ad,hG,Tryz.f43,Oracle.or,ao,bU,cd,jH,bc,shA,fG,kD,bZ,aL,bH,ax,cu,cJ,dX,gv,nO,pw,eJ,cY,pW,List.idxOf?_cons]
 have:=(ae aa (aj _) hO (al _) h).1
 simpa [CallRes.mem] using this
theorem yc(nm:List UInt8) (n k:Nat):ACallsTo Tryz.prog 81 [.agg (aL nm (.slice 0 0 n none) (.slice 1 0 k none) (.slice 2 0 1 none))] [.absent,.absent,.absent] bc [.absent,.absent,.absent]:=by
 have h:ad (aA Tryz.prog) ab (aF Tryz.prog) ra 6 81 [.agg (aL nm (.slice 0 0 n none) (.slice 1 0 k none) (.slice 2 0 1 none))] [.absent,.absent,.absent]=some ⟨bc,none,[]⟩:=by as_aux_lemma=>kernel_rfl
 have:=(ae aa (aj _) fU (al _) h).1
 simpa [CallRes.mem] using this
theorem pT(nm:List UInt8) (n k:Nat) (M:Mem) (hM:5≤M.length∨(4≤M.length∧1=0)):ACallsTo Tryz.prog 81 [.agg (aL nm (.slice 2 0 n none) (.slice 3 0 k none) (.slice 4 0 1 none))] M bc M:=by
 have:=ACallsTo.frame (M:=M) (new:=[]) [2,3,4] rfl (by intro k hk;simp at hk;omega) (by rfl) (fun i t hs=>by
  match i with
  |0=>simp at hs;subst hs;trivial
  |1=>simp at hs;subst hs;trivial
  |2=>simp at hs;subst hs;trivial
  |i+3=>simp at hs) rfl (yc nm n k)
 simpa [aL,AV.rens,AV.ren,cR,bc] using this
def iA(s:Sheet) (u0 u1:List UInt8) (Z Y1:List Int):Mem:=[.cells false 2 (pC s.P),.cells false 3 (tC s.T),.cells false 1 (qC (qH Z)),.cells false 1 [.str u0,.str u1],.cells false 1 [.slice 5 0 Z.length none],.cells false 1 (qC (qH Y1))]
def fL(s:Sheet) (u0 u1:List UInt8) (Z Y1:List Int) (ev:List AV):Mem:=[.cells false 2 (pC s.P),.cells false 3 (tC s.T),.cells false 1 (qC (qH Z)),.cells false 1 [.str u0,.str u1],.cells false 1 [.slice 5 0 Z.length none],.cells false 1 (qC (qH Y1)),.cells true 0 [.slice 0 0 s.P.length none,.slice 1 0 s.T.length none],.cells true 0 ev]
set_option maxHeartbeats 1600000 in
theorem uQ(s:Sheet) (nm:List UInt8) (u0 u1:List UInt8) (Z Y1:List Int):
  ACallsTo Tryz.prog 149 [.agg (aL nm (.slice 2 0 Z.length none) (.slice 3 0 2 none) (.slice 4 0 1 none)),.ptr 8 0] (fL s u0 u1 Z Y1 (aL nm (.slice 2 0 Z.length none) (.slice 3 0 2 none) (.slice 4 0 1 none))++[.cells true 0 (bZ 1 nm)]) (.tuple []) (fL s u0 u1 Z Y1 (aL nm (.slice 2 0 Z.length none) (.slice 3 0 2 none) (.slice 4 0 1 none))++[.cells true 0 (aL nm (.slice 2 0 Z.length none) (.slice 3 0 2 none) (.slice 4 0 1 none))]):=by
 have hG:aF Tryz.prog 149=some Tryz.f149:=by kernel_rfl
 have h:ad (aA Tryz.prog) (fun _=>[]) (aF Tryz.prog) aD 1 149 [.agg (aL nm (.slice 2 0 Z.length none) (.slice 3 0 2 none) (.slice 4 0 1 none)),.ptr 8 0] (fL s u0 u1 Z Y1 (aL nm (.slice 2 0 Z.length none) (.slice 3 0 2 none) (.slice 4 0 1 none))++[.cells true 0 (bZ 1 nm)])=some ⟨.tuple [],some (fL s u0 u1 Z Y1 (aL nm (.slice 2 0 Z.length none) (.slice 3 0 2 none) (.slice 4 0 1 none))++[.cells true 0 (aL nm (.slice 2 0 Z.length none) (.slice 3 0 2 none) (.slice 4 0 1 none))]),[]⟩:=by
  simp[ad,hG,Tryz.f149,fL,bZ,aL,cu,cJ,dX,gv,eJ,cY,List.idxOf?_cons]
 have:=(ae aa (aj _) (af _) (al _) h).1
 simpa [CallRes.mem] using this
noncomputable def jL(s:Sheet) (u0 u1:List UInt8) (Z Y1:List Int) (nm:List UInt8) (ev:List AV):List (FuncId×List AV×Mem×CallRes):=[
 (41,[shA s],fL s u0 u1 Z Y1 ev,⟨.int .i64 0,none,[]⟩),
 (81,[.agg ev],fL s u0 u1 Z Y1 ev++[.cells true 0 (bZ 1 nm)],⟨bc,none,[]⟩),
 (149,[.agg ev,.ptr 8 0],fL s u0 u1 Z Y1 ev++[.cells true 0 (bZ 1 nm)],⟨.tuple [],some (fL s u0 u1 Z Y1 ev++[.cells true 0 ev]),[]⟩),
 (49,[.agg ev,.agg ev],fL s u0 u1 Z Y1 ev++[.cells true 0 ev],⟨.bool true,none,[]⟩),
 (81,[.agg ev],fL s u0 u1 Z Y1 ev++[.cells true 0 ev],⟨bc,none,[]⟩),
 (150,[shA s,.agg ev],fL s u0 u1 Z Y1 ev++[.cells true 0 ev],⟨.int .i64 0,none,[]⟩)]
set_option maxHeartbeats 4000000 in
theorem sX(s:Sheet) (nm:List UInt8) (u0 u1:List UInt8) (Z Y1:List Int) (hm:nm∈bu) (n0:u0∈bu) (n1:u1∈bu) (d01:u1≠u0) (hZ:∀z∈Z,z.natAbs<1000) (hl:Z.length≤1000) (hn:Z.length=s.P.length) (hY1:∀z∈Y1,z.natAbs<1000) (hl1:Y1.length=s.P.length) (hle1:∀(i:Nat) z y,Z[i]? =some z→Y1[i]? =some y→z≤y):
  ACallsTo Tryz.prog 43 [shA s,.agg (aL nm (.slice 2 0 Z.length none) (.slice 3 0 2 none) (.slice 4 0 1 none))] (iA s u0 u1 Z Y1) (.int .i64 0) (iA s u0 u1 Z Y1):=by
 have hG:aF Tryz.prog 43=some Tryz.f43:=by kernel_rfl
 obtain⟨os,hops⟩:∃os,aE Tryz.f43=os:=⟨_,rfl⟩
 have hbs:=aS hops (ls:=[[0,1,3,0,15],[0,1,3,0,0,31,63]]) (by kernel_rfl)
 simp only[aE,bw,Tryz.f43,List.nil_append,List.append_nil,List.cons_append] at hops
 subst hops
 simp only[List.map_cons,List.map_nil,List.cons.injEq,and_true] at hbs
 obtain⟨hb0,hb1⟩:=hbs
 have a0:aN [0,1,3,0,15] 4=true:=by decide
 have a1:aN [0,1,3,0,0,31,63] 6=true:=by decide
 have hO1:OracleOk Tryz.prog (ao (bU [(80,[.str nm],.int .i64 0)])):=ee fun e he M=>by
  simp only[List.mem_cons,List.not_mem_nil,or_false] at he
  subst he
  exact cw nm hm M
 obtain⟨ev,hev⟩:∃ev,ev=aL nm (.slice 2 0 Z.length none) (.slice 3 0 2 none) (.slice 4 0 1 none):=⟨_,rfl⟩
 have hO2:OracleOk Tryz.prog (cd (jL s u0 u1 Z Y1 nm ev)):=du fun e he=>by
  simp only[jL,List.mem_cons,List.not_mem_nil,or_false] at he
  subst hev
  have hc:=D9 s nm u0 u1 n0 n1 d01 Z hZ hl hn Y1 hY1 hl1 hle1 (fL s u0 u1 Z Y1 (aL nm (.slice 2 0 Z.length none) (.slice 3 0 2 none) (.slice 4 0 1 none))++[.cells true 0 (aL nm (.slice 2 0 Z.length none) (.slice 3 0 2 none) (.slice 4 0 1 none))]) 2 3 4 5 false false false false false false rfl rfl rfl rfl rfl rfl
  have hq:=zb nm ((qH Z).map aK) [u0,u1] (by simp[qH];omega) (by simp) ((qH Y1).map aK) (by simp[qH];omega) (fL s u0 u1 Z Y1 (aL nm (.slice 2 0 Z.length none) (.slice 3 0 2 none) (.slice 4 0 1 none))++[.cells true 0 (aL nm (.slice 2 0 Z.length none) (.slice 3 0 2 none) (.slice 4 0 1 none))]) 2 3 4 5 false false false false (by rw[←tP];rfl) rfl (by rw[show((qH Z).map aK).length=Z.length by simp[qH]];rfl) (by rw[←tP];rfl)
  have hz:((qH Z).map aK).length=Z.length:=by simp[qH]
  rw[hz] at hq
  rcases he with rfl | rfl | rfl | rfl | rfl | rfl
  ·exact⟨by simpa [CallRes.mem,shA] using di s (fL s u0 u1 Z Y1 (aL nm (.slice 2 0 Z.length none) (.slice 3 0 2 none) (.slice 4 0 1 none))) 0 1 false false rfl rfl,by simp⟩
  ·exact⟨by simpa [CallRes.mem] using pT nm Z.length 2 (fL s u0 u1 Z Y1 (aL nm (.slice 2 0 Z.length none) (.slice 3 0 2 none) (.slice 4 0 1 none))++[.cells true 0 (bZ 1 nm)]) (by simp[fL]),by simp⟩
  ·exact⟨by simpa [CallRes.mem] using uQ s nm u0 u1 Z Y1,by simp[fL]⟩
  ·exact⟨by simpa [CallRes.mem] using hq,by simp⟩
  ·exact⟨by simpa [CallRes.mem] using pT nm Z.length 2 (fL s u0 u1 Z Y1 (aL nm (.slice 2 0 Z.length none) (.slice 3 0 2 none) (.slice 4 0 1 none))++[.cells true 0 (aL nm (.slice 2 0 Z.length none) (.slice 3 0 2 none) (.slice 4 0 1 none))]) (by simp[fL]),by simp⟩
  ·exact⟨by simpa [CallRes.mem] using hc,by simp⟩
 have hO:=OracleOk.or' hO1 hO2
 have h:ad (aA Tryz.prog) (fun _=>[]) (aF Tryz.prog) (Oracle.or (ao (bU [(80,[.str nm],.int .i64 0)])) (cd (jL s u0 u1 Z Y1 nm ev))) 1 43 [shA s,.agg (aL nm (.slice 2 0 Z.length none) (.slice 3 0 2 none) (.slice 4 0 1 none))] (iA s u0 u1 Z Y1)=some ⟨.int .i64 0,some (iA s u0 u1 Z Y1),[]⟩:=by
  rw[hev]
  clear hO hO1 hO2 hn
  simp[bO,-aC,ar hb0,ar hb1,bN,bt,bJ,a0,a1,Nat.testBit,-kW,fh,fc,ad,hG,Tryz.f43,Oracle.or,ao,bU,cd,jL,bc,shA,fL,iA,bZ,aL,bH,ax,cu,cJ,dX,gv,nO,pw,eJ,cY,pW,List.idxOf?_cons]
 have:=(ae aa (aj _) hO (al _) h).1
 simpa [CallRes.mem] using this
theorem wA(nm:List UInt8) (n k:Nat):ACallsTo Tryz.prog 81 [.agg (aL nm (.slice 0 0 n none) (.slice 1 0 k none) (.slice 2 0 2 none))] [.absent,.absent,.absent] bc [.absent,.absent,.absent]:=by
 have h:ad (aA Tryz.prog) ab (aF Tryz.prog) ra 6 81 [.agg (aL nm (.slice 0 0 n none) (.slice 1 0 k none) (.slice 2 0 2 none))] [.absent,.absent,.absent]=some ⟨bc,none,[]⟩:=by as_aux_lemma=>kernel_rfl
 have:=(ae aa (aj _) fU (al _) h).1
 simpa [CallRes.mem] using this
theorem pU(nm:List UInt8) (n k:Nat) (M:Mem) (hM:5≤M.length∨(4≤M.length∧2=0)):ACallsTo Tryz.prog 81 [.agg (aL nm (.slice 2 0 n none) (.slice 3 0 k none) (.slice 4 0 2 none))] M bc M:=by
 have:=ACallsTo.frame (M:=M) (new:=[]) [2,3,4] rfl (by intro k hk;simp at hk;omega) (by rfl) (fun i t hs=>by
  match i with
  |0=>simp at hs;subst hs;trivial
  |1=>simp at hs;subst hs;trivial
  |2=>simp at hs;subst hs;trivial
  |i+3=>simp at hs) rfl (wA nm n k)
 simpa [aL,AV.rens,AV.ren,cR,bc] using this
def gI(s:Sheet) (u0 u1 u2:List UInt8) (Z Y1 Y2:List Int):Mem:=[.cells false 2 (pC s.P),.cells false 3 (tC s.T),.cells false 1 (qC (qH Z)),.cells false 1 [.str u0,.str u1,.str u2],.cells false 1 [.slice 5 0 Z.length none,.slice 6 0 Z.length none],.cells false 1 (qC (qH Y1)),.cells false 1 (qC (qH Y2))]
def fI(s:Sheet) (u0 u1 u2:List UInt8) (Z Y1 Y2:List Int) (ev:List AV):Mem:=[.cells false 2 (pC s.P),.cells false 3 (tC s.T),.cells false 1 (qC (qH Z)),.cells false 1 [.str u0,.str u1,.str u2],.cells false 1 [.slice 5 0 Z.length none,.slice 6 0 Z.length none],.cells false 1 (qC (qH Y1)),.cells false 1 (qC (qH Y2)),.cells true 0 [.slice 0 0 s.P.length none,.slice 1 0 s.T.length none],.cells true 0 ev]
set_option maxHeartbeats 1600000 in
theorem u5(s:Sheet) (nm:List UInt8) (u0 u1 u2:List UInt8) (Z Y1 Y2:List Int):
  ACallsTo Tryz.prog 149 [.agg (aL nm (.slice 2 0 Z.length none) (.slice 3 0 3 none) (.slice 4 0 2 none)),.ptr 9 0] (fI s u0 u1 u2 Z Y1 Y2 (aL nm (.slice 2 0 Z.length none) (.slice 3 0 3 none) (.slice 4 0 2 none))++[.cells true 0 (bZ 1 nm)]) (.tuple []) (fI s u0 u1 u2 Z Y1 Y2 (aL nm (.slice 2 0 Z.length none) (.slice 3 0 3 none) (.slice 4 0 2 none))++[.cells true 0 (aL nm (.slice 2 0 Z.length none) (.slice 3 0 3 none) (.slice 4 0 2 none))]):=by
 have hG:aF Tryz.prog 149=some Tryz.f149:=by kernel_rfl
 have h:ad (aA Tryz.prog) (fun _=>[]) (aF Tryz.prog) aD 1 149 [.agg (aL nm (.slice 2 0 Z.length none) (.slice 3 0 3 none) (.slice 4 0 2 none)),.ptr 9 0] (fI s u0 u1 u2 Z Y1 Y2 (aL nm (.slice 2 0 Z.length none) (.slice 3 0 3 none) (.slice 4 0 2 none))++[.cells true 0 (bZ 1 nm)])=some ⟨.tuple [],some (fI s u0 u1 u2 Z Y1 Y2 (aL nm (.slice 2 0 Z.length none) (.slice 3 0 3 none) (.slice 4 0 2 none))++[.cells true 0 (aL nm (.slice 2 0 Z.length none) (.slice 3 0 3 none) (.slice 4 0 2 none))]),[]⟩:=by
  simp[ad,hG,Tryz.f149,fI,bZ,aL,cu,cJ,dX,gv,eJ,cY,List.idxOf?_cons]
 have:=(ae aa (aj _) (af _) (al _) h).1
 simpa [CallRes.mem] using this
noncomputable def jY(s:Sheet) (u0 u1 u2:List UInt8) (Z Y1 Y2:List Int) (nm:List UInt8) (ev:List AV):List (FuncId×List AV×Mem×CallRes):=[
 (41,[shA s],fI s u0 u1 u2 Z Y1 Y2 ev,⟨.int .i64 0,none,[]⟩),
 (81,[.agg ev],fI s u0 u1 u2 Z Y1 Y2 ev++[.cells true 0 (bZ 1 nm)],⟨bc,none,[]⟩),
 (149,[.agg ev,.ptr 9 0],fI s u0 u1 u2 Z Y1 Y2 ev++[.cells true 0 (bZ 1 nm)],⟨.tuple [],some (fI s u0 u1 u2 Z Y1 Y2 ev++[.cells true 0 ev]),[]⟩),
 (49,[.agg ev,.agg ev],fI s u0 u1 u2 Z Y1 Y2 ev++[.cells true 0 ev],⟨.bool true,none,[]⟩),
 (81,[.agg ev],fI s u0 u1 u2 Z Y1 Y2 ev++[.cells true 0 ev],⟨bc,none,[]⟩),
 (150,[shA s,.agg ev],fI s u0 u1 u2 Z Y1 Y2 ev++[.cells true 0 ev],⟨.int .i64 0,none,[]⟩)]
set_option maxHeartbeats 4000000 in
theorem sW(s:Sheet) (nm:List UInt8) (u0 u1 u2:List UInt8) (Z Y1 Y2:List Int) (hm:nm∈bu) (n0:u0∈bu) (n1:u1∈bu) (n2:u2∈bu) (d01:u1≠u0) (d02:u2≠u0) (d12:u2≠u1) (hZ:∀z∈Z,z.natAbs<1000) (hl:Z.length≤1000) (hn:Z.length=s.P.length) (hY1:∀z∈Y1,z.natAbs<1000) (hl1:Y1.length=s.P.length) (hle1:∀(i:Nat) z y,Z[i]? =some z→Y1[i]? =some y→z≤y) (hY2:∀z∈Y2,z.natAbs<1000) (hl2:Y2.length=s.P.length) (hle2:∀(i:Nat) z y,Y1[i]? =some z→Y2[i]? =some y→z≤y):
  ACallsTo Tryz.prog 43 [shA s,.agg (aL nm (.slice 2 0 Z.length none) (.slice 3 0 3 none) (.slice 4 0 2 none))] (gI s u0 u1 u2 Z Y1 Y2) (.int .i64 0) (gI s u0 u1 u2 Z Y1 Y2):=by
 have hG:aF Tryz.prog 43=some Tryz.f43:=by kernel_rfl
 obtain⟨os,hops⟩:∃os,aE Tryz.f43=os:=⟨_,rfl⟩
 have hbs:=aS hops (ls:=[[0,1,3,0,15],[0,1,3,0,0,31,63]]) (by kernel_rfl)
 simp only[aE,bw,Tryz.f43,List.nil_append,List.append_nil,List.cons_append] at hops
 subst hops
 simp only[List.map_cons,List.map_nil,List.cons.injEq,and_true] at hbs
 obtain⟨hb0,hb1⟩:=hbs
 have a0:aN [0,1,3,0,15] 4=true:=by decide
 have a1:aN [0,1,3,0,0,31,63] 6=true:=by decide
 have hO1:OracleOk Tryz.prog (ao (bU [(80,[.str nm],.int .i64 0)])):=ee fun e he M=>by
  simp only[List.mem_cons,List.not_mem_nil,or_false] at he
  subst he
  exact cw nm hm M
 obtain⟨ev,hev⟩:∃ev,ev=aL nm (.slice 2 0 Z.length none) (.slice 3 0 3 none) (.slice 4 0 2 none):=⟨_,rfl⟩
 have hO2:OracleOk Tryz.prog (cd (jY s u0 u1 u2 Z Y1 Y2 nm ev)):=du fun e he=>by
  simp only[jY,List.mem_cons,List.not_mem_nil,or_false] at he
  subst hev
  have hc:=F5 s nm u0 u1 u2 n0 n1 n2 d01 d02 d12 Z hZ hl hn Y1 Y2 hY1 hl1 hle1 hY2 hl2 hle2 (fI s u0 u1 u2 Z Y1 Y2 (aL nm (.slice 2 0 Z.length none) (.slice 3 0 3 none) (.slice 4 0 2 none))++[.cells true 0 (aL nm (.slice 2 0 Z.length none) (.slice 3 0 3 none) (.slice 4 0 2 none))]) 2 3 4 5 6 false false false false false false false rfl rfl rfl rfl rfl rfl rfl
  have hq:=yX nm ((qH Z).map aK) [u0,u1,u2] (by simp[qH];omega) (by simp) ((qH Y1).map aK) (by simp[qH];omega) ((qH Y2).map aK) (by simp[qH];omega) (fI s u0 u1 u2 Z Y1 Y2 (aL nm (.slice 2 0 Z.length none) (.slice 3 0 3 none) (.slice 4 0 2 none))++[.cells true 0 (aL nm (.slice 2 0 Z.length none) (.slice 3 0 3 none) (.slice 4 0 2 none))]) 2 3 4 5 6 false false false false false (by rw[←tP];rfl) rfl (by rw[show((qH Z).map aK).length=Z.length by simp[qH]];rfl) (by rw[←tP];rfl) (by rw[←tP];rfl)
  have hz:((qH Z).map aK).length=Z.length:=by simp[qH]
  rw[hz] at hq
  rcases he with rfl | rfl | rfl | rfl | rfl | rfl
  ·exact⟨by simpa [CallRes.mem,shA] using di s (fI s u0 u1 u2 Z Y1 Y2 (aL nm (.slice 2 0 Z.length none) (.slice 3 0 3 none) (.slice 4 0 2 none))) 0 1 false false rfl rfl,by simp⟩
  ·exact⟨by simpa [CallRes.mem] using pU nm Z.length 3 (fI s u0 u1 u2 Z Y1 Y2 (aL nm (.slice 2 0 Z.length none) (.slice 3 0 3 none) (.slice 4 0 2 none))++[.cells true 0 (bZ 1 nm)]) (by simp[fI]),by simp⟩
  ·exact⟨by simpa [CallRes.mem] using u5 s nm u0 u1 u2 Z Y1 Y2,by simp[fI]⟩
  ·exact⟨by simpa [CallRes.mem] using hq,by simp⟩
  ·exact⟨by simpa [CallRes.mem] using pU nm Z.length 3 (fI s u0 u1 u2 Z Y1 Y2 (aL nm (.slice 2 0 Z.length none) (.slice 3 0 3 none) (.slice 4 0 2 none))++[.cells true 0 (aL nm (.slice 2 0 Z.length none) (.slice 3 0 3 none) (.slice 4 0 2 none))]) (by simp[fI]),by simp⟩
  ·exact⟨by simpa [CallRes.mem] using hc,by simp⟩
 have hO:=OracleOk.or' hO1 hO2
 have h:ad (aA Tryz.prog) (fun _=>[]) (aF Tryz.prog) (Oracle.or (ao (bU [(80,[.str nm],.int .i64 0)])) (cd (jY s u0 u1 u2 Z Y1 Y2 nm ev))) 1 43 [shA s,.agg (aL nm (.slice 2 0 Z.length none) (.slice 3 0 3 none) (.slice 4 0 2 none))] (gI s u0 u1 u2 Z Y1 Y2)=some ⟨.int .i64 0,some (gI s u0 u1 u2 Z Y1 Y2),[]⟩:=by
  rw[hev]
  clear hO hO1 hO2 hn
  simp[bO,-aC,ar hb0,ar hb1,bN,bt,bJ,a0,a1,Nat.testBit,-kW,fh,fc,ad,hG,Tryz.f43,Oracle.or,ao,bU,cd,jY,bc,shA,fI,gI,bZ,aL,bH,ax,cu,cJ,dX,gv,nO,pw,eJ,cY,pW,List.idxOf?_cons]
 have:=(ae aa (aj _) hO (al _) h).1
 simpa [CallRes.mem] using this
end Go.Proofs
