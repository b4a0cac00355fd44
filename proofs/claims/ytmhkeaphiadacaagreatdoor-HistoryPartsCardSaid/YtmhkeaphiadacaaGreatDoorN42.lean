/- See N58. -/
import Derived.Test.YtmhkeaphiadacaaGreatDoorN41
set_option linter.all false
namespace Go.Proofs
open Go.Eng
theorem kY(L:List (List UInt8)) (hl:L.length≤1000) (m:Mem) (b:Nat) (o:Bool) (hb:m[b]? =some (.cells o 1 (stC L))):
  ACallsTo Tryz.prog 82 [.slice b 0 L.length none,.slice b 0 L.length none] m (.bool true) m:=by
 have hG:aI Tryz.prog 82=some Tryz.f82:=by kernel_rfl
 have lb:=(List.getElem?_eq_some_iff.1 hb).1
 have hO:OracleOk Tryz.prog (iB 113 [.slice b 0 L.length none,.slice b 0 L.length none] (.bool true) (fun M=>∃ext,M=m++ext)):=ko fun M hM=>by
  obtain⟨ext,rfl⟩:=hM
  exact Mk L hl _ b o (by rw[List.getElem?_append_left lb];exact hb)
 have h:ab (az Tryz.prog) (fun _=>[]) (aI Tryz.prog) (iB 113 [.slice b 0 L.length none,.slice b 0 L.length none] (.bool true) (fun M=>∃ext,M=m++ext)) 1 82 [.slice b 0 L.length none,.slice b 0 L.length none] m=some ⟨.bool true,none,[]⟩:=by
  have e0:∃ext,m=m++ext:=⟨[],by simp⟩
  have e1:(∃ext,m=m++ext)=True:=eq_true e0
  clear hO
  simp[ab,hG,Tryz.f82,iB,-List.self_eq_append_right,e1]
 have:=(ae aa (ai _) hO (aj _) h).1
 simpa [CallRes.mem] using this
set_option maxHeartbeats 1600000 in
theorem HM(n:Nat) (hn:n≤1000) (L1:List (List UInt8)) (hl1:L1.length=n) (m:Mem) (c r1:Nat) (o q1:Bool) (hc:m[c]? =some (.cells o 1 [.slice r1 0 n none])) (hr1:m[r1]? =some (.cells q1 1 (stC L1))):
  ACallsTo Tryz.prog 114 [.slice c 0 1 none,.slice c 0 1 none,.func 82 []] m (.bool true) m:=by
 have hG:aI Tryz.prog 114=some Tryz.f114:=by kernel_rfl
 have hO:OracleOk Tryz.prog (fE [(82,[.slice r1 0 n none,.slice r1 0 n none],.bool true)] (fun M=>M=m)):=km fun e he M hM=>by
  subst hM
  simp only[List.mem_cons,List.not_mem_nil,or_false] at he
  subst he
  ·have:=kY L1 (by omega) M r1 q1 hr1
   rw[hl1] at this
   exact this
 have w1:IntKind.i64.wrap 1=1:=rfl
 have w2:IntKind.i64.wrap 2=2:=rfl
 have h:ab (az Tryz.prog) (fun _=>[17]) (aI Tryz.prog) (fE [(82,[.slice r1 0 n none,.slice r1 0 n none],.bool true)] (fun M=>M=m)) 5 114 [.slice c 0 1 none,.slice c 0 1 none,.func 82 []] m=some ⟨.bool true,none,[]⟩:=by
  clear hO
  simp[ab,hG,Tryz.f114,fE,ao,cb,aC,dS,hc,w1,w2]
 have:=(ae aa (ai _) hO (aj _) h).1
 simpa [CallRes.mem] using this
set_option maxHeartbeats 1600000 in
theorem HO(n:Nat) (hn:n≤1000) (L1:List (List UInt8)) (hl1:L1.length=n) (L2:List (List UInt8)) (hl2:L2.length=n) (m:Mem) (c r1 r2:Nat) (o q1 q2:Bool) (hc:m[c]? =some (.cells o 1 [.slice r1 0 n none,.slice r2 0 n none])) (hr1:m[r1]? =some (.cells q1 1 (stC L1))) (hr2:m[r2]? =some (.cells q2 1 (stC L2))):
  ACallsTo Tryz.prog 114 [.slice c 0 2 none,.slice c 0 2 none,.func 82 []] m (.bool true) m:=by
 have hG:aI Tryz.prog 114=some Tryz.f114:=by kernel_rfl
 have hO:OracleOk Tryz.prog (fE [(82,[.slice r1 0 n none,.slice r1 0 n none],.bool true),(82,[.slice r2 0 n none,.slice r2 0 n none],.bool true)] (fun M=>M=m)):=km fun e he M hM=>by
  subst hM
  simp only[List.mem_cons,List.not_mem_nil,or_false] at he
  rcases he with rfl | rfl
  ·have:=kY L1 (by omega) M r1 q1 hr1
   rw[hl1] at this
   exact this
  ·have:=kY L2 (by omega) M r2 q2 hr2
   rw[hl2] at this
   exact this
 have w1:IntKind.i64.wrap 1=1:=rfl
 have w2:IntKind.i64.wrap 2=2:=rfl
 have h:ab (az Tryz.prog) (fun _=>[17]) (aI Tryz.prog) (fE [(82,[.slice r1 0 n none,.slice r1 0 n none],.bool true),(82,[.slice r2 0 n none,.slice r2 0 n none],.bool true)] (fun M=>M=m)) 5 114 [.slice c 0 2 none,.slice c 0 2 none,.func 82 []] m=some ⟨.bool true,none,[]⟩:=by
  clear hO
  simp[ab,hG,Tryz.f114,fE,ao,cb,aC,dS,hc,w1,w2]
 have:=(ae aa (ai _) hO (aj _) h).1
 simpa [CallRes.mem] using this
theorem Mo(n:Nat) (hn:n≤1000) (L1:List (List UInt8)) (hl1:L1.length=n) (m:Mem) (c r1:Nat) (o q1:Bool) (hc:m[c]? =some (.cells o 1 [.slice r1 0 n none])) (hr1:m[r1]? =some (.cells q1 1 (stC L1))):
  ACallsTo Tryz.prog 83 [.slice c 0 1 none,.slice c 0 1 none] m (.bool true) m:=by
 have hG:aI Tryz.prog 83=some Tryz.f83:=by kernel_rfl
 have hO:OracleOk Tryz.prog (iB 114 [.slice c 0 1 none,.slice c 0 1 none,.func 82 []] (.bool true) (fun M=>M=m)):=ko fun M hM=>by
  subst hM
  exact HM n hn L1 hl1 M c r1 o q1 hc hr1
 have h:ab (az Tryz.prog) (fun _=>[]) (aI Tryz.prog) (iB 114 [.slice c 0 1 none,.slice c 0 1 none,.func 82 []] (.bool true) (fun M=>M=m)) 1 83 [.slice c 0 1 none,.slice c 0 1 none] m=some ⟨.bool true,none,[]⟩:=by
  clear hO
  simp[ab,hG,Tryz.f83,iB]
 have:=(ae aa (ai _) hO (aj _) h).1
 simpa [CallRes.mem] using this
theorem Mp(n:Nat) (hn:n≤1000) (L1:List (List UInt8)) (hl1:L1.length=n) (L2:List (List UInt8)) (hl2:L2.length=n) (m:Mem) (c r1 r2:Nat) (o q1 q2:Bool) (hc:m[c]? =some (.cells o 1 [.slice r1 0 n none,.slice r2 0 n none])) (hr1:m[r1]? =some (.cells q1 1 (stC L1))) (hr2:m[r2]? =some (.cells q2 1 (stC L2))):
  ACallsTo Tryz.prog 83 [.slice c 0 2 none,.slice c 0 2 none] m (.bool true) m:=by
 have hG:aI Tryz.prog 83=some Tryz.f83:=by kernel_rfl
 have hO:OracleOk Tryz.prog (iB 114 [.slice c 0 2 none,.slice c 0 2 none,.func 82 []] (.bool true) (fun M=>M=m)):=ko fun M hM=>by
  subst hM
  exact HO n hn L1 hl1 L2 hl2 M c r1 r2 o q1 q2 hc hr1 hr2
 have h:ab (az Tryz.prog) (fun _=>[]) (aI Tryz.prog) (iB 114 [.slice c 0 2 none,.slice c 0 2 none,.func 82 []] (.bool true) (fun M=>M=m)) 1 83 [.slice c 0 2 none,.slice c 0 2 none] m=some ⟨.bool true,none,[]⟩:=by
  clear hO
  simp[ab,hG,Tryz.f83,iB]
 have:=(ae aa (ai _) hO (aj _) h).1
 simpa [CallRes.mem] using this
theorem zm(nm:List UInt8) (B U:List (List UInt8)) (hB:B.length≤1000) (hU:U.length≤1000) (m:Mem) (b u:Nat) (o1 o2:Bool) (hb:m[b]? =some (.cells o1 1 (stC B))) (hu:m[u]? =some (.cells o2 1 (stC U))):
  ACallsTo Tryz.prog 49 [.agg (aQ nm (.slice b 0 B.length none) (.slice u 0 U.length none) (.nilslice)),.agg (aQ nm (.slice b 0 B.length none) (.slice u 0 U.length none) (.nilslice))] m (.bool true) m:=by
 have lb:=(List.getElem?_eq_some_iff.1 hb).1
 have lu:=(List.getElem?_eq_some_iff.1 hu).1
 have hO:OracleOk Tryz.prog (fE [(82,[.slice b 0 B.length none,.slice b 0 B.length none],.bool true),(32,[.slice u 0 U.length none,.slice u 0 U.length none],.bool true)] (fun M=>∃ext,M=m++ext)):=km fun e he M hM=>by
  obtain⟨ext,rfl⟩:=hM
  simp only[List.mem_cons,List.not_mem_nil,or_false] at he
  rcases he with rfl | rfl
  ·exact kY B hB _ b o1 (by rw[List.getElem?_append_left lb];exact hb)
  ·exact xd U hU _ u o2 (by rw[List.getElem?_append_left lu];exact hu)
 have k:∀f args v E,(f,args,v)∈[(82,[.slice b 0 B.length none,.slice b 0 B.length none],.bool true),(32,[.slice u 0 U.length none,.slice u 0 U.length none],.bool true)]→fE [(82,[.slice b 0 B.length none,.slice b 0 B.length none],.bool true),(32,[.slice u 0 U.length none,.slice u 0 U.length none],.bool true)] (fun M=>∃ext,M=m++ext) (.fn f) args (m++E)=some ⟨v,none,[]⟩:=fun f args v E h=>by
  simp only[List.mem_cons,List.not_mem_nil,or_false,Prod.mk.injEq] at h
  rcases h with⟨rfl,rfl,rfl⟩ | ⟨rfl,rfl,rfl⟩<;>simp[fE,ao,cb]
 have k2:∀f args E,fE [(82,[.slice b 0 B.length none,.slice b 0 B.length none],.bool true),(32,[.slice u 0 U.length none,.slice u 0 U.length none],.bool true)] (fun M=>∃ext,M=m++ext) (.fn f) args (m++E)=ao (cb [(82,[.slice b 0 B.length none,.slice b 0 B.length none],.bool true),(32,[.slice u 0 U.length none,.slice u 0 U.length none],.bool true)]) (.fn f) args (m++E):=fun f args E=>by
  simp[fE]
 refine gD (OracleOk.or' hO fX) ?_ ?_ ?_ ?_
 ·unfold Oracle.or
  rw[k _ _ (.bool true) _ (by simp)]
 ·unfold Oracle.or
  rw[k _ _ (.bool true) _ (by simp)]
 ·unfold Oracle.or
  rw[k2]
  simp[ao,cb,po]
 ·unfold Oracle.or
  rw[k2]
  simp[ao,cb,po]
theorem zn(nm:List UInt8) (B U:List (List UInt8)) (hB:B.length≤1000) (hU:U.length≤1000) (L1:List (List UInt8)) (hl1:L1.length=B.length) (m:Mem) (b u c r1:Nat) (o1 o2 o3 q1:Bool) (hb:m[b]? =some (.cells o1 1 (stC B))) (hu:m[u]? =some (.cells o2 1 (stC U))) (hc:m[c]? =some (.cells o3 1 [.slice r1 0 B.length none])) (hr1:m[r1]? =some (.cells q1 1 (stC L1))):
  ACallsTo Tryz.prog 49 [.agg (aQ nm (.slice b 0 B.length none) (.slice u 0 U.length none) (.slice c 0 1 none)),.agg (aQ nm (.slice b 0 B.length none) (.slice u 0 U.length none) (.slice c 0 1 none))] m (.bool true) m:=by
 have lb:=(List.getElem?_eq_some_iff.1 hb).1
 have lu:=(List.getElem?_eq_some_iff.1 hu).1
 have lc:=(List.getElem?_eq_some_iff.1 hc).1
 have lr1:=(List.getElem?_eq_some_iff.1 hr1).1
 have hO:OracleOk Tryz.prog (fE [(82,[.slice b 0 B.length none,.slice b 0 B.length none],.bool true),(32,[.slice u 0 U.length none,.slice u 0 U.length none],.bool true),(83,[.slice c 0 1 none,.slice c 0 1 none],.bool true)] (fun M=>∃ext,M=m++ext)):=km fun e he M hM=>by
  obtain⟨ext,rfl⟩:=hM
  simp only[List.mem_cons,List.not_mem_nil,or_false] at he
  rcases he with rfl | rfl | rfl
  ·exact kY B hB _ b o1 (by rw[List.getElem?_append_left lb];exact hb)
  ·exact xd U hU _ u o2 (by rw[List.getElem?_append_left lu];exact hu)
  ·exact Mo B.length hB L1 hl1 _ c r1 o3 q1 (by rw[List.getElem?_append_left lc];exact hc) (by rw[List.getElem?_append_left lr1];exact hr1)
 have k:∀f args v E,(f,args,v)∈[(82,[.slice b 0 B.length none,.slice b 0 B.length none],.bool true),(32,[.slice u 0 U.length none,.slice u 0 U.length none],.bool true),(83,[.slice c 0 1 none,.slice c 0 1 none],.bool true)]→fE [(82,[.slice b 0 B.length none,.slice b 0 B.length none],.bool true),(32,[.slice u 0 U.length none,.slice u 0 U.length none],.bool true),(83,[.slice c 0 1 none,.slice c 0 1 none],.bool true)] (fun M=>∃ext,M=m++ext) (.fn f) args (m++E)=some ⟨v,none,[]⟩:=fun f args v E h=>by
  simp only[List.mem_cons,List.not_mem_nil,or_false,Prod.mk.injEq] at h
  rcases h with⟨rfl,rfl,rfl⟩ | ⟨rfl,rfl,rfl⟩ | ⟨rfl,rfl,rfl⟩<;>simp[fE,ao,cb]
 have k2:∀f args E,fE [(82,[.slice b 0 B.length none,.slice b 0 B.length none],.bool true),(32,[.slice u 0 U.length none,.slice u 0 U.length none],.bool true),(83,[.slice c 0 1 none,.slice c 0 1 none],.bool true)] (fun M=>∃ext,M=m++ext) (.fn f) args (m++E)=ao (cb [(82,[.slice b 0 B.length none,.slice b 0 B.length none],.bool true),(32,[.slice u 0 U.length none,.slice u 0 U.length none],.bool true),(83,[.slice c 0 1 none,.slice c 0 1 none],.bool true)]) (.fn f) args (m++E):=fun f args E=>by
  simp[fE]
 refine gD (OracleOk.or' hO fX) ?_ ?_ ?_ ?_
 ·unfold Oracle.or
  rw[k _ _ (.bool true) _ (by simp)]
 ·unfold Oracle.or
  rw[k _ _ (.bool true) _ (by simp)]
 ·unfold Oracle.or
  rw[k _ _ (.bool true) _ (by simp)]
 ·unfold Oracle.or
  rw[k2]
  simp[ao,cb,po]
theorem zo(nm:List UInt8) (B U:List (List UInt8)) (hB:B.length≤1000) (hU:U.length≤1000) (L1:List (List UInt8)) (hl1:L1.length=B.length) (L2:List (List UInt8)) (hl2:L2.length=B.length) (m:Mem) (b u c r1 r2:Nat) (o1 o2 o3 q1 q2:Bool) (hb:m[b]? =some (.cells o1 1 (stC B))) (hu:m[u]? =some (.cells o2 1 (stC U))) (hc:m[c]? =some (.cells o3 1 [.slice r1 0 B.length none,.slice r2 0 B.length none])) (hr1:m[r1]? =some (.cells q1 1 (stC L1))) (hr2:m[r2]? =some (.cells q2 1 (stC L2))):
  ACallsTo Tryz.prog 49 [.agg (aQ nm (.slice b 0 B.length none) (.slice u 0 U.length none) (.slice c 0 2 none)),.agg (aQ nm (.slice b 0 B.length none) (.slice u 0 U.length none) (.slice c 0 2 none))] m (.bool true) m:=by
 have lb:=(List.getElem?_eq_some_iff.1 hb).1
 have lu:=(List.getElem?_eq_some_iff.1 hu).1
 have lc:=(List.getElem?_eq_some_iff.1 hc).1
 have lr1:=(List.getElem?_eq_some_iff.1 hr1).1
 have lr2:=(List.getElem?_eq_some_iff.1 hr2).1
 have hO:OracleOk Tryz.prog (fE [(82,[.slice b 0 B.length none,.slice b 0 B.length none],.bool true),(32,[.slice u 0 U.length none,.slice u 0 U.length none],.bool true),(83,[.slice c 0 2 none,.slice c 0 2 none],.bool true)] (fun M=>∃ext,M=m++ext)):=km fun e he M hM=>by
  obtain⟨ext,rfl⟩:=hM
  simp only[List.mem_cons,List.not_mem_nil,or_false] at he
  rcases he with rfl | rfl | rfl
  ·exact kY B hB _ b o1 (by rw[List.getElem?_append_left lb];exact hb)
  ·exact xd U hU _ u o2 (by rw[List.getElem?_append_left lu];exact hu)
  ·exact Mp B.length hB L1 hl1 L2 hl2 _ c r1 r2 o3 q1 q2 (by rw[List.getElem?_append_left lc];exact hc) (by rw[List.getElem?_append_left lr1];exact hr1) (by rw[List.getElem?_append_left lr2];exact hr2)
 have k:∀f args v E,(f,args,v)∈[(82,[.slice b 0 B.length none,.slice b 0 B.length none],.bool true),(32,[.slice u 0 U.length none,.slice u 0 U.length none],.bool true),(83,[.slice c 0 2 none,.slice c 0 2 none],.bool true)]→fE [(82,[.slice b 0 B.length none,.slice b 0 B.length none],.bool true),(32,[.slice u 0 U.length none,.slice u 0 U.length none],.bool true),(83,[.slice c 0 2 none,.slice c 0 2 none],.bool true)] (fun M=>∃ext,M=m++ext) (.fn f) args (m++E)=some ⟨v,none,[]⟩:=fun f args v E h=>by
  simp only[List.mem_cons,List.not_mem_nil,or_false,Prod.mk.injEq] at h
  rcases h with⟨rfl,rfl,rfl⟩ | ⟨rfl,rfl,rfl⟩ | ⟨rfl,rfl,rfl⟩<;>simp[fE,ao,cb]
 have k2:∀f args E,fE [(82,[.slice b 0 B.length none,.slice b 0 B.length none],.bool true),(32,[.slice u 0 U.length none,.slice u 0 U.length none],.bool true),(83,[.slice c 0 2 none,.slice c 0 2 none],.bool true)] (fun M=>∃ext,M=m++ext) (.fn f) args (m++E)=ao (cb [(82,[.slice b 0 B.length none,.slice b 0 B.length none],.bool true),(32,[.slice u 0 U.length none,.slice u 0 U.length none],.bool true),(83,[.slice c 0 2 none,.slice c 0 2 none],.bool true)]) (.fn f) args (m++E):=fun f args E=>by
  simp[fE]
 refine gD (OracleOk.or' hO fX) ?_ ?_ ?_ ?_
 ·unfold Oracle.or
  rw[k _ _ (.bool true) _ (by simp)]
 ·unfold Oracle.or
  rw[k _ _ (.bool true) _ (by simp)]
 ·unfold Oracle.or
  rw[k _ _ (.bool true) _ (by simp)]
 ·unfold Oracle.or
  rw[k2]
  simp[ao,cb,po]
def bk:AV:=.agg [.func 149 [],.func 150 [],.func 151 [],.func 152 [],.func 153 []]
theorem w8(nm:List UInt8) (n k:Nat):ACallsTo Tryz.prog 81 [.agg (aQ nm (.slice 0 0 n none) (.slice 1 0 k none) (.nilslice))] [.absent,.absent] bk [.absent,.absent]:=by
 have h:ab (az Tryz.prog) ad (aI Tryz.prog) rJ 6 81 [.agg (aQ nm (.slice 0 0 n none) (.slice 1 0 k none) (.nilslice))] [.absent,.absent]=some ⟨bk,none,[]⟩:=by as_aux_lemma=>kernel_rfl
 have:=(ae aa (ai _) fW (aj _) h).1
 simpa [CallRes.mem] using this
theorem pY(nm:List UInt8) (n k:Nat) (M:Mem) (hM:5≤M.length∨(4≤M.length∧0=0)):ACallsTo Tryz.prog 81 [.agg (aQ nm (.slice 2 0 n none) (.slice 3 0 k none) (.nilslice))] M bk M:=by
 have:=ACallsTo.frame (M:=M) (new:=[]) [2,3] rfl (by intro k hk;simp at hk;omega) (by rfl) (fun i t hs=>by
  match i with
  |0=>simp at hs;subst hs;trivial
  |1=>simp at hs;subst hs;trivial
  |i+2=>simp at hs) rfl (w8 nm n k)
 simpa [aQ,AV.rens,AV.ren,da,bk] using this
def kR(s:Sheet) (u0:List UInt8) (Z:List Int):Mem:=[.cells false 2 (pC s.P),.cells false 3 (tC s.T),.cells false 1 (qC (qH Z)),.cells false 1 [.str u0]]
def fN(s:Sheet) (u0:List UInt8) (Z:List Int) (ev:List AV):Mem:=[.cells false 2 (pC s.P),.cells false 3 (tC s.T),.cells false 1 (qC (qH Z)),.cells false 1 [.str u0],.cells true 0 [.slice 0 0 s.P.length none,.slice 1 0 s.T.length none],.cells true 0 ev]
set_option maxHeartbeats 1600000 in
theorem vj(s:Sheet) (nm:List UInt8) (u0:List UInt8) (Z:List Int):
  ACallsTo Tryz.prog 149 [.agg (aQ nm (.slice 2 0 Z.length none) (.slice 3 0 1 none) (.nilslice)),.ptr 6 0] (fN s u0 Z (aQ nm (.slice 2 0 Z.length none) (.slice 3 0 1 none) (.nilslice))++[.cells true 0 (cm 1 nm)]) (.tuple []) (fN s u0 Z (aQ nm (.slice 2 0 Z.length none) (.slice 3 0 1 none) (.nilslice))++[.cells true 0 (aQ nm (.slice 2 0 Z.length none) (.slice 3 0 1 none) (.nilslice))]):=by
 have hG:aI Tryz.prog 149=some Tryz.f149:=by kernel_rfl
 have h:ab (az Tryz.prog) (fun _=>[]) (aI Tryz.prog) aE 1 149 [.agg (aQ nm (.slice 2 0 Z.length none) (.slice 3 0 1 none) (.nilslice)),.ptr 6 0] (fN s u0 Z (aQ nm (.slice 2 0 Z.length none) (.slice 3 0 1 none) (.nilslice))++[.cells true 0 (cm 1 nm)])=some ⟨.tuple [],some (fN s u0 Z (aQ nm (.slice 2 0 Z.length none) (.slice 3 0 1 none) (.nilslice))++[.cells true 0 (aQ nm (.slice 2 0 Z.length none) (.slice 3 0 1 none) (.nilslice))]),[]⟩:=by
  simp[ab,hG,Tryz.f149,fN,cm,aQ,cC,cP,eg,gw,fa,di,List.idxOf?_cons]
 have:=(ae aa (ai _) (af _) (aj _) h).1
 simpa [CallRes.mem] using this
noncomputable def jQ(s:Sheet) (u0:List UInt8) (Z:List Int) (nm:List UInt8) (ev:List AV):List (FuncId×List AV×Mem×CallRes):=[
 (41,[shA s],fN s u0 Z ev,⟨.int .i64 0,none,[]⟩),
 (81,[.agg ev],fN s u0 Z ev++[.cells true 0 (cm 1 nm)],⟨bk,none,[]⟩),
 (149,[.agg ev,.ptr 6 0],fN s u0 Z ev++[.cells true 0 (cm 1 nm)],⟨.tuple [],some (fN s u0 Z ev++[.cells true 0 ev]),[]⟩),
 (49,[.agg ev,.agg ev],fN s u0 Z ev++[.cells true 0 ev],⟨.bool true,none,[]⟩),
 (81,[.agg ev],fN s u0 Z ev++[.cells true 0 ev],⟨bk,none,[]⟩),
 (150,[shA s,.agg ev],fN s u0 Z ev++[.cells true 0 ev],⟨.int .i64 0,none,[]⟩)]
set_option maxHeartbeats 4000000 in
theorem sZ(s:Sheet) (nm:List UInt8) (u0:List UInt8) (Z:List Int) (hm:nm∈bE) (n0:u0∈bE)  (hZ:∀z∈Z,z.natAbs<1000) (hl:Z.length≤1000) (hn:Z.length=s.P.length):
  ACallsTo Tryz.prog 43 [shA s,.agg (aQ nm (.slice 2 0 Z.length none) (.slice 3 0 1 none) (.nilslice))] (kR s u0 Z) (.int .i64 0) (kR s u0 Z):=by
 have hG:aI Tryz.prog 43=some Tryz.f43:=by kernel_rfl
 obtain⟨os,hops⟩:∃os,aG Tryz.f43=os:=⟨_,rfl⟩
 have hbs:=aV hops (ls:=[[0,1,3,0,15],[0,1,3,0,0,31,63]]) (by kernel_rfl)
 simp only[aG,bC,Tryz.f43,List.nil_append,List.append_nil,List.cons_append] at hops
 subst hops
 simp only[List.map_cons,List.map_nil,List.cons.injEq,and_true] at hbs
 obtain⟨hb0,hb1⟩:=hbs
 have a0:aS [0,1,3,0,15] 4=true:=by decide
 have a1:aS [0,1,3,0,0,31,63] 6=true:=by decide
 have hO1:OracleOk Tryz.prog (ao (cb [(80,[.str nm],.int .i64 0)])):=er fun e he M=>by
  simp only[List.mem_cons,List.not_mem_nil,or_false] at he
  subst he
  exact cz nm hm M
 obtain⟨ev,hev⟩:∃ev,ev=aQ nm (.slice 2 0 Z.length none) (.slice 3 0 1 none) (.nilslice):=⟨_,rfl⟩
 have hO2:OracleOk Tryz.prog (cg (jQ s u0 Z nm ev)):=dn fun e he=>by
  simp only[jQ,List.mem_cons,List.not_mem_nil,or_false] at he
  subst hev
  have hc:=CN s nm u0 n0  Z hZ hl hn (fN s u0 Z (aQ nm (.slice 2 0 Z.length none) (.slice 3 0 1 none) (.nilslice))++[.cells true 0 (aQ nm (.slice 2 0 Z.length none) (.slice 3 0 1 none) (.nilslice))]) 2 3 false false false false rfl rfl rfl rfl
  have hq:=zm nm ((qH Z).map aN) [u0] (by simp[qH];omega) (by simp) (fN s u0 Z (aQ nm (.slice 2 0 Z.length none) (.slice 3 0 1 none) (.nilslice))++[.cells true 0 (aQ nm (.slice 2 0 Z.length none) (.slice 3 0 1 none) (.nilslice))]) 2 3 false false (by rw[←u7];rfl) rfl
  have hz:((qH Z).map aN).length=Z.length:=by simp[qH]
  rw[hz] at hq
  rcases he with rfl | rfl | rfl | rfl | rfl | rfl
  ·exact⟨by simpa [CallRes.mem,shA] using dj s (fN s u0 Z (aQ nm (.slice 2 0 Z.length none) (.slice 3 0 1 none) (.nilslice))) 0 1 false false rfl rfl,by simp⟩
  ·exact⟨by simpa [CallRes.mem] using pY nm Z.length 1 (fN s u0 Z (aQ nm (.slice 2 0 Z.length none) (.slice 3 0 1 none) (.nilslice))++[.cells true 0 (cm 1 nm)]) (by simp[fN]),by simp⟩
  ·exact⟨by simpa [CallRes.mem] using vj s nm u0 Z,by simp[fN]⟩
  ·exact⟨by simpa [CallRes.mem] using hq,by simp⟩
  ·exact⟨by simpa [CallRes.mem] using pY nm Z.length 1 (fN s u0 Z (aQ nm (.slice 2 0 Z.length none) (.slice 3 0 1 none) (.nilslice))++[.cells true 0 (aQ nm (.slice 2 0 Z.length none) (.slice 3 0 1 none) (.nilslice))]) (by simp[fN]),by simp⟩
  ·exact⟨by simpa [CallRes.mem] using hc,by simp⟩
 have hO:=OracleOk.or' hO1 hO2
 have h:ab (az Tryz.prog) (fun _=>[]) (aI Tryz.prog) (Oracle.or (ao (cb [(80,[.str nm],.int .i64 0)])) (cg (jQ s u0 Z nm ev))) 1 43 [shA s,.agg (aQ nm (.slice 2 0 Z.length none) (.slice 3 0 1 none) (.nilslice))] (kR s u0 Z)=some ⟨.int .i64 0,some (kR s u0 Z),[]⟩:=by
  rw[hev]
  clear hO hO1 hO2 hn
  simp[bT,-aF,ax hb0,ax hb1,bS,bF,bM,a0,a1,Nat.testBit,-lG,fj,fk,ab,hG,Tryz.f43,Oracle.or,ao,cb,cg,jQ,bk,shA,fN,kR,cm,aQ,bB,ar,cC,cP,eg,gw,oZ,pW,fa,di,qX,List.idxOf?_cons]
 have:=(ae aa (ai _) hO (aj _) h).1
 simpa [CallRes.mem] using this
theorem w9(nm:List UInt8) (n k:Nat):ACallsTo Tryz.prog 81 [.agg (aQ nm (.slice 0 0 n none) (.slice 1 0 k none) (.slice 2 0 1 none))] [.absent,.absent,.absent] bk [.absent,.absent,.absent]:=by
 have h:ab (az Tryz.prog) ad (aI Tryz.prog) rJ 6 81 [.agg (aQ nm (.slice 0 0 n none) (.slice 1 0 k none) (.slice 2 0 1 none))] [.absent,.absent,.absent]=some ⟨bk,none,[]⟩:=by as_aux_lemma=>kernel_rfl
 have:=(ae aa (ai _) fW (aj _) h).1
 simpa [CallRes.mem] using this
theorem pZ(nm:List UInt8) (n k:Nat) (M:Mem) (hM:5≤M.length∨(4≤M.length∧1=0)):ACallsTo Tryz.prog 81 [.agg (aQ nm (.slice 2 0 n none) (.slice 3 0 k none) (.slice 4 0 1 none))] M bk M:=by
 have:=ACallsTo.frame (M:=M) (new:=[]) [2,3,4] rfl (by intro k hk;simp at hk;omega) (by rfl) (fun i t hs=>by
  match i with
  |0=>simp at hs;subst hs;trivial
  |1=>simp at hs;subst hs;trivial
  |2=>simp at hs;subst hs;trivial
  |i+3=>simp at hs) rfl (w9 nm n k)
 simpa [aQ,AV.rens,AV.ren,da,bk] using this
def iJ(s:Sheet) (u0 u1:List UInt8) (Z Y1:List Int):Mem:=[.cells false 2 (pC s.P),.cells false 3 (tC s.T),.cells false 1 (qC (qH Z)),.cells false 1 [.str u0,.str u1],.cells false 1 [.slice 5 0 Z.length none],.cells false 1 (qC (qH Y1))]
def fO(s:Sheet) (u0 u1:List UInt8) (Z Y1:List Int) (ev:List AV):Mem:=[.cells false 2 (pC s.P),.cells false 3 (tC s.T),.cells false 1 (qC (qH Z)),.cells false 1 [.str u0,.str u1],.cells false 1 [.slice 5 0 Z.length none],.cells false 1 (qC (qH Y1)),.cells true 0 [.slice 0 0 s.P.length none,.slice 1 0 s.T.length none],.cells true 0 ev]
set_option maxHeartbeats 1600000 in
theorem vk(s:Sheet) (nm:List UInt8) (u0 u1:List UInt8) (Z Y1:List Int):
  ACallsTo Tryz.prog 149 [.agg (aQ nm (.slice 2 0 Z.length none) (.slice 3 0 2 none) (.slice 4 0 1 none)),.ptr 8 0] (fO s u0 u1 Z Y1 (aQ nm (.slice 2 0 Z.length none) (.slice 3 0 2 none) (.slice 4 0 1 none))++[.cells true 0 (cm 1 nm)]) (.tuple []) (fO s u0 u1 Z Y1 (aQ nm (.slice 2 0 Z.length none) (.slice 3 0 2 none) (.slice 4 0 1 none))++[.cells true 0 (aQ nm (.slice 2 0 Z.length none) (.slice 3 0 2 none) (.slice 4 0 1 none))]):=by
 have hG:aI Tryz.prog 149=some Tryz.f149:=by kernel_rfl
 have h:ab (az Tryz.prog) (fun _=>[]) (aI Tryz.prog) aE 1 149 [.agg (aQ nm (.slice 2 0 Z.length none) (.slice 3 0 2 none) (.slice 4 0 1 none)),.ptr 8 0] (fO s u0 u1 Z Y1 (aQ nm (.slice 2 0 Z.length none) (.slice 3 0 2 none) (.slice 4 0 1 none))++[.cells true 0 (cm 1 nm)])=some ⟨.tuple [],some (fO s u0 u1 Z Y1 (aQ nm (.slice 2 0 Z.length none) (.slice 3 0 2 none) (.slice 4 0 1 none))++[.cells true 0 (aQ nm (.slice 2 0 Z.length none) (.slice 3 0 2 none) (.slice 4 0 1 none))]),[]⟩:=by
  simp[ab,hG,Tryz.f149,fO,cm,aQ,cC,cP,eg,gw,fa,di,List.idxOf?_cons]
 have:=(ae aa (ai _) (af _) (aj _) h).1
 simpa [CallRes.mem] using this
noncomputable def jR(s:Sheet) (u0 u1:List UInt8) (Z Y1:List Int) (nm:List UInt8) (ev:List AV):List (FuncId×List AV×Mem×CallRes):=[
 (41,[shA s],fO s u0 u1 Z Y1 ev,⟨.int .i64 0,none,[]⟩),
 (81,[.agg ev],fO s u0 u1 Z Y1 ev++[.cells true 0 (cm 1 nm)],⟨bk,none,[]⟩),
 (149,[.agg ev,.ptr 8 0],fO s u0 u1 Z Y1 ev++[.cells true 0 (cm 1 nm)],⟨.tuple [],some (fO s u0 u1 Z Y1 ev++[.cells true 0 ev]),[]⟩),
 (49,[.agg ev,.agg ev],fO s u0 u1 Z Y1 ev++[.cells true 0 ev],⟨.bool true,none,[]⟩),
 (81,[.agg ev],fO s u0 u1 Z Y1 ev++[.cells true 0 ev],⟨bk,none,[]⟩),
 (150,[shA s,.agg ev],fO s u0 u1 Z Y1 ev++[.cells true 0 ev],⟨.int .i64 0,none,[]⟩)]
set_option maxHeartbeats 4000000 in
theorem tf(s:Sheet) (nm:List UInt8) (u0 u1:List UInt8) (Z Y1:List Int) (hm:nm∈bE) (n0:u0∈bE) (n1:u1∈bE) (d01:u1≠u0) (hZ:∀z∈Z,z.natAbs<1000) (hl:Z.length≤1000) (hn:Z.length=s.P.length) (hY1:∀z∈Y1,z.natAbs<1000) (hl1:Y1.length=s.P.length) (hle1:∀(i:Nat) z y,Z[i]? =some z→Y1[i]? =some y→z≤y):
  ACallsTo Tryz.prog 43 [shA s,.agg (aQ nm (.slice 2 0 Z.length none) (.slice 3 0 2 none) (.slice 4 0 1 none))] (iJ s u0 u1 Z Y1) (.int .i64 0) (iJ s u0 u1 Z Y1):=by
 have hG:aI Tryz.prog 43=some Tryz.f43:=by kernel_rfl
 obtain⟨os,hops⟩:∃os,aG Tryz.f43=os:=⟨_,rfl⟩
 have hbs:=aV hops (ls:=[[0,1,3,0,15],[0,1,3,0,0,31,63]]) (by kernel_rfl)
 simp only[aG,bC,Tryz.f43,List.nil_append,List.append_nil,List.cons_append] at hops
 subst hops
 simp only[List.map_cons,List.map_nil,List.cons.injEq,and_true] at hbs
 obtain⟨hb0,hb1⟩:=hbs
 have a0:aS [0,1,3,0,15] 4=true:=by decide
 have a1:aS [0,1,3,0,0,31,63] 6=true:=by decide
 have hO1:OracleOk Tryz.prog (ao (cb [(80,[.str nm],.int .i64 0)])):=er fun e he M=>by
  simp only[List.mem_cons,List.not_mem_nil,or_false] at he
  subst he
  exact cz nm hm M
 obtain⟨ev,hev⟩:∃ev,ev=aQ nm (.slice 2 0 Z.length none) (.slice 3 0 2 none) (.slice 4 0 1 none):=⟨_,rfl⟩
 have hO2:OracleOk Tryz.prog (cg (jR s u0 u1 Z Y1 nm ev)):=dn fun e he=>by
  simp only[jR,List.mem_cons,List.not_mem_nil,or_false] at he
  subst hev
  have hc:=CO s nm u0 u1 n0 n1 d01 Z hZ hl hn Y1 hY1 hl1 hle1 (fO s u0 u1 Z Y1 (aQ nm (.slice 2 0 Z.length none) (.slice 3 0 2 none) (.slice 4 0 1 none))++[.cells true 0 (aQ nm (.slice 2 0 Z.length none) (.slice 3 0 2 none) (.slice 4 0 1 none))]) 2 3 4 5 false false false false false false rfl rfl rfl rfl rfl rfl
  have hq:=zn nm ((qH Z).map aN) [u0,u1] (by simp[qH];omega) (by simp) ((qH Y1).map aN) (by simp[qH];omega) (fO s u0 u1 Z Y1 (aQ nm (.slice 2 0 Z.length none) (.slice 3 0 2 none) (.slice 4 0 1 none))++[.cells true 0 (aQ nm (.slice 2 0 Z.length none) (.slice 3 0 2 none) (.slice 4 0 1 none))]) 2 3 4 5 false false false false (by rw[←u7];rfl) rfl (by rw[show((qH Z).map aN).length=Z.length by simp[qH]];rfl) (by rw[←u7];rfl)
  have hz:((qH Z).map aN).length=Z.length:=by simp[qH]
  rw[hz] at hq
  rcases he with rfl | rfl | rfl | rfl | rfl | rfl
  ·exact⟨by simpa [CallRes.mem,shA] using dj s (fO s u0 u1 Z Y1 (aQ nm (.slice 2 0 Z.length none) (.slice 3 0 2 none) (.slice 4 0 1 none))) 0 1 false false rfl rfl,by simp⟩
  ·exact⟨by simpa [CallRes.mem] using pZ nm Z.length 2 (fO s u0 u1 Z Y1 (aQ nm (.slice 2 0 Z.length none) (.slice 3 0 2 none) (.slice 4 0 1 none))++[.cells true 0 (cm 1 nm)]) (by simp[fO]),by simp⟩
  ·exact⟨by simpa [CallRes.mem] using vk s nm u0 u1 Z Y1,by simp[fO]⟩
  ·exact⟨by simpa [CallRes.mem] using hq,by simp⟩
  ·exact⟨by simpa [CallRes.mem] using pZ nm Z.length 2 (fO s u0 u1 Z Y1 (aQ nm (.slice 2 0 Z.length none) (.slice 3 0 2 none) (.slice 4 0 1 none))++[.cells true 0 (aQ nm (.slice 2 0 Z.length none) (.slice 3 0 2 none) (.slice 4 0 1 none))]) (by simp[fO]),by simp⟩
  ·exact⟨by simpa [CallRes.mem] using hc,by simp⟩
 have hO:=OracleOk.or' hO1 hO2
 have h:ab (az Tryz.prog) (fun _=>[]) (aI Tryz.prog) (Oracle.or (ao (cb [(80,[.str nm],.int .i64 0)])) (cg (jR s u0 u1 Z Y1 nm ev))) 1 43 [shA s,.agg (aQ nm (.slice 2 0 Z.length none) (.slice 3 0 2 none) (.slice 4 0 1 none))] (iJ s u0 u1 Z Y1)=some ⟨.int .i64 0,some (iJ s u0 u1 Z Y1),[]⟩:=by
  rw[hev]
  clear hO hO1 hO2 hn
  simp[bT,-aF,ax hb0,ax hb1,bS,bF,bM,a0,a1,Nat.testBit,-lG,fj,fk,ab,hG,Tryz.f43,Oracle.or,ao,cb,cg,jR,bk,shA,fO,iJ,cm,aQ,bB,ar,cC,cP,eg,gw,oZ,pW,fa,di,qX,List.idxOf?_cons]
 have:=(ae aa (ai _) hO (aj _) h).1
 simpa [CallRes.mem] using this
theorem xa(nm:List UInt8) (n k:Nat):ACallsTo Tryz.prog 81 [.agg (aQ nm (.slice 0 0 n none) (.slice 1 0 k none) (.slice 2 0 2 none))] [.absent,.absent,.absent] bk [.absent,.absent,.absent]:=by
 have h:ab (az Tryz.prog) ad (aI Tryz.prog) rJ 6 81 [.agg (aQ nm (.slice 0 0 n none) (.slice 1 0 k none) (.slice 2 0 2 none))] [.absent,.absent,.absent]=some ⟨bk,none,[]⟩:=by as_aux_lemma=>kernel_rfl
 have:=(ae aa (ai _) fW (aj _) h).1
 simpa [CallRes.mem] using this
theorem qc(nm:List UInt8) (n k:Nat) (M:Mem) (hM:5≤M.length∨(4≤M.length∧2=0)):ACallsTo Tryz.prog 81 [.agg (aQ nm (.slice 2 0 n none) (.slice 3 0 k none) (.slice 4 0 2 none))] M bk M:=by
 have:=ACallsTo.frame (M:=M) (new:=[]) [2,3,4] rfl (by intro k hk;simp at hk;omega) (by rfl) (fun i t hs=>by
  match i with
  |0=>simp at hs;subst hs;trivial
  |1=>simp at hs;subst hs;trivial
  |2=>simp at hs;subst hs;trivial
  |i+3=>simp at hs) rfl (xa nm n k)
 simpa [aQ,AV.rens,AV.ren,da,bk] using this
def gJ(s:Sheet) (u0 u1 u2:List UInt8) (Z Y1 Y2:List Int):Mem:=[.cells false 2 (pC s.P),.cells false 3 (tC s.T),.cells false 1 (qC (qH Z)),.cells false 1 [.str u0,.str u1,.str u2],.cells false 1 [.slice 5 0 Z.length none,.slice 6 0 Z.length none],.cells false 1 (qC (qH Y1)),.cells false 1 (qC (qH Y2))]
def fP(s:Sheet) (u0 u1 u2:List UInt8) (Z Y1 Y2:List Int) (ev:List AV):Mem:=[.cells false 2 (pC s.P),.cells false 3 (tC s.T),.cells false 1 (qC (qH Z)),.cells false 1 [.str u0,.str u1,.str u2],.cells false 1 [.slice 5 0 Z.length none,.slice 6 0 Z.length none],.cells false 1 (qC (qH Y1)),.cells false 1 (qC (qH Y2)),.cells true 0 [.slice 0 0 s.P.length none,.slice 1 0 s.T.length none],.cells true 0 ev]
set_option maxHeartbeats 1600000 in
theorem vl(s:Sheet) (nm:List UInt8) (u0 u1 u2:List UInt8) (Z Y1 Y2:List Int):
  ACallsTo Tryz.prog 149 [.agg (aQ nm (.slice 2 0 Z.length none) (.slice 3 0 3 none) (.slice 4 0 2 none)),.ptr 9 0] (fP s u0 u1 u2 Z Y1 Y2 (aQ nm (.slice 2 0 Z.length none) (.slice 3 0 3 none) (.slice 4 0 2 none))++[.cells true 0 (cm 1 nm)]) (.tuple []) (fP s u0 u1 u2 Z Y1 Y2 (aQ nm (.slice 2 0 Z.length none) (.slice 3 0 3 none) (.slice 4 0 2 none))++[.cells true 0 (aQ nm (.slice 2 0 Z.length none) (.slice 3 0 3 none) (.slice 4 0 2 none))]):=by
 have hG:aI Tryz.prog 149=some Tryz.f149:=by kernel_rfl
 have h:ab (az Tryz.prog) (fun _=>[]) (aI Tryz.prog) aE 1 149 [.agg (aQ nm (.slice 2 0 Z.length none) (.slice 3 0 3 none) (.slice 4 0 2 none)),.ptr 9 0] (fP s u0 u1 u2 Z Y1 Y2 (aQ nm (.slice 2 0 Z.length none) (.slice 3 0 3 none) (.slice 4 0 2 none))++[.cells true 0 (cm 1 nm)])=some ⟨.tuple [],some (fP s u0 u1 u2 Z Y1 Y2 (aQ nm (.slice 2 0 Z.length none) (.slice 3 0 3 none) (.slice 4 0 2 none))++[.cells true 0 (aQ nm (.slice 2 0 Z.length none) (.slice 3 0 3 none) (.slice 4 0 2 none))]),[]⟩:=by
  simp[ab,hG,Tryz.f149,fP,cm,aQ,cC,cP,eg,gw,fa,di,List.idxOf?_cons]
 have:=(ae aa (ai _) (af _) (aj _) h).1
 simpa [CallRes.mem] using this
noncomputable def jS(s:Sheet) (u0 u1 u2:List UInt8) (Z Y1 Y2:List Int) (nm:List UInt8) (ev:List AV):List (FuncId×List AV×Mem×CallRes):=[
 (41,[shA s],fP s u0 u1 u2 Z Y1 Y2 ev,⟨.int .i64 0,none,[]⟩),
 (81,[.agg ev],fP s u0 u1 u2 Z Y1 Y2 ev++[.cells true 0 (cm 1 nm)],⟨bk,none,[]⟩),
 (149,[.agg ev,.ptr 9 0],fP s u0 u1 u2 Z Y1 Y2 ev++[.cells true 0 (cm 1 nm)],⟨.tuple [],some (fP s u0 u1 u2 Z Y1 Y2 ev++[.cells true 0 ev]),[]⟩),
 (49,[.agg ev,.agg ev],fP s u0 u1 u2 Z Y1 Y2 ev++[.cells true 0 ev],⟨.bool true,none,[]⟩),
 (81,[.agg ev],fP s u0 u1 u2 Z Y1 Y2 ev++[.cells true 0 ev],⟨bk,none,[]⟩),
 (150,[shA s,.agg ev],fP s u0 u1 u2 Z Y1 Y2 ev++[.cells true 0 ev],⟨.int .i64 0,none,[]⟩)]
set_option maxHeartbeats 4000000 in
theorem tg(s:Sheet) (nm:List UInt8) (u0 u1 u2:List UInt8) (Z Y1 Y2:List Int) (hm:nm∈bE) (n0:u0∈bE) (n1:u1∈bE) (n2:u2∈bE) (d01:u1≠u0) (d02:u2≠u0) (d12:u2≠u1) (hZ:∀z∈Z,z.natAbs<1000) (hl:Z.length≤1000) (hn:Z.length=s.P.length) (hY1:∀z∈Y1,z.natAbs<1000) (hl1:Y1.length=s.P.length) (hle1:∀(i:Nat) z y,Z[i]? =some z→Y1[i]? =some y→z≤y) (hY2:∀z∈Y2,z.natAbs<1000) (hl2:Y2.length=s.P.length) (hle2:∀(i:Nat) z y,Y1[i]? =some z→Y2[i]? =some y→z≤y):
  ACallsTo Tryz.prog 43 [shA s,.agg (aQ nm (.slice 2 0 Z.length none) (.slice 3 0 3 none) (.slice 4 0 2 none))] (gJ s u0 u1 u2 Z Y1 Y2) (.int .i64 0) (gJ s u0 u1 u2 Z Y1 Y2):=by
 have hG:aI Tryz.prog 43=some Tryz.f43:=by kernel_rfl
 obtain⟨os,hops⟩:∃os,aG Tryz.f43=os:=⟨_,rfl⟩
 have hbs:=aV hops (ls:=[[0,1,3,0,15],[0,1,3,0,0,31,63]]) (by kernel_rfl)
 simp only[aG,bC,Tryz.f43,List.nil_append,List.append_nil,List.cons_append] at hops
 subst hops
 simp only[List.map_cons,List.map_nil,List.cons.injEq,and_true] at hbs
 obtain⟨hb0,hb1⟩:=hbs
 have a0:aS [0,1,3,0,15] 4=true:=by decide
 have a1:aS [0,1,3,0,0,31,63] 6=true:=by decide
 have hO1:OracleOk Tryz.prog (ao (cb [(80,[.str nm],.int .i64 0)])):=er fun e he M=>by
  simp only[List.mem_cons,List.not_mem_nil,or_false] at he
  subst he
  exact cz nm hm M
 obtain⟨ev,hev⟩:∃ev,ev=aQ nm (.slice 2 0 Z.length none) (.slice 3 0 3 none) (.slice 4 0 2 none):=⟨_,rfl⟩
 have hO2:OracleOk Tryz.prog (cg (jS s u0 u1 u2 Z Y1 Y2 nm ev)):=dn fun e he=>by
  simp only[jS,List.mem_cons,List.not_mem_nil,or_false] at he
  subst hev
  have hc:=CP s nm u0 u1 u2 n0 n1 n2 d01 d02 d12 Z hZ hl hn Y1 Y2 hY1 hl1 hle1 hY2 hl2 hle2 (fP s u0 u1 u2 Z Y1 Y2 (aQ nm (.slice 2 0 Z.length none) (.slice 3 0 3 none) (.slice 4 0 2 none))++[.cells true 0 (aQ nm (.slice 2 0 Z.length none) (.slice 3 0 3 none) (.slice 4 0 2 none))]) 2 3 4 5 6 false false false false false false false rfl rfl rfl rfl rfl rfl rfl
  have hq:=zo nm ((qH Z).map aN) [u0,u1,u2] (by simp[qH];omega) (by simp) ((qH Y1).map aN) (by simp[qH];omega) ((qH Y2).map aN) (by simp[qH];omega) (fP s u0 u1 u2 Z Y1 Y2 (aQ nm (.slice 2 0 Z.length none) (.slice 3 0 3 none) (.slice 4 0 2 none))++[.cells true 0 (aQ nm (.slice 2 0 Z.length none) (.slice 3 0 3 none) (.slice 4 0 2 none))]) 2 3 4 5 6 false false false false false (by rw[←u7];rfl) rfl (by rw[show((qH Z).map aN).length=Z.length by simp[qH]];rfl) (by rw[←u7];rfl) (by rw[←u7];rfl)
  have hz:((qH Z).map aN).length=Z.length:=by simp[qH]
  rw[hz] at hq
  rcases he with rfl | rfl | rfl | rfl | rfl | rfl
  ·exact⟨by simpa [CallRes.mem,shA] using dj s (fP s u0 u1 u2 Z Y1 Y2 (aQ nm (.slice 2 0 Z.length none) (.slice 3 0 3 none) (.slice 4 0 2 none))) 0 1 false false rfl rfl,by simp⟩
  ·exact⟨by simpa [CallRes.mem] using qc nm Z.length 3 (fP s u0 u1 u2 Z Y1 Y2 (aQ nm (.slice 2 0 Z.length none) (.slice 3 0 3 none) (.slice 4 0 2 none))++[.cells true 0 (cm 1 nm)]) (by simp[fP]),by simp⟩
  ·exact⟨by simpa [CallRes.mem] using vl s nm u0 u1 u2 Z Y1 Y2,by simp[fP]⟩
  ·exact⟨by simpa [CallRes.mem] using hq,by simp⟩
  ·exact⟨by simpa [CallRes.mem] using qc nm Z.length 3 (fP s u0 u1 u2 Z Y1 Y2 (aQ nm (.slice 2 0 Z.length none) (.slice 3 0 3 none) (.slice 4 0 2 none))++[.cells true 0 (aQ nm (.slice 2 0 Z.length none) (.slice 3 0 3 none) (.slice 4 0 2 none))]) (by simp[fP]),by simp⟩
  ·exact⟨by simpa [CallRes.mem] using hc,by simp⟩
 have hO:=OracleOk.or' hO1 hO2
 have h:ab (az Tryz.prog) (fun _=>[]) (aI Tryz.prog) (Oracle.or (ao (cb [(80,[.str nm],.int .i64 0)])) (cg (jS s u0 u1 u2 Z Y1 Y2 nm ev))) 1 43 [shA s,.agg (aQ nm (.slice 2 0 Z.length none) (.slice 3 0 3 none) (.slice 4 0 2 none))] (gJ s u0 u1 u2 Z Y1 Y2)=some ⟨.int .i64 0,some (gJ s u0 u1 u2 Z Y1 Y2),[]⟩:=by
  rw[hev]
  clear hO hO1 hO2 hn
  simp[bT,-aF,ax hb0,ax hb1,bS,bF,bM,a0,a1,Nat.testBit,-lG,fj,fk,ab,hG,Tryz.f43,Oracle.or,ao,cb,cg,jS,bk,shA,fP,gJ,cm,aQ,bB,ar,cC,cP,eg,gw,oZ,pW,fa,di,qX,List.idxOf?_cons]
 have:=(ae aa (ai _) hO (aj _) h).1
 simpa [CallRes.mem] using this
end Go.Proofs
