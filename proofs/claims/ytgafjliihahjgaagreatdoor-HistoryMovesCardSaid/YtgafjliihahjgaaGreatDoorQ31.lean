/- See Q54. -/
import Derived.Test.YtgafjliihahjgaaGreatDoorQ30
set_option linter.all false
namespace Go.Proofs
open Go.Eng
theorem kZ(L:List (List UInt8)) (hl:L.length≤1000) (m:Mem) (b:Nat) (o:Bool) (hb:m[b]? =some (.cells o 1 (stC L))):
  ACallsTo Tryz.prog 166 [.slice b 0 L.length none,.slice b 0 L.length none] m (.bool true) m:=by
 have hG:aL Tryz.prog 166=some Tryz.f166:=by kernel_rfl
 have lb:=(List.getElem?_eq_some_iff.1 hb).1;have hO:OracleOk Tryz.prog (cw 242 [.slice b 0 L.length none,.slice b 0 L.length none] (.bool true) (fun M=>∃ext,M=m++ext)):=cS fun M hM=>by obtain⟨ext,rfl⟩:=hM;exact NB L hl _ b o (by rw[List.getElem?_append_left lb];exact hb)
 refine aZ (K:=1) (lv:=fun _=>[]) hO ?_;have e0:∃ext,m=m++ext:=⟨[],by simp⟩
 have e1:(∃ext,m=m++ext)=True:=eq_true e0;clear hO;simp[aa,hG,Tryz.f166,cw,-List.self_eq_append_right,e1]
set_option maxHeartbeats 1600000 in
theorem ID(n:Nat) (hn:n≤1000) (L1:List (List UInt8)) (hl1:L1.length=n) (m:Mem) (c r1:Nat) (o q1:Bool) (hc:m[c]? =some (.cells o 1 [.slice r1 0 n none])) (hr1:m[r1]? =some (.cells q1 1 (stC L1))):
  ACallsTo Tryz.prog 243 [.slice c 0 1 none,.slice c 0 1 none,.func 166 []] m (.bool true) m:=by
 have hG:aL Tryz.prog 243=some Tryz.f243:=by kernel_rfl
 have hO:OracleOk Tryz.prog (gR [(166,[.slice r1 0 n none,.slice r1 0 n none],.bool true)] (fun M=>M=m)):=kE fun e he M hM=>by
  subst hM;simp only[List.mem_cons,List.not_mem_nil,or_false] at he;subst he
  ·have:=kZ L1 (by omega) M r1 q1 hr1
   rw[hl1] at this;exact this
 have w1:IntKind.i64.wrap 1=1:=rfl;have w2:IntKind.i64.wrap 2=2:=rfl;refine aZ (lv:=(fun _=>[17])) (K:=5) hO ?_;clear hO;simp[aa,hG,Tryz.f243,gR,af,bG,aB,dV,hc,w1]
set_option maxHeartbeats 1600000 in
theorem IE(n:Nat) (hn:n≤1000) (L1:List (List UInt8)) (hl1:L1.length=n) (L2:List (List UInt8)) (hl2:L2.length=n) (m:Mem) (c r1 r2:Nat) (o q1 q2:Bool) (hc:m[c]? =some (.cells o 1 [.slice r1 0 n none,.slice r2 0 n none])) (hr1:m[r1]? =some (.cells q1 1 (stC L1))) (hr2:m[r2]? =some (.cells q2 1 (stC L2))):
  ACallsTo Tryz.prog 243 [.slice c 0 2 none,.slice c 0 2 none,.func 166 []] m (.bool true) m:=by
 have hG:aL Tryz.prog 243=some Tryz.f243:=by kernel_rfl
 have hO:OracleOk Tryz.prog (gR [(166,[.slice r1 0 n none,.slice r1 0 n none],.bool true),(166,[.slice r2 0 n none,.slice r2 0 n none],.bool true)] (fun M=>M=m)):=kE fun e he M hM=>by
  subst hM;simp only[List.mem_cons,List.not_mem_nil,or_false] at he;rcases he with rfl | rfl
  ·have:=kZ L1 (by omega) M r1 q1 hr1
   rw[hl1] at this;exact this
  ·have:=kZ L2 (by omega) M r2 q2 hr2
   rw[hl2] at this;exact this
 have w1:IntKind.i64.wrap 1=1:=rfl;have w2:IntKind.i64.wrap 2=2:=rfl;refine aZ (lv:=(fun _=>[17])) (K:=5) hO ?_;clear hO;simp[aa,hG,Tryz.f243,gR,af,bG,aB,dV,hc,w1,w2]
theorem NH(n:Nat) (hn:n≤1000) (L1:List (List UInt8)) (hl1:L1.length=n) (m:Mem) (c r1:Nat) (o q1:Bool) (hc:m[c]? =some (.cells o 1 [.slice r1 0 n none])) (hr1:m[r1]? =some (.cells q1 1 (stC L1))):
  ACallsTo Tryz.prog 167 [.slice c 0 1 none,.slice c 0 1 none] m (.bool true) m:=by
 have hG:aL Tryz.prog 167=some Tryz.f167:=by kernel_rfl
 have hO:OracleOk Tryz.prog (cw 243 [.slice c 0 1 none,.slice c 0 1 none,.func 166 []] (.bool true) (fun M=>M=m)):=cS fun M hM=>by subst hM;exact ID n hn L1 hl1 M c r1 o q1 hc hr1
 refine aZ (K:=1) (lv:=fun _=>[]) hO ?_;clear hO;simp[aa,hG,Tryz.f167,cw]
theorem NI(n:Nat) (hn:n≤1000) (L1:List (List UInt8)) (hl1:L1.length=n) (L2:List (List UInt8)) (hl2:L2.length=n) (m:Mem) (c r1 r2:Nat) (o q1 q2:Bool) (hc:m[c]? =some (.cells o 1 [.slice r1 0 n none,.slice r2 0 n none])) (hr1:m[r1]? =some (.cells q1 1 (stC L1))) (hr2:m[r2]? =some (.cells q2 1 (stC L2))):
  ACallsTo Tryz.prog 167 [.slice c 0 2 none,.slice c 0 2 none] m (.bool true) m:=by
 have hG:aL Tryz.prog 167=some Tryz.f167:=by kernel_rfl
 have hO:OracleOk Tryz.prog (cw 243 [.slice c 0 2 none,.slice c 0 2 none,.func 166 []] (.bool true) (fun M=>M=m)):=cS fun M hM=>by subst hM;exact IE n hn L1 hl1 L2 hl2 M c r1 r2 o q1 q2 hc hr1 hr2
 refine aZ (K:=1) (lv:=fun _=>[]) hO ?_;clear hO;simp[aa,hG,Tryz.f167,cw]
theorem zQ(nm:List UInt8) (B U:List (List UInt8)) (hB:B.length≤1000) (hU:U.length≤1000) (m:Mem) (b u:Nat) (o1 o2:Bool) (hb:m[b]? =some (.cells o1 1 (stC B))) (hu:m[u]? =some (.cells o2 1 (stC U))):
  ACallsTo Tryz.prog 110 [.agg (aU nm (.slice b 0 B.length none) (.slice u 0 U.length none) (.nilslice)),.agg (aU nm (.slice b 0 B.length none) (.slice u 0 U.length none) (.nilslice))] m (.bool true) m:=by
 have lb:=(List.getElem?_eq_some_iff.1 hb).1;have lu:=(List.getElem?_eq_some_iff.1 hu).1;have hO:OracleOk Tryz.prog (gR [(166,[.slice b 0 B.length none,.slice b 0 B.length none],.bool true),(26,[.slice u 0 U.length none,.slice u 0 U.length none],.bool true)] (fun M=>∃ext,M=m++ext)):=kE fun e he M hM=>by
  obtain⟨ext,rfl⟩:=hM;simp only[List.mem_cons,List.not_mem_nil,or_false] at he;rcases he with rfl | rfl
  ·exact kZ B hB _ b o1 (by rw[List.getElem?_append_left lb];exact hb)
  ·exact xI U hU _ u o2 (by rw[List.getElem?_append_left lu];exact hu)
 have k:∀f args v E,(f,args,v)∈[(166,[.slice b 0 B.length none,.slice b 0 B.length none],.bool true),(26,[.slice u 0 U.length none,.slice u 0 U.length none],.bool true)]→gR [(166,[.slice b 0 B.length none,.slice b 0 B.length none],.bool true),(26,[.slice u 0 U.length none,.slice u 0 U.length none],.bool true)] (fun M=>∃ext,M=m++ext) (.fn f) args (m++E)=some ⟨v,none,[]⟩:=fun f args v E h=>by simp only[List.mem_cons,List.not_mem_nil,or_false,Prod.mk.injEq] at h;rcases h with⟨rfl,rfl,rfl⟩ | ⟨rfl,rfl,rfl⟩<;>simp[gR,af,bG]
 have k2:∀f args E,gR [(166,[.slice b 0 B.length none,.slice b 0 B.length none],.bool true),(26,[.slice u 0 U.length none,.slice u 0 U.length none],.bool true)] (fun M=>∃ext,M=m++ext) (.fn f) args (m++E)=af (bG [(166,[.slice b 0 B.length none,.slice b 0 B.length none],.bool true),(26,[.slice u 0 U.length none,.slice u 0 U.length none],.bool true)]) (.fn f) args (m++E):=fun f args E=>by simp[gR]
 refine gU (OracleOk.or' hO gq) ?_ ?_ ?_ ?_
 ·unfold Oracle.or
  rw[k _ _ (.bool true) _ (by simp)]
 ·unfold Oracle.or
  rw[k _ _ (.bool true) _ (by simp)]
 ·unfold Oracle.or
  rw[k2];simp[af,bG,oY]
 ·unfold Oracle.or
  rw[k2];simp[af,bG,oY]
theorem zR(nm:List UInt8) (B U:List (List UInt8)) (hB:B.length≤1000) (hU:U.length≤1000) (L1:List (List UInt8)) (hl1:L1.length=B.length) (m:Mem) (b u c r1:Nat) (o1 o2 o3 q1:Bool) (hb:m[b]? =some (.cells o1 1 (stC B))) (hu:m[u]? =some (.cells o2 1 (stC U))) (hc:m[c]? =some (.cells o3 1 [.slice r1 0 B.length none])) (hr1:m[r1]? =some (.cells q1 1 (stC L1))):
  ACallsTo Tryz.prog 110 [.agg (aU nm (.slice b 0 B.length none) (.slice u 0 U.length none) (.slice c 0 1 none)),.agg (aU nm (.slice b 0 B.length none) (.slice u 0 U.length none) (.slice c 0 1 none))] m (.bool true) m:=by
 have lb:=(List.getElem?_eq_some_iff.1 hb).1;have lu:=(List.getElem?_eq_some_iff.1 hu).1;have lc:=(List.getElem?_eq_some_iff.1 hc).1;have lr1:=(List.getElem?_eq_some_iff.1 hr1).1;have hO:OracleOk Tryz.prog (gR [(166,[.slice b 0 B.length none,.slice b 0 B.length none],.bool true),(26,[.slice u 0 U.length none,.slice u 0 U.length none],.bool true),(167,[.slice c 0 1 none,.slice c 0 1 none],.bool true)] (fun M=>∃ext,M=m++ext)):=kE fun e he M hM=>by
  obtain⟨ext,rfl⟩:=hM;simp only[List.mem_cons,List.not_mem_nil,or_false] at he;rcases he with rfl | rfl | rfl
  ·exact kZ B hB _ b o1 (by rw[List.getElem?_append_left lb];exact hb)
  ·exact xI U hU _ u o2 (by rw[List.getElem?_append_left lu];exact hu)
  ·exact NH B.length hB L1 hl1 _ c r1 o3 q1 (by rw[List.getElem?_append_left lc];exact hc) (by rw[List.getElem?_append_left lr1];exact hr1)
 have k:∀f args v E,(f,args,v)∈[(166,[.slice b 0 B.length none,.slice b 0 B.length none],.bool true),(26,[.slice u 0 U.length none,.slice u 0 U.length none],.bool true),(167,[.slice c 0 1 none,.slice c 0 1 none],.bool true)]→gR [(166,[.slice b 0 B.length none,.slice b 0 B.length none],.bool true),(26,[.slice u 0 U.length none,.slice u 0 U.length none],.bool true),(167,[.slice c 0 1 none,.slice c 0 1 none],.bool true)] (fun M=>∃ext,M=m++ext) (.fn f) args (m++E)=some ⟨v,none,[]⟩:=fun f args v E h=>by simp only[List.mem_cons,List.not_mem_nil,or_false,Prod.mk.injEq] at h;rcases h with⟨rfl,rfl,rfl⟩ | ⟨rfl,rfl,rfl⟩ | ⟨rfl,rfl,rfl⟩<;>simp[gR,af,bG]
 have k2:∀f args E,gR [(166,[.slice b 0 B.length none,.slice b 0 B.length none],.bool true),(26,[.slice u 0 U.length none,.slice u 0 U.length none],.bool true),(167,[.slice c 0 1 none,.slice c 0 1 none],.bool true)] (fun M=>∃ext,M=m++ext) (.fn f) args (m++E)=af (bG [(166,[.slice b 0 B.length none,.slice b 0 B.length none],.bool true),(26,[.slice u 0 U.length none,.slice u 0 U.length none],.bool true),(167,[.slice c 0 1 none,.slice c 0 1 none],.bool true)]) (.fn f) args (m++E):=fun f args E=>by simp[gR]
 refine gU (OracleOk.or' hO gq) ?_ ?_ ?_ ?_
 ·unfold Oracle.or
  rw[k _ _ (.bool true) _ (by simp)]
 ·unfold Oracle.or
  rw[k _ _ (.bool true) _ (by simp)]
 ·unfold Oracle.or
  rw[k _ _ (.bool true) _ (by simp)]
 ·unfold Oracle.or
  rw[k2];simp[af,bG,oY]
theorem zT(nm:List UInt8) (B U:List (List UInt8)) (hB:B.length≤1000) (hU:U.length≤1000) (L1:List (List UInt8)) (hl1:L1.length=B.length) (L2:List (List UInt8)) (hl2:L2.length=B.length) (m:Mem) (b u c r1 r2:Nat) (o1 o2 o3 q1 q2:Bool) (hb:m[b]? =some (.cells o1 1 (stC B))) (hu:m[u]? =some (.cells o2 1 (stC U))) (hc:m[c]? =some (.cells o3 1 [.slice r1 0 B.length none,.slice r2 0 B.length none])) (hr1:m[r1]? =some (.cells q1 1 (stC L1))) (hr2:m[r2]? =some (.cells q2 1 (stC L2))):
  ACallsTo Tryz.prog 110 [.agg (aU nm (.slice b 0 B.length none) (.slice u 0 U.length none) (.slice c 0 2 none)),.agg (aU nm (.slice b 0 B.length none) (.slice u 0 U.length none) (.slice c 0 2 none))] m (.bool true) m:=by
 have lb:=(List.getElem?_eq_some_iff.1 hb).1;have lu:=(List.getElem?_eq_some_iff.1 hu).1;have lc:=(List.getElem?_eq_some_iff.1 hc).1;have lr1:=(List.getElem?_eq_some_iff.1 hr1).1;have lr2:=(List.getElem?_eq_some_iff.1 hr2).1;have hO:OracleOk Tryz.prog (gR [(166,[.slice b 0 B.length none,.slice b 0 B.length none],.bool true),(26,[.slice u 0 U.length none,.slice u 0 U.length none],.bool true),(167,[.slice c 0 2 none,.slice c 0 2 none],.bool true)] (fun M=>∃ext,M=m++ext)):=kE fun e he M hM=>by
  obtain⟨ext,rfl⟩:=hM;simp only[List.mem_cons,List.not_mem_nil,or_false] at he;rcases he with rfl | rfl | rfl
  ·exact kZ B hB _ b o1 (by rw[List.getElem?_append_left lb];exact hb)
  ·exact xI U hU _ u o2 (by rw[List.getElem?_append_left lu];exact hu)
  ·exact NI B.length hB L1 hl1 L2 hl2 _ c r1 r2 o3 q1 q2 (by rw[List.getElem?_append_left lc];exact hc) (by rw[List.getElem?_append_left lr1];exact hr1) (by rw[List.getElem?_append_left lr2];exact hr2)
 have k:∀f args v E,(f,args,v)∈[(166,[.slice b 0 B.length none,.slice b 0 B.length none],.bool true),(26,[.slice u 0 U.length none,.slice u 0 U.length none],.bool true),(167,[.slice c 0 2 none,.slice c 0 2 none],.bool true)]→gR [(166,[.slice b 0 B.length none,.slice b 0 B.length none],.bool true),(26,[.slice u 0 U.length none,.slice u 0 U.length none],.bool true),(167,[.slice c 0 2 none,.slice c 0 2 none],.bool true)] (fun M=>∃ext,M=m++ext) (.fn f) args (m++E)=some ⟨v,none,[]⟩:=fun f args v E h=>by simp only[List.mem_cons,List.not_mem_nil,or_false,Prod.mk.injEq] at h;rcases h with⟨rfl,rfl,rfl⟩ | ⟨rfl,rfl,rfl⟩ | ⟨rfl,rfl,rfl⟩<;>simp[gR,af,bG]
 have k2:∀f args E,gR [(166,[.slice b 0 B.length none,.slice b 0 B.length none],.bool true),(26,[.slice u 0 U.length none,.slice u 0 U.length none],.bool true),(167,[.slice c 0 2 none,.slice c 0 2 none],.bool true)] (fun M=>∃ext,M=m++ext) (.fn f) args (m++E)=af (bG [(166,[.slice b 0 B.length none,.slice b 0 B.length none],.bool true),(26,[.slice u 0 U.length none,.slice u 0 U.length none],.bool true),(167,[.slice c 0 2 none,.slice c 0 2 none],.bool true)]) (.fn f) args (m++E):=fun f args E=>by simp[gR]
 refine gU (OracleOk.or' hO gq) ?_ ?_ ?_ ?_
 ·unfold Oracle.or
  rw[k _ _ (.bool true) _ (by simp)]
 ·unfold Oracle.or
  rw[k _ _ (.bool true) _ (by simp)]
 ·unfold Oracle.or
  rw[k _ _ (.bool true) _ (by simp)]
 ·unfold Oracle.or
  rw[k2];simp[af,bG,oY]
def bB:AV:=.agg [.func 185 [],.func 186 [],.func 187 [],.func 188 [],.func 189 []]
theorem xD(nm:List UInt8) (n k:Nat):ACallsTo Tryz.prog 77 [.agg (aU nm (.slice 0 0 n none) (.slice 1 0 k none) (.nilslice))] [.absent,.absent] bB [.absent,.absent]:=by
 have h:aa (aM Tryz.prog) ad (aL Tryz.prog) rX 6 77 [.agg (aU nm (.slice 0 0 n none) (.slice 1 0 k none) (.nilslice))] [.absent,.absent]=some ⟨bB,none,[]⟩:=by as_aux_lemma=>kernel_rfl
 have:=(al ae (aw _) gp (az _) h).1;simpa [CallRes.mem] using this
theorem pQ(nm:List UInt8) (n k:Nat) (M:Mem) (hM:5≤M.length∨(4≤M.length∧0=0)):ACallsTo Tryz.prog 77 [.agg (aU nm (.slice 2 0 n none) (.slice 3 0 k none) (.nilslice))] M bB M:=by
 have:=ACallsTo.frame (M:=M) (new:=[]) [2,3] rfl (by intro k hk;simp at hk;omega) (by rfl) (fun i t hs=>by
  match i with
  |0=>simp at hs;subst hs;trivial
  |1=>simp at hs;subst hs;trivial
  |i+2=>simp at hs) rfl (xD nm n k)
 simpa [aU,AV.rens,AV.ren,ar,bB] using this
def kR(s:Sheet) (u0:List UInt8) (Z:List Int):Mem:=[.cells false 2 (pC s.P),.cells false 3 (tC s.T),.cells false 1 (qC (qH Z)),.cells false 1 [.str u0]]
def ga(s:Sheet) (u0:List UInt8) (Z:List Int) (ev:List AV):Mem:=[.cells false 2 (pC s.P),.cells false 3 (tC s.T),.cells false 1 (qC (qH Z)),.cells false 1 [.str u0],.cells true 0 [.slice 0 0 s.P.length none,.slice 1 0 s.T.length none],.cells true 0 ev]
set_option maxHeartbeats 1600000 in
theorem vE(s:Sheet) (nm:List UInt8) (u0:List UInt8) (Z:List Int):
  ACallsTo Tryz.prog 185 [.agg (aU nm (.slice 2 0 Z.length none) (.slice 3 0 1 none) (.nilslice)),.ptr 6 0] (ga s u0 Z (aU nm (.slice 2 0 Z.length none) (.slice 3 0 1 none) (.nilslice))++[.cells true 0 (cD 1 nm)]) (.tuple []) (ga s u0 Z (aU nm (.slice 2 0 Z.length none) (.slice 3 0 1 none) (.nilslice))++[.cells true 0 (aU nm (.slice 2 0 Z.length none) (.slice 3 0 1 none) (.nilslice))]):=by
 have hG:aL Tryz.prog 185=some Tryz.f185:=by kernel_rfl
 have h:aa (aM Tryz.prog) (fun _=>[]) (aL Tryz.prog) bJ 1 185 [.agg (aU nm (.slice 2 0 Z.length none) (.slice 3 0 1 none) (.nilslice)),.ptr 6 0] (ga s u0 Z (aU nm (.slice 2 0 Z.length none) (.slice 3 0 1 none) (.nilslice))++[.cells true 0 (cD 1 nm)])=some ⟨.tuple [],some (ga s u0 Z (aU nm (.slice 2 0 Z.length none) (.slice 3 0 1 none) (.nilslice))++[.cells true 0 (aU nm (.slice 2 0 Z.length none) (.slice 3 0 1 none) (.nilslice))]),[]⟩:=by simp[aa,hG,Tryz.f185,ga,cD,aU,dK,dT,fz,gG,fm,dL]
 have:=(al ae (aw _) (ao _) (az _) h).1;simpa [CallRes.mem] using this
noncomputable def kh(s:Sheet) (u0:List UInt8) (Z:List Int) (nm:List UInt8) (ev:List AV):List (FuncId×List AV×Mem×CallRes):=[
 (59,[shA s],ga s u0 Z ev,⟨.int .i64 0,none,[]⟩),
 (77,[.agg ev],ga s u0 Z ev++[.cells true 0 (cD 1 nm)],⟨bB,none,[]⟩),
 (185,[.agg ev,.ptr 6 0],ga s u0 Z ev++[.cells true 0 (cD 1 nm)],⟨.tuple [],some (ga s u0 Z ev++[.cells true 0 ev]),[]⟩),
 (110,[.agg ev,.agg ev],ga s u0 Z ev++[.cells true 0 ev],⟨.bool true,none,[]⟩),
 (77,[.agg ev],ga s u0 Z ev++[.cells true 0 ev],⟨bB,none,[]⟩),
 (186,[shA s,.agg ev],ga s u0 Z ev++[.cells true 0 ev],⟨.int .i64 0,none,[]⟩)]
set_option maxHeartbeats 4000000 in
theorem tB(s:Sheet) (nm:List UInt8) (u0:List UInt8) (Z:List Int) (hm:nm∈bl) (n0:u0∈bl)  (hZ:∀z∈Z,z.natAbs<1000) (hl:Z.length≤1000) (hn:Z.length=s.P.length):
  ACallsTo Tryz.prog 61 [shA s,.agg (aU nm (.slice 2 0 Z.length none) (.slice 3 0 1 none) (.nilslice))] (kR s u0 Z) (.int .i64 0) (kR s u0 Z):=by
 have hG:aL Tryz.prog 61=some Tryz.f61:=by kernel_rfl
 obtain⟨os,hops⟩:∃os,aE Tryz.f61=os:=⟨_,rfl⟩
 have hbs:=br hops (ls:=[[0,1,3,0,15],[0,1,3,0,0,31,63]]) (by kernel_rfl);simp only[aE,bC,Tryz.f61,List.nil_append,List.append_nil,List.cons_append] at hops;subst hops;simp only[List.map_cons,List.map_nil,List.cons.injEq,and_true] at hbs;obtain⟨hb0,hb1⟩:=hbs;have a0:aN [0,1,3,0,15] 4=true:=by decide
 have a1:aN [0,1,3,0,0,31,63] 6=true:=by decide
 have hO1:OracleOk Tryz.prog (af (bG [(109,[.str nm],.int .i64 0)])):=cF fun e he M=>by simp only[List.mem_cons,List.not_mem_nil,or_false] at he;subst he;exact cL nm hm M
 obtain⟨ev,hev⟩:∃ev,ev=aU nm (.slice 2 0 Z.length none) (.slice 3 0 1 none) (.nilslice):=⟨_,rfl⟩
 have hO2:OracleOk Tryz.prog (dR (kh s u0 Z nm ev)):=er fun e he=>by
  simp only[kh,List.mem_cons,List.not_mem_nil,or_false] at he;subst hev;have hc:=DL s nm u0 n0  Z hZ hl hn (ga s u0 Z (aU nm (.slice 2 0 Z.length none) (.slice 3 0 1 none) (.nilslice))++[.cells true 0 (aU nm (.slice 2 0 Z.length none) (.slice 3 0 1 none) (.nilslice))]) 2 3 false false false false rfl rfl rfl rfl;have hq:=zQ nm ((qH Z).map ah) [u0] (by simp[qH];omega) (by simp) (ga s u0 Z (aU nm (.slice 2 0 Z.length none) (.slice 3 0 1 none) (.nilslice))++[.cells true 0 (aU nm (.slice 2 0 Z.length none) (.slice 3 0 1 none) (.nilslice))]) 2 3 false false (by rw[←vp];rfl) rfl;have hz:((qH Z).map ah).length=Z.length:=by simp[qH]
  rw[hz] at hq;rcases he with rfl | rfl | rfl | rfl | rfl | rfl
  ·exact⟨by simpa [CallRes.mem,shA] using du s (ga s u0 Z (aU nm (.slice 2 0 Z.length none) (.slice 3 0 1 none) (.nilslice))) 0 1 false false rfl rfl,by simp⟩
  ·exact⟨by simpa [CallRes.mem] using pQ nm Z.length 1 (ga s u0 Z (aU nm (.slice 2 0 Z.length none) (.slice 3 0 1 none) (.nilslice))++[.cells true 0 (cD 1 nm)]) (by simp[ga]),by simp⟩
  ·exact⟨by simpa [CallRes.mem] using vE s nm u0 Z,by simp[ga]⟩
  ·exact⟨by simpa [CallRes.mem] using hq,by simp⟩
  ·exact⟨by simpa [CallRes.mem] using pQ nm Z.length 1 (ga s u0 Z (aU nm (.slice 2 0 Z.length none) (.slice 3 0 1 none) (.nilslice))++[.cells true 0 (aU nm (.slice 2 0 Z.length none) (.slice 3 0 1 none) (.nilslice))]) (by simp[ga]),by simp⟩
  ·exact⟨by simpa [CallRes.mem] using hc,by simp⟩
 have hO:=OracleOk.or' hO1 hO2;have h:aa (aM Tryz.prog) (fun _=>[]) (aL Tryz.prog) (Oracle.or (af (bG [(109,[.str nm],.int .i64 0)])) (dR (kh s u0 Z nm ev))) 1 61 [shA s,.agg (aU nm (.slice 2 0 Z.length none) (.slice 3 0 1 none) (.nilslice))] (kR s u0 Z)=some ⟨.int .i64 0,some (kR s u0 Z),[]⟩:=by rw[hev];clear hO hO1 hO2 hn;simp[ca,-aD,ai hb0,ai hb1,bc,aW,a8,a0,a1,Nat.testBit,-lB,fC,fD,aa,hG,Tryz.f61,Oracle.or,af,bG,dR,kh,bB,shA,ga,kR,cD,aU,bO,aH,dK,dT,fz,gG,zo,zK,fm,dL,H2]
 have:=(al ae (aw _) hO (az _) h).1;simpa [CallRes.mem] using this
theorem xE(nm:List UInt8) (n k:Nat):ACallsTo Tryz.prog 77 [.agg (aU nm (.slice 0 0 n none) (.slice 1 0 k none) (.slice 2 0 1 none))] [.absent,.absent,.absent] bB [.absent,.absent,.absent]:=by
 have h:aa (aM Tryz.prog) ad (aL Tryz.prog) rX 6 77 [.agg (aU nm (.slice 0 0 n none) (.slice 1 0 k none) (.slice 2 0 1 none))] [.absent,.absent,.absent]=some ⟨bB,none,[]⟩:=by as_aux_lemma=>kernel_rfl
 have:=(al ae (aw _) gp (az _) h).1;simpa [CallRes.mem] using this
theorem pR(nm:List UInt8) (n k:Nat) (M:Mem) (hM:5≤M.length∨(4≤M.length∧1=0)):ACallsTo Tryz.prog 77 [.agg (aU nm (.slice 2 0 n none) (.slice 3 0 k none) (.slice 4 0 1 none))] M bB M:=by
 have:=ACallsTo.frame (M:=M) (new:=[]) [2,3,4] rfl (by intro k hk;simp at hk;omega) (by rfl) (fun i t hs=>by
  match i with
  |0=>simp at hs;subst hs;trivial
  |1=>simp at hs;subst hs;trivial
  |2=>simp at hs;subst hs;trivial
  |i+3=>simp at hs) rfl (xE nm n k)
 simpa [aU,AV.rens,AV.ren,ar,bB] using this
def iO(s:Sheet) (u0 u1:List UInt8) (Z Y1:List Int):Mem:=[.cells false 2 (pC s.P),.cells false 3 (tC s.T),.cells false 1 (qC (qH Z)),.cells false 1 [.str u0,.str u1],.cells false 1 [.slice 5 0 Z.length none],.cells false 1 (qC (qH Y1))]
def gb(s:Sheet) (u0 u1:List UInt8) (Z Y1:List Int) (ev:List AV):Mem:=[.cells false 2 (pC s.P),.cells false 3 (tC s.T),.cells false 1 (qC (qH Z)),.cells false 1 [.str u0,.str u1],.cells false 1 [.slice 5 0 Z.length none],.cells false 1 (qC (qH Y1)),.cells true 0 [.slice 0 0 s.P.length none,.slice 1 0 s.T.length none],.cells true 0 ev]
set_option maxHeartbeats 1600000 in
theorem vG(s:Sheet) (nm:List UInt8) (u0 u1:List UInt8) (Z Y1:List Int):
  ACallsTo Tryz.prog 185 [.agg (aU nm (.slice 2 0 Z.length none) (.slice 3 0 2 none) (.slice 4 0 1 none)),.ptr 8 0] (gb s u0 u1 Z Y1 (aU nm (.slice 2 0 Z.length none) (.slice 3 0 2 none) (.slice 4 0 1 none))++[.cells true 0 (cD 1 nm)]) (.tuple []) (gb s u0 u1 Z Y1 (aU nm (.slice 2 0 Z.length none) (.slice 3 0 2 none) (.slice 4 0 1 none))++[.cells true 0 (aU nm (.slice 2 0 Z.length none) (.slice 3 0 2 none) (.slice 4 0 1 none))]):=by
 have hG:aL Tryz.prog 185=some Tryz.f185:=by kernel_rfl
 have h:aa (aM Tryz.prog) (fun _=>[]) (aL Tryz.prog) bJ 1 185 [.agg (aU nm (.slice 2 0 Z.length none) (.slice 3 0 2 none) (.slice 4 0 1 none)),.ptr 8 0] (gb s u0 u1 Z Y1 (aU nm (.slice 2 0 Z.length none) (.slice 3 0 2 none) (.slice 4 0 1 none))++[.cells true 0 (cD 1 nm)])=some ⟨.tuple [],some (gb s u0 u1 Z Y1 (aU nm (.slice 2 0 Z.length none) (.slice 3 0 2 none) (.slice 4 0 1 none))++[.cells true 0 (aU nm (.slice 2 0 Z.length none) (.slice 3 0 2 none) (.slice 4 0 1 none))]),[]⟩:=by simp[aa,hG,Tryz.f185,gb,cD,aU,dK,dT,fz,gG,fm,dL]
 have:=(al ae (aw _) (ao _) (az _) h).1;simpa [CallRes.mem] using this
noncomputable def kj(s:Sheet) (u0 u1:List UInt8) (Z Y1:List Int) (nm:List UInt8) (ev:List AV):List (FuncId×List AV×Mem×CallRes):=[
 (59,[shA s],gb s u0 u1 Z Y1 ev,⟨.int .i64 0,none,[]⟩),
 (77,[.agg ev],gb s u0 u1 Z Y1 ev++[.cells true 0 (cD 1 nm)],⟨bB,none,[]⟩),
 (185,[.agg ev,.ptr 8 0],gb s u0 u1 Z Y1 ev++[.cells true 0 (cD 1 nm)],⟨.tuple [],some (gb s u0 u1 Z Y1 ev++[.cells true 0 ev]),[]⟩),
 (110,[.agg ev,.agg ev],gb s u0 u1 Z Y1 ev++[.cells true 0 ev],⟨.bool true,none,[]⟩),
 (77,[.agg ev],gb s u0 u1 Z Y1 ev++[.cells true 0 ev],⟨bB,none,[]⟩),
 (186,[shA s,.agg ev],gb s u0 u1 Z Y1 ev++[.cells true 0 ev],⟨.int .i64 0,none,[]⟩)]
set_option maxHeartbeats 4000000 in
theorem tD(s:Sheet) (nm:List UInt8) (u0 u1:List UInt8) (Z Y1:List Int) (hm:nm∈bl) (n0:u0∈bl) (n1:u1∈bl) (d01:u1≠u0) (hZ:∀z∈Z,z.natAbs<1000) (hl:Z.length≤1000) (hn:Z.length=s.P.length) (hY1:∀z∈Y1,z.natAbs<1000) (hl1:Y1.length=s.P.length) (hle1:∀(i:Nat) z y,Z[i]? =some z→Y1[i]? =some y→z≤y):
  ACallsTo Tryz.prog 61 [shA s,.agg (aU nm (.slice 2 0 Z.length none) (.slice 3 0 2 none) (.slice 4 0 1 none))] (iO s u0 u1 Z Y1) (.int .i64 0) (iO s u0 u1 Z Y1):=by
 have hG:aL Tryz.prog 61=some Tryz.f61:=by kernel_rfl
 obtain⟨os,hops⟩:∃os,aE Tryz.f61=os:=⟨_,rfl⟩
 have hbs:=br hops (ls:=[[0,1,3,0,15],[0,1,3,0,0,31,63]]) (by kernel_rfl);simp only[aE,bC,Tryz.f61,List.nil_append,List.append_nil,List.cons_append] at hops;subst hops;simp only[List.map_cons,List.map_nil,List.cons.injEq,and_true] at hbs;obtain⟨hb0,hb1⟩:=hbs;have a0:aN [0,1,3,0,15] 4=true:=by decide
 have a1:aN [0,1,3,0,0,31,63] 6=true:=by decide
 have hO1:OracleOk Tryz.prog (af (bG [(109,[.str nm],.int .i64 0)])):=cF fun e he M=>by simp only[List.mem_cons,List.not_mem_nil,or_false] at he;subst he;exact cL nm hm M
 obtain⟨ev,hev⟩:∃ev,ev=aU nm (.slice 2 0 Z.length none) (.slice 3 0 2 none) (.slice 4 0 1 none):=⟨_,rfl⟩
 have hO2:OracleOk Tryz.prog (dR (kj s u0 u1 Z Y1 nm ev)):=er fun e he=>by
  simp only[kj,List.mem_cons,List.not_mem_nil,or_false] at he;subst hev;have hc:=DM s nm u0 u1 n0 n1 d01 Z hZ hl hn Y1 hY1 hl1 hle1 (gb s u0 u1 Z Y1 (aU nm (.slice 2 0 Z.length none) (.slice 3 0 2 none) (.slice 4 0 1 none))++[.cells true 0 (aU nm (.slice 2 0 Z.length none) (.slice 3 0 2 none) (.slice 4 0 1 none))]) 2 3 4 5 false false false false false false rfl rfl rfl rfl rfl rfl;have hq:=zR nm ((qH Z).map ah) [u0,u1] (by simp[qH];omega) (by simp) ((qH Y1).map ah) (by simp[qH];omega) (gb s u0 u1 Z Y1 (aU nm (.slice 2 0 Z.length none) (.slice 3 0 2 none) (.slice 4 0 1 none))++[.cells true 0 (aU nm (.slice 2 0 Z.length none) (.slice 3 0 2 none) (.slice 4 0 1 none))]) 2 3 4 5 false false false false (by rw[←vp];rfl) rfl (by rw[show((qH Z).map ah).length=Z.length by simp[qH]];rfl) (by rw[←vp];rfl);have hz:((qH Z).map ah).length=Z.length:=by simp[qH]
  rw[hz] at hq;rcases he with rfl | rfl | rfl | rfl | rfl | rfl
  ·exact⟨by simpa [CallRes.mem,shA] using du s (gb s u0 u1 Z Y1 (aU nm (.slice 2 0 Z.length none) (.slice 3 0 2 none) (.slice 4 0 1 none))) 0 1 false false rfl rfl,by simp⟩
  ·exact⟨by simpa [CallRes.mem] using pR nm Z.length 2 (gb s u0 u1 Z Y1 (aU nm (.slice 2 0 Z.length none) (.slice 3 0 2 none) (.slice 4 0 1 none))++[.cells true 0 (cD 1 nm)]) (by simp[gb]),by simp⟩
  ·exact⟨by simpa [CallRes.mem] using vG s nm u0 u1 Z Y1,by simp[gb]⟩
  ·exact⟨by simpa [CallRes.mem] using hq,by simp⟩
  ·exact⟨by simpa [CallRes.mem] using pR nm Z.length 2 (gb s u0 u1 Z Y1 (aU nm (.slice 2 0 Z.length none) (.slice 3 0 2 none) (.slice 4 0 1 none))++[.cells true 0 (aU nm (.slice 2 0 Z.length none) (.slice 3 0 2 none) (.slice 4 0 1 none))]) (by simp[gb]),by simp⟩
  ·exact⟨by simpa [CallRes.mem] using hc,by simp⟩
 have hO:=OracleOk.or' hO1 hO2;have h:aa (aM Tryz.prog) (fun _=>[]) (aL Tryz.prog) (Oracle.or (af (bG [(109,[.str nm],.int .i64 0)])) (dR (kj s u0 u1 Z Y1 nm ev))) 1 61 [shA s,.agg (aU nm (.slice 2 0 Z.length none) (.slice 3 0 2 none) (.slice 4 0 1 none))] (iO s u0 u1 Z Y1)=some ⟨.int .i64 0,some (iO s u0 u1 Z Y1),[]⟩:=by rw[hev];clear hO hO1 hO2 hn;simp[ca,-aD,ai hb0,ai hb1,bc,aW,a8,a0,a1,Nat.testBit,-lB,fC,fD,aa,hG,Tryz.f61,Oracle.or,af,bG,dR,kj,bB,shA,gb,iO,cD,aU,bO,aH,dK,dT,fz,gG,zo,zK,fm,dL,H2]
 have:=(al ae (aw _) hO (az _) h).1;simpa [CallRes.mem] using this
theorem xF(nm:List UInt8) (n k:Nat):ACallsTo Tryz.prog 77 [.agg (aU nm (.slice 0 0 n none) (.slice 1 0 k none) (.slice 2 0 2 none))] [.absent,.absent,.absent] bB [.absent,.absent,.absent]:=by
 have h:aa (aM Tryz.prog) ad (aL Tryz.prog) rX 6 77 [.agg (aU nm (.slice 0 0 n none) (.slice 1 0 k none) (.slice 2 0 2 none))] [.absent,.absent,.absent]=some ⟨bB,none,[]⟩:=by as_aux_lemma=>kernel_rfl
 have:=(al ae (aw _) gp (az _) h).1;simpa [CallRes.mem] using this
theorem pS(nm:List UInt8) (n k:Nat) (M:Mem) (hM:5≤M.length∨(4≤M.length∧2=0)):ACallsTo Tryz.prog 77 [.agg (aU nm (.slice 2 0 n none) (.slice 3 0 k none) (.slice 4 0 2 none))] M bB M:=by
 have:=ACallsTo.frame (M:=M) (new:=[]) [2,3,4] rfl (by intro k hk;simp at hk;omega) (by rfl) (fun i t hs=>by
  match i with
  |0=>simp at hs;subst hs;trivial
  |1=>simp at hs;subst hs;trivial
  |2=>simp at hs;subst hs;trivial
  |i+3=>simp at hs) rfl (xF nm n k)
 simpa [aU,AV.rens,AV.ren,ar,bB] using this
def ic(s:Sheet) (u0 u1 u2:List UInt8) (Z Y1 Y2:List Int):Mem:=[.cells false 2 (pC s.P),.cells false 3 (tC s.T),.cells false 1 (qC (qH Z)),.cells false 1 [.str u0,.str u1,.str u2],.cells false 1 [.slice 5 0 Z.length none,.slice 6 0 Z.length none],.cells false 1 (qC (qH Y1)),.cells false 1 (qC (qH Y2))]
def gd(s:Sheet) (u0 u1 u2:List UInt8) (Z Y1 Y2:List Int) (ev:List AV):Mem:=[.cells false 2 (pC s.P),.cells false 3 (tC s.T),.cells false 1 (qC (qH Z)),.cells false 1 [.str u0,.str u1,.str u2],.cells false 1 [.slice 5 0 Z.length none,.slice 6 0 Z.length none],.cells false 1 (qC (qH Y1)),.cells false 1 (qC (qH Y2)),.cells true 0 [.slice 0 0 s.P.length none,.slice 1 0 s.T.length none],.cells true 0 ev]
set_option maxHeartbeats 1600000 in
theorem vH(s:Sheet) (nm:List UInt8) (u0 u1 u2:List UInt8) (Z Y1 Y2:List Int):
  ACallsTo Tryz.prog 185 [.agg (aU nm (.slice 2 0 Z.length none) (.slice 3 0 3 none) (.slice 4 0 2 none)),.ptr 9 0] (gd s u0 u1 u2 Z Y1 Y2 (aU nm (.slice 2 0 Z.length none) (.slice 3 0 3 none) (.slice 4 0 2 none))++[.cells true 0 (cD 1 nm)]) (.tuple []) (gd s u0 u1 u2 Z Y1 Y2 (aU nm (.slice 2 0 Z.length none) (.slice 3 0 3 none) (.slice 4 0 2 none))++[.cells true 0 (aU nm (.slice 2 0 Z.length none) (.slice 3 0 3 none) (.slice 4 0 2 none))]):=by
 have hG:aL Tryz.prog 185=some Tryz.f185:=by kernel_rfl
 have h:aa (aM Tryz.prog) (fun _=>[]) (aL Tryz.prog) bJ 1 185 [.agg (aU nm (.slice 2 0 Z.length none) (.slice 3 0 3 none) (.slice 4 0 2 none)),.ptr 9 0] (gd s u0 u1 u2 Z Y1 Y2 (aU nm (.slice 2 0 Z.length none) (.slice 3 0 3 none) (.slice 4 0 2 none))++[.cells true 0 (cD 1 nm)])=some ⟨.tuple [],some (gd s u0 u1 u2 Z Y1 Y2 (aU nm (.slice 2 0 Z.length none) (.slice 3 0 3 none) (.slice 4 0 2 none))++[.cells true 0 (aU nm (.slice 2 0 Z.length none) (.slice 3 0 3 none) (.slice 4 0 2 none))]),[]⟩:=by simp[aa,hG,Tryz.f185,gd,cD,aU,dK,dT,fz,gG,fm,dL]
 have:=(al ae (aw _) (ao _) (az _) h).1;simpa [CallRes.mem] using this
noncomputable def km(s:Sheet) (u0 u1 u2:List UInt8) (Z Y1 Y2:List Int) (nm:List UInt8) (ev:List AV):List (FuncId×List AV×Mem×CallRes):=[
 (59,[shA s],gd s u0 u1 u2 Z Y1 Y2 ev,⟨.int .i64 0,none,[]⟩),
 (77,[.agg ev],gd s u0 u1 u2 Z Y1 Y2 ev++[.cells true 0 (cD 1 nm)],⟨bB,none,[]⟩),
 (185,[.agg ev,.ptr 9 0],gd s u0 u1 u2 Z Y1 Y2 ev++[.cells true 0 (cD 1 nm)],⟨.tuple [],some (gd s u0 u1 u2 Z Y1 Y2 ev++[.cells true 0 ev]),[]⟩),
 (110,[.agg ev,.agg ev],gd s u0 u1 u2 Z Y1 Y2 ev++[.cells true 0 ev],⟨.bool true,none,[]⟩),
 (77,[.agg ev],gd s u0 u1 u2 Z Y1 Y2 ev++[.cells true 0 ev],⟨bB,none,[]⟩),
 (186,[shA s,.agg ev],gd s u0 u1 u2 Z Y1 Y2 ev++[.cells true 0 ev],⟨.int .i64 0,none,[]⟩)]
set_option maxHeartbeats 4000000 in
theorem tE(s:Sheet) (nm:List UInt8) (u0 u1 u2:List UInt8) (Z Y1 Y2:List Int) (hm:nm∈bl) (n0:u0∈bl) (n1:u1∈bl) (n2:u2∈bl) (d01:u1≠u0) (d02:u2≠u0) (d12:u2≠u1) (hZ:∀z∈Z,z.natAbs<1000) (hl:Z.length≤1000) (hn:Z.length=s.P.length) (hY1:∀z∈Y1,z.natAbs<1000) (hl1:Y1.length=s.P.length) (hle1:∀(i:Nat) z y,Z[i]? =some z→Y1[i]? =some y→z≤y) (hY2:∀z∈Y2,z.natAbs<1000) (hl2:Y2.length=s.P.length) (hle2:∀(i:Nat) z y,Y1[i]? =some z→Y2[i]? =some y→z≤y):
  ACallsTo Tryz.prog 61 [shA s,.agg (aU nm (.slice 2 0 Z.length none) (.slice 3 0 3 none) (.slice 4 0 2 none))] (ic s u0 u1 u2 Z Y1 Y2) (.int .i64 0) (ic s u0 u1 u2 Z Y1 Y2):=by
 have hG:aL Tryz.prog 61=some Tryz.f61:=by kernel_rfl
 obtain⟨os,hops⟩:∃os,aE Tryz.f61=os:=⟨_,rfl⟩
 have hbs:=br hops (ls:=[[0,1,3,0,15],[0,1,3,0,0,31,63]]) (by kernel_rfl);simp only[aE,bC,Tryz.f61,List.nil_append,List.append_nil,List.cons_append] at hops;subst hops;simp only[List.map_cons,List.map_nil,List.cons.injEq,and_true] at hbs;obtain⟨hb0,hb1⟩:=hbs;have a0:aN [0,1,3,0,15] 4=true:=by decide
 have a1:aN [0,1,3,0,0,31,63] 6=true:=by decide
 have hO1:OracleOk Tryz.prog (af (bG [(109,[.str nm],.int .i64 0)])):=cF fun e he M=>by simp only[List.mem_cons,List.not_mem_nil,or_false] at he;subst he;exact cL nm hm M
 obtain⟨ev,hev⟩:∃ev,ev=aU nm (.slice 2 0 Z.length none) (.slice 3 0 3 none) (.slice 4 0 2 none):=⟨_,rfl⟩
 have hO2:OracleOk Tryz.prog (dR (km s u0 u1 u2 Z Y1 Y2 nm ev)):=er fun e he=>by
  simp only[km,List.mem_cons,List.not_mem_nil,or_false] at he;subst hev;have hc:=DN s nm u0 u1 u2 n0 n1 n2 d01 d02 d12 Z hZ hl hn Y1 Y2 hY1 hl1 hle1 hY2 hl2 hle2 (gd s u0 u1 u2 Z Y1 Y2 (aU nm (.slice 2 0 Z.length none) (.slice 3 0 3 none) (.slice 4 0 2 none))++[.cells true 0 (aU nm (.slice 2 0 Z.length none) (.slice 3 0 3 none) (.slice 4 0 2 none))]) 2 3 4 5 6 false false false false false false false rfl rfl rfl rfl rfl rfl rfl;have hq:=zT nm ((qH Z).map ah) [u0,u1,u2] (by simp[qH];omega) (by simp) ((qH Y1).map ah) (by simp[qH];omega) ((qH Y2).map ah) (by simp[qH];omega) (gd s u0 u1 u2 Z Y1 Y2 (aU nm (.slice 2 0 Z.length none) (.slice 3 0 3 none) (.slice 4 0 2 none))++[.cells true 0 (aU nm (.slice 2 0 Z.length none) (.slice 3 0 3 none) (.slice 4 0 2 none))]) 2 3 4 5 6 false false false false false (by rw[←vp];rfl) rfl (by rw[show((qH Z).map ah).length=Z.length by simp[qH]];rfl) (by rw[←vp];rfl) (by rw[←vp];rfl);have hz:((qH Z).map ah).length=Z.length:=by simp[qH]
  rw[hz] at hq;rcases he with rfl | rfl | rfl | rfl | rfl | rfl
  ·exact⟨by simpa [CallRes.mem,shA] using du s (gd s u0 u1 u2 Z Y1 Y2 (aU nm (.slice 2 0 Z.length none) (.slice 3 0 3 none) (.slice 4 0 2 none))) 0 1 false false rfl rfl,by simp⟩
  ·exact⟨by simpa [CallRes.mem] using pS nm Z.length 3 (gd s u0 u1 u2 Z Y1 Y2 (aU nm (.slice 2 0 Z.length none) (.slice 3 0 3 none) (.slice 4 0 2 none))++[.cells true 0 (cD 1 nm)]) (by simp[gd]),by simp⟩
  ·exact⟨by simpa [CallRes.mem] using vH s nm u0 u1 u2 Z Y1 Y2,by simp[gd]⟩
  ·exact⟨by simpa [CallRes.mem] using hq,by simp⟩
  ·exact⟨by simpa [CallRes.mem] using pS nm Z.length 3 (gd s u0 u1 u2 Z Y1 Y2 (aU nm (.slice 2 0 Z.length none) (.slice 3 0 3 none) (.slice 4 0 2 none))++[.cells true 0 (aU nm (.slice 2 0 Z.length none) (.slice 3 0 3 none) (.slice 4 0 2 none))]) (by simp[gd]),by simp⟩
  ·exact⟨by simpa [CallRes.mem] using hc,by simp⟩
 have hO:=OracleOk.or' hO1 hO2;have h:aa (aM Tryz.prog) (fun _=>[]) (aL Tryz.prog) (Oracle.or (af (bG [(109,[.str nm],.int .i64 0)])) (dR (km s u0 u1 u2 Z Y1 Y2 nm ev))) 1 61 [shA s,.agg (aU nm (.slice 2 0 Z.length none) (.slice 3 0 3 none) (.slice 4 0 2 none))] (ic s u0 u1 u2 Z Y1 Y2)=some ⟨.int .i64 0,some (ic s u0 u1 u2 Z Y1 Y2),[]⟩:=by rw[hev];clear hO hO1 hO2 hn;simp[ca,-aD,ai hb0,ai hb1,bc,aW,a8,a0,a1,Nat.testBit,-lB,fC,fD,aa,hG,Tryz.f61,Oracle.or,af,bG,dR,km,bB,shA,gd,ic,cD,aU,bO,aH,dK,dT,fz,gG,zo,zK,fm,dL,H2]
 have:=(al ae (aw _) hO (az _) h).1;simpa [CallRes.mem] using this
end Go.Proofs
