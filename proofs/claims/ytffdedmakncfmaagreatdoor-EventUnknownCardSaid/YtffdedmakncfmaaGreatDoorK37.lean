/- See K51. -/
import Derived.Test.YtffdedmakncfmaaGreatDoorK35
import Derived.Test.YtffdedmakncfmaaGreatDoorK36
set_option linter.all false
namespace Go.Proofs
open Go.Eng
end Go.Proofs
namespace Go.Proofs
open Go.Eng
theorem Ig(d:Nat) (a b:List UInt8):iH (aO Tryz.prog) (d+2) 91 (.agg [.str a,.str b]) (.agg [.str a,.str b])=some true:=by
 have i:=iV d
 rw[iH]
 simp[MI,gD,TyI.isAgg,i]
open Classical in
noncomputable def cJ(f:FuncId) (args:List AV) (v:AV) (p:Mem→Prop):Oracle:=fun c a M=>if c=.fn f∧a=args∧p M then some ⟨v,none,[]⟩ else none
theorem dT{P:Program}{f:FuncId}{args:List AV}{v:AV}{p:Mem→Prop}(h:∀M,p M→ACallsTo P f args M v M):OracleOk P (cJ f args v p):=by
 have k:∀c a M r,cJ f args v p c a M=some r→(c=.fn f∧a=args∧p M)∧r=⟨v,none,[]⟩:=fun c a M r hr=>by
  unfold cJ at hr
  split at hr
  ·cases hr;exact⟨‹_›,rfl⟩
  ·cases hr
 refine⟨fun g a M r hr=>?_,fun b a M r hr=>?_,fun c a M r q hr hq=>?_⟩
 ·obtain⟨⟨h1,rfl,h2⟩,rfl⟩:=k _ _ _ _ hr
  cases h1
  simpa [CallRes.mem] using h M h2
 ·obtain⟨⟨h1,_⟩,_⟩:=k _ _ _ _ hr
  cases h1
 ·obtain⟨_,rfl⟩:=k _ _ _ _ hr
  cases hq
end Go.Proofs
namespace Go.Proofs
open Go.Eng
end Go.Proofs
namespace Go.Proofs
open Go.Eng
end Go.Proofs
namespace Go.Proofs
open Go.Eng
theorem Sq{Z:List Int}{i:Nat}{z:Int}(h:Z[i]? =some z):(qC (qH Z))[i]? =some (.str (aB (hQ z))):=Q7 (by simp[qH,h])
def nh(c:Code):List Nat:=if (ad c).contains 18 then [18] else [30]
set_option maxHeartbeats 1600000 in
theorem gG{O:Oracle}{K:Nat}(Z:List Int) (hZ:∀z∈Z,z.natAbs<1000) (hl:Z.length≤1000) (hK:Z.length<K) {mem:Mem}{b0:Nat}{o:Bool}(hm:mem[b0]? =some (.cells o 1 (qC (qH Z)))) {m0:Nat}
  (hO:∀z:Int,z.natAbs<1000→O (.fn 61) [.str (aB (hQ z))] mem=some ⟨.int .i64 0,none,[]⟩) {b1 b:Code}(hb:aj Tryz.f253=[b1,b]):
  ∃F:Env→Bool→Env,∀env0 d,(ab env0 28=.slice b0 0 Z.length none∧ab env0 29=.int .i64 Z.length∧ab env0 30=.int .i64 0)→
   aU (aO Tryz.prog) nh O K 41 m0 true (.loop b) ⟨env0,mem,d⟩=some (.exit 2,⟨F env0 d,mem,d⟩)∧(ab (F env0 d) 16=ab env0 16∧ab (F env0 d) 17=ab env0 17∧ab (F env0 d) 18=ab env0 18∧ab (F env0 d) 2=ab env0 2):=by
 refine bp (L:=[30]) (by simp[aj,aM,Tryz.f253] at hb;rw[←hb.2];rfl) (fun env0=>ab env0 28=.slice b0 0 Z.length none∧ab env0 29=.int .i64 Z.length∧ab env0 30=.int .i64 0) (fun env0 env' =>ab env' 16=ab env0 16∧ab env' 17=ab env0 17∧ab env' 18=ab env0 18∧ab env' 2=ab env0 2) ?_
 rintro env0 d ⟨h28,h29,h30⟩
 simp[aj,aM,Tryz.f253] at hb
 have hn:az [30] (ad b) env0 ((30,.int .i64 ((0:Nat):Int))::env0)=az [30] (ad b) env0 env0:=by simp[az,h30]
 rw[←hn]
 refine bK (α:=Nat) (fun n=>⟨az [30] (ad b) env0 ((30,.int .i64 (n:Int))::env0),mem,d⟩) (fun n=>Z.length-n) (fun n=>n≤Z.length) (.exit 2) _ d _ (by simp) ?_ K 0 (by omega) (by omega)
 rintro n hn1
 clear hn
 obtain⟨_,rfl⟩:=hb
 by_cases hlt:n<Z.length
 ·obtain⟨z,hz⟩:∃z,Z[n]? =some z:=⟨Z[n],List.getElem?_eq_getElem hlt⟩
  have k1:=Sq hz
  have l1:=hO z (hZ z (List.mem_of_getElem? hz))
  have w1:IntKind.i64.wrap ((n:Int)+1)=((n+1:Nat):Int):=by rw[ag (by omega) (by omega)];omega
  left
  obtain⟨v,hv⟩:∃v,v=n+1:=⟨_,rfl⟩
  rw[←hv] at w1
  refine⟨v,?_⟩
  simp[h28,h29,hlt,hm,k1,l1,w1]
  omega
 ·right
  simp[h29,hlt]
def sB(f:FuncId) (args:List AV):Option AV:=match f,args with
 |61,[.str s]=>if s.length≤9 then some (.int .i64 (xA s)) else none
 |_,_=>none
theorem Lu:OracleOk Tryz.prog (ai sB):=bM fun f args v h mem=>by
 unfold sB at h
 split at h
 ·split at h
  ·cases h;exact mW _ (by omega) mem
  ·cases h
 ·cases h
noncomputable def ic(s:Sheet) (m:Mem):Oracle:=Oracle.or (ai sB) (cJ 131 [shA s] (.int .i64 0) (fun M=>∃ext,M=m++ext))
theorem yg(s:Sheet) (m:Mem) (p q:Nat) (o o' :Bool) (hp:m[p]? =some (.cells o 2 (pC s.P))) (hq:m[q]? =some (.cells o' 3 (tC s.T))) (h0:p=0) (h1:q=1):OracleOk Tryz.prog (ic s m):=by
 subst h0;subst h1
 have l0:=(List.getElem?_eq_some_iff.1 hp).1
 have l1:=(List.getElem?_eq_some_iff.1 hq).1
 refine OracleOk.or' Lu (dT fun M hM=>?_)
 obtain⟨ext,rfl⟩:=hM
 exact se s _ 0 1 o o' (by rw[List.getElem?_append_left l0];exact hp) (by rw[List.getElem?_append_left l1];exact hq)
theorem nP(s:Sheet) (m M:Mem) (z:Int) (h:z.natAbs<1000):ic s m (.fn 61) [.str (aB (hQ z))] M=some ⟨.int .i64 0,none,[]⟩:=by
 have hl:=y7 h
 have hc:=gL ((PQ h).mono (by omega) (by omega))
 simp[ic,Oracle.or,ai,sB,hl,hc]
theorem so(s:Sheet) (m ext:Mem):ic s m (.fn 131) [shA s] (m++ext)=some ⟨.int .i64 0,none,[]⟩:=by
 simp[ic,Oracle.or,ai,sB,cJ]
set_option maxHeartbeats 1600000 in
theorem Ab(s:Sheet) (Z:List Int) (hZ:∀z∈Z,z.natAbs<1000) (hl:Z.length≤1000) (hn:Z.length=s.P.length) (m:Mem) (b c:Nat) (o1 o2 o3 o4:Bool)
  (hp:m[0]? =some (.cells o1 2 (pC s.P))) (hq:m[1]? =some (.cells o2 3 (tC s.T))) (hb:m[b]? =some (.cells o3 1 (qC (qH Z)))) (hc:m[c]? =some (.cells o4 1 [.slice b 0 Z.length none])):
  ACallsTo Tryz.prog 253 [shA s,.slice c 0 1 none] m (.int .i64 0) m:=by
 have hG:aN Tryz.prog 253=some Tryz.f253:=by kernel_rfl
 have lb:=(List.getElem?_eq_some_iff.1 hb).1
 have lc:=(List.getElem?_eq_some_iff.1 hc).1
 have hO:=yg s m 0 1 o1 o2 hp hq rfl rfl
 obtain⟨b1,b2,hbb⟩:∃b1 b2,aj Tryz.f253=[b1,b2]:=⟨_,_,rfl⟩
 obtain⟨F,hF⟩:=gG (O:=ic s m) (K:=Z.length+3) Z hZ hl (by omega) (mem:=m++[.cells true 0 [.slice 0 0 s.P.length none,.slice 1 0 s.T.length none]]) (b0:=b) (o:=o3) (by rw[List.getElem?_append_left lb];exact hb) (m0:=m.length) (fun z h=>nP s m _ z h) hbb
 have hF1:=fun env0 d h28 h29 h30=>(hF env0 d ⟨h28,h29,h30⟩).1
 have g16:=fun env0 d h28 h29 h30=>(hF env0 d ⟨h28,h29,h30⟩).2.1
 have g17:=fun env0 d h28 h29 h30=>(hF env0 d ⟨h28,h29,h30⟩).2.2.1
 have g18:=fun env0 d h28 h29 h30=>(hF env0 d ⟨h28,h29,h30⟩).2.2.2.1
 have g2:=fun env0 d h28 h29 h30=>(hF env0 d ⟨h28,h29,h30⟩).2.2.2.2
 clear hF
 simp[aj,aM,Tryz.f253] at hbb
 obtain⟨_,rfl⟩:=hbb
 have w0:IntKind.i64.wrap 1=1:=rfl
 have hms:=so s m [.cells true 0 [.slice 0 0 s.P.length none,.slice 1 0 s.T.length none]]
 obtain⟨O,hOO⟩:∃O,O=ic s m:=⟨_,rfl⟩
 rw[←hOO] at hO hF1 hms
 have hc' :(m++[.cells true 0 [.slice 0 0 s.P.length none,.slice 1 0 s.T.length none]])[c]? =some (.cells o4 1 [.slice b 0 Z.length none]):=by rw[List.getElem?_append_left lc];exact hc
 have h:aa (aO Tryz.prog) nh (aN Tryz.prog) O (Z.length+3) 253 [shA s,.slice c 0 1 none] m=some ⟨.int .i64 0,none,[]⟩:=by
  obtain⟨N,hN⟩:∃N,N=s.P.length:=⟨_,rfl⟩
  simp only[shA,hn,←hN] at hms hF1 g16 g17 g18 g2 hc' ⊢
  simp[aa,hG,Tryz.f253,hms,hF1,g18,aZ,fA,nh,hc',w0]
 have:=(af ae (aw _) hO (ax _) h).1
 simpa [CallRes.mem] using this
set_option maxHeartbeats 1600000 in
theorem Ac(s:Sheet) (Z:List Int) (hZ:∀z∈Z,z.natAbs<1000) (hl:Z.length≤1000) (hn:Z.length=s.P.length) (Y:List Int) (hY:∀z∈Y,z.natAbs<1000) (hn2:Y.length=s.P.length) (m:Mem) (b b' c:Nat) (o1 o2 o3 o3' o4:Bool)
  (hp:m[0]? =some (.cells o1 2 (pC s.P))) (hq:m[1]? =some (.cells o2 3 (tC s.T))) (hb:m[b]? =some (.cells o3 1 (qC (qH Z)))) (hb' :m[b']? =some (.cells o3' 1 (qC (qH Y)))) (hc:m[c]? =some (.cells o4 1 [.slice b 0 Z.length none,.slice b' 0 Y.length none])):
  ACallsTo Tryz.prog 253 [shA s,.slice c 0 2 none] m (.int .i64 0) m:=by
 have hG:aN Tryz.prog 253=some Tryz.f253:=by kernel_rfl
 have lb:=(List.getElem?_eq_some_iff.1 hb).1
 have lb' :=(List.getElem?_eq_some_iff.1 hb').1
 have lc:=(List.getElem?_eq_some_iff.1 hc).1
 have hO:=yg s m 0 1 o1 o2 hp hq rfl rfl
 obtain⟨b1,b2,hbb⟩:∃b1 b2,aj Tryz.f253=[b1,b2]:=⟨_,_,rfl⟩
 obtain⟨F,hF⟩:=gG (O:=ic s m) (K:=s.P.length+4) Z hZ hl (by omega) (mem:=m++[.cells true 0 [.slice 0 0 s.P.length none,.slice 1 0 s.T.length none]]) (b0:=b) (o:=o3) (by rw[List.getElem?_append_left lb];exact hb) (m0:=m.length) (fun z h=>nP s m _ z h) hbb
 have hF1:=fun env0 d h28 h29 h30=>(hF env0 d ⟨h28,h29,h30⟩).1
 have g16:=fun env0 d h28 h29 h30=>(hF env0 d ⟨h28,h29,h30⟩).2.1
 have g17:=fun env0 d h28 h29 h30=>(hF env0 d ⟨h28,h29,h30⟩).2.2.1
 have g18:=fun env0 d h28 h29 h30=>(hF env0 d ⟨h28,h29,h30⟩).2.2.2.1
 have g2:=fun env0 d h28 h29 h30=>(hF env0 d ⟨h28,h29,h30⟩).2.2.2.2
 obtain⟨F2,hF2⟩:=gG (O:=ic s m) (K:=s.P.length+4) Y hY (by omega) (by omega) (mem:=m++[.cells true 0 [.slice 0 0 s.P.length none,.slice 1 0 s.T.length none]]) (b0:=b') (o:=o3') (by rw[List.getElem?_append_left lb'];exact hb') (m0:=m.length) (fun z h=>nP s m _ z h) hbb
 have hF1' :=fun env0 d h28 h29 h30=>(hF2 env0 d ⟨h28,h29,h30⟩).1
 have g16' :=fun env0 d h28 h29 h30=>(hF2 env0 d ⟨h28,h29,h30⟩).2.1
 have g17' :=fun env0 d h28 h29 h30=>(hF2 env0 d ⟨h28,h29,h30⟩).2.2.1
 have g18' :=fun env0 d h28 h29 h30=>(hF2 env0 d ⟨h28,h29,h30⟩).2.2.2.1
 have g2' :=fun env0 d h28 h29 h30=>(hF2 env0 d ⟨h28,h29,h30⟩).2.2.2.2
 clear hF hF2
 simp[aj,aM,Tryz.f253] at hbb
 obtain⟨_,rfl⟩:=hbb
 have w2:IntKind.i64.wrap 2=2:=rfl
 have w0:IntKind.i64.wrap 1=1:=rfl
 have hms:=so s m [.cells true 0 [.slice 0 0 s.P.length none,.slice 1 0 s.T.length none]]
 obtain⟨O,hOO⟩:∃O,O=ic s m:=⟨_,rfl⟩
 rw[←hOO] at hO hF1 hF1' hms
 have hc' :(m++[.cells true 0 [.slice 0 0 s.P.length none,.slice 1 0 s.T.length none]])[c]? =some (.cells o4 1 [.slice b 0 Z.length none,.slice b' 0 Y.length none]):=by rw[List.getElem?_append_left lc];exact hc
 have h:aa (aO Tryz.prog) nh (aN Tryz.prog) O (s.P.length+4) 253 [shA s,.slice c 0 2 none] m=some ⟨.int .i64 0,none,[]⟩:=by
  obtain⟨N,hN⟩:∃N,N=s.P.length:=⟨_,rfl⟩
  simp only[shA,hn,hn2,←hN] at hms hF1 g16 g17 g18 g2 hF1' g16' g17' g18' g2' hc' ⊢
  simp[aa,hG,Tryz.f253,hms,hF1,g18,hF1',g18',w2,aZ,fA,nh,hc',w0]
 have:=(af ae (aw _) hO (ax _) h).1
 simpa [CallRes.mem] using this
theorem mZ(s:Sheet) (Z:List Int) (hZ:∀z∈Z,z.natAbs<1000) (hl:Z.length≤1000) (hn:Z.length=s.P.length) (m:Mem) (b:Nat) (o1 o2 o3:Bool)
  (hp:m[0]? =some (.cells o1 2 (pC s.P))) (hq:m[1]? =some (.cells o2 3 (tC s.T))) (hb:m[b]? =some (.cells o3 1 (qC (qH Z)))):
  ACallsTo Tryz.prog 221 [shA s,.slice b 0 Z.length none] m (.int .i64 0) m:=by
 have hG:aN Tryz.prog 221=some Tryz.f221:=by kernel_rfl
 have l0:=(List.getElem?_eq_some_iff.1 hp).1
 have l1:=(List.getElem?_eq_some_iff.1 hq).1
 have lb:=(List.getElem?_eq_some_iff.1 hb).1
 obtain⟨E,hE⟩:∃E:Mem,E=[.cells true 0 [.slice 0 0 s.P.length none,.slice 1 0 s.T.length none],.cells true 1 [.slice b 0 Z.length none]]:=⟨_,rfl⟩
 have hk:=Ab s Z hZ hl hn (m++E) b (m.length+1) o1 o2 o3 true (by rw[List.getElem?_append_left l0];exact hp) (by rw[List.getElem?_append_left l1];exact hq) (by rw[List.getElem?_append_left lb];exact hb) (by rw[hE];simp)
 have hO:OracleOk Tryz.prog (oz [(253,[shA s,.slice (m.length+1) 0 1 none],m++E,⟨.int .i64 0,none,[]⟩)]):=sR fun e he=>by
  simp only[List.mem_cons,List.not_mem_nil,or_false] at he
  subst he
  exact⟨by simpa [CallRes.mem] using hk,by simp⟩
 have h:aa (aO Tryz.prog) (fun _=>[]) (aN Tryz.prog) (oz [(253,[shA s,.slice (m.length+1) 0 1 none],m++E,⟨.int .i64 0,none,[]⟩)]) 1 221 [shA s,.slice b 0 Z.length none] m=some ⟨.int .i64 0,none,[]⟩:=by
  rw[hE]
  simp[aa,hG,Tryz.f221,oz,shA]
 have:=(af ae (aw _) hO (ax _) h).1
 simpa [CallRes.mem] using this
theorem QT{a b:Int}(h:a≤b):¬0<yS (hQ a) (hQ b):=by
 have:=I5.2 (Sk h)
 omega
set_option maxHeartbeats 1600000 in
theorem xY{O:Oracle}{K:Nat}(Z Y:List Int) (hZY:∀(i:Nat) z y,Z[i]? =some z→Y[i]? =some y→z≤y∧z.natAbs<1000∧y.natAbs<1000) (hn:Z.length=Y.length) (hl:Z.length≤1000) (hK:Z.length<K) {mem:Mem}{b0 b1:Nat}{o o' :Bool}(hm:mem[b0]? =some (.cells o 1 (qC (qH Z)))) (hm' :mem[b1]? =some (.cells o' 1 (qC (qH Y)))) {m0:Nat}
  (hO:∀z y:Int,z.natAbs<1000→y.natAbs<1000→O (.fn 111) [.str (aB (hQ z)),.str (aB (hQ y))] mem=some ⟨.int .i64 (yS (hQ z) (hQ y)),none,[]⟩) {b:Code}(hb:aj Tryz.f223=[b]):
  ∃F:Env→Bool→Env,∀env0 d,(ab env0 19=.slice b0 0 Z.length none∧ab env0 20=.int .i64 Z.length∧ab env0 21=.int .i64 0∧ab env0 2=.slice b1 0 Z.length none)→
   aU (aO Tryz.prog) (fun _=>[21]) O K 34 m0 true (.loop b) ⟨env0,mem,d⟩=some (.exit 0,⟨F env0 d,mem,d⟩)∧True:=by
 refine bp (L:=[21]) rfl (fun env0=>ab env0 19=.slice b0 0 Z.length none∧ab env0 20=.int .i64 Z.length∧ab env0 21=.int .i64 0∧ab env0 2=.slice b1 0 Z.length none) (fun _ _=>True) ?_
 rintro env0 d ⟨h28,h29,h30,h2⟩
 simp[aj,aM,Tryz.f223] at hb
 have hn0:az [21] (ad b) env0 ((21,.int .i64 ((0:Nat):Int))::env0)=az [21] (ad b) env0 env0:=by simp[az,h30]
 rw[←hn0]
 refine bK (α:=Nat) (fun n=>⟨az [21] (ad b) env0 ((21,.int .i64 (n:Int))::env0),mem,d⟩) (fun n=>Z.length-n) (fun n=>n≤Z.length) (.exit 0) _ d _ (by simp) ?_ K 0 (by omega) (by omega)
 rintro n hn1
 clear hn0
 subst hb
 by_cases hlt:n<Z.length
 ·obtain⟨z,hz⟩:∃z,Z[n]? =some z:=⟨Z[n],List.getElem?_eq_getElem hlt⟩
  obtain⟨y,hy⟩:∃y,Y[n]? =some y:=⟨Y[n]'(by omega),List.getElem?_eq_getElem (by omega)⟩
  have k1:=Sq hz
  have k2:=Sq hy
  obtain⟨p1,p2,p3⟩:=hZY n z y hz hy
  have l1:=hO z y p2 p3
  have c1:=QT p1
  have w1:IntKind.i64.wrap ((n:Int)+1)=((n+1:Nat):Int):=by rw[ag (by omega) (by omega)];omega
  left
  obtain⟨v,hv⟩:∃v,v=n+1:=⟨_,rfl⟩
  rw[←hv] at w1
  refine⟨v,?_⟩
  simp[h28,h29,h2,hlt,hm,hm',k1,k2,l1,w1,c1]
  omega
 ·right
  simp[h29,hlt]
open Classical in
noncomputable def sn(f:FuncId) (args:List AV):Option AV:=match f,args with
 |111,[.str s,.str t]=>match dU s,dU t with
  |some a,some b=>if big 3 a∧big 3 b then some (.int .i64 (yS a b)) else none
  |_,_=>none
 |_,_=>none
theorem JO{k:Nat}{q:Rat}(h0:0<k) (hk:k≤40000) (h:big k q):ky q:=by
 have h1:=aK h0 h.1
 have h2:=aK h0 h.2
 exact⟨by omega,by omega⟩
theorem Ld:OracleOk Tryz.prog (ai sn):=bM fun f args v h mem=>by
 unfold sn at h
 split at h
 ·split at h
  ·rename_i a b ha hb
   split at h
   ·rename_i hc
    cases h
    rw[aD ha,aD hb]
    exact qi a b (JO (by decide) (by decide) hc.1) (JO (by decide) (by decide) hc.2) mem
   ·cases h
  ·cases h
 ·cases h
set_option maxHeartbeats 1600000 in
theorem mY(s:Sheet) (Z Y:List Int) (hZ:∀z∈Z,z.natAbs<1000) (hY:∀z∈Y,z.natAbs<1000) (hl:Z.length≤1000) (hn:Z.length=s.P.length) (hn2:Y.length=s.P.length) (hZY:∀(i:Nat) z y,Z[i]? =some z→Y[i]? =some y→z≤y) (m:Mem) (b b' :Nat) (o1 o2 o3 o4:Bool)
  (hp:m[0]? =some (.cells o1 2 (pC s.P))) (hq:m[1]? =some (.cells o2 3 (tC s.T))) (hb:m[b]? =some (.cells o3 1 (qC (qH Z)))) (hb' :m[b']? =some (.cells o4 1 (qC (qH Y)))):
  ACallsTo Tryz.prog 223 [shA s,.slice b 0 Z.length none,.slice b' 0 Y.length none] m (.tuple [.bool true,.int .i64 0]) m:=by
 have hG:aN Tryz.prog 223=some Tryz.f223:=by kernel_rfl
 have l0:=(List.getElem?_eq_some_iff.1 hp).1
 have l1:=(List.getElem?_eq_some_iff.1 hq).1
 have lb:=(List.getElem?_eq_some_iff.1 hb).1
 have lb' :=(List.getElem?_eq_some_iff.1 hb').1
 obtain⟨E,hE⟩:∃E:Mem,E=[.cells true 0 [.slice 0 0 s.P.length none,.slice 1 0 s.T.length none],.cells true 1 [.slice b 0 Z.length none,.slice b' 0 Y.length none]]:=⟨_,rfl⟩
 have hk:=Ac s Z hZ hl hn Y hY hn2 (m++E) b b' (m.length+1) o1 o2 o3 o4 true (by rw[List.getElem?_append_left l0];exact hp) (by rw[List.getElem?_append_left l1];exact hq) (by rw[List.getElem?_append_left lb];exact hb) (by rw[List.getElem?_append_left lb'];exact hb') (by rw[hE];simp)
 obtain⟨O,hOO⟩:∃O,O=Oracle.or (ai sn) (oz [(253,[shA s,.slice (m.length+1) 0 2 none],m++E,⟨.int .i64 0,none,[]⟩)]):=⟨_,rfl⟩
 have hO:OracleOk Tryz.prog O:=by
  rw[hOO]
  refine OracleOk.or' Ld (sR fun e he=>?_)
  simp only[List.mem_cons,List.not_mem_nil,or_false] at he
  subst he
  exact⟨by simpa [CallRes.mem] using hk,by simp⟩
 have hO1:O (.fn 253) [shA s,.slice (m.length+1) 0 2 none] (m++E)=some ⟨.int .i64 0,none,[]⟩:=by
  rw[hOO];simp[Oracle.or,ai,sn,oz]
 have hO2:∀z y:Int,z.natAbs<1000→y.natAbs<1000→O (.fn 111) [.str (aB (hQ z)),.str (aB (hQ y))] (m++E)=some ⟨.int .i64 (yS (hQ z) (hQ y)),none,[]⟩:=fun z y hz hy=>by
  have e1:=PQ hz
  have e2:=PQ hy
  have b1:big 3 (hQ z):=⟨e1.1,by have:=e1.2;omega⟩
  have b2:big 3 (hQ y):=⟨e2.1,by have:=e2.2;omega⟩
  rw[hOO];simp[Oracle.or,ai,sn,aC,b1,b2]
 clear hOO
 obtain⟨bb,hbb⟩:∃b,aj Tryz.f223=[b]:=⟨_,rfl⟩
 obtain⟨F,hF⟩:=xY (O:=O) (K:=s.P.length+1) Z Y (fun i z y hz hy=>⟨hZY i z y hz hy,hZ z (List.mem_of_getElem? hz),hY y (List.mem_of_getElem? hy)⟩) (by omega) hl (by omega) (mem:=m++E) (b0:=b) (b1:=b') (o:=o3) (o' :=o4) (by rw[List.getElem?_append_left lb];exact hb) (by rw[List.getElem?_append_left lb'];exact hb') (m0:=m.length) hO2 hbb
 have hF1:=fun env0 d h1 h2 h3 h4=>(hF env0 d ⟨h1,h2,h3,h4⟩).1
 clear hF hO2
 simp[aj,aM,Tryz.f223] at hbb
 subst hbb
 have h:aa (aO Tryz.prog) (fun _=>[21]) (aN Tryz.prog) O (s.P.length+1) 223 [shA s,.slice b 0 Z.length none,.slice b' 0 Y.length none] m=some ⟨.tuple [.bool true,.int .i64 0],none,[]⟩:=by
  clear hk
  obtain⟨N,hN⟩:∃N,N=s.P.length:=⟨_,rfl⟩
  subst hE
  simp only[shA,hn,hn2,←hN] at hO1 hF1 ⊢
  simp[aa,hG,Tryz.f223,hO1,hF1]
 have:=(af ae (aw _) hO (ax _) h).1
 simpa [CallRes.mem] using this
end Go.Proofs
