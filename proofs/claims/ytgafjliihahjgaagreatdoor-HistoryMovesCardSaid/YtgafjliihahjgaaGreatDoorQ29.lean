/- See Q54. -/
import Derived.Test.YtgafjliihahjgaaGreatDoorQ27
import Derived.Test.YtgafjliihahjgaaGreatDoorQ28
set_option linter.all false
namespace Go.Proofs
open Go.Eng
theorem PN:∀L:List P2,pC L=kC (kT L)
 | []=>rfl
 |p::L=>by have:=PN L;simp[pC,kC,kT,this]
theorem Dg(d:Deed) (j:Nat) (hj:j<3):u4 (ah (rh d j).1)=0∧u4 (ah (rh d j).2)=0:=by
 have h3: -3<d.N.tmod 3∧d.N.tmod 3<3:=lQ d.N 3 (by decide);have hk:HT d.K j%4<4:=Nat.mod_lt _ (by decide);obtain⟨u,hu⟩:∃u,u=HT d.K j%4:=⟨_,rfl⟩
 rw[←hu] at hk;refine⟨RK (n:=d.N.tmod 3+2*j) (by omega),?_⟩;have hd:d.K.2.2.2%2<2:=Nat.mod_lt _ (by decide);obtain⟨v,hv⟩:∃v,v=d.K.2.2.2%2:=⟨_,rfl⟩
 rw[←hv] at hd;have:dg 3 1 (mkRat ((u:Int)-1) (1+v)):=pf (by omega) (by omega) (by omega);unfold rh;rw[←hu,←hv];exact qX (this.mono (by omega) (by omega))
theorem Sk(d:Deed) (c:Nat) (h1:0<c) (hc:c≤3):knE (kT (bM d c))=0:=by
 have k0:=Dg d 0 (by omega);have k1:=Dg d 1 (by omega);have k2:=Dg d 2 (by omega);have p:∀q:Rat,cV (ah q)=some q:=ay
 have l:∀i j:Nat,i<j→(rh d i).1<(rh d j).1:=fun i j h=>by
  simp only[rh]
  exact_mod_cast (by omega:d.N.tmod 3+2*(i:Int)<d.N.tmod 3+2*(j:Int))
 have l1:=l 0 1 (by omega);have l2:=l 1 2 (by omega);have r1:List.range 1=[0]:=rfl;have r2:List.range 2=[0,1]:=rfl;have r3:List.range 3=[0,1,2]:=rfl;have:c=1∨c=2∨c=3:=by omega
 rcases this with rfl | rfl | rfl
 ·simp[knE,bM,r1,kT,ckE,k0,BA]
 ·simp[knE,bM,r2,kT,ckE,k0,k1,p,BA,l1]
 ·simp[knE,bM,r3,kT,ckE,k0,k1,k2,p,BA,l1,l2]
theorem rL(d:Deed) (c:Nat) (h1:0<c) (hc:c≤3) (M:Mem) (b:Nat) (o:Bool) (hb:M[b]? =some (.cells o 2 (pC (bM d c)))):
  ACallsTo Tryz.prog 256 [.slice b 0 c none] M (.int .i64 0) M:=by
 have hl:(kT (bM d c)).length=c:=by rw[di,cH]
 have h:=tz (kT (bM d c)) (fun q hq=>by
  simp only[kT,bM,List.map_map,List.mem_map,List.mem_range] at hq;obtain⟨j,hj,rfl⟩:=hq;have h3: -3<d.N.tmod 3∧d.N.tmod 3<3:=lQ d.N 3 (by decide);obtain⟨u,hu⟩:∃u,u=HT d.K j%4:=⟨_,rfl⟩
  have hk:u<4:=by rw[hu];exact Nat.mod_lt _ (by decide)
  obtain⟨v,hv⟩:∃v,v=d.K.2.2.2%2:=⟨_,rfl⟩
  have hd:v<2:=by rw[hv];exact Nat.mod_lt _ (by decide)
  have e1:dg 3 1 (mkRat ((u:Int)-1) (1+v)):=pf (by omega) (by omega) (by omega);have b2:big 3 (mkRat ((u:Int)-1) (1+v)):=⟨e1.1,by have:=e1.2;omega⟩;have e2:=Ba (by decide) b2;have e3:=eW (n:=d.N.tmod 3+2*j) (by omega);have f1:(((fun q=>(ah q.1,ah q.2))∘rh d) j).1=zS (d.N.tmod 3+2*j):=rfl;have f2:(((fun q=>(ah q.1,ah q.2))∘rh d) j).2=ah (mkRat ((u:Int)-1) (1+v)):=by rw[hu,hv];rfl
  rw[f1,f2];exact⟨by unfold zS;omega,by omega⟩) (by omega)
 rw[hl,Sk d c h1 hc,←PN] at h;exact ACallsTo.rows1R (rest:=[]) (dr _) rfl rfl h ⟨b,o,_,rfl,hb,List.take_length⟩
theorem I8(d:Nat) (a b:List UInt8):gT (aM Tryz.prog) (d+2) 124 (.agg [.str a,.str b]) (.agg [.str a,.str b])=some true:=by have i:=ji d;rw[gT];simp[Ny,im,TyI.isAgg,i]
set_option maxHeartbeats 1600000 in
theorem LA(L:List P2) (h1:0<L.length) (hc:L.length≤3):
  ACallsTo Tryz.prog 168 [.slice 0 0 L.length none,.slice 0 0 L.length none] [.cells false 2 (pC L)] (.bool true) [.cells false 2 (pC L)]:=by
 have hG:aL Tryz.prog 168=some Tryz.f168:=by kernel_rfl
 obtain⟨os,hops⟩:∃os,aE Tryz.f168=os:=⟨_,rfl⟩
 have hbs:=br hops (ls:=[[0,0,3,7,0,0,48,112,255]]) (by kernel_rfl);simp only[aE,bC,Tryz.f168,List.nil_append,List.append_nil] at hops;subst hops;simp only[List.map_cons,List.map_nil,List.cons.injEq,and_true] at hbs;have a0:aN [0,0,3,7,0,0,48,112,255] 8=true:=by decide
 have e:=fun d=>I8 d
 have w1:IntKind.i64.wrap 1=1:=rfl;have w2:IntKind.i64.wrap 2=2:=rfl;have w3:IntKind.i64.wrap 3=3:=rfl;refine aZ (lv:=(fun _=>[13])) (K:=5) (ao _) ?_
 match L,h1,hc with
 | [p],_,_=>simp[-aD,ai hbs,bc,aW,a8,a0,aa,hG,Tryz.f168,aB,dV,pC,e,w1]
 | [p,q],_,_=>simp[-aD,ai hbs,bc,aW,a8,a0,aa,hG,Tryz.f168,aB,dV,pC,e,w1,w2]
 | [p,q,r],_,_=>simp[-aD,ai hbs,bc,aW,a8,a0,aa,hG,Tryz.f168,aB,dV,pC,e,w1,w2,w3]
theorem NC(L:List P2) (h1:0<L.length) (hc:L.length≤3) (M:Mem) (b:Nat) (o:Bool) (hb:M[b]? =some (.cells o 2 (pC L))):
  ACallsTo Tryz.prog 168 [.slice b 0 L.length none,.slice b 0 L.length none] M (.bool true) M:=by
 have hlt:=(List.getElem?_eq_some_iff.1 hb).1;have:=ACallsTo.frame (M:=M) (new:=[]) [b] rfl (by simpa using hlt) (by rfl) (fun i t hs=>by
  match i with
  |0=>simp at hs;subst hs;exact bI (dr _) hb List.take_length
  |i+1=>simp at hs) rfl (LA L h1 hc)
 simpa [AV.rens,AV.ren,ar] using this
open Classical in
noncomputable def cw(f:FuncId) (args:List AV) (v:AV) (p:Mem→Prop):Oracle:=fun c a M=>if c=.fn f∧a=args∧p M then some ⟨v,none,[]⟩ else none
theorem cS{P:Program}{f:FuncId}{args:List AV}{v:AV}{p:Mem→Prop}(h:∀M,p M→ACallsTo P f args M v M):OracleOk P (cw f args v p):=by
 have k:∀c a M r,cw f args v p c a M=some r→(c=.fn f∧a=args∧p M)∧r=⟨v,none,[]⟩:=fun c a M r hr=>by
  unfold cw at hr;split at hr
  ·cases hr;exact⟨‹_›,rfl⟩
  ·cases hr
 refine⟨fun g a M r hr=>?_,fun b a M r hr=>?_,fun c a M r q hr hq=>?_⟩
 ·obtain⟨⟨h1,rfl,h2⟩,rfl⟩:=k _ _ _ _ hr
  cases h1;simpa [CallRes.mem] using h M h2
 ·obtain⟨⟨h1,_⟩,_⟩:=k _ _ _ _ hr
  cases h1
 ·obtain⟨_,rfl⟩:=k _ _ _ _ hr
  cases hq
theorem zW(nm:List UInt8) (n:Z3) (L:List P2) (s:Z3) (h1:0<L.length) (hc:L.length≤3) (M:Mem) (b:Nat) (o:Bool) (hb:M[b]? =some (.cells o 2 (pC L))):
  ACallsTo Tryz.prog 110 [.agg (bt nm n (.slice b 0 L.length none) s),.agg (bt nm n (.slice b 0 L.length none) s)] M (.bool true) M:=by
 have hlt:=(List.getElem?_eq_some_iff.1 hb).1;refine gU (OracleOk.or' gq (cS (f:=168) (args:=[.slice b 0 L.length none,.slice b 0 L.length none]) (v:=.bool true) (p:=fun M' =>M'[b]? =some (.cells o 2 (pC L))) fun M' h=>NC L h1 hc M' b o h)) rfl rfl rfl ?_;have:(M++[.cells true 0 (bt nm n (.slice b 0 L.length none) s),.cells true 0 (bt nm n (.slice b 0 L.length none) s)])[b]? =some (.cells o 2 (pC L)):=by rw[List.getElem?_append_left hlt];exact hb
 unfold Oracle.or;rw[show oY (.fn 168) [.slice b 0 L.length none,.slice b 0 L.length none] _=none from rfl];simp only[cw];exact if_pos ⟨rfl,rfl,this⟩
def eX:AV:=.agg [.func 194 [],.func 195 [],.func 196 [],.func 197 [],.func 198 []]
theorem xH(nm:List UInt8) (n:Z3) (c:Nat) (s:Z3):ACallsTo Tryz.prog 77 [.agg (bt nm n (.slice 0 0 c none) s)] [.absent] eX [.absent]:=by
 have h:aa (aM Tryz.prog) ad (aL Tryz.prog) rX 6 77 [.agg (bt nm n (.slice 0 0 c none) s)] [.absent]=some ⟨eX,none,[]⟩:=by as_aux_lemma=>kernel_rfl
 have:=(al ae (aw _) gp (az _) h).1;simpa [CallRes.mem] using this
theorem pT(nm:List UInt8) (n:Z3) (c:Nat) (s:Z3) (M:Mem) (b:Nat) (hb:b<M.length):ACallsTo Tryz.prog 77 [.agg (bt nm n (.slice b 0 c none) s)] M eX M:=by
 have:=ACallsTo.frame (M:=M) (new:=[]) [b] rfl (by simpa using hb) (by rfl) (fun i t hs=>by
  match i with
  |0=>simp at hs;subst hs;trivial
  |i+1=>simp at hs) rfl (xH nm n c s)
 simpa [bt,AV.rens,AV.ren,ar,eX] using this
noncomputable def gy(n s:Z3):List (FuncId×List AV×AV):=[
 (14,[zA n],.int .i64 0),
 (255,[zA s,zA n],.int .i64 0)]
theorem DP(nm:List UInt8) (n s:Z3) (d:Deed) (c:Nat) (h1:0<c) (hc:c≤3) (hn:dO 99 n) (hz:gh n=false) (hs:dO 99 s) (hd:DE s n=0) (x y:AV) (m:Mem) (b:Nat) (o:Bool) (hb:m[b]? =some (.cells o 2 (pC (bM d c)))):
  ACallsTo Tryz.prog 195 [.agg [x,y],.agg (bt nm n (.slice b 0 c none) s)] m (.int .i64 0) m:=by
 have hG:aL Tryz.prog 195=some Tryz.f195:=by kernel_rfl
 have hlt:=(List.getElem?_eq_some_iff.1 hb).1;have hO1:OracleOk Tryz.prog (af (bG (gy n s))):=cF fun e he M=>by
  simp only[gy,List.mem_cons,List.not_mem_nil,or_false] at he;rcases he with rfl | rfl
  ·exact rO n hn M
  ·exact xq s n hs hn hd M
 have hO2:OracleOk Tryz.prog (cw 256 [.slice b 0 c none] (.int .i64 0) (fun M=>∃ext,M=m++ext)):=cS fun M hM=>by obtain⟨ext,rfl⟩:=hM;exact rL d c h1 hc _ b o (by rw[List.getElem?_append_left hlt];exact hb)
 have hO:=OracleOk.or' hO1 hO2;have e1:=mQ n.1;have e2:=mQ n.2.1;have e3:=mQ n.2.2;have hbz:((zS n.1==[48]&&zS n.2.1==[48])&&zS n.2.2==[48])=false:=by rw[e1,e2,e3];exact hz
 clear hO1 hO2 hb hlt hd hs hz hn e1 e2 e3;obtain⟨n1,n2,n3⟩:=n;simp only at hbz;obtain⟨A,hA⟩:∃A,A=zS n1:=⟨_,rfl⟩
 obtain⟨B,hB⟩:∃A,A=zS n2:=⟨_,rfl⟩
 obtain⟨C,hC⟩:∃A,A=zS n3:=⟨_,rfl⟩
 rw[←hA,←hB,←hC] at hbz;have h:aa (aM Tryz.prog) (fun _=>[]) (aL Tryz.prog) (Oracle.or (af (bG (gy (n1,n2,n3) s))) (cw 256 [.slice b 0 c none] (.int .i64 0) (fun M=>∃ext,M=m++ext))) 1 195 [.agg [x,y],.agg (bt nm (n1,n2,n3) (.slice b 0 c none) s)] m=some ⟨.int .i64 0,none,[]⟩:=by
  have hab:(A==[48])=false∨((A==[48])=true∧(B==[48])=false)∨((A==[48])=true∧(B==[48])=true∧(C==[48])=false):=by cases ha:(A==[48])<;>cases hb:(B==[48])<;>cases hc:(C==[48])<;>simp_all
  rcases hab with ha | ⟨ha,hb⟩ | ⟨ha,hb,hc⟩
  ·simp[aa,hG,Tryz.f195,Oracle.or,af,gy,bG,cw,bt,zA,←hA,←hB,←hC,ha]
  ·simp[aa,hG,Tryz.f195,Oracle.or,af,gy,bG,cw,bt,zA,←hA,←hB,←hC,ha,hb]
  ·simp[aa,hG,Tryz.f195,Oracle.or,af,gy,bG,cw,bt,zA,←hA,←hB,←hC,ha,hb,hc]
 have:=(al ae (aw _) hO (az _) h).1;simpa [CallRes.mem] using this
def sH(s:Sheet) (L:List P2):Mem:=[.cells false 2 (pC s.P),.cells false 3 (tC s.T),.cells false 2 (pC L)]
def kS(s:Sheet) (L:List P2) (ev:List AV):Mem:=[.cells false 2 (pC s.P),.cells false 3 (tC s.T),.cells false 2 (pC L),.cells true 0 [.slice 0 0 s.P.length none,.slice 1 0 s.T.length none],.cells true 0 ev]
theorem vJ(sh:Sheet) (nm:List UInt8) (n s:Z3) (L:List P2) (c:Nat):
  ACallsTo Tryz.prog 194 [.agg (bt nm n (.slice 2 0 c none) s),.ptr 5 0] (kS sh L (bt nm n (.slice 2 0 c none) s)++[.cells true 0 (cD 3 nm)]) (.tuple []) (kS sh L (bt nm n (.slice 2 0 c none) s)++[.cells true 0 (bt nm n (.slice 2 0 c none) s)]):=by
 have hG:aL Tryz.prog 194=some Tryz.f194:=by kernel_rfl
 have h:aa (aM Tryz.prog) (fun _=>[]) (aL Tryz.prog) bJ 1 194 [.agg (bt nm n (.slice 2 0 c none) s),.ptr 5 0] (kS sh L (bt nm n (.slice 2 0 c none) s)++[.cells true 0 (cD 3 nm)])=some ⟨.tuple [],some (kS sh L (bt nm n (.slice 2 0 c none) s)++[.cells true 0 (bt nm n (.slice 2 0 c none) s)]),[]⟩:=by simp[aa,hG,Tryz.f194,kS,cD,bt,dK,dT,fz,gG]
 have:=(al ae (aw _) (ao _) (az _) h).1;simpa [CallRes.mem] using this
noncomputable def kp(sh:Sheet) (L:List P2) (nm:List UInt8) (ev:List AV):List (FuncId×List AV×Mem×CallRes):=[
 (59,[shA sh],kS sh L ev,⟨.int .i64 0,none,[]⟩),
 (77,[.agg ev],kS sh L ev++[.cells true 0 (cD 3 nm)],⟨eX,none,[]⟩),
 (194,[.agg ev,.ptr 5 0],kS sh L ev++[.cells true 0 (cD 3 nm)],⟨.tuple [],some (kS sh L ev++[.cells true 0 ev]),[]⟩),
 (110,[.agg ev,.agg ev],kS sh L ev++[.cells true 0 ev],⟨.bool true,none,[]⟩),
 (77,[.agg ev],kS sh L ev++[.cells true 0 ev],⟨eX,none,[]⟩),
 (195,[shA sh,.agg ev],kS sh L ev++[.cells true 0 ev],⟨.int .i64 0,none,[]⟩)]
theorem tH(sh:Sheet) (nm:List UInt8) (n s:Z3) (d:Deed) (c:Nat) (h1:0<c) (hc:c≤3) (hm:nm∈bl) (hn:dO 99 n) (hz:gh n=false) (hs:dO 99 s) (hd:DE s n=0):
  ACallsTo Tryz.prog 61 [shA sh,.agg (bt nm n (.slice 2 0 c none) s)] (sH sh (bM d c)) (.int .i64 0) (sH sh (bM d c)):=by
 have hG:aL Tryz.prog 61=some Tryz.f61:=by kernel_rfl
 obtain⟨os,hops⟩:∃os,aE Tryz.f61=os:=⟨_,rfl⟩
 have hbs:=br hops (ls:=[[0,1,3,0,15],[0,1,3,0,0,31,63]]) (by kernel_rfl);simp only[aE,bC,Tryz.f61,List.nil_append,List.append_nil,List.cons_append] at hops;subst hops;simp only[List.map_cons,List.map_nil,List.cons.injEq,and_true] at hbs;obtain⟨hb0,hb1⟩:=hbs;have a0:aN [0,1,3,0,15] 4=true:=by decide
 have a1:aN [0,1,3,0,0,31,63] 6=true:=by decide
 have hl:=cH d c;obtain⟨ev,hev⟩:∃ev,ev=bt nm n (.slice 2 0 c none) s:=⟨_,rfl⟩
 have hO1:OracleOk Tryz.prog (af (bG [(109,[.str nm],.int .i64 0)])):=cF fun e he M=>by simp only[List.mem_cons,List.not_mem_nil,or_false] at he;subst he;exact cL nm hm M
 have hO2:OracleOk Tryz.prog (dR (kp sh (bM d c) nm ev)):=er fun e he=>by
  simp only[kp,List.mem_cons,List.not_mem_nil,or_false] at he;subst hev;have hq:=zW nm n (bM d c) s (by omega) (by omega) (kS sh (bM d c) (bt nm n (.slice 2 0 c none) s)++[.cells true 0 (bt nm n (.slice 2 0 c none) s)]) 2 false rfl;rw[hl] at hq;rcases he with rfl | rfl | rfl | rfl | rfl | rfl
  ·exact⟨by simpa [CallRes.mem,shA] using du sh (kS sh (bM d c) (bt nm n (.slice 2 0 c none) s)) 0 1 false false rfl rfl,by simp⟩
  ·exact⟨by simpa [CallRes.mem] using pT nm n c s (kS sh (bM d c) (bt nm n (.slice 2 0 c none) s)++[.cells true 0 (cD 3 nm)]) 2 (by simp[kS]),by simp⟩
  ·exact⟨by simpa [CallRes.mem] using vJ sh nm n s (bM d c) c,by simp[kS]⟩
  ·exact⟨by simpa [CallRes.mem] using hq,by simp⟩
  ·exact⟨by simpa [CallRes.mem] using pT nm n c s (kS sh (bM d c) (bt nm n (.slice 2 0 c none) s)++[.cells true 0 (bt nm n (.slice 2 0 c none) s)]) 2 (by simp[kS]),by simp⟩
  ·exact⟨by simpa [CallRes.mem,shA] using DP nm n s d c h1 hc hn hz hs hd (.slice 0 0 sh.P.length none) (.slice 1 0 sh.T.length none) (kS sh (bM d c) (bt nm n (.slice 2 0 c none) s)++[.cells true 0 (bt nm n (.slice 2 0 c none) s)]) 2 false rfl,by simp⟩
 have hO:=OracleOk.or' hO1 hO2;obtain⟨L,hL⟩:∃L,L=bM d c:=⟨_,rfl⟩
 rw[←hL] at hO ⊢;have h:aa (aM Tryz.prog) (fun _=>[]) (aL Tryz.prog) (Oracle.or (af (bG [(109,[.str nm],.int .i64 0)])) (dR (kp sh L nm ev))) 1 61 [shA sh,.agg (bt nm n (.slice 2 0 c none) s)] (sH sh L)=some ⟨.int .i64 0,some (sH sh L),[]⟩:=by rw[hev];simp[ca,-aD,ai hb0,ai hb1,bc,aW,a8,a0,a1,Nat.testBit,-lB,fC,fD,aa,hG,Tryz.f61,Oracle.or,af,bG,dR,kp,eX,shA,kS,sH,cD,bt,bO,aH,dK,dT,fz,gG,zo,zK]
 have:=(al ae (aw _) hO (az _) h).1;simpa [CallRes.mem] using this
theorem TK{Z:List Int}{i:Nat}{z:Int}(h:Z[i]? =some z):(qC (qH Z))[i]? =some (.str (ah (hQ z))):=Ta (by simp[qH,h])
def nE(c:Code):List Nat:=if (ad c).contains 18 then [18] else [30]
set_option maxHeartbeats 1600000 in
theorem gW{O:Oracle}{K:Nat}(Z:List Int) (hZ:∀z∈Z,z.natAbs<1000) (hl:Z.length≤1000) (hK:Z.length<K) {mem:Mem}{b0:Nat}{o:Bool}(hm:mem[b0]? =some (.cells o 1 (qC (qH Z)))) {m0:Nat}
  (hO:∀z:Int,z.natAbs<1000→O (.fn 55) [.str (ah (hQ z))] mem=some ⟨.int .i64 0,none,[]⟩) {b1 b:Code}(hb:ax Tryz.f281=[b1,b]):
  ∃F:Env→Bool→Env,∀env0 d,(ab env0 28=.slice b0 0 Z.length none∧ab env0 29=.int .i64 Z.length∧ab env0 30=.int .i64 0)→
   aT (aM Tryz.prog) nE O K 41 m0 true (.loop b) ⟨env0,mem,d⟩=some (.exit 2,⟨F env0 d,mem,d⟩)∧(ab (F env0 d) 16=ab env0 16∧ab (F env0 d) 17=ab env0 17∧ab (F env0 d) 18=ab env0 18∧ab (F env0 d) 2=ab env0 2):=by
 refine cg (L:=[30]) (by simp[ax,aV,Tryz.f281] at hb;rw[←hb.2];rfl) (fun env0=>ab env0 28=.slice b0 0 Z.length none∧ab env0 29=.int .i64 Z.length∧ab env0 30=.int .i64 0) (fun env0 env' =>ab env' 16=ab env0 16∧ab env' 17=ab env0 17∧ab env' 18=ab env0 18∧ab env' 2=ab env0 2) ?_;rintro env0 d ⟨h28,h29,h30⟩;simp[ax,aV,Tryz.f281] at hb;have hn:aI [30] (ad b) env0 ((30,.int .i64 ((0:Nat):Int))::env0)=aI [30] (ad b) env0 env0:=by simp[aI,h30]
 rw[←hn];refine cG (α:=Nat) (fun n=>⟨aI [30] (ad b) env0 ((30,.int .i64 (n:Int))::env0),mem,d⟩) (fun n=>Z.length-n) (fun n=>n≤Z.length) (.exit 2) _ d _ (by simp) ?_ K 0 (by omega) (by omega);rintro n hn1;clear hn;obtain⟨_,rfl⟩:=hb;by_cases hlt:n<Z.length
 ·obtain⟨z,hz⟩:∃z,Z[n]? =some z:=⟨Z[n],List.getElem?_eq_getElem hlt⟩
  have k1:=TK hz;have l1:=hO z (hZ z (List.mem_of_getElem? hz));have w1:IntKind.i64.wrap ((n:Int)+1)=((n+1:Nat):Int):=by rw[aj (by omega) (by omega)];omega
  left;obtain⟨v,hv⟩:∃v,v=n+1:=⟨_,rfl⟩
  rw[←hv] at w1;refine⟨v,?_⟩;simp[h28,h29,hlt,hm,k1,l1,w1];omega
 ·right
  simp[h29,hlt]
def sf(f:FuncId) (args:List AV):Option AV:=match f,args with
 |55,[.str s]=>if s.length≤9 then some (.int .i64 (u4 s)) else none
 |_,_=>none
theorem Mu:OracleOk Tryz.prog (af sf):=bq fun f args v h mem=>by
 unfold sf at h;split at h
 ·split at h
  ·cases h;exact nt _ (by omega) mem
  ·cases h
 ·cases h
noncomputable def iw(s:Sheet) (m:Mem):Oracle:=Oracle.or (af sf) (cw 59 [shA s] (.int .i64 0) (fun M=>∃ext,M=m++ext))
theorem ye(s:Sheet) (m:Mem) (p q:Nat) (o o' :Bool) (hp:m[p]? =some (.cells o 2 (pC s.P))) (hq:m[q]? =some (.cells o' 3 (tC s.T))) (h0:p=0) (h1:q=1):OracleOk Tryz.prog (iw s m):=by subst h0;subst h1;have l0:=(List.getElem?_eq_some_iff.1 hp).1;have l1:=(List.getElem?_eq_some_iff.1 hq).1;refine OracleOk.or' Mu (cS fun M hM=>?_);obtain⟨ext,rfl⟩:=hM;exact du s _ 0 1 o o' (by rw[List.getElem?_append_left l0];exact hp) (by rw[List.getElem?_append_left l1];exact hq)
theorem nS(s:Sheet) (m M:Mem) (z:Int) (h:z.natAbs<1000):iw s m (.fn 55) [.str (ah (hQ z))] M=some ⟨.int .i64 0,none,[]⟩:=by have hl:=yW h;have hc:=qX ((O7 h).mono (by omega) (by omega));simp[iw,Oracle.or,af,sf,hl,hc]
theorem rU(s:Sheet) (m ext:Mem):iw s m (.fn 59) [shA s] (m++ext)=some ⟨.int .i64 0,none,[]⟩:=by simp[iw,Oracle.or,af,sf,cw]
set_option maxHeartbeats 1600000 in
theorem z6(s:Sheet) (Z:List Int) (hZ:∀z∈Z,z.natAbs<1000) (hl:Z.length≤1000) (hn:Z.length=s.P.length) (m:Mem) (b c:Nat) (o1 o2 o3 o4:Bool)
  (hp:m[0]? =some (.cells o1 2 (pC s.P))) (hq:m[1]? =some (.cells o2 3 (tC s.T))) (hb:m[b]? =some (.cells o3 1 (qC (qH Z)))) (hc:m[c]? =some (.cells o4 1 [.slice b 0 Z.length none])):
  ACallsTo Tryz.prog 281 [shA s,.slice c 0 1 none] m (.int .i64 0) m:=by
 have hG:aL Tryz.prog 281=some Tryz.f281:=by kernel_rfl
 have lb:=(List.getElem?_eq_some_iff.1 hb).1;have lc:=(List.getElem?_eq_some_iff.1 hc).1;have hO:=ye s m 0 1 o1 o2 hp hq rfl rfl;obtain⟨b1,b2,hbb⟩:∃b1 b2,ax Tryz.f281=[b1,b2]:=⟨_,_,rfl⟩
 obtain⟨F,hF⟩:=gW (O:=iw s m) (K:=Z.length+3) Z hZ hl (by omega) (mem:=m++[.cells true 0 [.slice 0 0 s.P.length none,.slice 1 0 s.T.length none]]) (b0:=b) (o:=o3) (by rw[List.getElem?_append_left lb];exact hb) (m0:=m.length) (fun z h=>nS s m _ z h) hbb;have hF1:=fun env0 d h28 h29 h30=>(hF env0 d ⟨h28,h29,h30⟩).1
 have g16:=fun env0 d h28 h29 h30=>(hF env0 d ⟨h28,h29,h30⟩).2.1
 have g17:=fun env0 d h28 h29 h30=>(hF env0 d ⟨h28,h29,h30⟩).2.2.1
 have g18:=fun env0 d h28 h29 h30=>(hF env0 d ⟨h28,h29,h30⟩).2.2.2.1
 have g2:=fun env0 d h28 h29 h30=>(hF env0 d ⟨h28,h29,h30⟩).2.2.2.2
 clear hF;simp[ax,aV,Tryz.f281] at hbb;obtain⟨_,rfl⟩:=hbb;have w0:IntKind.i64.wrap 1=1:=rfl;have hms:=rU s m [.cells true 0 [.slice 0 0 s.P.length none,.slice 1 0 s.T.length none]];obtain⟨O,hOO⟩:∃O,O=iw s m:=⟨_,rfl⟩
 rw[←hOO] at hO hF1 hms;have hc' :(m++[.cells true 0 [.slice 0 0 s.P.length none,.slice 1 0 s.T.length none]])[c]? =some (.cells o4 1 [.slice b 0 Z.length none]):=by rw[List.getElem?_append_left lc];exact hc
 refine aZ (lv:=nE) (K:=(Z.length+3)) hO ?_;obtain⟨N,hN⟩:∃N,N=s.P.length:=⟨_,rfl⟩
 simp only[shA,hn,←hN] at hms hF1 g16 g17 g18 g2 hc' ⊢;simp[aa,hG,Tryz.f281,hms,hF1,g18,aB,dV,nE,hc',w0]
set_option maxHeartbeats 1600000 in
theorem z7(s:Sheet) (Z:List Int) (hZ:∀z∈Z,z.natAbs<1000) (hl:Z.length≤1000) (hn:Z.length=s.P.length) (Y:List Int) (hY:∀z∈Y,z.natAbs<1000) (hn2:Y.length=s.P.length) (m:Mem) (b b' c:Nat) (o1 o2 o3 o3' o4:Bool)
  (hp:m[0]? =some (.cells o1 2 (pC s.P))) (hq:m[1]? =some (.cells o2 3 (tC s.T))) (hb:m[b]? =some (.cells o3 1 (qC (qH Z)))) (hb' :m[b']? =some (.cells o3' 1 (qC (qH Y)))) (hc:m[c]? =some (.cells o4 1 [.slice b 0 Z.length none,.slice b' 0 Y.length none])):
  ACallsTo Tryz.prog 281 [shA s,.slice c 0 2 none] m (.int .i64 0) m:=by
 have hG:aL Tryz.prog 281=some Tryz.f281:=by kernel_rfl
 have lb:=(List.getElem?_eq_some_iff.1 hb).1;have lb' :=(List.getElem?_eq_some_iff.1 hb').1;have lc:=(List.getElem?_eq_some_iff.1 hc).1;have hO:=ye s m 0 1 o1 o2 hp hq rfl rfl;obtain⟨b1,b2,hbb⟩:∃b1 b2,ax Tryz.f281=[b1,b2]:=⟨_,_,rfl⟩
 obtain⟨F,hF⟩:=gW (O:=iw s m) (K:=s.P.length+4) Z hZ hl (by omega) (mem:=m++[.cells true 0 [.slice 0 0 s.P.length none,.slice 1 0 s.T.length none]]) (b0:=b) (o:=o3) (by rw[List.getElem?_append_left lb];exact hb) (m0:=m.length) (fun z h=>nS s m _ z h) hbb;have hF1:=fun env0 d h28 h29 h30=>(hF env0 d ⟨h28,h29,h30⟩).1
 have g16:=fun env0 d h28 h29 h30=>(hF env0 d ⟨h28,h29,h30⟩).2.1
 have g17:=fun env0 d h28 h29 h30=>(hF env0 d ⟨h28,h29,h30⟩).2.2.1
 have g18:=fun env0 d h28 h29 h30=>(hF env0 d ⟨h28,h29,h30⟩).2.2.2.1
 have g2:=fun env0 d h28 h29 h30=>(hF env0 d ⟨h28,h29,h30⟩).2.2.2.2
 obtain⟨F2,hF2⟩:=gW (O:=iw s m) (K:=s.P.length+4) Y hY (by omega) (by omega) (mem:=m++[.cells true 0 [.slice 0 0 s.P.length none,.slice 1 0 s.T.length none]]) (b0:=b') (o:=o3') (by rw[List.getElem?_append_left lb'];exact hb') (m0:=m.length) (fun z h=>nS s m _ z h) hbb;have hF1' :=fun env0 d h28 h29 h30=>(hF2 env0 d ⟨h28,h29,h30⟩).1
 have g16' :=fun env0 d h28 h29 h30=>(hF2 env0 d ⟨h28,h29,h30⟩).2.1
 have g17' :=fun env0 d h28 h29 h30=>(hF2 env0 d ⟨h28,h29,h30⟩).2.2.1
 have g18' :=fun env0 d h28 h29 h30=>(hF2 env0 d ⟨h28,h29,h30⟩).2.2.2.1
 have g2' :=fun env0 d h28 h29 h30=>(hF2 env0 d ⟨h28,h29,h30⟩).2.2.2.2
 clear hF hF2;simp[ax,aV,Tryz.f281] at hbb;obtain⟨_,rfl⟩:=hbb;have w2:IntKind.i64.wrap 2=2:=rfl;have w0:IntKind.i64.wrap 1=1:=rfl;have hms:=rU s m [.cells true 0 [.slice 0 0 s.P.length none,.slice 1 0 s.T.length none]];obtain⟨O,hOO⟩:∃O,O=iw s m:=⟨_,rfl⟩
 rw[←hOO] at hO hF1 hF1' hms;have hc' :(m++[.cells true 0 [.slice 0 0 s.P.length none,.slice 1 0 s.T.length none]])[c]? =some (.cells o4 1 [.slice b 0 Z.length none,.slice b' 0 Y.length none]):=by rw[List.getElem?_append_left lc];exact hc
 refine aZ (lv:=nE) (K:=(s.P.length+4)) hO ?_;obtain⟨N,hN⟩:∃N,N=s.P.length:=⟨_,rfl⟩
 simp only[shA,hn,hn2,←hN] at hms hF1 g16 g17 g18 g2 hF1' g16' g17' g18' g2' hc' ⊢;simp[aa,hG,Tryz.f281,hms,hF1,g18,hF1',g18',w2,aB,dV,nE,hc',w0]
theorem nB(s:Sheet) (Z:List Int) (hZ:∀z∈Z,z.natAbs<1000) (hl:Z.length≤1000) (hn:Z.length=s.P.length) (m:Mem) (b:Nat) (o1 o2 o3:Bool)
  (hp:m[0]? =some (.cells o1 2 (pC s.P))) (hq:m[1]? =some (.cells o2 3 (tC s.T))) (hb:m[b]? =some (.cells o3 1 (qC (qH Z)))):
  ACallsTo Tryz.prog 250 [shA s,.slice b 0 Z.length none] m (.int .i64 0) m:=by
 have hG:aL Tryz.prog 250=some Tryz.f250:=by kernel_rfl
 have l0:=(List.getElem?_eq_some_iff.1 hp).1;have l1:=(List.getElem?_eq_some_iff.1 hq).1;have lb:=(List.getElem?_eq_some_iff.1 hb).1;obtain⟨E,hE⟩:∃E:Mem,E=[.cells true 0 [.slice 0 0 s.P.length none,.slice 1 0 s.T.length none],.cells true 1 [.slice b 0 Z.length none]]:=⟨_,rfl⟩
 have hk:=z6 s Z hZ hl hn (m++E) b (m.length+1) o1 o2 o3 true (by rw[List.getElem?_append_left l0];exact hp) (by rw[List.getElem?_append_left l1];exact hq) (by rw[List.getElem?_append_left lb];exact hb) (by rw[hE];simp);have hO:OracleOk Tryz.prog (dR [(281,[shA s,.slice (m.length+1) 0 1 none],m++E,⟨.int .i64 0,none,[]⟩)]):=er fun e he=>by simp only[List.mem_cons,List.not_mem_nil,or_false] at he;subst he;exact⟨by simpa [CallRes.mem] using hk,by simp⟩
 refine aZ (K:=1) (lv:=fun _=>[]) hO ?_;rw[hE];simp[aa,hG,Tryz.f250,dR,shA]
theorem R3{a b:Int}(h:a≤b):¬0<qY (hQ a) (hQ b):=by have:=qZ.2 (TE h);omega
set_option maxHeartbeats 1600000 in
theorem xR{O:Oracle}{K:Nat}(Z Y:List Int) (hZY:∀(i:Nat) z y,Z[i]? =some z→Y[i]? =some y→z≤y∧z.natAbs<1000∧y.natAbs<1000) (hn:Z.length=Y.length) (hl:Z.length≤1000) (hK:Z.length<K) {mem:Mem}{b0 b1:Nat}{o o' :Bool}(hm:mem[b0]? =some (.cells o 1 (qC (qH Z)))) (hm' :mem[b1]? =some (.cells o' 1 (qC (qH Y)))) {m0:Nat}
  (hO:∀z y:Int,z.natAbs<1000→y.natAbs<1000→O (.fn 85) [.str (ah (hQ z)),.str (ah (hQ y))] mem=some ⟨.int .i64 (qY (hQ z) (hQ y)),none,[]⟩) {b:Code}(hb:ax Tryz.f251=[b]):
  ∃F:Env→Bool→Env,∀env0 d,(ab env0 19=.slice b0 0 Z.length none∧ab env0 20=.int .i64 Z.length∧ab env0 21=.int .i64 0∧ab env0 2=.slice b1 0 Z.length none)→
   aT (aM Tryz.prog) (fun _=>[21]) O K 34 m0 true (.loop b) ⟨env0,mem,d⟩=some (.exit 0,⟨F env0 d,mem,d⟩)∧True:=by
 refine cg (L:=[21]) rfl (fun env0=>ab env0 19=.slice b0 0 Z.length none∧ab env0 20=.int .i64 Z.length∧ab env0 21=.int .i64 0∧ab env0 2=.slice b1 0 Z.length none) (fun _ _=>True) ?_;rintro env0 d ⟨h28,h29,h30,h2⟩;simp[ax,aV,Tryz.f251] at hb;have hn0:aI [21] (ad b) env0 ((21,.int .i64 ((0:Nat):Int))::env0)=aI [21] (ad b) env0 env0:=by simp[aI,h30]
 rw[←hn0];refine cG (α:=Nat) (fun n=>⟨aI [21] (ad b) env0 ((21,.int .i64 (n:Int))::env0),mem,d⟩) (fun n=>Z.length-n) (fun n=>n≤Z.length) (.exit 0) _ d _ (by simp) ?_ K 0 (by omega) (by omega);rintro n hn1;clear hn0;subst hb;by_cases hlt:n<Z.length
 ·obtain⟨z,hz⟩:∃z,Z[n]? =some z:=⟨Z[n],List.getElem?_eq_getElem hlt⟩
  obtain⟨y,hy⟩:∃y,Y[n]? =some y:=⟨Y[n]'(by omega),List.getElem?_eq_getElem (by omega)⟩
  have k1:=TK hz;have k2:=TK hy;obtain⟨p1,p2,p3⟩:=hZY n z y hz hy;have l1:=hO z y p2 p3;have c1:=R3 p1;have w1:IntKind.i64.wrap ((n:Int)+1)=((n+1:Nat):Int):=by rw[aj (by omega) (by omega)];omega
  left;obtain⟨v,hv⟩:∃v,v=n+1:=⟨_,rfl⟩
  rw[←hv] at w1;refine⟨v,?_⟩;simp[h28,h29,h2,hlt,hm,hm',k1,k2,l1,w1,c1];omega
 ·right
  simp[h29,hlt]
open Classical in
noncomputable def rR(f:FuncId) (args:List AV):Option AV:=match f,args with
 |85,[.str s,.str t]=>match cV s,cV t with
  |some a,some b=>if big 3 a∧big 3 b then some (.int .i64 (qY a b)) else none
  |_,_=>none
 |_,_=>none
theorem KH{k:Nat}{q:Rat}(h0:0<k) (hk:k≤9) (h:big k q):fine q:=by have h1:=bf h0 h.1;have h2:=bf h0 h.2;exact⟨by omega,by omega⟩
theorem LS:OracleOk Tryz.prog (af rR):=bq fun f args v h mem=>by
 unfold rR at h;split at h
 ·split at h
  ·rename_i a b ha hb
   split at h
   ·rename_i hc
    cases h;rw[au ha,au hb];exact pP a b (KH (by decide) (by decide) hc.1) (KH (by decide) (by decide) hc.2) mem
   ·cases h
  ·cases h
 ·cases h
set_option maxHeartbeats 1600000 in
theorem nA(s:Sheet) (Z Y:List Int) (hZ:∀z∈Z,z.natAbs<1000) (hY:∀z∈Y,z.natAbs<1000) (hl:Z.length≤1000) (hn:Z.length=s.P.length) (hn2:Y.length=s.P.length) (hZY:∀(i:Nat) z y,Z[i]? =some z→Y[i]? =some y→z≤y) (m:Mem) (b b' :Nat) (o1 o2 o3 o4:Bool)
  (hp:m[0]? =some (.cells o1 2 (pC s.P))) (hq:m[1]? =some (.cells o2 3 (tC s.T))) (hb:m[b]? =some (.cells o3 1 (qC (qH Z)))) (hb' :m[b']? =some (.cells o4 1 (qC (qH Y)))):
  ACallsTo Tryz.prog 251 [shA s,.slice b 0 Z.length none,.slice b' 0 Y.length none] m (.tuple [.bool true,.int .i64 0]) m:=by
 have hG:aL Tryz.prog 251=some Tryz.f251:=by kernel_rfl
 have l0:=(List.getElem?_eq_some_iff.1 hp).1;have l1:=(List.getElem?_eq_some_iff.1 hq).1;have lb:=(List.getElem?_eq_some_iff.1 hb).1;have lb' :=(List.getElem?_eq_some_iff.1 hb').1;obtain⟨E,hE⟩:∃E:Mem,E=[.cells true 0 [.slice 0 0 s.P.length none,.slice 1 0 s.T.length none],.cells true 1 [.slice b 0 Z.length none,.slice b' 0 Y.length none]]:=⟨_,rfl⟩
 have hk:=z7 s Z hZ hl hn Y hY hn2 (m++E) b b' (m.length+1) o1 o2 o3 o4 true (by rw[List.getElem?_append_left l0];exact hp) (by rw[List.getElem?_append_left l1];exact hq) (by rw[List.getElem?_append_left lb];exact hb) (by rw[List.getElem?_append_left lb'];exact hb') (by rw[hE];simp);obtain⟨O,hOO⟩:∃O,O=Oracle.or (af rR) (dR [(281,[shA s,.slice (m.length+1) 0 2 none],m++E,⟨.int .i64 0,none,[]⟩)]):=⟨_,rfl⟩
 have hO:OracleOk Tryz.prog O:=by rw[hOO];refine OracleOk.or' LS (er fun e he=>?_);simp only[List.mem_cons,List.not_mem_nil,or_false] at he;subst he;exact⟨by simpa [CallRes.mem] using hk,by simp⟩
 have hO1:O (.fn 281) [shA s,.slice (m.length+1) 0 2 none] (m++E)=some ⟨.int .i64 0,none,[]⟩:=by rw[hOO];simp[Oracle.or,af,rR,dR]
 have hO2:∀z y:Int,z.natAbs<1000→y.natAbs<1000→O (.fn 85) [.str (ah (hQ z)),.str (ah (hQ y))] (m++E)=some ⟨.int .i64 (qY (hQ z) (hQ y)),none,[]⟩:=fun z y hz hy=>by have e1:=O7 hz;have e2:=O7 hy;have b1:big 3 (hQ z):=⟨e1.1,by have:=e1.2;omega⟩;have b2:big 3 (hQ y):=⟨e2.1,by have:=e2.2;omega⟩;rw[hOO];simp[Oracle.or,af,rR,ay,b1,b2]
 clear hOO;obtain⟨bb,hbb⟩:∃b,ax Tryz.f251=[b]:=⟨_,rfl⟩
 obtain⟨F,hF⟩:=xR (O:=O) (K:=s.P.length+1) Z Y (fun i z y hz hy=>⟨hZY i z y hz hy,hZ z (List.mem_of_getElem? hz),hY y (List.mem_of_getElem? hy)⟩) (by omega) hl (by omega) (mem:=m++E) (b0:=b) (b1:=b') (o:=o3) (o' :=o4) (by rw[List.getElem?_append_left lb];exact hb) (by rw[List.getElem?_append_left lb'];exact hb') (m0:=m.length) hO2 hbb;have hF1:=fun env0 d h1 h2 h3 h4=>(hF env0 d ⟨h1,h2,h3,h4⟩).1
 clear hF hO2;simp[ax,aV,Tryz.f251] at hbb;subst hbb;refine aZ (lv:=(fun _=>[21])) (K:=(s.P.length+1)) hO ?_;clear hk;obtain⟨N,hN⟩:∃N,N=s.P.length:=⟨_,rfl⟩
 subst hE;simp only[shA,hn,hn2,←hN] at hO1 hF1 ⊢;simp[aa,hG,Tryz.f251,hO1,hF1]
end Go.Proofs
