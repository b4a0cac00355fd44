/- See M58. -/
import Derived.Test.YtmhkeaphiadacaaGreatDoorM37
import Derived.Test.YtmhkeaphiadacaaGreatDoorM38
set_option linter.all false
namespace Go.Proofs
open Go.Eng
theorem Gk:∀L:List P2,pC L=kC (kT L)
 | []=>rfl
 |p::L=>by
  have:=Gk L
  simp[pC,kC,kT,this]
theorem Bf(d:Deed) (j:Nat) (hj:j<3):uS (aK (ve d j).1)=0∧uS (aK (ve d j).2)=0:=by
 have h3: -3<d.N.tmod 3∧d.N.tmod 3<3:=nQ d.N 3 (by decide)
 have hk:G8 d.K j%4<4:=Nat.mod_lt _ (by decide)
 obtain⟨u,hu⟩:∃u,u=G8 d.K j%4:=⟨_,rfl⟩
 rw[←hu] at hk
 refine⟨Pm (n:=d.N.tmod 3+2*j) (by omega),?_⟩
 have hd:d.K.2.2.2%2<2:=Nat.mod_lt _ (by decide)
 obtain⟨v,hv⟩:∃v,v=d.K.2.2.2%2:=⟨_,rfl⟩
 rw[←hv] at hd
 have:dg 3 1 (mkRat ((u:Int)-1) (1+v)):=qL (by omega) (by omega) (by omega)
 unfold ve
 rw[←hu,←hv]
 exact tA (this.mono (by omega) (by omega))
theorem Pz(d:Deed) (c:Nat) (h1:0<c) (hc:c≤3):knE (kT (cg d c))=0:=by
 have k0:=Bf d 0 (by omega)
 have k1:=Bf d 1 (by omega)
 have k2:=Bf d 2 (by omega)
 have p:∀q:Rat,dz (aK q)=some q:=aM
 have l:∀i j:Nat,i<j→(ve d i).1<(ve d j).1:=fun i j h=>by
  simp only[ve]
  exact_mod_cast (by omega:d.N.tmod 3+2*(i:Int)<d.N.tmod 3+2*(j:Int))
 have l1:=l 0 1 (by omega)
 have l2:=l 1 2 (by omega)
 have r1:List.range 1=[0]:=rfl
 have r2:List.range 2=[0,1]:=rfl
 have r3:List.range 3=[0,1,2]:=rfl
 have:c=1∨c=2∨c=3:=by omega
 rcases this with rfl | rfl | rfl
 ·simp[knE,cg,r1,kT,ckE,k0,p,zK]
 ·simp[knE,cg,r2,kT,ckE,k0,k1,p,zK,l1]
 ·simp[knE,cg,r3,kT,ckE,k0,k1,k2,p,zK,l1,l2]
theorem si(d:Deed) (c:Nat) (h1:0<c) (hc:c≤3) (M:Mem) (b:Nat) (o:Bool) (hb:M[b]? =some (.cells o 2 (pC (cg d c)))):
  ACallsTo Tryz.prog 210 [.slice b 0 c none] M (.int .i64 0) M:=by
 have hl:(kT (cg d c)).length=c:=by rw[ib,eh]
 have h:=sI (kT (cg d c)) (fun q hq=>by
  simp only[kT,cg,List.map_map,List.mem_map,List.mem_range] at hq
  obtain⟨j,hj,rfl⟩:=hq
  have h3: -3<d.N.tmod 3∧d.N.tmod 3<3:=nQ d.N 3 (by decide)
  obtain⟨u,hu⟩:∃u,u=G8 d.K j%4:=⟨_,rfl⟩
  have hk:u<4:=by rw[hu];exact Nat.mod_lt _ (by decide)
  obtain⟨v,hv⟩:∃v,v=d.K.2.2.2%2:=⟨_,rfl⟩
  have hd:v<2:=by rw[hv];exact Nat.mod_lt _ (by decide)
  have e1:dg 3 1 (mkRat ((u:Int)-1) (1+v)):=qL (by omega) (by omega) (by omega)
  have b2:big 3 (mkRat ((u:Int)-1) (1+v)):=⟨e1.1,by have:=e1.2;omega⟩
  have e2:=Ak (by decide) b2
  have e3:=dY (n:=d.N.tmod 3+2*j) (by omega)
  have f1:(((fun q=>(aK q.1,aK q.2))∘ve d) j).1=zS (d.N.tmod 3+2*j):=rfl
  have f2:(((fun q=>(aK q.1,aK q.2))∘ve d) j).2=aK (mkRat ((u:Int)-1) (1+v)):=by rw[hu,hv];rfl
  rw[f1,f2]
  exact⟨by unfold zS;omega,by omega⟩) (by omega)
 rw[hl,Pz d c h1 hc,←Gk] at h
 exact ACallsTo.rows1R (rest:=[]) (dq _) rfl rfl h ⟨b,o,_,rfl,hb,List.take_length⟩
theorem yC(d:Nat) (a b:List UInt8):iD (aA Tryz.prog) (d+2) 110 (.agg [.str a,.str b]) (.agg [.str a,.str b])=some true:=by
 have i:=gj d
 rw[iD]
 simp[Li,gu,TyI.isAgg,i]
set_option maxHeartbeats 1600000 in
theorem K8(L:List P2) (h1:0<L.length) (hc:L.length≤3):
  ACallsTo Tryz.prog 84 [.slice 0 0 L.length none,.slice 0 0 L.length none] [.cells false 2 (pC L)] (.bool true) [.cells false 2 (pC L)]:=by
 have hG:aF Tryz.prog 84=some Tryz.f84:=by kernel_rfl
 obtain⟨os,hops⟩:∃os,aE Tryz.f84=os:=⟨_,rfl⟩
 have hbs:=aS hops (ls:=[[0,0,3,7,0,0,48,112,255]]) (by kernel_rfl)
 simp only[aE,bw,Tryz.f84,List.nil_append,List.append_nil,List.cons_append] at hops
 subst hops
 simp only[List.map_cons,List.map_nil,List.cons.injEq,and_true] at hbs
 have a0:aN [0,0,3,7,0,0,48,112,255] 8=true:=by decide
 have e:=fun d=>yC d
 have w1:IntKind.i64.wrap 1=1:=rfl
 have w2:IntKind.i64.wrap 2=2:=rfl
 have w3:IntKind.i64.wrap 3=3:=rfl
 have h:ad (aA Tryz.prog) (fun _=>[13]) (aF Tryz.prog) aD 5 84 [.slice 0 0 L.length none,.slice 0 0 L.length none] [.cells false 2 (pC L)]=some ⟨.bool true,none,[]⟩:=by
  match L,h1,hc with
  | [p],_,_=>simp[-aC,ar hbs,bN,bt,bJ,a0,Nat.testBit,ad,hG,Tryz.f84,ay,dN,pC,e,w1,w2,w3]
  | [p,q],_,_=>simp[-aC,ar hbs,bN,bt,bJ,a0,Nat.testBit,ad,hG,Tryz.f84,ay,dN,pC,e,w1,w2,w3]
  | [p,q,r],_,_=>simp[-aC,ar hbs,bN,bt,bJ,a0,Nat.testBit,ad,hG,Tryz.f84,ay,dN,pC,e,w1,w2,w3]
 have:=(ae aa (aj _) (af _) (al _) h).1
 simpa [CallRes.mem] using this
theorem MI(L:List P2) (h1:0<L.length) (hc:L.length≤3) (M:Mem) (b:Nat) (o:Bool) (hb:M[b]? =some (.cells o 2 (pC L))):
  ACallsTo Tryz.prog 84 [.slice b 0 L.length none,.slice b 0 L.length none] M (.bool true) M:=by
 have hlt:=(List.getElem?_eq_some_iff.1 hb).1
 have:=ACallsTo.frame (M:=M) (new:=[]) [b] rfl (by simpa using hlt) (by rfl) (fun i t hs=>by
  match i with
  |0=>simp at hs;subst hs;exact bf (dq _) hb List.take_length
  |i+1=>simp at hs) rfl (K8 L h1 hc)
 simpa [AV.rens,AV.ren,cR] using this
open Classical in
noncomputable def gS(f:FuncId) (args:List AV) (v:AV) (p:Mem→Prop):Oracle:=fun c a M=>if c=.fn f∧a=args∧p M then some ⟨v,none,[]⟩ else none
theorem jM{P:Program}{f:FuncId}{args:List AV}{v:AV}{p:Mem→Prop}(h:∀M,p M→ACallsTo P f args M v M):OracleOk P (gS f args v p):=by
 have k:∀c a M r,gS f args v p c a M=some r→(c=.fn f∧a=args∧p M)∧r=⟨v,none,[]⟩:=fun c a M r hr=>by
  unfold gS at hr
  split at hr
  ·cases hr;exact⟨‹_›,rfl⟩
  ·cases hr
 refine⟨fun g a M r hr=>?_,fun b a M r hr=>?_,fun c a M r q hr hq=>?_⟩
 ·obtain⟨⟨h1,rfl,h2⟩,rfl⟩:=k _ _ _ _ hr
  cases h1
  simpa [CallRes.mem] using h M h2
 ·obtain⟨⟨h1,_⟩,_⟩:=k _ _ _ _ hr
  cases h1
 ·obtain⟨_,rfl⟩:=k _ _ _ _ hr
  cases hq
theorem zf(nm:List UInt8) (n:Z3) (L:List P2) (s:Z3) (h1:0<L.length) (hc:L.length≤3) (M:Mem) (b:Nat) (o:Bool) (hb:M[b]? =some (.cells o 2 (pC L))):
  ACallsTo Tryz.prog 49 [.agg (bp nm n (.slice b 0 L.length none) s),.agg (bp nm n (.slice b 0 L.length none) s)] M (.bool true) M:=by
 have hlt:=(List.getElem?_eq_some_iff.1 hb).1
 refine gD (OracleOk.or' fX (jM (f:=84) (args:=[.slice b 0 L.length none,.slice b 0 L.length none]) (v:=.bool true) (p:=fun M' =>M'[b]? =some (.cells o 2 (pC L))) fun M' h=>MI L h1 hc M' b o h)) rfl rfl rfl ?_
 have:(M++[.cells true 0 (bp nm n (.slice b 0 L.length none) s),.cells true 0 (bp nm n (.slice b 0 L.length none) s)])[b]? =some (.cells o 2 (pC L)):=by rw[List.getElem?_append_left hlt];exact hb
 unfold Oracle.or
 rw[show pn (.fn 84) [.slice b 0 L.length none,.slice b 0 L.length none] _=none from rfl]
 simp only[gS]
 exact if_pos ⟨rfl,rfl,this⟩
def ej:AV:=.agg [.func 159 [],.func 160 [],.func 161 [],.func 162 [],.func 163 []]
theorem yb(nm:List UInt8) (n:Z3) (c:Nat) (s:Z3):ACallsTo Tryz.prog 81 [.agg (bp nm n (.slice 0 0 c none) s)] [.absent] ej [.absent]:=by
 have h:ad (aA Tryz.prog) ab (aF Tryz.prog) ra 6 81 [.agg (bp nm n (.slice 0 0 c none) s)] [.absent]=some ⟨ej,none,[]⟩:=by as_aux_lemma=>kernel_rfl
 have:=(ae aa (aj _) fU (al _) h).1
 simpa [CallRes.mem] using this
theorem pV(nm:List UInt8) (n:Z3) (c:Nat) (s:Z3) (M:Mem) (b:Nat) (hb:b<M.length):ACallsTo Tryz.prog 81 [.agg (bp nm n (.slice b 0 c none) s)] M ej M:=by
 have:=ACallsTo.frame (M:=M) (new:=[]) [b] rfl (by simpa using hb) (by rfl) (fun i t hs=>by
  match i with
  |0=>simp at hs;subst hs;trivial
  |i+1=>simp at hs) rfl (yb nm n c s)
 simpa [bp,AV.rens,AV.ren,cR,ej] using this
noncomputable def ge(n s:Z3):List (FuncId×List AV×AV):=[
 (53,[zA n],.int .i64 0),
 (209,[zA s,zA n],.int .i64 0)]
theorem Fd(nm:List UInt8) (n s:Z3) (d:Deed) (c:Nat) (h1:0<c) (hc:c≤3) (hn:fB 99 n) (hz:ie n=false) (hs:fB 99 s) (hd:Jl s n=0) (x y:AV) (m:Mem) (b:Nat) (o:Bool) (hb:m[b]? =some (.cells o 2 (pC (cg d c)))):
  ACallsTo Tryz.prog 160 [.agg [x,y],.agg (bp nm n (.slice b 0 c none) s)] m (.int .i64 0) m:=by
 have hG:aF Tryz.prog 160=some Tryz.f160:=by kernel_rfl
 have hlt:=(List.getElem?_eq_some_iff.1 hb).1
 have hO1:OracleOk Tryz.prog (ao (bU (ge n s))):=ee fun e he M=>by
  simp only[ge,List.mem_cons,List.not_mem_nil,or_false] at he
  rcases he with rfl | rfl
  ·exact rU n hn M
  ·exact wl s n hs hn hd M
 have hO2:OracleOk Tryz.prog (gS 210 [.slice b 0 c none] (.int .i64 0) (fun M=>∃ext,M=m++ext)):=jM fun M hM=>by
  obtain⟨ext,rfl⟩:=hM
  exact si d c h1 hc _ b o (by rw[List.getElem?_append_left hlt];exact hb)
 have hO:=OracleOk.or' hO1 hO2
 have e1:=mI n.1
 have e2:=mI n.2.1
 have e3:=mI n.2.2
 have hbz:((zS n.1==[48]&&zS n.2.1==[48])&&zS n.2.2==[48])=false:=by rw[e1,e2,e3];exact hz
 clear hO1 hO2 hb hlt hd hs hz hn e1 e2 e3
 obtain⟨n1,n2,n3⟩:=n
 simp only at hbz
 obtain⟨A,hA⟩:∃A,A=zS n1:=⟨_,rfl⟩
 obtain⟨B,hB⟩:∃A,A=zS n2:=⟨_,rfl⟩
 obtain⟨C,hC⟩:∃A,A=zS n3:=⟨_,rfl⟩
 rw[←hA,←hB,←hC] at hbz
 have h:ad (aA Tryz.prog) (fun _=>[]) (aF Tryz.prog) (Oracle.or (ao (bU (ge (n1,n2,n3) s))) (gS 210 [.slice b 0 c none] (.int .i64 0) (fun M=>∃ext,M=m++ext))) 1 160 [.agg [x,y],.agg (bp nm (n1,n2,n3) (.slice b 0 c none) s)] m=some ⟨.int .i64 0,none,[]⟩:=by
  have hab:(A==[48])=false∨((A==[48])=true∧(B==[48])=false)∨((A==[48])=true∧(B==[48])=true∧(C==[48])=false):=by
   cases ha:(A==[48])<;>cases hb:(B==[48])<;>cases hc:(C==[48])<;>simp_all
  rcases hab with ha | ⟨ha,hb⟩ | ⟨ha,hb,hc⟩
  ·simp[ad,hG,Tryz.f160,Oracle.or,ao,ge,bU,gS,bp,zA,←hA,←hB,←hC,ha]
  ·simp[ad,hG,Tryz.f160,Oracle.or,ao,ge,bU,gS,bp,zA,←hA,←hB,←hC,ha,hb]
  ·simp[ad,hG,Tryz.f160,Oracle.or,ao,ge,bU,gS,bp,zA,←hA,←hB,←hC,ha,hb,hc]
 have:=(ae aa (aj _) hO (al _) h).1
 simpa [CallRes.mem] using this
def qW(s:Sheet) (L:List P2):Mem:=[.cells false 2 (pC s.P),.cells false 3 (tC s.T),.cells false 2 (pC L)]
def kH(s:Sheet) (L:List P2) (ev:List AV):Mem:=[.cells false 2 (pC s.P),.cells false 3 (tC s.T),.cells false 2 (pC L),.cells true 0 [.slice 0 0 s.P.length none,.slice 1 0 s.T.length none],.cells true 0 ev]
theorem vp(sh:Sheet) (nm:List UInt8) (n s:Z3) (L:List P2) (c:Nat):
  ACallsTo Tryz.prog 159 [.agg (bp nm n (.slice 2 0 c none) s),.ptr 5 0] (kH sh L (bp nm n (.slice 2 0 c none) s)++[.cells true 0 (bZ 3 nm)]) (.tuple []) (kH sh L (bp nm n (.slice 2 0 c none) s)++[.cells true 0 (bp nm n (.slice 2 0 c none) s)]):=by
 have hG:aF Tryz.prog 159=some Tryz.f159:=by kernel_rfl
 have h:ad (aA Tryz.prog) (fun _=>[]) (aF Tryz.prog) aD 1 159 [.agg (bp nm n (.slice 2 0 c none) s),.ptr 5 0] (kH sh L (bp nm n (.slice 2 0 c none) s)++[.cells true 0 (bZ 3 nm)])=some ⟨.tuple [],some (kH sh L (bp nm n (.slice 2 0 c none) s)++[.cells true 0 (bp nm n (.slice 2 0 c none) s)]),[]⟩:=by
  simp[ad,hG,Tryz.f159,kH,bZ,bp,cu,cJ,dX,gv,List.idxOf?_cons]
 have:=(ae aa (aj _) (af _) (al _) h).1
 simpa [CallRes.mem] using this
noncomputable def jQ(sh:Sheet) (L:List P2) (nm:List UInt8) (ev:List AV):List (FuncId×List AV×Mem×CallRes):=[
 (41,[shA sh],kH sh L ev,⟨.int .i64 0,none,[]⟩),
 (81,[.agg ev],kH sh L ev++[.cells true 0 (bZ 3 nm)],⟨ej,none,[]⟩),
 (159,[.agg ev,.ptr 5 0],kH sh L ev++[.cells true 0 (bZ 3 nm)],⟨.tuple [],some (kH sh L ev++[.cells true 0 ev]),[]⟩),
 (49,[.agg ev,.agg ev],kH sh L ev++[.cells true 0 ev],⟨.bool true,none,[]⟩),
 (81,[.agg ev],kH sh L ev++[.cells true 0 ev],⟨ej,none,[]⟩),
 (160,[shA sh,.agg ev],kH sh L ev++[.cells true 0 ev],⟨.int .i64 0,none,[]⟩)]
theorem sU(sh:Sheet) (nm:List UInt8) (n s:Z3) (d:Deed) (c:Nat) (h1:0<c) (hc:c≤3) (hm:nm∈bu) (hn:fB 99 n) (hz:ie n=false) (hs:fB 99 s) (hd:Jl s n=0):
  ACallsTo Tryz.prog 43 [shA sh,.agg (bp nm n (.slice 2 0 c none) s)] (qW sh (cg d c)) (.int .i64 0) (qW sh (cg d c)):=by
 have hG:aF Tryz.prog 43=some Tryz.f43:=by kernel_rfl
 obtain⟨os,hops⟩:∃os,aE Tryz.f43=os:=⟨_,rfl⟩
 have hbs:=aS hops (ls:=[[0,1,3,0,15],[0,1,3,0,0,31,63]]) (by kernel_rfl)
 simp only[aE,bw,Tryz.f43,List.nil_append,List.append_nil,List.cons_append] at hops
 subst hops
 simp only[List.map_cons,List.map_nil,List.cons.injEq,and_true] at hbs
 obtain⟨hb0,hb1⟩:=hbs
 have a0:aN [0,1,3,0,15] 4=true:=by decide
 have a1:aN [0,1,3,0,0,31,63] 6=true:=by decide
 have hl:=eh d c
 obtain⟨ev,hev⟩:∃ev,ev=bp nm n (.slice 2 0 c none) s:=⟨_,rfl⟩
 have hO1:OracleOk Tryz.prog (ao (bU [(80,[.str nm],.int .i64 0)])):=ee fun e he M=>by
  simp only[List.mem_cons,List.not_mem_nil,or_false] at he
  subst he
  exact cw nm hm M
 have hO2:OracleOk Tryz.prog (cd (jQ sh (cg d c) nm ev)):=du fun e he=>by
  simp only[jQ,List.mem_cons,List.not_mem_nil,or_false] at he
  subst hev
  have hq:=zf nm n (cg d c) s (by omega) (by omega) (kH sh (cg d c) (bp nm n (.slice 2 0 c none) s)++[.cells true 0 (bp nm n (.slice 2 0 c none) s)]) 2 false rfl
  rw[hl] at hq
  rcases he with rfl | rfl | rfl | rfl | rfl | rfl
  ·exact⟨by simpa [CallRes.mem,shA] using di sh (kH sh (cg d c) (bp nm n (.slice 2 0 c none) s)) 0 1 false false rfl rfl,by simp⟩
  ·exact⟨by simpa [CallRes.mem] using pV nm n c s (kH sh (cg d c) (bp nm n (.slice 2 0 c none) s)++[.cells true 0 (bZ 3 nm)]) 2 (by simp[kH]),by simp⟩
  ·exact⟨by simpa [CallRes.mem] using vp sh nm n s (cg d c) c,by simp[kH]⟩
  ·exact⟨by simpa [CallRes.mem] using hq,by simp⟩
  ·exact⟨by simpa [CallRes.mem] using pV nm n c s (kH sh (cg d c) (bp nm n (.slice 2 0 c none) s)++[.cells true 0 (bp nm n (.slice 2 0 c none) s)]) 2 (by simp[kH]),by simp⟩
  ·exact⟨by simpa [CallRes.mem,shA] using Fd nm n s d c h1 hc hn hz hs hd (.slice 0 0 sh.P.length none) (.slice 1 0 sh.T.length none) (kH sh (cg d c) (bp nm n (.slice 2 0 c none) s)++[.cells true 0 (bp nm n (.slice 2 0 c none) s)]) 2 false rfl,by simp⟩
 have hO:=OracleOk.or' hO1 hO2
 obtain⟨L,hL⟩:∃L,L=cg d c:=⟨_,rfl⟩
 rw[←hL] at hO ⊢
 have h:ad (aA Tryz.prog) (fun _=>[]) (aF Tryz.prog) (Oracle.or (ao (bU [(80,[.str nm],.int .i64 0)])) (cd (jQ sh L nm ev))) 1 43 [shA sh,.agg (bp nm n (.slice 2 0 c none) s)] (qW sh L)=some ⟨.int .i64 0,some (qW sh L),[]⟩:=by
  rw[hev]
  simp[bO,-aC,ar hb0,ar hb1,bN,bt,bJ,a0,a1,Nat.testBit,-kW,fh,fc,ad,hG,Tryz.f43,Oracle.or,ao,bU,cd,jQ,ej,shA,kH,qW,bZ,bp,bH,ax,cu,cJ,dX,gv,nO,pw,List.idxOf?_cons]
 have:=(ae aa (aj _) hO (al _) h).1
 simpa [CallRes.mem] using this
theorem QT{Z:List Int}{i:Nat}{z:Int}(h:Z[i]? =some z):(qC (qH Z))[i]? =some (.str (aK (hQ z))):=Qn (by simp[qH,h])
def oD(c:Code):List Nat:=if (ab c).contains 18 then [18] else [30]
set_option maxHeartbeats 1600000 in
theorem gG{O:Oracle}{K:Nat}(Z:List Int) (hZ:∀z∈Z,z.natAbs<1000) (hl:Z.length≤1000) (hK:Z.length<K) {mem:Mem}{b0:Nat}{o:Bool}(hm:mem[b0]? =some (.cells o 1 (qC (qH Z)))) {m0:Nat}
  (hO:∀z:Int,z.natAbs<1000→O (.fn 125) [.str (aK (hQ z))] mem=some ⟨.int .i64 0,none,[]⟩) {b1 b:Code}(hb:am Tryz.f236=[b1,b]):
  ∃F:Env→Bool→Env,∀env0 d,(ac env0 28=.slice b0 0 Z.length none∧ac env0 29=.int .i64 Z.length∧ac env0 30=.int .i64 0)→
   aH (aA Tryz.prog) oD O K 41 m0 true (.loop b) ⟨env0,mem,d⟩=some (.exit 2,⟨F env0 d,mem,d⟩)∧(ac (F env0 d) 16=ac env0 16∧ac (F env0 d) 17=ac env0 17∧ac (F env0 d) 18=ac env0 18∧ac (F env0 d) 2=ac env0 2):=by
 refine bo (L:=[30]) (by simp[am,aB,Tryz.f236] at hb;rw[←hb.2];rfl) (fun env0=>ac env0 28=.slice b0 0 Z.length none∧ac env0 29=.int .i64 Z.length∧ac env0 30=.int .i64 0) (fun env0 env' =>ac env' 16=ac env0 16∧ac env' 17=ac env0 17∧ac env' 18=ac env0 18∧ac env' 2=ac env0 2) ?_
 rintro env0 d ⟨h28,h29,h30⟩
 simp[am,aB,Tryz.f236] at hb
 have hn:aw [30] (ab b) env0 ((30,.int .i64 ((0:Nat):Int))::env0)=aw [30] (ab b) env0 env0:=by simp[aw,h30]
 rw[←hn]
 refine bD (α:=Nat) (fun n=>⟨aw [30] (ab b) env0 ((30,.int .i64 (n:Int))::env0),mem,d⟩) (fun n=>Z.length-n) (fun n=>n≤Z.length) (.exit 2) _ d _ (by simp) ?_ K 0 (by omega) (by omega)
 rintro n hn1
 clear hn
 obtain⟨_,rfl⟩:=hb
 by_cases hlt:n<Z.length
 ·obtain⟨z,hz⟩:∃z,Z[n]? =some z:=⟨Z[n],List.getElem?_eq_getElem hlt⟩
  have k1:=QT hz
  have l1:=hO z (hZ z (List.mem_of_getElem? hz))
  have w1:IntKind.i64.wrap ((n:Int)+1)=((n+1:Nat):Int):=by rw[ai (by omega) (by omega)];omega
  left
  obtain⟨v,hv⟩:∃v,v=n+1:=⟨_,rfl⟩
  rw[←hv] at w1
  refine⟨v,?_⟩
  simp[h28,h29,hlt,hm,k1,l1,w1]
  omega
 ·right
  simp[h29,hlt]
def qM(f:FuncId) (args:List AV):Option AV:=match f,args with
 |125,[.str s]=>if s.length≤9 then some (.int .i64 (uS s)) else none
 |_,_=>none
theorem JS:OracleOk Tryz.prog (ao qM):=bI fun f args v h mem=>by
 unfold qM at h
 split at h
 ·split at h
  ·cases h;exact ot _ (by omega) mem
  ·cases h
 ·cases h
noncomputable def gP(s:Sheet) (m:Mem):Oracle:=Oracle.or (ao qM) (gS 41 [shA s] (.int .i64 0) (fun M=>∃ext,M=m++ext))
theorem xY(s:Sheet) (m:Mem) (p q:Nat) (o o' :Bool) (hp:m[p]? =some (.cells o 2 (pC s.P))) (hq:m[q]? =some (.cells o' 3 (tC s.T))) (h0:p=0) (h1:q=1):OracleOk Tryz.prog (gP s m):=by
 subst h0;subst h1
 have l0:=(List.getElem?_eq_some_iff.1 hp).1
 have l1:=(List.getElem?_eq_some_iff.1 hq).1
 refine OracleOk.or' JS (jM fun M hM=>?_)
 obtain⟨ext,rfl⟩:=hM
 exact di s _ 0 1 o o' (by rw[List.getElem?_append_left l0];exact hp) (by rw[List.getElem?_append_left l1];exact hq)
theorem og(s:Sheet) (m M:Mem) (z:Int) (h:z.natAbs<1000):gP s m (.fn 125) [.str (aK (hQ z))] M=some ⟨.int .i64 0,none,[]⟩:=by
 have hl:=xh h
 have hc:=tA ((L4 h).mono (by omega) (by omega))
 simp[gP,Oracle.or,ao,qM,hl,hc]
theorem qX(s:Sheet) (m ext:Mem):gP s m (.fn 41) [shA s] (m++ext)=some ⟨.int .i64 0,none,[]⟩:=by
 simp[gP,Oracle.or,ao,qM,gS]
set_option maxHeartbeats 1600000 in
theorem yN(s:Sheet) (Z:List Int) (hZ:∀z∈Z,z.natAbs<1000) (hl:Z.length≤1000) (hn:Z.length=s.P.length) (m:Mem) (b c:Nat) (o1 o2 o3 o4:Bool)
  (hp:m[0]? =some (.cells o1 2 (pC s.P))) (hq:m[1]? =some (.cells o2 3 (tC s.T))) (hb:m[b]? =some (.cells o3 1 (qC (qH Z)))) (hc:m[c]? =some (.cells o4 1 [.slice b 0 Z.length none])):
  ACallsTo Tryz.prog 236 [shA s,.slice c 0 1 none] m (.int .i64 0) m:=by
 have hG:aF Tryz.prog 236=some Tryz.f236:=by kernel_rfl
 have lb:=(List.getElem?_eq_some_iff.1 hb).1
 have lc:=(List.getElem?_eq_some_iff.1 hc).1
 have hO:=xY s m 0 1 o1 o2 hp hq rfl rfl
 obtain⟨b1,b2,hbb⟩:∃b1 b2,am Tryz.f236=[b1,b2]:=⟨_,_,rfl⟩
 obtain⟨F,hF⟩:=gG (O:=gP s m) (K:=Z.length+3) Z hZ hl (by omega) (mem:=m++[.cells true 0 [.slice 0 0 s.P.length none,.slice 1 0 s.T.length none]]) (b0:=b) (o:=o3) (by rw[List.getElem?_append_left lb];exact hb) (m0:=m.length) (fun z h=>og s m _ z h) hbb
 have hF1:=fun env0 d h28 h29 h30=>(hF env0 d ⟨h28,h29,h30⟩).1
 have g16:=fun env0 d h28 h29 h30=>(hF env0 d ⟨h28,h29,h30⟩).2.1
 have g17:=fun env0 d h28 h29 h30=>(hF env0 d ⟨h28,h29,h30⟩).2.2.1
 have g18:=fun env0 d h28 h29 h30=>(hF env0 d ⟨h28,h29,h30⟩).2.2.2.1
 have g2:=fun env0 d h28 h29 h30=>(hF env0 d ⟨h28,h29,h30⟩).2.2.2.2
 clear hF
 simp[am,aB,Tryz.f236] at hbb
 obtain⟨_,rfl⟩:=hbb
 have w0:IntKind.i64.wrap 1=1:=rfl
 have hms:=qX s m [.cells true 0 [.slice 0 0 s.P.length none,.slice 1 0 s.T.length none]]
 obtain⟨O,hOO⟩:∃O,O=gP s m:=⟨_,rfl⟩
 rw[←hOO] at hO hF1 hms
 have hc' :(m++[.cells true 0 [.slice 0 0 s.P.length none,.slice 1 0 s.T.length none]])[c]? =some (.cells o4 1 [.slice b 0 Z.length none]):=by rw[List.getElem?_append_left lc];exact hc
 have h:ad (aA Tryz.prog) oD (aF Tryz.prog) O (Z.length+3) 236 [shA s,.slice c 0 1 none] m=some ⟨.int .i64 0,none,[]⟩:=by
  obtain⟨N,hN⟩:∃N,N=s.P.length:=⟨_,rfl⟩
  simp only[shA,hn,←hN] at hms hF1 g16 g17 g18 g2 hc' ⊢
  simp[ad,hG,Tryz.f236,hms,hF1,g16,g17,g18,g2,ay,dN,oD,hc',w0]
 have:=(ae aa (aj _) hO (al _) h).1
 simpa [CallRes.mem] using this
set_option maxHeartbeats 1600000 in
theorem zt(s:Sheet) (Z:List Int) (hZ:∀z∈Z,z.natAbs<1000) (hl:Z.length≤1000) (hn:Z.length=s.P.length) (Y:List Int) (hY:∀z∈Y,z.natAbs<1000) (hn2:Y.length=s.P.length) (m:Mem) (b b' c:Nat) (o1 o2 o3 o3' o4:Bool)
  (hp:m[0]? =some (.cells o1 2 (pC s.P))) (hq:m[1]? =some (.cells o2 3 (tC s.T))) (hb:m[b]? =some (.cells o3 1 (qC (qH Z)))) (hb' :m[b']? =some (.cells o3' 1 (qC (qH Y)))) (hc:m[c]? =some (.cells o4 1 [.slice b 0 Z.length none,.slice b' 0 Y.length none])):
  ACallsTo Tryz.prog 236 [shA s,.slice c 0 2 none] m (.int .i64 0) m:=by
 have hG:aF Tryz.prog 236=some Tryz.f236:=by kernel_rfl
 have lb:=(List.getElem?_eq_some_iff.1 hb).1
 have lb' :=(List.getElem?_eq_some_iff.1 hb').1
 have lc:=(List.getElem?_eq_some_iff.1 hc).1
 have hO:=xY s m 0 1 o1 o2 hp hq rfl rfl
 obtain⟨b1,b2,hbb⟩:∃b1 b2,am Tryz.f236=[b1,b2]:=⟨_,_,rfl⟩
 obtain⟨F,hF⟩:=gG (O:=gP s m) (K:=s.P.length+4) Z hZ hl (by omega) (mem:=m++[.cells true 0 [.slice 0 0 s.P.length none,.slice 1 0 s.T.length none]]) (b0:=b) (o:=o3) (by rw[List.getElem?_append_left lb];exact hb) (m0:=m.length) (fun z h=>og s m _ z h) hbb
 have hF1:=fun env0 d h28 h29 h30=>(hF env0 d ⟨h28,h29,h30⟩).1
 have g16:=fun env0 d h28 h29 h30=>(hF env0 d ⟨h28,h29,h30⟩).2.1
 have g17:=fun env0 d h28 h29 h30=>(hF env0 d ⟨h28,h29,h30⟩).2.2.1
 have g18:=fun env0 d h28 h29 h30=>(hF env0 d ⟨h28,h29,h30⟩).2.2.2.1
 have g2:=fun env0 d h28 h29 h30=>(hF env0 d ⟨h28,h29,h30⟩).2.2.2.2
 obtain⟨F2,hF2⟩:=gG (O:=gP s m) (K:=s.P.length+4) Y hY (by omega) (by omega) (mem:=m++[.cells true 0 [.slice 0 0 s.P.length none,.slice 1 0 s.T.length none]]) (b0:=b') (o:=o3') (by rw[List.getElem?_append_left lb'];exact hb') (m0:=m.length) (fun z h=>og s m _ z h) hbb
 have hF1' :=fun env0 d h28 h29 h30=>(hF2 env0 d ⟨h28,h29,h30⟩).1
 have g16' :=fun env0 d h28 h29 h30=>(hF2 env0 d ⟨h28,h29,h30⟩).2.1
 have g17' :=fun env0 d h28 h29 h30=>(hF2 env0 d ⟨h28,h29,h30⟩).2.2.1
 have g18' :=fun env0 d h28 h29 h30=>(hF2 env0 d ⟨h28,h29,h30⟩).2.2.2.1
 have g2' :=fun env0 d h28 h29 h30=>(hF2 env0 d ⟨h28,h29,h30⟩).2.2.2.2
 clear hF hF2
 simp[am,aB,Tryz.f236] at hbb
 obtain⟨_,rfl⟩:=hbb
 have w2:IntKind.i64.wrap 2=2:=rfl
 have w0:IntKind.i64.wrap 1=1:=rfl
 have hms:=qX s m [.cells true 0 [.slice 0 0 s.P.length none,.slice 1 0 s.T.length none]]
 obtain⟨O,hOO⟩:∃O,O=gP s m:=⟨_,rfl⟩
 rw[←hOO] at hO hF1 hF1' hms
 have hc' :(m++[.cells true 0 [.slice 0 0 s.P.length none,.slice 1 0 s.T.length none]])[c]? =some (.cells o4 1 [.slice b 0 Z.length none,.slice b' 0 Y.length none]):=by rw[List.getElem?_append_left lc];exact hc
 have h:ad (aA Tryz.prog) oD (aF Tryz.prog) O (s.P.length+4) 236 [shA s,.slice c 0 2 none] m=some ⟨.int .i64 0,none,[]⟩:=by
  obtain⟨N,hN⟩:∃N,N=s.P.length:=⟨_,rfl⟩
  simp only[shA,hn,hn2,←hN] at hms hF1 g16 g17 g18 g2 hF1' g16' g17' g18' g2' hc' ⊢
  simp[ad,hG,Tryz.f236,hms,hF1,g16,g17,g18,g2,hF1',g16',g17',g18',g2',w2,ay,dN,oD,hc',w0]
 have:=(ae aa (aj _) hO (al _) h).1
 simpa [CallRes.mem] using this
theorem nG(s:Sheet) (Z:List Int) (hZ:∀z∈Z,z.natAbs<1000) (hl:Z.length≤1000) (hn:Z.length=s.P.length) (m:Mem) (b:Nat) (o1 o2 o3:Bool)
  (hp:m[0]? =some (.cells o1 2 (pC s.P))) (hq:m[1]? =some (.cells o2 3 (tC s.T))) (hb:m[b]? =some (.cells o3 1 (qC (qH Z)))):
  ACallsTo Tryz.prog 203 [shA s,.slice b 0 Z.length none] m (.int .i64 0) m:=by
 have hG:aF Tryz.prog 203=some Tryz.f203:=by kernel_rfl
 have l0:=(List.getElem?_eq_some_iff.1 hp).1
 have l1:=(List.getElem?_eq_some_iff.1 hq).1
 have lb:=(List.getElem?_eq_some_iff.1 hb).1
 obtain⟨E,hE⟩:∃E:Mem,E=[.cells true 0 [.slice 0 0 s.P.length none,.slice 1 0 s.T.length none],.cells true 1 [.slice b 0 Z.length none]]:=⟨_,rfl⟩
 have hk:=yN s Z hZ hl hn (m++E) b (m.length+1) o1 o2 o3 true (by rw[List.getElem?_append_left l0];exact hp) (by rw[List.getElem?_append_left l1];exact hq) (by rw[List.getElem?_append_left lb];exact hb) (by rw[hE];simp)
 have hO:OracleOk Tryz.prog (cd [(236,[shA s,.slice (m.length+1) 0 1 none],m++E,⟨.int .i64 0,none,[]⟩)]):=du fun e he=>by
  simp only[List.mem_cons,List.not_mem_nil,or_false] at he
  subst he
  exact⟨by simpa [CallRes.mem] using hk,by simp⟩
 have h:ad (aA Tryz.prog) (fun _=>[]) (aF Tryz.prog) (cd [(236,[shA s,.slice (m.length+1) 0 1 none],m++E,⟨.int .i64 0,none,[]⟩)]) 1 203 [shA s,.slice b 0 Z.length none] m=some ⟨.int .i64 0,none,[]⟩:=by
  rw[hE]
  simp[ad,hG,Tryz.f203,cd,shA]
 have:=(ae aa (aj _) hO (al _) h).1
 simpa [CallRes.mem] using this
theorem PR{a b:Int}(h:a≤b):¬0<xV (hQ a) (hQ b):=by
 have:=HK.2 (QP h)
 omega
set_option maxHeartbeats 1600000 in
theorem wO{O:Oracle}{K:Nat}(Z Y:List Int) (hZY:∀(i:Nat) z y,Z[i]? =some z→Y[i]? =some y→z≤y∧z.natAbs<1000∧y.natAbs<1000) (hn:Z.length=Y.length) (hl:Z.length≤1000) (hK:Z.length<K) {mem:Mem}{b0 b1:Nat}{o o' :Bool}(hm:mem[b0]? =some (.cells o 1 (qC (qH Z)))) (hm' :mem[b1]? =some (.cells o' 1 (qC (qH Y)))) {m0:Nat}
  (hO:∀z y:Int,z.natAbs<1000→y.natAbs<1000→O (.fn 117) [.str (aK (hQ z)),.str (aK (hQ y))] mem=some ⟨.int .i64 (xV (hQ z) (hQ y)),none,[]⟩) {b:Code}(hb:am Tryz.f204=[b]):
  ∃F:Env→Bool→Env,∀env0 d,(ac env0 19=.slice b0 0 Z.length none∧ac env0 20=.int .i64 Z.length∧ac env0 21=.int .i64 0∧ac env0 2=.slice b1 0 Z.length none)→
   aH (aA Tryz.prog) (fun _=>[21]) O K 34 m0 true (.loop b) ⟨env0,mem,d⟩=some (.exit 0,⟨F env0 d,mem,d⟩)∧True:=by
 refine bo (L:=[21]) rfl (fun env0=>ac env0 19=.slice b0 0 Z.length none∧ac env0 20=.int .i64 Z.length∧ac env0 21=.int .i64 0∧ac env0 2=.slice b1 0 Z.length none) (fun _ _=>True) ?_
 rintro env0 d ⟨h28,h29,h30,h2⟩
 simp[am,aB,Tryz.f204] at hb
 have hn0:aw [21] (ab b) env0 ((21,.int .i64 ((0:Nat):Int))::env0)=aw [21] (ab b) env0 env0:=by simp[aw,h30]
 rw[←hn0]
 refine bD (α:=Nat) (fun n=>⟨aw [21] (ab b) env0 ((21,.int .i64 (n:Int))::env0),mem,d⟩) (fun n=>Z.length-n) (fun n=>n≤Z.length) (.exit 0) _ d _ (by simp) ?_ K 0 (by omega) (by omega)
 rintro n hn1
 clear hn0
 subst hb
 by_cases hlt:n<Z.length
 ·obtain⟨z,hz⟩:∃z,Z[n]? =some z:=⟨Z[n],List.getElem?_eq_getElem hlt⟩
  obtain⟨y,hy⟩:∃y,Y[n]? =some y:=⟨Y[n]'(by omega),List.getElem?_eq_getElem (by omega)⟩
  have k1:=QT hz
  have k2:=QT hy
  obtain⟨p1,p2,p3⟩:=hZY n z y hz hy
  have l1:=hO z y p2 p3
  have c1:=PR p1
  have w1:IntKind.i64.wrap ((n:Int)+1)=((n+1:Nat):Int):=by rw[ai (by omega) (by omega)];omega
  left
  obtain⟨v,hv⟩:∃v,v=n+1:=⟨_,rfl⟩
  rw[←hv] at w1
  refine⟨v,?_⟩
  simp[h28,h29,h2,hlt,hm,hm',k1,k2,l1,w1,c1]
  omega
 ·right
  simp[h29,hlt]
open Classical in
noncomputable def qA(f:FuncId) (args:List AV):Option AV:=match f,args with
 |117,[.str s,.str t]=>match dz s,dz t with
  |some a,some b=>if big 3 a∧big 3 b then some (.int .i64 (xV a b)) else none
  |_,_=>none
 |_,_=>none
theorem Je{k:Nat}{q:Rat}(h0:0<k) (hk:k≤9) (h:big k q):Hb q:=by
 have h1:=bl h0 h.1
 have h2:=bl h0 h.2
 exact⟨by omega,by omega⟩
theorem JL:OracleOk Tryz.prog (ao qA):=bI fun f args v h mem=>by
 unfold qA at h
 split at h
 ·split at h
  ·rename_i a b ha hb
   split at h
   ·rename_i hc
    cases h
    rw[ap ha,ap hb]
    exact pM a b (Je (by decide) (by decide) hc.1) (Je (by decide) (by decide) hc.2) mem
   ·cases h
  ·cases h
 ·cases h
set_option maxHeartbeats 1600000 in
theorem oB(s:Sheet) (Z Y:List Int) (hZ:∀z∈Z,z.natAbs<1000) (hY:∀z∈Y,z.natAbs<1000) (hl:Z.length≤1000) (hn:Z.length=s.P.length) (hn2:Y.length=s.P.length) (hZY:∀(i:Nat) z y,Z[i]? =some z→Y[i]? =some y→z≤y) (m:Mem) (b b' :Nat) (o1 o2 o3 o4:Bool)
  (hp:m[0]? =some (.cells o1 2 (pC s.P))) (hq:m[1]? =some (.cells o2 3 (tC s.T))) (hb:m[b]? =some (.cells o3 1 (qC (qH Z)))) (hb' :m[b']? =some (.cells o4 1 (qC (qH Y)))):
  ACallsTo Tryz.prog 204 [shA s,.slice b 0 Z.length none,.slice b' 0 Y.length none] m (.tuple [.bool true,.int .i64 0]) m:=by
 have hG:aF Tryz.prog 204=some Tryz.f204:=by kernel_rfl
 have l0:=(List.getElem?_eq_some_iff.1 hp).1
 have l1:=(List.getElem?_eq_some_iff.1 hq).1
 have lb:=(List.getElem?_eq_some_iff.1 hb).1
 have lb' :=(List.getElem?_eq_some_iff.1 hb').1
 obtain⟨E,hE⟩:∃E:Mem,E=[.cells true 0 [.slice 0 0 s.P.length none,.slice 1 0 s.T.length none],.cells true 1 [.slice b 0 Z.length none,.slice b' 0 Y.length none]]:=⟨_,rfl⟩
 have hk:=zt s Z hZ hl hn Y hY hn2 (m++E) b b' (m.length+1) o1 o2 o3 o4 true (by rw[List.getElem?_append_left l0];exact hp) (by rw[List.getElem?_append_left l1];exact hq) (by rw[List.getElem?_append_left lb];exact hb) (by rw[List.getElem?_append_left lb'];exact hb') (by rw[hE];simp)
 obtain⟨O,hOO⟩:∃O,O=Oracle.or (ao qA) (cd [(236,[shA s,.slice (m.length+1) 0 2 none],m++E,⟨.int .i64 0,none,[]⟩)]):=⟨_,rfl⟩
 have hO:OracleOk Tryz.prog O:=by
  rw[hOO]
  refine OracleOk.or' JL (du fun e he=>?_)
  simp only[List.mem_cons,List.not_mem_nil,or_false] at he
  subst he
  exact⟨by simpa [CallRes.mem] using hk,by simp⟩
 have hO1:O (.fn 236) [shA s,.slice (m.length+1) 0 2 none] (m++E)=some ⟨.int .i64 0,none,[]⟩:=by
  rw[hOO];simp[Oracle.or,ao,qA,cd]
 have hO2:∀z y:Int,z.natAbs<1000→y.natAbs<1000→O (.fn 117) [.str (aK (hQ z)),.str (aK (hQ y))] (m++E)=some ⟨.int .i64 (xV (hQ z) (hQ y)),none,[]⟩:=fun z y hz hy=>by
  have e1:=L4 hz
  have e2:=L4 hy
  have b1:big 3 (hQ z):=⟨e1.1,by have:=e1.2;omega⟩
  have b2:big 3 (hQ y):=⟨e2.1,by have:=e2.2;omega⟩
  rw[hOO];simp[Oracle.or,ao,qA,aM,b1,b2]
 clear hOO
 obtain⟨bb,hbb⟩:∃b,am Tryz.f204=[b]:=⟨_,rfl⟩
 obtain⟨F,hF⟩:=wO (O:=O) (K:=s.P.length+1) Z Y (fun i z y hz hy=>⟨hZY i z y hz hy,hZ z (List.mem_of_getElem? hz),hY y (List.mem_of_getElem? hy)⟩) (by omega) hl (by omega) (mem:=m++E) (b0:=b) (b1:=b') (o:=o3) (o' :=o4) (by rw[List.getElem?_append_left lb];exact hb) (by rw[List.getElem?_append_left lb'];exact hb') (m0:=m.length) hO2 hbb
 have hF1:=fun env0 d h1 h2 h3 h4=>(hF env0 d ⟨h1,h2,h3,h4⟩).1
 clear hF hO2
 simp[am,aB,Tryz.f204] at hbb
 subst hbb
 have h:ad (aA Tryz.prog) (fun _=>[21]) (aF Tryz.prog) O (s.P.length+1) 204 [shA s,.slice b 0 Z.length none,.slice b' 0 Y.length none] m=some ⟨.tuple [.bool true,.int .i64 0],none,[]⟩:=by
  clear hk
  obtain⟨N,hN⟩:∃N,N=s.P.length:=⟨_,rfl⟩
  subst hE
  simp only[shA,hn,hn2,←hN] at hO1 hF1 ⊢
  simp[ad,hG,Tryz.f204,hO1,hF1]
 have:=(ae aa (aj _) hO (al _) h).1
 simpa [CallRes.mem] using this
end Go.Proofs
