/- See N58. -/
import Derived.Test.YtmhkeaphiadacaaGreatDoorN37
import Derived.Test.YtmhkeaphiadacaaGreatDoorN38
set_option linter.all false
namespace Go.Proofs
open Go.Eng
theorem Hh:∀L:List P2,pC L=kC (kT L)
 | []=>rfl
 |p::L=>by
  have:=Hh L
  simp[pC,kC,kT,this]
theorem Cw(d:Deed) (j:Nat) (hj:j<3):vZ (aN (wh d j).1)=0∧vZ (aN (wh d j).2)=0:=by
 have h3: -3<d.N.tmod 3∧d.N.tmod 3<3:=pj d.N 3 (by decide)
 have hk:HJ d.K j%4<4:=Nat.mod_lt _ (by decide)
 obtain⟨u,hu⟩:∃u,u=HJ d.K j%4:=⟨_,rfl⟩
 rw[←hu] at hk
 refine⟨PP (n:=d.N.tmod 3+2*j) (by omega),?_⟩
 have hd:d.K.2.2.2%2<2:=Nat.mod_lt _ (by decide)
 obtain⟨v,hv⟩:∃v,v=d.K.2.2.2%2:=⟨_,rfl⟩
 rw[←hv] at hd
 have:dg 3 1 (mkRat ((u:Int)-1) (1+v)):=si (by omega) (by omega) (by omega)
 unfold wh
 rw[←hu,←hv]
 exact tX (this.mono (by omega) (by omega))
theorem Qv(d:Deed) (c:Nat) (h1:0<c) (hc:c≤3):knE (kT (co d c))=0:=by
 have k0:=Cw d 0 (by omega)
 have k1:=Cw d 1 (by omega)
 have k2:=Cw d 2 (by omega)
 have p:∀q:Rat,dE (aN q)=some q:=aR
 have l:∀i j:Nat,i<j→(wh d i).1<(wh d j).1:=fun i j h=>by
  simp only[wh]
  exact_mod_cast (by omega:d.N.tmod 3+2*(i:Int)<d.N.tmod 3+2*(j:Int))
 have l1:=l 0 1 (by omega)
 have l2:=l 1 2 (by omega)
 have r1:List.range 1=[0]:=rfl
 have r2:List.range 2=[0,1]:=rfl
 have r3:List.range 3=[0,1,2]:=rfl
 have:c=1∨c=2∨c=3:=by omega
 rcases this with rfl | rfl | rfl
 ·simp[knE,co,r1,kT,ckE,k0,p,A8]
 ·simp[knE,co,r2,kT,ckE,k0,k1,p,A8,l1]
 ·simp[knE,co,r3,kT,ckE,k0,k1,k2,p,A8,l1,l2]
theorem rg(d:Deed) (c:Nat) (h1:0<c) (hc:c≤3) (M:Mem) (b:Nat) (o:Bool) (hb:M[b]? =some (.cells o 2 (pC (co d c)))):
  ACallsTo Tryz.prog 210 [.slice b 0 c none] M (.int .i64 0) M:=by
 have hl:(kT (co d c)).length=c:=by rw[iD,eC]
 have h:=sY (kT (co d c)) (fun q hq=>by
  simp only[kT,co,List.map_map,List.mem_map,List.mem_range] at hq
  obtain⟨j,hj,rfl⟩:=hq
  have h3: -3<d.N.tmod 3∧d.N.tmod 3<3:=pj d.N 3 (by decide)
  obtain⟨u,hu⟩:∃u,u=HJ d.K j%4:=⟨_,rfl⟩
  have hk:u<4:=by rw[hu];exact Nat.mod_lt _ (by decide)
  obtain⟨v,hv⟩:∃v,v=d.K.2.2.2%2:=⟨_,rfl⟩
  have hd:v<2:=by rw[hv];exact Nat.mod_lt _ (by decide)
  have e1:dg 3 1 (mkRat ((u:Int)-1) (1+v)):=si (by omega) (by omega) (by omega)
  have b2:big 3 (mkRat ((u:Int)-1) (1+v)):=⟨e1.1,by have:=e1.2;omega⟩
  have e2:=Az (by decide) b2
  have e3:=eh (n:=d.N.tmod 3+2*j) (by omega)
  have f1:(((fun q=>(aN q.1,aN q.2))∘wh d) j).1=zS (d.N.tmod 3+2*j):=rfl
  have f2:(((fun q=>(aN q.1,aN q.2))∘wh d) j).2=aN (mkRat ((u:Int)-1) (1+v)):=by rw[hu,hv];rfl
  rw[f1,f2]
  exact⟨by unfold zS;omega,by omega⟩) (by omega)
 rw[hl,Qv d c h1 hc,←Hh] at h
 exact ACallsTo.rows1R (rest:=[]) (dB _) rfl rfl h ⟨b,o,_,rfl,hb,List.take_length⟩
theorem xA(d:Nat) (a b:List UInt8):iT (az Tryz.prog) (d+2) 110 (.agg [.str a,.str b]) (.agg [.str a,.str b])=some true:=by
 have i:=ge d
 rw[iT]
 simp[LF,gv,TyI.isAgg,i]
set_option maxHeartbeats 1600000 in
theorem KC(L:List P2) (h1:0<L.length) (hc:L.length≤3):
  ACallsTo Tryz.prog 84 [.slice 0 0 L.length none,.slice 0 0 L.length none] [.cells false 2 (pC L)] (.bool true) [.cells false 2 (pC L)]:=by
 have hG:aI Tryz.prog 84=some Tryz.f84:=by kernel_rfl
 obtain⟨os,hops⟩:∃os,aG Tryz.f84=os:=⟨_,rfl⟩
 have hbs:=aV hops (ls:=[[0,0,3,7,0,0,48,112,255]]) (by kernel_rfl)
 simp only[aG,bC,Tryz.f84,List.nil_append,List.append_nil,List.cons_append] at hops
 subst hops
 simp only[List.map_cons,List.map_nil,List.cons.injEq,and_true] at hbs
 have a0:aS [0,0,3,7,0,0,48,112,255] 8=true:=by decide
 have e:=fun d=>xA d
 have w1:IntKind.i64.wrap 1=1:=rfl
 have w2:IntKind.i64.wrap 2=2:=rfl
 have w3:IntKind.i64.wrap 3=3:=rfl
 have h:ab (az Tryz.prog) (fun _=>[13]) (aI Tryz.prog) aE 5 84 [.slice 0 0 L.length none,.slice 0 0 L.length none] [.cells false 2 (pC L)]=some ⟨.bool true,none,[]⟩:=by
  match L,h1,hc with
  | [p],_,_=>simp[-aF,ax hbs,bS,bF,bM,a0,Nat.testBit,ab,hG,Tryz.f84,aC,dS,pC,e,w1,w2,w3]
  | [p,q],_,_=>simp[-aF,ax hbs,bS,bF,bM,a0,Nat.testBit,ab,hG,Tryz.f84,aC,dS,pC,e,w1,w2,w3]
  | [p,q,r],_,_=>simp[-aF,ax hbs,bS,bF,bM,a0,Nat.testBit,ab,hG,Tryz.f84,aC,dS,pC,e,w1,w2,w3]
 have:=(ae aa (ai _) (af _) (aj _) h).1
 simpa [CallRes.mem] using this
theorem Ml(L:List P2) (h1:0<L.length) (hc:L.length≤3) (M:Mem) (b:Nat) (o:Bool) (hb:M[b]? =some (.cells o 2 (pC L))):
  ACallsTo Tryz.prog 84 [.slice b 0 L.length none,.slice b 0 L.length none] M (.bool true) M:=by
 have hlt:=(List.getElem?_eq_some_iff.1 hb).1
 have:=ACallsTo.frame (M:=M) (new:=[]) [b] rfl (by simpa using hlt) (by rfl) (fun i t hs=>by
  match i with
  |0=>simp at hs;subst hs;exact bm (dB _) hb List.take_length
  |i+1=>simp at hs) rfl (KC L h1 hc)
 simpa [AV.rens,AV.ren,da] using this
open Classical in
noncomputable def iB(f:FuncId) (args:List AV) (v:AV) (p:Mem→Prop):Oracle:=fun c a M=>if c=.fn f∧a=args∧p M then some ⟨v,none,[]⟩ else none
theorem ko{P:Program}{f:FuncId}{args:List AV}{v:AV}{p:Mem→Prop}(h:∀M,p M→ACallsTo P f args M v M):OracleOk P (iB f args v p):=by
 have k:∀c a M r,iB f args v p c a M=some r→(c=.fn f∧a=args∧p M)∧r=⟨v,none,[]⟩:=fun c a M r hr=>by
  unfold iB at hr
  split at hr
  ·cases hr;exact⟨‹_›,rfl⟩
  ·cases hr
 refine⟨fun g a M r hr=>?_,fun b a M r hr=>?_,fun c a M r q hr hq=>?_⟩
 ·obtain⟨⟨h1,rfl,h2⟩,rfl⟩:=k _ _ _ _ hr
  cases h1
  simpa [CallRes.mem] using h M h2
 ·obtain⟨⟨h1,_⟩,_⟩:=k _ _ _ _ hr
  cases h1
 ·obtain⟨_,rfl⟩:=k _ _ _ _ hr
  cases hq
theorem zq(nm:List UInt8) (n:Z3) (L:List P2) (s:Z3) (h1:0<L.length) (hc:L.length≤3) (M:Mem) (b:Nat) (o:Bool) (hb:M[b]? =some (.cells o 2 (pC L))):
  ACallsTo Tryz.prog 49 [.agg (bq nm n (.slice b 0 L.length none) s),.agg (bq nm n (.slice b 0 L.length none) s)] M (.bool true) M:=by
 have hlt:=(List.getElem?_eq_some_iff.1 hb).1
 refine gD (OracleOk.or' fX (ko (f:=84) (args:=[.slice b 0 L.length none,.slice b 0 L.length none]) (v:=.bool true) (p:=fun M' =>M'[b]? =some (.cells o 2 (pC L))) fun M' h=>Ml L h1 hc M' b o h)) rfl rfl rfl ?_
 have:(M++[.cells true 0 (bq nm n (.slice b 0 L.length none) s),.cells true 0 (bq nm n (.slice b 0 L.length none) s)])[b]? =some (.cells o 2 (pC L)):=by rw[List.getElem?_append_left hlt];exact hb
 unfold Oracle.or
 rw[show po (.fn 84) [.slice b 0 L.length none,.slice b 0 L.length none] _=none from rfl]
 simp only[iB]
 exact if_pos ⟨rfl,rfl,this⟩
def ei:AV:=.agg [.func 159 [],.func 160 [],.func 161 [],.func 162 [],.func 163 []]
theorem xc(nm:List UInt8) (n:Z3) (c:Nat) (s:Z3):ACallsTo Tryz.prog 81 [.agg (bq nm n (.slice 0 0 c none) s)] [.absent] ei [.absent]:=by
 have h:ab (az Tryz.prog) ad (aI Tryz.prog) rJ 6 81 [.agg (bq nm n (.slice 0 0 c none) s)] [.absent]=some ⟨ei,none,[]⟩:=by as_aux_lemma=>kernel_rfl
 have:=(ae aa (ai _) fW (aj _) h).1
 simpa [CallRes.mem] using this
theorem qd(nm:List UInt8) (n:Z3) (c:Nat) (s:Z3) (M:Mem) (b:Nat) (hb:b<M.length):ACallsTo Tryz.prog 81 [.agg (bq nm n (.slice b 0 c none) s)] M ei M:=by
 have:=ACallsTo.frame (M:=M) (new:=[]) [b] rfl (by simpa using hb) (by rfl) (fun i t hs=>by
  match i with
  |0=>simp at hs;subst hs;trivial
  |i+1=>simp at hs) rfl (xc nm n c s)
 simpa [bq,AV.rens,AV.ren,da,ei] using this
noncomputable def gd(n s:Z3):List (FuncId×List AV×AV):=[
 (53,[zA n],.int .i64 0),
 (209,[zA s,zA n],.int .i64 0)]
theorem CR(nm:List UInt8) (n s:Z3) (d:Deed) (c:Nat) (h1:0<c) (hc:c≤3) (hn:fI 99 n) (hz:iI n=false) (hs:fI 99 s) (hd:JY s n=0) (x y:AV) (m:Mem) (b:Nat) (o:Bool) (hb:m[b]? =some (.cells o 2 (pC (co d c)))):
  ACallsTo Tryz.prog 160 [.agg [x,y],.agg (bq nm n (.slice b 0 c none) s)] m (.int .i64 0) m:=by
 have hG:aI Tryz.prog 160=some Tryz.f160:=by kernel_rfl
 have hlt:=(List.getElem?_eq_some_iff.1 hb).1
 have hO1:OracleOk Tryz.prog (ao (cb (gd n s))):=er fun e he M=>by
  simp only[gd,List.mem_cons,List.not_mem_nil,or_false] at he
  rcases he with rfl | rfl
  ·exact rn n hn M
  ·exact wP s n hs hn hd M
 have hO2:OracleOk Tryz.prog (iB 210 [.slice b 0 c none] (.int .i64 0) (fun M=>∃ext,M=m++ext)):=ko fun M hM=>by
  obtain⟨ext,rfl⟩:=hM
  exact rg d c h1 hc _ b o (by rw[List.getElem?_append_left hlt];exact hb)
 have hO:=OracleOk.or' hO1 hO2
 have e1:=nv n.1
 have e2:=nv n.2.1
 have e3:=nv n.2.2
 have hbz:((zS n.1==[48]&&zS n.2.1==[48])&&zS n.2.2==[48])=false:=by rw[e1,e2,e3];exact hz
 clear hO1 hO2 hb hlt hd hs hz hn e1 e2 e3
 obtain⟨n1,n2,n3⟩:=n
 simp only at hbz
 obtain⟨A,hA⟩:∃A,A=zS n1:=⟨_,rfl⟩
 obtain⟨B,hB⟩:∃A,A=zS n2:=⟨_,rfl⟩
 obtain⟨C,hC⟩:∃A,A=zS n3:=⟨_,rfl⟩
 rw[←hA,←hB,←hC] at hbz
 have h:ab (az Tryz.prog) (fun _=>[]) (aI Tryz.prog) (Oracle.or (ao (cb (gd (n1,n2,n3) s))) (iB 210 [.slice b 0 c none] (.int .i64 0) (fun M=>∃ext,M=m++ext))) 1 160 [.agg [x,y],.agg (bq nm (n1,n2,n3) (.slice b 0 c none) s)] m=some ⟨.int .i64 0,none,[]⟩:=by
  have hab:(A==[48])=false∨((A==[48])=true∧(B==[48])=false)∨((A==[48])=true∧(B==[48])=true∧(C==[48])=false):=by
   cases ha:(A==[48])<;>cases hb:(B==[48])<;>cases hc:(C==[48])<;>simp_all
  rcases hab with ha | ⟨ha,hb⟩ | ⟨ha,hb,hc⟩
  ·simp[ab,hG,Tryz.f160,Oracle.or,ao,gd,cb,iB,bq,zA,←hA,←hB,←hC,ha]
  ·simp[ab,hG,Tryz.f160,Oracle.or,ao,gd,cb,iB,bq,zA,←hA,←hB,←hC,ha,hb]
  ·simp[ab,hG,Tryz.f160,Oracle.or,ao,gd,cb,iB,bq,zA,←hA,←hB,←hC,ha,hb,hc]
 have:=(ae aa (ai _) hO (aj _) h).1
 simpa [CallRes.mem] using this
def sm(s:Sheet) (L:List P2):Mem:=[.cells false 2 (pC s.P),.cells false 3 (tC s.T),.cells false 2 (pC L)]
def kU(s:Sheet) (L:List P2) (ev:List AV):Mem:=[.cells false 2 (pC s.P),.cells false 3 (tC s.T),.cells false 2 (pC L),.cells true 0 [.slice 0 0 s.P.length none,.slice 1 0 s.T.length none],.cells true 0 ev]
theorem vn(sh:Sheet) (nm:List UInt8) (n s:Z3) (L:List P2) (c:Nat):
  ACallsTo Tryz.prog 159 [.agg (bq nm n (.slice 2 0 c none) s),.ptr 5 0] (kU sh L (bq nm n (.slice 2 0 c none) s)++[.cells true 0 (cm 3 nm)]) (.tuple []) (kU sh L (bq nm n (.slice 2 0 c none) s)++[.cells true 0 (bq nm n (.slice 2 0 c none) s)]):=by
 have hG:aI Tryz.prog 159=some Tryz.f159:=by kernel_rfl
 have h:ab (az Tryz.prog) (fun _=>[]) (aI Tryz.prog) aE 1 159 [.agg (bq nm n (.slice 2 0 c none) s),.ptr 5 0] (kU sh L (bq nm n (.slice 2 0 c none) s)++[.cells true 0 (cm 3 nm)])=some ⟨.tuple [],some (kU sh L (bq nm n (.slice 2 0 c none) s)++[.cells true 0 (bq nm n (.slice 2 0 c none) s)]),[]⟩:=by
  simp[ab,hG,Tryz.f159,kU,cm,bq,cC,cP,eg,gw,List.idxOf?_cons]
 have:=(ae aa (ai _) (af _) (aj _) h).1
 simpa [CallRes.mem] using this
noncomputable def jU(sh:Sheet) (L:List P2) (nm:List UInt8) (ev:List AV):List (FuncId×List AV×Mem×CallRes):=[
 (41,[shA sh],kU sh L ev,⟨.int .i64 0,none,[]⟩),
 (81,[.agg ev],kU sh L ev++[.cells true 0 (cm 3 nm)],⟨ei,none,[]⟩),
 (159,[.agg ev,.ptr 5 0],kU sh L ev++[.cells true 0 (cm 3 nm)],⟨.tuple [],some (kU sh L ev++[.cells true 0 ev]),[]⟩),
 (49,[.agg ev,.agg ev],kU sh L ev++[.cells true 0 ev],⟨.bool true,none,[]⟩),
 (81,[.agg ev],kU sh L ev++[.cells true 0 ev],⟨ei,none,[]⟩),
 (160,[shA sh,.agg ev],kU sh L ev++[.cells true 0 ev],⟨.int .i64 0,none,[]⟩)]
theorem tl(sh:Sheet) (nm:List UInt8) (n s:Z3) (d:Deed) (c:Nat) (h1:0<c) (hc:c≤3) (hm:nm∈bE) (hn:fI 99 n) (hz:iI n=false) (hs:fI 99 s) (hd:JY s n=0):
  ACallsTo Tryz.prog 43 [shA sh,.agg (bq nm n (.slice 2 0 c none) s)] (sm sh (co d c)) (.int .i64 0) (sm sh (co d c)):=by
 have hG:aI Tryz.prog 43=some Tryz.f43:=by kernel_rfl
 obtain⟨os,hops⟩:∃os,aG Tryz.f43=os:=⟨_,rfl⟩
 have hbs:=aV hops (ls:=[[0,1,3,0,15],[0,1,3,0,0,31,63]]) (by kernel_rfl)
 simp only[aG,bC,Tryz.f43,List.nil_append,List.append_nil,List.cons_append] at hops
 subst hops
 simp only[List.map_cons,List.map_nil,List.cons.injEq,and_true] at hbs
 obtain⟨hb0,hb1⟩:=hbs
 have a0:aS [0,1,3,0,15] 4=true:=by decide
 have a1:aS [0,1,3,0,0,31,63] 6=true:=by decide
 have hl:=eC d c
 obtain⟨ev,hev⟩:∃ev,ev=bq nm n (.slice 2 0 c none) s:=⟨_,rfl⟩
 have hO1:OracleOk Tryz.prog (ao (cb [(80,[.str nm],.int .i64 0)])):=er fun e he M=>by
  simp only[List.mem_cons,List.not_mem_nil,or_false] at he
  subst he
  exact cz nm hm M
 have hO2:OracleOk Tryz.prog (cg (jU sh (co d c) nm ev)):=dn fun e he=>by
  simp only[jU,List.mem_cons,List.not_mem_nil,or_false] at he
  subst hev
  have hq:=zq nm n (co d c) s (by omega) (by omega) (kU sh (co d c) (bq nm n (.slice 2 0 c none) s)++[.cells true 0 (bq nm n (.slice 2 0 c none) s)]) 2 false rfl
  rw[hl] at hq
  rcases he with rfl | rfl | rfl | rfl | rfl | rfl
  ·exact⟨by simpa [CallRes.mem,shA] using dj sh (kU sh (co d c) (bq nm n (.slice 2 0 c none) s)) 0 1 false false rfl rfl,by simp⟩
  ·exact⟨by simpa [CallRes.mem] using qd nm n c s (kU sh (co d c) (bq nm n (.slice 2 0 c none) s)++[.cells true 0 (cm 3 nm)]) 2 (by simp[kU]),by simp⟩
  ·exact⟨by simpa [CallRes.mem] using vn sh nm n s (co d c) c,by simp[kU]⟩
  ·exact⟨by simpa [CallRes.mem] using hq,by simp⟩
  ·exact⟨by simpa [CallRes.mem] using qd nm n c s (kU sh (co d c) (bq nm n (.slice 2 0 c none) s)++[.cells true 0 (bq nm n (.slice 2 0 c none) s)]) 2 (by simp[kU]),by simp⟩
  ·exact⟨by simpa [CallRes.mem,shA] using CR nm n s d c h1 hc hn hz hs hd (.slice 0 0 sh.P.length none) (.slice 1 0 sh.T.length none) (kU sh (co d c) (bq nm n (.slice 2 0 c none) s)++[.cells true 0 (bq nm n (.slice 2 0 c none) s)]) 2 false rfl,by simp⟩
 have hO:=OracleOk.or' hO1 hO2
 obtain⟨L,hL⟩:∃L,L=co d c:=⟨_,rfl⟩
 rw[←hL] at hO ⊢
 have h:ab (az Tryz.prog) (fun _=>[]) (aI Tryz.prog) (Oracle.or (ao (cb [(80,[.str nm],.int .i64 0)])) (cg (jU sh L nm ev))) 1 43 [shA sh,.agg (bq nm n (.slice 2 0 c none) s)] (sm sh L)=some ⟨.int .i64 0,some (sm sh L),[]⟩:=by
  rw[hev]
  simp[bT,-aF,ax hb0,ax hb1,bS,bF,bM,a0,a1,Nat.testBit,-lG,fj,fk,ab,hG,Tryz.f43,Oracle.or,ao,cb,cg,jU,ei,shA,kU,sm,cm,bq,bB,ar,cC,cP,eg,gw,oZ,pW,List.idxOf?_cons]
 have:=(ae aa (ai _) hO (aj _) h).1
 simpa [CallRes.mem] using this
theorem Ro{Z:List Int}{i:Nat}{z:Int}(h:Z[i]? =some z):(qC (qH Z))[i]? =some (.str (aN (hQ z))):=Q4 (by simp[qH,h])
def nZ(c:Code):List Nat:=if (ad c).contains 18 then [18] else [30]
set_option maxHeartbeats 1600000 in
theorem gE{O:Oracle}{K:Nat}(Z:List Int) (hZ:∀z∈Z,z.natAbs<1000) (hl:Z.length≤1000) (hK:Z.length<K) {mem:Mem}{b0:Nat}{o:Bool}(hm:mem[b0]? =some (.cells o 1 (qC (qH Z)))) {m0:Nat}
  (hO:∀z:Int,z.natAbs<1000→O (.fn 125) [.str (aN (hQ z))] mem=some ⟨.int .i64 0,none,[]⟩) {b1 b:Code}(hb:am Tryz.f236=[b1,b]):
  ∃F:Env→Bool→Env,∀env0 d,(ac env0 28=.slice b0 0 Z.length none∧ac env0 29=.int .i64 Z.length∧ac env0 30=.int .i64 0)→
   aO (az Tryz.prog) nZ O K 41 m0 true (.loop b) ⟨env0,mem,d⟩=some (.exit 2,⟨F env0 d,mem,d⟩)∧(ac (F env0 d) 16=ac env0 16∧ac (F env0 d) 17=ac env0 17∧ac (F env0 d) 18=ac env0 18∧ac (F env0 d) 2=ac env0 2):=by
 refine bD (L:=[30]) (by simp[am,aJ,Tryz.f236] at hb;rw[←hb.2];rfl) (fun env0=>ac env0 28=.slice b0 0 Z.length none∧ac env0 29=.int .i64 Z.length∧ac env0 30=.int .i64 0) (fun env0 env' =>ac env' 16=ac env0 16∧ac env' 17=ac env0 17∧ac env' 18=ac env0 18∧ac env' 2=ac env0 2) ?_
 rintro env0 d ⟨h28,h29,h30⟩
 simp[am,aJ,Tryz.f236] at hb
 have hn:ay [30] (ad b) env0 ((30,.int .i64 ((0:Nat):Int))::env0)=ay [30] (ad b) env0 env0:=by simp[ay,h30]
 rw[←hn]
 refine bR (α:=Nat) (fun n=>⟨ay [30] (ad b) env0 ((30,.int .i64 (n:Int))::env0),mem,d⟩) (fun n=>Z.length-n) (fun n=>n≤Z.length) (.exit 2) _ d _ (by simp) ?_ K 0 (by omega) (by omega)
 rintro n hn1
 clear hn
 obtain⟨_,rfl⟩:=hb
 by_cases hlt:n<Z.length
 ·obtain⟨z,hz⟩:∃z,Z[n]? =some z:=⟨Z[n],List.getElem?_eq_getElem hlt⟩
  have k1:=Ro hz
  have l1:=hO z (hZ z (List.mem_of_getElem? hz))
  have w1:IntKind.i64.wrap ((n:Int)+1)=((n+1:Nat):Int):=by rw[al (by omega) (by omega)];omega
  left
  obtain⟨v,hv⟩:∃v,v=n+1:=⟨_,rfl⟩
  rw[←hv] at w1
  refine⟨v,?_⟩
  simp[h28,h29,hlt,hm,k1,l1,w1]
  omega
 ·right
  simp[h29,hlt]
def rN(f:FuncId) (args:List AV):Option AV:=match f,args with
 |125,[.str s]=>if s.length≤9 then some (.int .i64 (vZ s)) else none
 |_,_=>none
theorem Lm:OracleOk Tryz.prog (ao rN):=bN fun f args v h mem=>by
 unfold rN at h
 split at h
 ·split at h
  ·cases h;exact nS _ (by omega) mem
  ·cases h
 ·cases h
noncomputable def gU(s:Sheet) (m:Mem):Oracle:=Oracle.or (ao rN) (iB 41 [shA s] (.int .i64 0) (fun M=>∃ext,M=m++ext))
theorem xC(s:Sheet) (m:Mem) (p q:Nat) (o o' :Bool) (hp:m[p]? =some (.cells o 2 (pC s.P))) (hq:m[q]? =some (.cells o' 3 (tC s.T))) (h0:p=0) (h1:q=1):OracleOk Tryz.prog (gU s m):=by
 subst h0;subst h1
 have l0:=(List.getElem?_eq_some_iff.1 hp).1
 have l1:=(List.getElem?_eq_some_iff.1 hq).1
 refine OracleOk.or' Lm (ko fun M hM=>?_)
 obtain⟨ext,rfl⟩:=hM
 exact dj s _ 0 1 o o' (by rw[List.getElem?_append_left l0];exact hp) (by rw[List.getElem?_append_left l1];exact hq)
theorem oa(s:Sheet) (m M:Mem) (z:Int) (h:z.natAbs<1000):gU s m (.fn 125) [.str (aN (hQ z))] M=some ⟨.int .i64 0,none,[]⟩:=by
 have hl:=yz h
 have hc:=tX ((Nj h).mono (by omega) (by omega))
 simp[gU,Oracle.or,ao,rN,hl,hc]
theorem rG(s:Sheet) (m ext:Mem):gU s m (.fn 41) [shA s] (m++ext)=some ⟨.int .i64 0,none,[]⟩:=by
 simp[gU,Oracle.or,ao,rN,iB]
set_option maxHeartbeats 1600000 in
theorem zv(s:Sheet) (Z:List Int) (hZ:∀z∈Z,z.natAbs<1000) (hl:Z.length≤1000) (hn:Z.length=s.P.length) (m:Mem) (b c:Nat) (o1 o2 o3 o4:Bool)
  (hp:m[0]? =some (.cells o1 2 (pC s.P))) (hq:m[1]? =some (.cells o2 3 (tC s.T))) (hb:m[b]? =some (.cells o3 1 (qC (qH Z)))) (hc:m[c]? =some (.cells o4 1 [.slice b 0 Z.length none])):
  ACallsTo Tryz.prog 236 [shA s,.slice c 0 1 none] m (.int .i64 0) m:=by
 have hG:aI Tryz.prog 236=some Tryz.f236:=by kernel_rfl
 have lb:=(List.getElem?_eq_some_iff.1 hb).1
 have lc:=(List.getElem?_eq_some_iff.1 hc).1
 have hO:=xC s m 0 1 o1 o2 hp hq rfl rfl
 obtain⟨b1,b2,hbb⟩:∃b1 b2,am Tryz.f236=[b1,b2]:=⟨_,_,rfl⟩
 obtain⟨F,hF⟩:=gE (O:=gU s m) (K:=Z.length+3) Z hZ hl (by omega) (mem:=m++[.cells true 0 [.slice 0 0 s.P.length none,.slice 1 0 s.T.length none]]) (b0:=b) (o:=o3) (by rw[List.getElem?_append_left lb];exact hb) (m0:=m.length) (fun z h=>oa s m _ z h) hbb
 have hF1:=fun env0 d h28 h29 h30=>(hF env0 d ⟨h28,h29,h30⟩).1
 have g16:=fun env0 d h28 h29 h30=>(hF env0 d ⟨h28,h29,h30⟩).2.1
 have g17:=fun env0 d h28 h29 h30=>(hF env0 d ⟨h28,h29,h30⟩).2.2.1
 have g18:=fun env0 d h28 h29 h30=>(hF env0 d ⟨h28,h29,h30⟩).2.2.2.1
 have g2:=fun env0 d h28 h29 h30=>(hF env0 d ⟨h28,h29,h30⟩).2.2.2.2
 clear hF
 simp[am,aJ,Tryz.f236] at hbb
 obtain⟨_,rfl⟩:=hbb
 have w0:IntKind.i64.wrap 1=1:=rfl
 have hms:=rG s m [.cells true 0 [.slice 0 0 s.P.length none,.slice 1 0 s.T.length none]]
 obtain⟨O,hOO⟩:∃O,O=gU s m:=⟨_,rfl⟩
 rw[←hOO] at hO hF1 hms
 have hc' :(m++[.cells true 0 [.slice 0 0 s.P.length none,.slice 1 0 s.T.length none]])[c]? =some (.cells o4 1 [.slice b 0 Z.length none]):=by rw[List.getElem?_append_left lc];exact hc
 have h:ab (az Tryz.prog) nZ (aI Tryz.prog) O (Z.length+3) 236 [shA s,.slice c 0 1 none] m=some ⟨.int .i64 0,none,[]⟩:=by
  obtain⟨N,hN⟩:∃N,N=s.P.length:=⟨_,rfl⟩
  simp only[shA,hn,←hN] at hms hF1 g16 g17 g18 g2 hc' ⊢
  simp[ab,hG,Tryz.f236,hms,hF1,g16,g17,g18,g2,aC,dS,nZ,hc',w0]
 have:=(ae aa (ai _) hO (aj _) h).1
 simpa [CallRes.mem] using this
set_option maxHeartbeats 1600000 in
theorem zw(s:Sheet) (Z:List Int) (hZ:∀z∈Z,z.natAbs<1000) (hl:Z.length≤1000) (hn:Z.length=s.P.length) (Y:List Int) (hY:∀z∈Y,z.natAbs<1000) (hn2:Y.length=s.P.length) (m:Mem) (b b' c:Nat) (o1 o2 o3 o3' o4:Bool)
  (hp:m[0]? =some (.cells o1 2 (pC s.P))) (hq:m[1]? =some (.cells o2 3 (tC s.T))) (hb:m[b]? =some (.cells o3 1 (qC (qH Z)))) (hb' :m[b']? =some (.cells o3' 1 (qC (qH Y)))) (hc:m[c]? =some (.cells o4 1 [.slice b 0 Z.length none,.slice b' 0 Y.length none])):
  ACallsTo Tryz.prog 236 [shA s,.slice c 0 2 none] m (.int .i64 0) m:=by
 have hG:aI Tryz.prog 236=some Tryz.f236:=by kernel_rfl
 have lb:=(List.getElem?_eq_some_iff.1 hb).1
 have lb' :=(List.getElem?_eq_some_iff.1 hb').1
 have lc:=(List.getElem?_eq_some_iff.1 hc).1
 have hO:=xC s m 0 1 o1 o2 hp hq rfl rfl
 obtain⟨b1,b2,hbb⟩:∃b1 b2,am Tryz.f236=[b1,b2]:=⟨_,_,rfl⟩
 obtain⟨F,hF⟩:=gE (O:=gU s m) (K:=s.P.length+4) Z hZ hl (by omega) (mem:=m++[.cells true 0 [.slice 0 0 s.P.length none,.slice 1 0 s.T.length none]]) (b0:=b) (o:=o3) (by rw[List.getElem?_append_left lb];exact hb) (m0:=m.length) (fun z h=>oa s m _ z h) hbb
 have hF1:=fun env0 d h28 h29 h30=>(hF env0 d ⟨h28,h29,h30⟩).1
 have g16:=fun env0 d h28 h29 h30=>(hF env0 d ⟨h28,h29,h30⟩).2.1
 have g17:=fun env0 d h28 h29 h30=>(hF env0 d ⟨h28,h29,h30⟩).2.2.1
 have g18:=fun env0 d h28 h29 h30=>(hF env0 d ⟨h28,h29,h30⟩).2.2.2.1
 have g2:=fun env0 d h28 h29 h30=>(hF env0 d ⟨h28,h29,h30⟩).2.2.2.2
 obtain⟨F2,hF2⟩:=gE (O:=gU s m) (K:=s.P.length+4) Y hY (by omega) (by omega) (mem:=m++[.cells true 0 [.slice 0 0 s.P.length none,.slice 1 0 s.T.length none]]) (b0:=b') (o:=o3') (by rw[List.getElem?_append_left lb'];exact hb') (m0:=m.length) (fun z h=>oa s m _ z h) hbb
 have hF1' :=fun env0 d h28 h29 h30=>(hF2 env0 d ⟨h28,h29,h30⟩).1
 have g16' :=fun env0 d h28 h29 h30=>(hF2 env0 d ⟨h28,h29,h30⟩).2.1
 have g17' :=fun env0 d h28 h29 h30=>(hF2 env0 d ⟨h28,h29,h30⟩).2.2.1
 have g18' :=fun env0 d h28 h29 h30=>(hF2 env0 d ⟨h28,h29,h30⟩).2.2.2.1
 have g2' :=fun env0 d h28 h29 h30=>(hF2 env0 d ⟨h28,h29,h30⟩).2.2.2.2
 clear hF hF2
 simp[am,aJ,Tryz.f236] at hbb
 obtain⟨_,rfl⟩:=hbb
 have w2:IntKind.i64.wrap 2=2:=rfl
 have w0:IntKind.i64.wrap 1=1:=rfl
 have hms:=rG s m [.cells true 0 [.slice 0 0 s.P.length none,.slice 1 0 s.T.length none]]
 obtain⟨O,hOO⟩:∃O,O=gU s m:=⟨_,rfl⟩
 rw[←hOO] at hO hF1 hF1' hms
 have hc' :(m++[.cells true 0 [.slice 0 0 s.P.length none,.slice 1 0 s.T.length none]])[c]? =some (.cells o4 1 [.slice b 0 Z.length none,.slice b' 0 Y.length none]):=by rw[List.getElem?_append_left lc];exact hc
 have h:ab (az Tryz.prog) nZ (aI Tryz.prog) O (s.P.length+4) 236 [shA s,.slice c 0 2 none] m=some ⟨.int .i64 0,none,[]⟩:=by
  obtain⟨N,hN⟩:∃N,N=s.P.length:=⟨_,rfl⟩
  simp only[shA,hn,hn2,←hN] at hms hF1 g16 g17 g18 g2 hF1' g16' g17' g18' g2' hc' ⊢
  simp[ab,hG,Tryz.f236,hms,hF1,g16,g17,g18,g2,hF1',g16',g17',g18',g2',w2,aC,dS,nZ,hc',w0]
 have:=(ae aa (ai _) hO (aj _) h).1
 simpa [CallRes.mem] using this
theorem nW(s:Sheet) (Z:List Int) (hZ:∀z∈Z,z.natAbs<1000) (hl:Z.length≤1000) (hn:Z.length=s.P.length) (m:Mem) (b:Nat) (o1 o2 o3:Bool)
  (hp:m[0]? =some (.cells o1 2 (pC s.P))) (hq:m[1]? =some (.cells o2 3 (tC s.T))) (hb:m[b]? =some (.cells o3 1 (qC (qH Z)))):
  ACallsTo Tryz.prog 203 [shA s,.slice b 0 Z.length none] m (.int .i64 0) m:=by
 have hG:aI Tryz.prog 203=some Tryz.f203:=by kernel_rfl
 have l0:=(List.getElem?_eq_some_iff.1 hp).1
 have l1:=(List.getElem?_eq_some_iff.1 hq).1
 have lb:=(List.getElem?_eq_some_iff.1 hb).1
 obtain⟨E,hE⟩:∃E:Mem,E=[.cells true 0 [.slice 0 0 s.P.length none,.slice 1 0 s.T.length none],.cells true 1 [.slice b 0 Z.length none]]:=⟨_,rfl⟩
 have hk:=zv s Z hZ hl hn (m++E) b (m.length+1) o1 o2 o3 true (by rw[List.getElem?_append_left l0];exact hp) (by rw[List.getElem?_append_left l1];exact hq) (by rw[List.getElem?_append_left lb];exact hb) (by rw[hE];simp)
 have hO:OracleOk Tryz.prog (cg [(236,[shA s,.slice (m.length+1) 0 1 none],m++E,⟨.int .i64 0,none,[]⟩)]):=dn fun e he=>by
  simp only[List.mem_cons,List.not_mem_nil,or_false] at he
  subst he
  exact⟨by simpa [CallRes.mem] using hk,by simp⟩
 have h:ab (az Tryz.prog) (fun _=>[]) (aI Tryz.prog) (cg [(236,[shA s,.slice (m.length+1) 0 1 none],m++E,⟨.int .i64 0,none,[]⟩)]) 1 203 [shA s,.slice b 0 Z.length none] m=some ⟨.int .i64 0,none,[]⟩:=by
  rw[hE]
  simp[ab,hG,Tryz.f203,cg,shA]
 have:=(ae aa (ai _) hO (aj _) h).1
 simpa [CallRes.mem] using this
theorem Qk{a b:Int}(h:a≤b):¬0<yk (hQ a) (hQ b):=by
 have:=Ja.2 (Rl h)
 omega
set_option maxHeartbeats 1600000 in
theorem xm{O:Oracle}{K:Nat}(Z Y:List Int) (hZY:∀(i:Nat) z y,Z[i]? =some z→Y[i]? =some y→z≤y∧z.natAbs<1000∧y.natAbs<1000) (hn:Z.length=Y.length) (hl:Z.length≤1000) (hK:Z.length<K) {mem:Mem}{b0 b1:Nat}{o o' :Bool}(hm:mem[b0]? =some (.cells o 1 (qC (qH Z)))) (hm' :mem[b1]? =some (.cells o' 1 (qC (qH Y)))) {m0:Nat}
  (hO:∀z y:Int,z.natAbs<1000→y.natAbs<1000→O (.fn 117) [.str (aN (hQ z)),.str (aN (hQ y))] mem=some ⟨.int .i64 (yk (hQ z) (hQ y)),none,[]⟩) {b:Code}(hb:am Tryz.f204=[b]):
  ∃F:Env→Bool→Env,∀env0 d,(ac env0 19=.slice b0 0 Z.length none∧ac env0 20=.int .i64 Z.length∧ac env0 21=.int .i64 0∧ac env0 2=.slice b1 0 Z.length none)→
   aO (az Tryz.prog) (fun _=>[21]) O K 34 m0 true (.loop b) ⟨env0,mem,d⟩=some (.exit 0,⟨F env0 d,mem,d⟩)∧True:=by
 refine bD (L:=[21]) rfl (fun env0=>ac env0 19=.slice b0 0 Z.length none∧ac env0 20=.int .i64 Z.length∧ac env0 21=.int .i64 0∧ac env0 2=.slice b1 0 Z.length none) (fun _ _=>True) ?_
 rintro env0 d ⟨h28,h29,h30,h2⟩
 simp[am,aJ,Tryz.f204] at hb
 have hn0:ay [21] (ad b) env0 ((21,.int .i64 ((0:Nat):Int))::env0)=ay [21] (ad b) env0 env0:=by simp[ay,h30]
 rw[←hn0]
 refine bR (α:=Nat) (fun n=>⟨ay [21] (ad b) env0 ((21,.int .i64 (n:Int))::env0),mem,d⟩) (fun n=>Z.length-n) (fun n=>n≤Z.length) (.exit 0) _ d _ (by simp) ?_ K 0 (by omega) (by omega)
 rintro n hn1
 clear hn0
 subst hb
 by_cases hlt:n<Z.length
 ·obtain⟨z,hz⟩:∃z,Z[n]? =some z:=⟨Z[n],List.getElem?_eq_getElem hlt⟩
  obtain⟨y,hy⟩:∃y,Y[n]? =some y:=⟨Y[n]'(by omega),List.getElem?_eq_getElem (by omega)⟩
  have k1:=Ro hz
  have k2:=Ro hy
  obtain⟨p1,p2,p3⟩:=hZY n z y hz hy
  have l1:=hO z y p2 p3
  have c1:=Qk p1
  have w1:IntKind.i64.wrap ((n:Int)+1)=((n+1:Nat):Int):=by rw[al (by omega) (by omega)];omega
  left
  obtain⟨v,hv⟩:∃v,v=n+1:=⟨_,rfl⟩
  rw[←hv] at w1
  refine⟨v,?_⟩
  simp[h28,h29,h2,hlt,hm,hm',k1,k2,l1,w1,c1]
  omega
 ·right
  simp[h29,hlt]
open Classical in
noncomputable def rF(f:FuncId) (args:List AV):Option AV:=match f,args with
 |117,[.str s,.str t]=>match dE s,dE t with
  |some a,some b=>if big 3 a∧big 3 b then some (.int .i64 (yk a b)) else none
  |_,_=>none
 |_,_=>none
theorem JT{k:Nat}{q:Rat}(h0:0<k) (hk:k≤9) (h:big k q):HH q:=by
 have h1:=bp h0 h.1
 have h2:=bp h0 h.2
 exact⟨by omega,by omega⟩
theorem KR:OracleOk Tryz.prog (ao rF):=bN fun f args v h mem=>by
 unfold rF at h
 split at h
 ·split at h
  ·rename_i a b ha hb
   split at h
   ·rename_i hc
    cases h
    rw[au ha,au hb]
    exact pX a b (JT (by decide) (by decide) hc.1) (JT (by decide) (by decide) hc.2) mem
   ·cases h
  ·cases h
 ·cases h
set_option maxHeartbeats 1600000 in
theorem nV(s:Sheet) (Z Y:List Int) (hZ:∀z∈Z,z.natAbs<1000) (hY:∀z∈Y,z.natAbs<1000) (hl:Z.length≤1000) (hn:Z.length=s.P.length) (hn2:Y.length=s.P.length) (hZY:∀(i:Nat) z y,Z[i]? =some z→Y[i]? =some y→z≤y) (m:Mem) (b b' :Nat) (o1 o2 o3 o4:Bool)
  (hp:m[0]? =some (.cells o1 2 (pC s.P))) (hq:m[1]? =some (.cells o2 3 (tC s.T))) (hb:m[b]? =some (.cells o3 1 (qC (qH Z)))) (hb' :m[b']? =some (.cells o4 1 (qC (qH Y)))):
  ACallsTo Tryz.prog 204 [shA s,.slice b 0 Z.length none,.slice b' 0 Y.length none] m (.tuple [.bool true,.int .i64 0]) m:=by
 have hG:aI Tryz.prog 204=some Tryz.f204:=by kernel_rfl
 have l0:=(List.getElem?_eq_some_iff.1 hp).1
 have l1:=(List.getElem?_eq_some_iff.1 hq).1
 have lb:=(List.getElem?_eq_some_iff.1 hb).1
 have lb' :=(List.getElem?_eq_some_iff.1 hb').1
 obtain⟨E,hE⟩:∃E:Mem,E=[.cells true 0 [.slice 0 0 s.P.length none,.slice 1 0 s.T.length none],.cells true 1 [.slice b 0 Z.length none,.slice b' 0 Y.length none]]:=⟨_,rfl⟩
 have hk:=zw s Z hZ hl hn Y hY hn2 (m++E) b b' (m.length+1) o1 o2 o3 o4 true (by rw[List.getElem?_append_left l0];exact hp) (by rw[List.getElem?_append_left l1];exact hq) (by rw[List.getElem?_append_left lb];exact hb) (by rw[List.getElem?_append_left lb'];exact hb') (by rw[hE];simp)
 obtain⟨O,hOO⟩:∃O,O=Oracle.or (ao rF) (cg [(236,[shA s,.slice (m.length+1) 0 2 none],m++E,⟨.int .i64 0,none,[]⟩)]):=⟨_,rfl⟩
 have hO:OracleOk Tryz.prog O:=by
  rw[hOO]
  refine OracleOk.or' KR (dn fun e he=>?_)
  simp only[List.mem_cons,List.not_mem_nil,or_false] at he
  subst he
  exact⟨by simpa [CallRes.mem] using hk,by simp⟩
 have hO1:O (.fn 236) [shA s,.slice (m.length+1) 0 2 none] (m++E)=some ⟨.int .i64 0,none,[]⟩:=by
  rw[hOO];simp[Oracle.or,ao,rF,cg]
 have hO2:∀z y:Int,z.natAbs<1000→y.natAbs<1000→O (.fn 117) [.str (aN (hQ z)),.str (aN (hQ y))] (m++E)=some ⟨.int .i64 (yk (hQ z) (hQ y)),none,[]⟩:=fun z y hz hy=>by
  have e1:=Nj hz
  have e2:=Nj hy
  have b1:big 3 (hQ z):=⟨e1.1,by have:=e1.2;omega⟩
  have b2:big 3 (hQ y):=⟨e2.1,by have:=e2.2;omega⟩
  rw[hOO];simp[Oracle.or,ao,rF,aR,b1,b2]
 clear hOO
 obtain⟨bb,hbb⟩:∃b,am Tryz.f204=[b]:=⟨_,rfl⟩
 obtain⟨F,hF⟩:=xm (O:=O) (K:=s.P.length+1) Z Y (fun i z y hz hy=>⟨hZY i z y hz hy,hZ z (List.mem_of_getElem? hz),hY y (List.mem_of_getElem? hy)⟩) (by omega) hl (by omega) (mem:=m++E) (b0:=b) (b1:=b') (o:=o3) (o' :=o4) (by rw[List.getElem?_append_left lb];exact hb) (by rw[List.getElem?_append_left lb'];exact hb') (m0:=m.length) hO2 hbb
 have hF1:=fun env0 d h1 h2 h3 h4=>(hF env0 d ⟨h1,h2,h3,h4⟩).1
 clear hF hO2
 simp[am,aJ,Tryz.f204] at hbb
 subst hbb
 have h:ab (az Tryz.prog) (fun _=>[21]) (aI Tryz.prog) O (s.P.length+1) 204 [shA s,.slice b 0 Z.length none,.slice b' 0 Y.length none] m=some ⟨.tuple [.bool true,.int .i64 0],none,[]⟩:=by
  clear hk
  obtain⟨N,hN⟩:∃N,N=s.P.length:=⟨_,rfl⟩
  subst hE
  simp only[shA,hn,hn2,←hN] at hO1 hF1 ⊢
  simp[ab,hG,Tryz.f204,hO1,hF1]
 have:=(ae aa (ai _) hO (aj _) h).1
 simpa [CallRes.mem] using this
end Go.Proofs
