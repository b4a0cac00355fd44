/- See P53. -/
import Derived.Test.YtmhkeaphiadacaaGreatDoorP27
import Derived.Test.YtmhkeaphiadacaaGreatDoorP28
set_option linter.all false
set_option maxRecDepth 100000
set_option maxHeartbeats 40000000
namespace Go.Proofs
open Go.Eng
open Tryz
theorem R7:∀L:List P2,pC L=kC (kT L)
 | []=>rfl
 |p::L=>by have:=R7 L;simp[pC,kC,kT,this]
theorem Fz(d:aao)(j:Nat)(hj:j<3):yV (aN (yZ d j).1)=0∧yV (aN (yZ d j).2)=0:=by
 have h3: -3<d.N.tmod 3∧d.N.tmod 3<3:=ru d.N 3 (by decide);have hk:Lg d.K j%4<4:=Nat.mod_lt _ (by decide);obtain⟨u,hu⟩:∃u,u=Lg d.K j%4:=⟨_,rfl⟩
 rw[←hu] at hk;refine⟨Uf (n:=d.N.tmod 3+2*j) (by omega),?_⟩;have hd:d.K.2.2.2%2<2:=Nat.mod_lt _ (by decide);obtain⟨v,hv⟩:∃v,v=d.K.2.2.2%2:=⟨_,rfl⟩
 rw[←hv] at hd;have:dg 3 1 (mkRat ((u:Int)-1) (1+v)):=vd (by omega) (by omega) (by omega);unfold yZ;rw[←hu,←hv];exact wD (this.mono (by omega) (by omega))
theorem UP(d:aao)(c:Nat)(h1:0<c)(hc:c≤3):knE (kT (cU d c))=0:=by
 have k0:=Fz d 0 (by omega);have k1:=Fz d 1 (by omega);have k2:=Fz d 2 (by omega);have p:∀q:Rat,ef (aN q)=some q:=aM
 have l:∀i j:Nat,i<j→(yZ d i).1<(yZ d j).1:=fun i j h=>by
  simp only[yZ]
  exact_mod_cast (by omega:d.N.tmod 3+2*(i:Int)<d.N.tmod 3+2*(j:Int))
 have l1:=l 0 1 (by omega);have l2:=l 1 2 (by omega);have r1:List.range 1=[0]:=rfl;have r2:List.range 2=[0,1]:=rfl;have r3:List.range 3=[0,1,2]:=rfl;have:c=1∨c=2∨c=3:=by omega
 rcases this with rfl | rfl | rfl
 ·simp[knE,cU,r1,kT,ckE,k0,DH]
 ·simp[knE,cU,r2,kT,ckE,k0,k1,p,DH,l1]
 ·simp[knE,cU,r3,kT,ckE,k0,k1,k2,p,DH,l1,l2]
theorem uv(d:aao)(c:Nat)(h1:0<c)(hc:c≤3)(M:Mem)(b:Nat)(o:Bool)(hb:M[b]? =some (.cells o 2 (pC (cU d c)))):
  mB prog 210 [.slice b 0 c none] M (.int .i64 0) M:=by
 have hl:(kT (cU d c)).length=c:=by rw[qP,fL]
 have h:=vM (kT (cU d c)) (fun q hq=>by
  simp only[kT,cU,List.map_map,List.mem_map,List.mem_range] at hq;obtain⟨j,hj,rfl⟩:=hq;have h3: -3<d.N.tmod 3∧d.N.tmod 3<3:=ru d.N 3 (by decide);obtain⟨u,hu⟩:∃u,u=Lg d.K j%4:=⟨_,rfl⟩
  have hk:u<4:=by rw[hu];exact Nat.mod_lt _ (by decide)
  obtain⟨v,hv⟩:∃v,v=d.K.2.2.2%2:=⟨_,rfl⟩
  have hd:v<2:=by rw[hv];exact Nat.mod_lt _ (by decide)
  have e1:dg 3 1 (mkRat ((u:Int)-1) (1+v)):=vd (by omega) (by omega) (by omega);have b2:big 3 (mkRat ((u:Int)-1) (1+v)):=⟨e1.1,by have:=e1.2;omega⟩;have e2:=Dg (by decide) b2;have e3:=fE (n:=d.N.tmod 3+2*j) (by omega);have f1:(((fun q=>(aN q.1,aN q.2))∘yZ d) j).1=zS (d.N.tmod 3+2*j):=rfl;have f2:(((fun q=>(aN q.1,aN q.2))∘yZ d) j).2=aN (mkRat ((u:Int)-1) (1+v)):=by rw[hu,hv];rfl
  rw[f1,f2];exact⟨by unfold zS;omega,by omega⟩) (by omega)
 rw[hl,UP d c h1 hc,←R7] at h;exact mB.ab0 (rest:=[]) (bV _) rfl rfl h ⟨b,o,_,rfl,hb,List.take_length⟩
theorem Ak(d:Nat)(a b:List UInt8):iI (aC prog) (d+2) 110 (.agg [.str a,.str b]) (.agg [.str a,.str b])=some true:=by have i:=fV d;rw[iI];simp[Kl,fR,TyI.isAgg,i]
section
variable (L:List P2)(h1:0<L.length)(hc:L.length≤3)
include L h1 hc
theorem Ow:
  mB prog 84 [.slice 0 0 L.length none,.slice 0 0 L.length none] [.cells false 2 (pC L)] (.bool true) [.cells false 2 (pC L)]:=by
 have hG:aO prog 84=some f84:=by kernel_rfl
 have PP:=bH (rfl:aP f84=_) (ls:=[[0,0,3,7,0,0,48,112,255]]) (by kernel_rfl);simp only[aP,bQ,f84,List.nil_append,List.append_nil,List.map_cons,List.map_nil,List.cons.injEq,and_true] at PP;have a0:ba [0,0,3,7,0,0,48,112,255] 8=true:=by decide
 have e:=fun d=>Ak d
 refine aY (lv:=(fun _=>[13])) (K:=5) (ah _) ?_
 match L,h1,hc with
 | [p],_,_=>simp[-ay,ag PP,aJ,aG,aH,a0,ad,hG,f84,aR,gl,pC,e,w1]
 | [p,q],_,_=>simp[-ay,ag PP,aJ,aG,aH,a0,ad,hG,f84,aR,gl,pC,e,w1,w2]
 | [p,q,r],_,_=>simp[-ay,ag PP,aJ,aG,aH,a0,ad,hG,f84,aR,gl,pC,e,w1,w2,w3]
theorem Qv(M:Mem)(b:Nat)(o:Bool)(hb:M[b]? =some (.cells o 2 (pC L))):
  mB prog 84 [.slice b 0 L.length none,.slice b 0 L.length none] M (.bool true) M:=by
 have AC:=(List.getElem?_eq_some_iff.1 hb).1;have:=mB.frame (M:=M) (new:=[]) [b] rfl (by simpa using AC) (by rfl) (fun i t hs=>by
  match i with
  |0=>simp at hs;subst hs;exact aV (bV _) hb List.take_length
  |i+1=>simp at hs) rfl (Ow L h1 hc)
 simpa [AV.aal,AV.ren,dr] using this
end
open Classical in
noncomputable def gP(f:FuncId) (args:List AV) (v:AV) (p:Mem→Prop):aac:=fun c a M=>if c=.fn f∧a=args∧p M then some ⟨v,none,[]⟩ else none
theorem ij{P:Program}{f:FuncId}{args:List AV}{v:AV}{p:Mem→Prop}(h:∀M,p M→mB P f args M v M):qS P (gP f args v p):=by
 have k:∀c a M r,gP f args v p c a M=some r→(c=.fn f∧a=args∧p M)∧r=⟨v,none,[]⟩:=fun c a M r hr=>by
  unfold gP at hr;split at hr
  ·cases hr;exact⟨‹_›,rfl⟩
  ·cases hr
 refine⟨fun g a M r hr=>?_,fun b a M r hr=>?_,fun c a M r q hr hq=>?_⟩
 ·obtain⟨⟨h1,rfl,h2⟩,rfl⟩:=k _ _ _ _ hr
  cases h1;simpa [HS.mem] using h M h2
 ·obtain⟨⟨h1,_⟩,_⟩:=k _ _ _ _ hr
  cases h1
 ·obtain⟨_,rfl⟩:=k _ _ _ _ hr
  cases hq
theorem BL(nm:List UInt8)(n:Z3)(L:List P2)(s:Z3)(h1:0<L.length)(hc:L.length≤3)(M:Mem)(b:Nat)(o:Bool)(hb:M[b]? =some (.cells o 2 (pC L))):
  mB prog 49 [.agg (cb nm n (.slice b 0 L.length none) s),.agg (cb nm n (.slice b 0 L.length none) s)] M (.bool true) M:=by
 have AC:=(List.getElem?_eq_some_iff.1 hb).1;refine iW (qS.or' eA (ij (f:=84) (args:=[.slice b 0 L.length none,.slice b 0 L.length none]) (v:=.bool true) (p:=fun M' =>M'[b]? =some (.cells o 2 (pC L))) fun M' h=>Qv L h1 hc M' b o h)) rfl rfl rfl ?_;have:(M++[.cells true 0 (cb nm n (.slice b 0 L.length none) s),.cells true 0 (cb nm n (.slice b 0 L.length none) s)])[b]? =some (.cells o 2 (pC L)):=by rw[List.getElem?_append_left AC];exact hb
 unfold aac.or;rw[show rH (.fn 84) [.slice b 0 L.length none,.slice b 0 L.length none] _=none from rfl];simp only[gP];exact if_pos ⟨rfl,rfl,this⟩
def fG:AV:=.agg [.func 159 [],.func 160 [],.func 161 [],.func 162 [],.func 163 []]
theorem zO(nm:List UInt8)(n:Z3)(c:Nat)(s:Z3):mB prog 81 [.agg (cb nm n (.slice 0 0 c none) s)] [.qF] fG [.qF]:=by
 have h:ad (aC prog) ab (aO prog) og 6 81 [.agg (cb nm n (.slice 0 0 c none) s)] [.qF]=some ⟨fG,none,[]⟩:=by as_aux_lemma=>kernel_rfl
 have:=(au af (aw _) gp (ax _) h).1;simpa [HS.mem] using this
theorem sw(nm:List UInt8)(n:Z3)(c:Nat)(s:Z3)(M:Mem)(b:Nat)(hb:b<M.length):mB prog 81 [.agg (cb nm n (.slice b 0 c none) s)] M fG M:=by
 have:=mB.frame (M:=M) (new:=[]) [b] rfl (by simpa using hb) (by rfl) (fun i t hs=>by
  match i with
  |0=>simp at hs;subst hs;trivial
  |i+1=>simp at hs) rfl (zO nm n c s)
 simpa [cb,AV.aal,AV.ren,dr,fG] using this
noncomputable def ix(n s:Z3):List (FuncId×List AV×AV):=[
 (53,[zA n],.int .i64 0),
 (209,[zA s,zA n],.int .i64 0)]
theorem F8(nm:List UInt8)(n s:Z3)(d:aao)(c:Nat)(h1:0<c)(hc:c≤3)(hn:gm 99 n)(hz:iS n=false)(hs:gm 99 s)(hd:Ld s n=0)(x y:AV)(m:Mem)(b:Nat)(o:Bool)(hb:m[b]? =some (.cells o 2 (pC (cU d c)))):
  mB prog 160 [.agg [x,y],.agg (cb nm n (.slice b 0 c none) s)] m (.int .i64 0) m:=by
 have hG:aO prog 160=some f160:=by kernel_rfl
 have AC:=(List.getElem?_eq_some_iff.1 hb).1;have Xx:qS prog (ar (de (ix n s))):=fJ fun e he M=>by
  simp only[ix,List.mem_cons,List.not_mem_nil,or_false] at he;rcases he with rfl | rfl
  ·exact uy n hn M
  ·exact zw s n hs hn hd M
 have W0:qS prog (gP 210 [.slice b 0 c none] (.int .i64 0) (fun M=>∃ext,M=m++ext)):=ij fun M hM=>by obtain⟨ext,rfl⟩:=hM;exact uv d c h1 hc _ b o (by rw[List.getElem?_append_left AC];exact hb)
 have hO:=qS.or' Xx W0;have e1:=oU n.1;have e2:=oU n.2.1;have e3:=oU n.2.2;have Yc:((zS n.1==[48]&&zS n.2.1==[48])&&zS n.2.2==[48])=false:=by rw[e1,e2,e3];exact hz
 clear Xx W0 hb AC hd hs hz hn e1 e2 e3;obtain⟨n1,n2,n3⟩:=n;simp only at Yc;obtain⟨A,hA⟩:∃A,A=zS n1:=⟨_,rfl⟩
 obtain⟨B,hB⟩:∃A,A=zS n2:=⟨_,rfl⟩
 obtain⟨C,hC⟩:∃A,A=zS n3:=⟨_,rfl⟩
 rw[←hA,←hB,←hC] at Yc;have h:ad (aC prog) (fun _=>[]) (aO prog) (aac.or (ar (de (ix (n1,n2,n3) s))) (gP 210 [.slice b 0 c none] (.int .i64 0) (fun M=>∃ext,M=m++ext))) 1 160 [.agg [x,y],.agg (cb nm (n1,n2,n3) (.slice b 0 c none) s)] m=some ⟨.int .i64 0,none,[]⟩:=by
  have Y9:(A==[48])=false∨((A==[48])=true∧(B==[48])=false)∨((A==[48])=true∧(B==[48])=true∧(C==[48])=false):=by cases ha:(A==[48])<;>cases hb:(B==[48])<;>cases hc:(C==[48])<;>simp_all
  rcases Y9 with ha | ⟨ha,hb⟩ | ⟨ha,hb,hc⟩
  ·simp[ad,hG,f160,aac.or,ar,ix,de,gP,cb,zA,←hA,←hB,←hC,ha]
  ·simp[ad,hG,f160,aac.or,ar,ix,de,gP,cb,zA,←hA,←hB,←hC,ha,hb]
  ·simp[ad,hG,f160,aac.or,ar,ix,de,gP,cb,zA,←hA,←hB,←hC,ha,hb,hc]
 have:=(au af (aw _) hO (ax _) h).1;simpa [HS.mem] using this
def vg(s:aaf) (L:List P2):Mem:=[.cells false 2 (pC s.P),.cells false 3 (tC s.T),.cells false 2 (pC L)]
def my(s:aaf) (L:List P2) (ev:List AV):Mem:=[.cells false 2 (pC s.P),.cells false 3 (tC s.T),.cells false 2 (pC L),.cells true 0 [.slice 0 0 s.P.length none,.slice 1 0 s.T.length none],.cells true 0 ev]
theorem ye(sh:aaf)(nm:List UInt8)(n s:Z3)(L:List P2)(c:Nat):
  mB prog 159 [.agg (cb nm n (.slice 2 0 c none) s),.ptr 5 0] (my sh L (cb nm n (.slice 2 0 c none) s)++[.cells true 0 (cS 3 nm)]) (.tuple []) (my sh L (cb nm n (.slice 2 0 c none) s)++[.cells true 0 (cb nm n (.slice 2 0 c none) s)]):=by
 have hG:aO prog 159=some f159:=by kernel_rfl
 have h:ad (aC prog) (fun _=>[]) (aO prog) bt 1 159 [.agg (cb nm n (.slice 2 0 c none) s),.ptr 5 0] (my sh L (cb nm n (.slice 2 0 c none) s)++[.cells true 0 (cS 3 nm)])=some ⟨.tuple [],some (my sh L (cb nm n (.slice 2 0 c none) s)++[.cells true 0 (cb nm n (.slice 2 0 c none) s)]),[]⟩:=by simp[ad,hG,f159,my,cS,cb,be,bM,cz,iQ]
 have:=(au af (aw _) (ah _) (ax _) h).1;simpa [HS.mem] using this
noncomputable def lM(sh:aaf) (L:List P2) (nm:List UInt8) (ev:List AV):List (FuncId×List AV×Mem×HS):=[
 (41,[shA sh],my sh L ev,⟨.int .i64 0,none,[]⟩),
 (81,[.agg ev],my sh L ev++[.cells true 0 (cS 3 nm)],⟨fG,none,[]⟩),
 (159,[.agg ev,.ptr 5 0],my sh L ev++[.cells true 0 (cS 3 nm)],⟨.tuple [],some (my sh L ev++[.cells true 0 ev]),[]⟩),
 (49,[.agg ev,.agg ev],my sh L ev++[.cells true 0 ev],⟨.bool true,none,[]⟩),
 (81,[.agg ev],my sh L ev++[.cells true 0 ev],⟨fG,none,[]⟩),
 (160,[shA sh,.agg ev],my sh L ev++[.cells true 0 ev],⟨.int .i64 0,none,[]⟩)]
theorem vR(sh:aaf)(nm:List UInt8)(n s:Z3)(d:aao)(c:Nat)(h1:0<c)(hc:c≤3)(hm:nm∈bk)(hn:gm 99 n)(hz:iS n=false)(hs:gm 99 s)(hd:Ld s n=0):
  mB prog 43 [shA sh,.agg (cb nm n (.slice 2 0 c none) s)] (vg sh (cU d c)) (.int .i64 0) (vg sh (cU d c)):=by
 have hG:aO prog 43=some f43:=by kernel_rfl
 have PP:=bH (rfl:aP f43=_) (ls:=[[0,1,3,0,15],[0,1,3,0,0,31,63]]) (by kernel_rfl);simp only[aP,bQ,f43,List.nil_append,List.append_nil,List.cons_append,List.map_cons,List.map_nil,List.cons.injEq,and_true] at PP;obtain⟨WS,hb1⟩:=PP;have a0:ba [0,1,3,0,15] 4=true:=by decide
 have a1:ba [0,1,3,0,0,31,63] 6=true:=by decide
 have hl:=fL d c;obtain⟨ev,WQ⟩:∃ev,ev=cb nm n (.slice 2 0 c none) s:=⟨_,rfl⟩
 have Xx:qS prog (ar (de [(80,[.str nm],.int .i64 0)])):=fJ fun e he M=>by simp only[List.mem_cons,List.not_mem_nil,or_false] at he;subst he;exact cW nm hm M
 have W0:qS prog (gj (lM sh (cU d c) nm ev)):=iK fun e he=>by
  simp only[lM,List.mem_cons,List.not_mem_nil,or_false] at he;subst WQ;have hq:=BL nm n (cU d c) s (by omega) (by omega) (my sh (cU d c) (cb nm n (.slice 2 0 c none) s)++[.cells true 0 (cb nm n (.slice 2 0 c none) s)]) 2 false rfl;rw[hl] at hq;rcases he with rfl | rfl | rfl | rfl | rfl | rfl
  ·exact⟨by simpa [HS.mem,shA] using bl sh (my sh (cU d c) (cb nm n (.slice 2 0 c none) s)) 0 1 false false rfl rfl,by simp⟩
  ·exact⟨by simpa [HS.mem] using sw nm n c s (my sh (cU d c) (cb nm n (.slice 2 0 c none) s)++[.cells true 0 (cS 3 nm)]) 2 (by simp[my]),by simp⟩
  ·exact⟨by simpa [HS.mem] using ye sh nm n s (cU d c) c,by simp[my]⟩
  ·exact⟨by simpa [HS.mem] using hq,by simp⟩
  ·exact⟨by simpa [HS.mem] using sw nm n c s (my sh (cU d c) (cb nm n (.slice 2 0 c none) s)++[.cells true 0 (cb nm n (.slice 2 0 c none) s)]) 2 (by simp[my]),by simp⟩
  ·exact⟨by simpa [HS.mem,shA] using F8 nm n s d c h1 hc hn hz hs hd (.slice 0 0 sh.P.length none) (.slice 1 0 sh.T.length none) (my sh (cU d c) (cb nm n (.slice 2 0 c none) s)++[.cells true 0 (cb nm n (.slice 2 0 c none) s)]) 2 false rfl,by simp⟩
 have hO:=qS.or' Xx W0;obtain⟨L,hL⟩:∃L,L=cU d c:=⟨_,rfl⟩
 rw[←hL] at hO ⊢;have h:ad (aC prog) (fun _=>[]) (aO prog) (aac.or (ar (de [(80,[.str nm],.int .i64 0)])) (gj (lM sh L nm ev))) 1 43 [shA sh,.agg (cb nm n (.slice 2 0 c none) s)] (vg sh L)=some ⟨.int .i64 0,some (vg sh L),[]⟩:=by rw[WQ];simp[cf,-ay,ag WS,ag hb1,aJ,aG,aH,a0,a1,Nat.testBit,-lY,fz,gn,ad,hG,f43,aac.or,ar,de,gj,lM,fG,shA,my,vg,cS,cb,bO,aL,be,bM,cz,iQ,oI,BB]
 have:=(au af (aw _) hO (ax _) h).1;simpa [HS.mem] using this
theorem Wi{Z:List Int}{i:Nat}{z:Int}(h:Z[i]? =some z):(qC (qH Z))[i]? =some (.str (aN (hQ z))):=VN (by simp[qH,h])
def pJ(c:Code):List Nat:=if (ab c).contains 18 then [18] else [30]
variable{K b0 m0:Nat}{O:aac}{b:Code}{mem:Mem}{o:Bool}
theorem iX(Z:List Int)(hZ:∀z∈Z,z.natAbs<1000)(hl:Z.length≤1000)(hK:Z.length<K)(hm:mem[b0]? =some (.cells o 1 (qC (qH Z))))(hO:∀z:Int,z.natAbs<1000→O (.fn 125) [.str (aN (hQ z))] mem=some ⟨.int .i64 0,none,[]⟩){b1:Code}(hb:aj f236=[b1,b]):
  ∃F:Env→Bool→Env,∀y' d,(aa y' 28=.slice b0 0 Z.length none∧aa y' 29=.int .i64 Z.length∧aa y' 30=.int .i64 0)→
   aQ (aC prog) pJ O K 41 m0 true (.loop b) ⟨y',mem,d⟩=some (.exit 2,⟨F y' d,mem,d⟩)∧(aa (F y' d) 16=aa y' 16∧aa (F y' d) 17=aa y' 17∧aa (F y' d) 18=aa y' 18∧aa (F y' d) 2=aa y' 2):=by
 refine bf (L:=[30]) (by simp[aj,aD,f236] at hb;rw[←hb.2];rfl) (fun y'=>aa y' 28=.slice b0 0 Z.length none∧aa y' 29=.int .i64 Z.length∧aa y' 30=.int .i64 0) (fun y' z' =>aa z' 16=aa y' 16∧aa z' 17=aa y' 17∧aa z' 18=aa y' 18∧aa z' 2=aa y' 2) ?_;rintro y' d ⟨Xy,W3,WW⟩;simp[aj,aD,f236] at hb;have hn:az [30] (ab b) y' ((30,.int .i64 ((0:Nat):Int))::y')=az [30] (ab b) y' y':=by simp[az,WW]
 rw[←hn];refine bA (α:=Nat) (fun n=>⟨az [30] (ab b) y' ((30,.int .i64 (n:Int))::y'),mem,d⟩) (fun n=>Z.length-n) (fun n=>n≤Z.length) (.exit 2) _ d _ (by simp) ?_ K 0 (by omega) (by omega);rintro n Xi;clear hn;obtain⟨_,rfl⟩:=hb;by_cases AC:n<Z.length
 ·obtain⟨z,hz⟩:∃z,Z[n]? =some z:=⟨Z[n],List.getElem?_eq_getElem AC⟩
  have k1:=Wi hz;have l1:=hO z (hZ z (List.mem_of_getElem? hz));have w1:IntKind.i64.wrap ((n:Int)+1)=((n+1:Nat):Int):=by rw[ai (by omega) (by omega)];omega
  left;obtain⟨v,hv⟩:∃v,v=n+1:=⟨_,rfl⟩
  rw[←hv] at w1;refine⟨v,?_⟩;simp[Xy,W3,AC,hm,k1,l1,w1];omega
 ·right
  simp[W3,AC]
def uT(f:FuncId) (args:List AV):Option AV:=match f,args with
 |125,[.str s]=>if s.length≤9 then some (.int .i64 (yV s)) else none
 |_,_=>none
theorem Pn:qS prog (ar uT):=bZ fun f args v h mem=>by
 unfold uT at h;split at h
 ·split at h
  ·cases h;exact pz _ (by omega) mem
  ·cases h
 ·cases h
noncomputable def jl(s:aaf) (m:Mem):aac:=aac.or (ar uT) (gP 41 [shA s] (.int .i64 0) (fun M=>∃ext,M=m++ext))
section
variable (s:aaf)
include s
theorem Ap(m:Mem)(p q:Nat)(o o' :Bool)(hp:m[p]? =some (.cells o 2 (pC s.P)))(hq:m[q]? =some (.cells o' 3 (tC s.T)))(h0:p=0)(h1:q=1):qS prog (jl s m):=by subst h0;subst h1;have l0:=(List.getElem?_eq_some_iff.1 hp).1;have l1:=(List.getElem?_eq_some_iff.1 hq).1;refine qS.or' Pn (ij fun M hM=>?_);obtain⟨ext,rfl⟩:=hM;exact bl s _ 0 1 o o' (by rw[List.getElem?_append_left l0];exact hp) (by rw[List.getElem?_append_left l1];exact hq)
theorem pW(m M:Mem)(z:Int)(h:z.natAbs<1000):jl s m (.fn 125) [.str (aN (hQ z))] M=some ⟨.int .i64 0,none,[]⟩:=by have hl:=A6 h;have hc:=wD ((RA h).mono (by omega) (by omega));simp[jl,aac.or,ar,uT,hl,hc]
theorem uM(m ext:Mem):jl s m (.fn 41) [shA s] (m++ext)=some ⟨.int .i64 0,none,[]⟩:=by simp[jl,aac.or,ar,uT,gP]
section
variable (Z:List Int)(hZ:∀z∈Z,z.natAbs<1000)(hl:Z.length≤1000)(hn:Z.length=s.P.length)
include Z hZ hl hn
theorem BQ(m:Mem)(b c:Nat)(o1 o2 o3 o4:Bool)(hp:m[0]? =some (.cells o1 2 (pC s.P)))(hq:m[1]? =some (.cells o2 3 (tC s.T)))(hb:m[b]? =some (.cells o3 1 (qC (qH Z))))(hc:m[c]? =some (.cells o4 1 [.slice b 0 Z.length none])):
  mB prog 236 [shA s,.slice c 0 1 none] m (.int .i64 0) m:=by
 have hG:aO prog 236=some f236:=by kernel_rfl
 have lb:=(List.getElem?_eq_some_iff.1 hb).1;have lc:=(List.getElem?_eq_some_iff.1 hc).1;have hO:=Ap s m 0 1 o1 o2 hp hq rfl rfl;obtain⟨b1,b2,XE⟩:∃b1 b2,aj f236=[b1,b2]:=⟨_,_,rfl⟩
 obtain⟨F,hF⟩:=iX (O:=jl s m) (K:=Z.length+3) Z hZ hl (by omega) (mem:=m++[.cells true 0 [.slice 0 0 s.P.length none,.slice 1 0 s.T.length none]]) (b0:=b) (o:=o3) (by rw[List.getElem?_append_left lb];exact hb) (m0:=m.length) (fun z h=>pW s m _ z h) XE;have H1:=fun y' d Xy W3 WW=>(hF y' d ⟨Xy,W3,WW⟩).1
 have g16:=fun y' d Xy W3 WW=>(hF y' d ⟨Xy,W3,WW⟩).2.1
 have g17:=fun y' d Xy W3 WW=>(hF y' d ⟨Xy,W3,WW⟩).2.2.1
 have g18:=fun y' d Xy W3 WW=>(hF y' d ⟨Xy,W3,WW⟩).2.2.2.1
 have g2:=fun y' d Xy W3 WW=>(hF y' d ⟨Xy,W3,WW⟩).2.2.2.2
 clear hF;simp[aj,aD,f236] at XE;obtain⟨_,rfl⟩:=XE;have w0:IntKind.i64.wrap 1=1:=rfl;have hms:=uM s m [.cells true 0 [.slice 0 0 s.P.length none,.slice 1 0 s.T.length none]];obtain⟨O,Ye⟩:∃O,O=jl s m:=⟨_,rfl⟩
 rw[←Ye] at hO H1 hms;have ZD :(m++[.cells true 0 [.slice 0 0 s.P.length none,.slice 1 0 s.T.length none]])[c]? =some (.cells o4 1 [.slice b 0 Z.length none]):=by rw[List.getElem?_append_left lc];exact hc
 refine aY (lv:=pJ) (K:=(Z.length+3)) hO ?_;obtain⟨N,hN⟩:∃N,N=s.P.length:=⟨_,rfl⟩
 simp only[shA,hn,←hN] at hms H1 g16 g17 g18 g2 ZD ⊢;simp[ad,hG,f236,hms,H1,g18,aR,gl,pJ,ZD,w0]
theorem BR(Y:List Int)(hY:∀z∈Y,z.natAbs<1000)(hn2:Y.length=s.P.length)(m:Mem)(b b' c:Nat)(o1 o2 o3 o3' o4:Bool)(hp:m[0]? =some (.cells o1 2 (pC s.P)))(hq:m[1]? =some (.cells o2 3 (tC s.T)))(hb:m[b]? =some (.cells o3 1 (qC (qH Z))))(J' :m[b']? =some (.cells o3' 1 (qC (qH Y))))(hc:m[c]? =some (.cells o4 1 [.slice b 0 Z.length none,.slice b' 0 Y.length none])):
  mB prog 236 [shA s,.slice c 0 2 none] m (.int .i64 0) m:=by
 have hG:aO prog 236=some f236:=by kernel_rfl
 have lb:=(List.getElem?_eq_some_iff.1 hb).1;have lb' :=(List.getElem?_eq_some_iff.1 J').1;have lc:=(List.getElem?_eq_some_iff.1 hc).1;have hO:=Ap s m 0 1 o1 o2 hp hq rfl rfl;obtain⟨b1,b2,XE⟩:∃b1 b2,aj f236=[b1,b2]:=⟨_,_,rfl⟩
 obtain⟨F,hF⟩:=iX (O:=jl s m) (K:=s.P.length+4) Z hZ hl (by omega) (mem:=m++[.cells true 0 [.slice 0 0 s.P.length none,.slice 1 0 s.T.length none]]) (b0:=b) (o:=o3) (by rw[List.getElem?_append_left lb];exact hb) (m0:=m.length) (fun z h=>pW s m _ z h) XE;have H1:=fun y' d Xy W3 WW=>(hF y' d ⟨Xy,W3,WW⟩).1
 have g16:=fun y' d Xy W3 WW=>(hF y' d ⟨Xy,W3,WW⟩).2.1
 have g17:=fun y' d Xy W3 WW=>(hF y' d ⟨Xy,W3,WW⟩).2.2.1
 have g18:=fun y' d Xy W3 WW=>(hF y' d ⟨Xy,W3,WW⟩).2.2.2.1
 have g2:=fun y' d Xy W3 WW=>(hF y' d ⟨Xy,W3,WW⟩).2.2.2.2
 obtain⟨F2,P'⟩:=iX (O:=jl s m) (K:=s.P.length+4) Y hY (by omega) (by omega) (mem:=m++[.cells true 0 [.slice 0 0 s.P.length none,.slice 1 0 s.T.length none]]) (b0:=b') (o:=o3') (by rw[List.getElem?_append_left lb'];exact J') (m0:=m.length) (fun z h=>pW s m _ z h) XE;have hF1' :=fun y' d Xy W3 WW=>(P' y' d ⟨Xy,W3,WW⟩).1
 have g16' :=fun y' d Xy W3 WW=>(P' y' d ⟨Xy,W3,WW⟩).2.1
 have g17' :=fun y' d Xy W3 WW=>(P' y' d ⟨Xy,W3,WW⟩).2.2.1
 have g18' :=fun y' d Xy W3 WW=>(P' y' d ⟨Xy,W3,WW⟩).2.2.2.1
 have g2' :=fun y' d Xy W3 WW=>(P' y' d ⟨Xy,W3,WW⟩).2.2.2.2
 clear hF P';simp[aj,aD,f236] at XE;obtain⟨_,rfl⟩:=XE;have w0:IntKind.i64.wrap 1=1:=rfl;have hms:=uM s m [.cells true 0 [.slice 0 0 s.P.length none,.slice 1 0 s.T.length none]];obtain⟨O,Ye⟩:∃O,O=jl s m:=⟨_,rfl⟩
 rw[←Ye] at hO H1 hF1' hms;have ZD :(m++[.cells true 0 [.slice 0 0 s.P.length none,.slice 1 0 s.T.length none]])[c]? =some (.cells o4 1 [.slice b 0 Z.length none,.slice b' 0 Y.length none]):=by rw[List.getElem?_append_left lc];exact hc
 refine aY (lv:=pJ) (K:=(s.P.length+4)) hO ?_;obtain⟨N,hN⟩:∃N,N=s.P.length:=⟨_,rfl⟩
 simp only[shA,hn,hn2,←hN] at hms H1 g16 g17 g18 g2 hF1' g16' g17' g18' g2' ZD ⊢;simp[ad,hG,f236,hms,H1,g18,hF1',g18',w2,aR,gl,pJ,ZD,w0]
theorem pF(m:Mem)(b:Nat)(o1 o2 o3:Bool)(hp:m[0]? =some (.cells o1 2 (pC s.P)))(hq:m[1]? =some (.cells o2 3 (tC s.T)))(hb:m[b]? =some (.cells o3 1 (qC (qH Z)))):
  mB prog 203 [shA s,.slice b 0 Z.length none] m (.int .i64 0) m:=by
 have hG:aO prog 203=some f203:=by kernel_rfl
 have l0:=(List.getElem?_eq_some_iff.1 hp).1;have l1:=(List.getElem?_eq_some_iff.1 hq).1;have lb:=(List.getElem?_eq_some_iff.1 hb).1;obtain⟨E,hE⟩:∃E:Mem,E=[.cells true 0 [.slice 0 0 s.P.length none,.slice 1 0 s.T.length none],.cells true 1 [.slice b 0 Z.length none]]:=⟨_,rfl⟩
 have hk:=BQ s Z hZ hl hn (m++E) b (m.length+1) o1 o2 o3 true (by rw[List.getElem?_append_left l0];exact hp) (by rw[List.getElem?_append_left l1];exact hq) (by rw[List.getElem?_append_left lb];exact hb) (by rw[hE];simp);have hO:qS prog (gj [(236,[shA s,.slice (m.length+1) 0 1 none],m++E,⟨.int .i64 0,none,[]⟩)]):=iK fun e he=>by simp only[List.mem_cons,List.not_mem_nil,or_false] at he;subst he;exact⟨by simpa [HS.mem] using hk,by simp⟩
 refine aY (K:=1) (lv:=fun _=>[]) hO ?_;rw[hE];simp[ad,hG,f203,gj,shA]
end
end
theorem UD{a b:Int}(h:a≤b):¬0<AT (hQ a) (hQ b):=by have:=MU.2 (We h);omega
theorem zX(Z Y:List Int)(hZY:∀(i:Nat) z y,Z[i]? =some z→Y[i]? =some y→z≤y∧z.natAbs<1000∧y.natAbs<1000)(hn:Z.length=Y.length)(hl:Z.length≤1000)(hK:Z.length<K){b1:Nat}{o' :Bool}(hm:mem[b0]? =some (.cells o 1 (qC (qH Z))))(YR :mem[b1]? =some (.cells o' 1 (qC (qH Y))))(hO:∀z y:Int,z.natAbs<1000→y.natAbs<1000→O (.fn 117) [.str (aN (hQ z)),.str (aN (hQ y))] mem=some ⟨.int .i64 (AT (hQ z) (hQ y)),none,[]⟩)(hb:aj f204=[b]):
  ∃F:Env→Bool→Env,∀y' d,(aa y' 19=.slice b0 0 Z.length none∧aa y' 20=.int .i64 Z.length∧aa y' 21=.int .i64 0∧aa y' 2=.slice b1 0 Z.length none)→
   aQ (aC prog) (fun _=>[21]) O K 34 m0 true (.loop b) ⟨y',mem,d⟩=some (.exit 0,⟨F y' d,mem,d⟩)∧True:=by
 refine bf (L:=[21]) rfl (fun y'=>aa y' 19=.slice b0 0 Z.length none∧aa y' 20=.int .i64 Z.length∧aa y' 21=.int .i64 0∧aa y' 2=.slice b1 0 Z.length none) (fun _ _=>True) ?_;rintro y' d ⟨Xy,W3,WW,h2⟩;simp[aj,aD,f204] at hb;have UV:az [21] (ab b) y' ((21,.int .i64 ((0:Nat):Int))::y')=az [21] (ab b) y' y':=by simp[az,WW]
 rw[←UV];refine bA (α:=Nat) (fun n=>⟨az [21] (ab b) y' ((21,.int .i64 (n:Int))::y'),mem,d⟩) (fun n=>Z.length-n) (fun n=>n≤Z.length) (.exit 0) _ d _ (by simp) ?_ K 0 (by omega) (by omega);rintro n Xi;clear UV;subst hb;by_cases AC:n<Z.length
 ·obtain⟨z,hz⟩:∃z,Z[n]? =some z:=⟨Z[n],List.getElem?_eq_getElem AC⟩
  obtain⟨y,hy⟩:∃y,Y[n]? =some y:=⟨Y[n]'(by omega),List.getElem?_eq_getElem (by omega)⟩
  have k1:=Wi hz;have k2:=Wi hy;obtain⟨p1,p2,p3⟩:=hZY n z y hz hy;have l1:=hO z y p2 p3;have c1:=UD p1;have w1:IntKind.i64.wrap ((n:Int)+1)=((n+1:Nat):Int):=by rw[ai (by omega) (by omega)];omega
  left;obtain⟨v,hv⟩:∃v,v=n+1:=⟨_,rfl⟩
  rw[←hv] at w1;refine⟨v,?_⟩;simp[Xy,W3,h2,AC,hm,YR,k1,k2,l1,w1,c1];omega
 ·right
  simp[W3,AC]
open Classical in
noncomputable def uL(f:FuncId) (args:List AV):Option AV:=match f,args with
 |117,[.str s,.str t]=>match ef s,ef t with
  |some a,some b=>if big 3 a∧big 3 b then some (.int .i64 (AT a b)) else none
  |_,_=>none
 |_,_=>none
theorem NG{k:Nat}{q:Rat}(h0:0<k)(hk:k≤9)(h:big k q):Le q:=by have h1:=bC h0 h.1;have h2:=bC h0 h.2;exact⟨by omega,by omega⟩
theorem OL:qS prog (ar uL):=bZ fun f args v h mem=>by
 unfold uL at h;split at h
 ·split at h
  ·rename_i a b ha hb
   split at h
   ·rename_i hc
    cases h;rw[aA ha,aA hb];exact sq a b (NG (by decide) (by decide) hc.1) (NG (by decide) (by decide) hc.2) mem
   ·cases h
  ·cases h
 ·cases h
theorem pE(s:aaf)(Z Y:List Int)(hZ:∀z∈Z,z.natAbs<1000)(hY:∀z∈Y,z.natAbs<1000)(hl:Z.length≤1000)(hn:Z.length=s.P.length)(hn2:Y.length=s.P.length)(hZY:∀(i:Nat) z y,Z[i]? =some z→Y[i]? =some y→z≤y)(m:Mem)(b b' :Nat)(o1 o2 o3 o4:Bool)(hp:m[0]? =some (.cells o1 2 (pC s.P)))(hq:m[1]? =some (.cells o2 3 (tC s.T)))(hb:m[b]? =some (.cells o3 1 (qC (qH Z))))(J' :m[b']? =some (.cells o4 1 (qC (qH Y)))):
  mB prog 204 [shA s,.slice b 0 Z.length none,.slice b' 0 Y.length none] m (.tuple [.bool true,.int .i64 0]) m:=by
 have hG:aO prog 204=some f204:=by kernel_rfl
 have l0:=(List.getElem?_eq_some_iff.1 hp).1;have l1:=(List.getElem?_eq_some_iff.1 hq).1;have lb:=(List.getElem?_eq_some_iff.1 hb).1;have lb' :=(List.getElem?_eq_some_iff.1 J').1;obtain⟨E,hE⟩:∃E:Mem,E=[.cells true 0 [.slice 0 0 s.P.length none,.slice 1 0 s.T.length none],.cells true 1 [.slice b 0 Z.length none,.slice b' 0 Y.length none]]:=⟨_,rfl⟩
 have hk:=BR s Z hZ hl hn Y hY hn2 (m++E) b b' (m.length+1) o1 o2 o3 o4 true (by rw[List.getElem?_append_left l0];exact hp) (by rw[List.getElem?_append_left l1];exact hq) (by rw[List.getElem?_append_left lb];exact hb) (by rw[List.getElem?_append_left lb'];exact J') (by rw[hE];simp);obtain⟨O,Ye⟩:∃O,O=aac.or (ar uL) (gj [(236,[shA s,.slice (m.length+1) 0 2 none],m++E,⟨.int .i64 0,none,[]⟩)]):=⟨_,rfl⟩
 have hO:qS prog O:=by rw[Ye];refine qS.or' OL (iK fun e he=>?_);simp only[List.mem_cons,List.not_mem_nil,or_false] at he;subst he;exact⟨by simpa [HS.mem] using hk,by simp⟩
 have Xx:O (.fn 236) [shA s,.slice (m.length+1) 0 2 none] (m++E)=some ⟨.int .i64 0,none,[]⟩:=by rw[Ye];simp[aac.or,ar,uL,gj]
 have W0:∀z y:Int,z.natAbs<1000→y.natAbs<1000→O (.fn 117) [.str (aN (hQ z)),.str (aN (hQ y))] (m++E)=some ⟨.int .i64 (AT (hQ z) (hQ y)),none,[]⟩:=fun z y hz hy=>by have e1:=RA hz;have e2:=RA hy;have b1:big 3 (hQ z):=⟨e1.1,by have:=e1.2;omega⟩;have b2:big 3 (hQ y):=⟨e2.1,by have:=e2.2;omega⟩;rw[Ye];simp[aac.or,ar,uL,aM,b1,b2]
 clear Ye;obtain⟨bb,XE⟩:∃b,aj f204=[b]:=⟨_,rfl⟩
 obtain⟨F,hF⟩:=zX (O:=O) (K:=s.P.length+1) Z Y (fun i z y hz hy=>⟨hZY i z y hz hy,hZ z (List.mem_of_getElem? hz),hY y (List.mem_of_getElem? hy)⟩) (by omega) hl (by omega) (mem:=m++E) (b0:=b) (b1:=b') (o:=o3) (o' :=o4) (by rw[List.getElem?_append_left lb];exact hb) (by rw[List.getElem?_append_left lb'];exact J') (m0:=m.length) W0 XE;have H1:=fun y' d h1 h2 h3 h4=>(hF y' d ⟨h1,h2,h3,h4⟩).1
 clear hF W0;simp[aj,aD,f204] at XE;subst XE;refine aY (lv:=(fun _=>[21])) (K:=(s.P.length+1)) hO ?_;clear hk;obtain⟨N,hN⟩:∃N,N=s.P.length:=⟨_,rfl⟩
 subst hE;simp only[shA,hn,hn2,←hN] at Xx H1 ⊢;simp[ad,hG,f204,Xx,H1]
end Go.Proofs
