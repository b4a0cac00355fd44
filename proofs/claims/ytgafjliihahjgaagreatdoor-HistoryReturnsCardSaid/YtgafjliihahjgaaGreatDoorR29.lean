/- See R54. -/
import Derived.Test.YtgafjliihahjgaaGreatDoorR27
import Derived.Test.YtgafjliihahjgaaGreatDoorR28
set_option linter.all false
set_option maxRecDepth 100000
set_option maxHeartbeats 40000000
namespace Go.Proofs
open Go.Eng
open Tryz
theorem MK:∀L:List P2,pC L=kC (kT L)
 | []=>rfl
 |p::L=>by have:=MK L;simp[pC,kC,kT,this]
theorem Fj(d:aeN)(j:Nat)(hj:j<3):xk (aw (tK d j).1)=0∧xk (aw (tK d j).2)=0:=by
 have h3: -3<d.N.tmod 3∧d.N.tmod 3<3:=nv d.N 3 (by decide);have hk:Kp d.K j%4<4:=Nat.mod_lt _ (by decide);obtain⟨u,hu⟩:∃u,u=Kp d.K j%4:=⟨_,rfl⟩
 rw[←hu] at hk;refine⟨Vf (n:=d.N.tmod 3+2*j) (by omega),?_⟩;have hd:d.K.2.2.2%2<2:=Nat.mod_lt _ (by decide);obtain⟨v,hv⟩:∃v,v=d.K.2.2.2%2:=⟨_,rfl⟩
 rw[←hv] at hd;have:dg 3 1 (mkRat ((u:Int)-1) (1+v)):=ra (by omega) (by omega) (by omega);unfold tK;rw[←hu,←hv];exact tG (this.mono (by omega) (by omega))
theorem V8(d:aeN)(c:Nat)(h1:0<c)(hc:c≤3):knE (kT (bV d c))=0:=by
 have k0:=Fj d 0 (by omega);have k1:=Fj d 1 (by omega);have k2:=Fj d 2 (by omega);have p:∀q:Rat,dJ (aw q)=some q:=aB
 have l:∀i j:Nat,i<j→(tK d i).1<(tK d j).1:=fun i j h=>by
  simp only[tK]
  exact_mod_cast (by omega:d.N.tmod 3+2*(i:Int)<d.N.tmod 3+2*(j:Int))
 have l1:=l 0 1 (by omega);have l2:=l 1 2 (by omega);have r1:List.range 1=[0]:=rfl;have r2:List.range 2=[0,1]:=rfl;have r3:List.range 3=[0,1,2]:=rfl;have:c=1∨c=2∨c=3:=by omega
 rcases this with rfl | rfl | rfl
 ·simp[knE,bV,r1,kT,ckE,k0,DA]
 ·simp[knE,bV,r2,kT,ckE,k0,k1,p,DA,l1]
 ·simp[knE,bV,r3,kT,ckE,k0,k1,k2,p,DA,l1,l2]
theorem ud(d:aeN)(c:Nat)(h1:0<c)(hc:c≤3)(M:Mem)(b:Nat)(o:Bool)(hb:M[b]? =some (.cells o 2 (pC (bV d c)))):
  kF prog 256 [.slice b 0 c none] M (.int .i64 0) M:=by
 have hl:(kT (bV d c)).length=c:=by rw[fG,cW]
 have h:=vB (kT (bV d c)) (fun q hq=>by
  simp only[kT,bV,List.map_map,List.mem_map,List.mem_range] at hq;obtain⟨j,hj,rfl⟩:=hq;have h3: -3<d.N.tmod 3∧d.N.tmod 3<3:=nv d.N 3 (by decide);obtain⟨u,hu⟩:∃u,u=Kp d.K j%4:=⟨_,rfl⟩
  have hk:u<4:=by rw[hu];exact Nat.mod_lt _ (by decide)
  obtain⟨v,hv⟩:∃v,v=d.K.2.2.2%2:=⟨_,rfl⟩
  have hd:v<2:=by rw[hv];exact Nat.mod_lt _ (by decide)
  have e1:dg 3 1 (mkRat ((u:Int)-1) (1+v)):=ra (by omega) (by omega) (by omega);have b2:big 3 (mkRat ((u:Int)-1) (1+v)):=⟨e1.1,by have:=e1.2;omega⟩;have e2:=C8 (by decide) b2;have e3:=fQ (n:=d.N.tmod 3+2*j) (by omega);have f1:(((fun q=>(aw q.1,aw q.2))∘tK d) j).1=zS (d.N.tmod 3+2*j):=rfl;have f2:(((fun q=>(aw q.1,aw q.2))∘tK d) j).2=aw (mkRat ((u:Int)-1) (1+v)):=by rw[hu,hv];rfl
  rw[f1,f2];exact⟨by unfold zS;omega,by omega⟩) (by omega)
 rw[hl,V8 d c h1 hc,←MK] at h;exact kF.agl (rest:=[]) (dQ _) rfl rfl h ⟨b,o,_,rfl,hb,List.take_length⟩
theorem Lv(d:Nat)(a b:List UInt8):lz (aM prog) (d+2) 124 (.agg [.str a,.str b]) (.agg [.str a,.str b])=some true:=by have i:=kg d;rw[lz];simp[Qf,jn,TyI.isAgg,i]
section
variable (L:List P2)(h1:0<L.length)(hc:L.length≤3)
include L h1 hc
theorem Ol:
  kF prog 168 [.slice 0 0 L.length none,.slice 0 0 L.length none] [.cells false 2 (pC L)] (.bool true) [.cells false 2 (pC L)]:=by
 have hG:aT prog 168=some f168:=by kernel_rfl
 have IR:=bj (rfl:aG f168=_) (ls:=[[0,0,3,7,0,0,48,112,255]]) (by kernel_rfl);simp only[aG,bF,f168,List.nil_append,List.append_nil,List.map_cons,List.map_nil,List.cons.injEq,and_true] at IR;have a0:aX [0,0,3,7,0,0,48,112,255] 8=true:=by decide
 have e:=fun d=>Lv d
 refine bB (lv:=(fun _=>[13])) (K:=5) (ah _) ?_
 match L,h1,hc with
 | [p],_,_=>simp[-aE,aj IR,bn,bf,bm,a0,ad,hG,f168,aI,ej,pC,e,w1]
 | [p,q],_,_=>simp[-aE,aj IR,bn,bf,bm,a0,ad,hG,f168,aI,ej,pC,e,w1,w2]
 | [p,q,r],_,_=>simp[-aE,aj IR,bn,bf,bm,a0,ad,hG,f168,aI,ej,pC,e,w1,w2,w3]
theorem Qm(M:Mem)(b:Nat)(o:Bool)(hb:M[b]? =some (.cells o 2 (pC L))):
  kF prog 168 [.slice b 0 L.length none,.slice b 0 L.length none] M (.bool true) M:=by
 have A':=(gL hb);have:=kF.frame (M:=M) (new:=[]) [b] rfl (by simpa using A') (by rfl) (fun i t hs=>by
  match i with
  |0=>simp at hs;subst hs;exact bL (dQ _) hb List.take_length
  |i+1=>simp at hs) rfl (Ol L h1 hc)
 simpa [AV.aeM,AV.ren,aF] using this
end
open Classical in
noncomputable def gq(f:FuncId) (args:List AV) (v:AV) (p:Mem→Prop):adM:=fun c a M=>if c=.fn f∧a=args∧p M then some ⟨v,none,[]⟩ else none
theorem ic{P:Program}{f:FuncId}{args:List AV}{v:AV}{p:Mem→Prop}(h:∀M,p M→kF P f args M v M):kP P (gq f args v p):=by
 have k:∀c a M r,gq f args v p c a M=some r→(c=.fn f∧a=args∧p M)∧r=⟨v,none,[]⟩:=fun c a M r hr=>by
  unfold gq at hr;split at hr
  ·cases hr;exact⟨‹_›,rfl⟩
  ·cases hr
 refine⟨fun g a M r hr=>?_,fun b a M r hr=>?_,fun c a M r q hr hq=>?_⟩
 ·obtain⟨⟨h1,rfl,h2⟩,rfl⟩:=k _ _ _ _ hr
  cases h1;simpa [HS.mem] using h M h2
 ·obtain⟨⟨h1,_⟩,_⟩:=k _ _ _ _ hr
  cases h1
 ·obtain⟨_,rfl⟩:=k _ _ _ _ hr
  cases hq
theorem BP(nm:List UInt8)(n:Z3)(L:List P2)(s:Z3)(h1:0<L.length)(hc:L.length≤3)(M:Mem)(b:Nat)(o:Bool)(hb:M[b]? =some (.cells o 2 (pC L))):
  kF prog 110 [.agg (bO nm n (.slice b 0 L.length none) s),.agg (bO nm n (.slice b 0 L.length none) s)] M (.bool true) M:=by
 have A':=(gL hb);refine iX (kP.or' iu (ic (f:=168) (args:=[.slice b 0 L.length none,.slice b 0 L.length none]) (v:=.bool true) (p:=fun M' =>M'[b]? =some (.cells o 2 (pC L))) fun M' h=>Qm L h1 hc M' b o h)) rfl rfl rfl ?_;have:(M++[.cells true 0 (bO nm n (.slice b 0 L.length none) s),.cells true 0 (bO nm n (.slice b 0 L.length none) s)])[b]? =some (.cells o 2 (pC L)):=by rw[List.getElem?_append_left A'];exact hb
 unfold adM.or;rw[show qS (.fn 168) [.slice b 0 L.length none,.slice b 0 L.length none] _=none from rfl];simp only[gq];exact if_pos ⟨rfl,rfl,this⟩
def fR:AV:=.agg [.func 194 [],.func 195 [],.func 196 [],.func 197 [],.func 198 []]
theorem zw(nm:List UInt8)(n:Z3)(c:Nat)(s:Z3):kF prog 77 [.agg (bO nm n (.slice 0 0 c none) s)] [.kO] fR [.kO]:=by
 have h:ad (aM prog) aa (aT prog) ux 6 77 [.agg (bO nm n (.slice 0 0 c none) s)] [.kO]=some ⟨fR,none,[]⟩:=by as_aux_lemma=>kernel_rfl
 have:=(ak ae (aq _) ir (au _) h).1;simpa [HS.mem] using this
theorem rU(nm:List UInt8)(n:Z3)(c:Nat)(s:Z3)(M:Mem)(b:Nat)(hb:b<M.length):kF prog 77 [.agg (bO nm n (.slice b 0 c none) s)] M fR M:=by
 have:=kF.frame (M:=M) (new:=[]) [b] rfl (by simpa using hb) (by rfl) (fun i t hs=>by
  match i with
  |0=>simp at hs;subst hs;trivial
  |i+1=>simp at hs) rfl (zw nm n c s)
 simpa [bO,AV.aeM,AV.ren,aF,fR] using this
noncomputable def iB(n s:Z3):List (FuncId×List AV×AV):=[
 (14,[zA n],.int .i64 0),
 (255,[zA s,zA n],.int .i64 0)]
theorem FR(nm:List UInt8)(n s:Z3)(d:aeN)(c:Nat)(h1:0<c)(hc:c≤3)(hn:eS 99 n)(hz:ib n=false)(hs:eS 99 s)(hd:AM s n=0)(x y:AV)(m:Mem)(b:Nat)(o:Bool)(hb:m[b]? =some (.cells o 2 (pC (bV d c)))):
  kF prog 195 [.agg [x,y],.agg (bO nm n (.slice b 0 c none) s)] m (.int .i64 0) m:=by
 have hG:aT prog 195=some f195:=by kernel_rfl
 have A':=(gL hb);have YC:kP prog (ag (cK (iB n s))):=fa fun e he M=>by
  simp only[iB,List.mem_cons,List.not_mem_nil,or_false] at he;rcases he with rfl | rfl
  ·exact ui n hn M
  ·exact zf s n hs hn hd M
 have Yn:kP prog (gq 256 [.slice b 0 c none] (.int .i64 0) (fun M=>∃ext,M=m++ext)):=ic fun M hM=>by obtain⟨ext,rfl⟩:=hM;exact ud d c h1 hc _ b o (by rw[List.getElem?_append_left A'];exact hb)
 have hO:=kP.or' YC Yn;have e1:=oB n.1;have e2:=oB n.2.1;have e3:=oB n.2.2;have Zo:((zS n.1==[48]&&zS n.2.1==[48])&&zS n.2.2==[48])=false:=by rw[e1,e2,e3];exact hz
 clear YC Yn hb A' hd hs hz hn e1 e2 e3;obtain⟨n1,n2,n3⟩:=n;simp only at Zo;obtain⟨A,hA⟩:∃A,A=zS n1:=⟨_,rfl⟩
 obtain⟨B,hB⟩:∃A,A=zS n2:=⟨_,rfl⟩
 obtain⟨C,hC⟩:∃A,A=zS n3:=⟨_,rfl⟩
 rw[←hA,←hB,←hC] at Zo;have h:ad (aM prog) (fun _=>[]) (aT prog) (adM.or (ag (cK (iB (n1,n2,n3) s))) (gq 256 [.slice b 0 c none] (.int .i64 0) (fun M=>∃ext,M=m++ext))) 1 195 [.agg [x,y],.agg (bO nm (n1,n2,n3) (.slice b 0 c none) s)] m=some ⟨.int .i64 0,none,[]⟩:=by
  have hab:(A==[48])=false∨((A==[48])=true∧(B==[48])=false)∨((A==[48])=true∧(B==[48])=true∧(C==[48])=false):=by cases ha:(A==[48])<;>cases hb:(B==[48])<;>cases hc:(C==[48])<;>simp_all
  rcases hab with ha | ⟨ha,hb⟩ | ⟨ha,hb,hc⟩
  ·simp[ad,hG,f195,adM.or,ag,iB,cK,gq,bO,zA,←hA,←hB,←hC,ha]
  ·simp[ad,hG,f195,adM.or,ag,iB,cK,gq,bO,zA,←hA,←hB,←hC,ha,hb]
  ·simp[ad,hG,f195,adM.or,ag,iB,cK,gq,bO,zA,←hA,←hB,←hC,ha,hb,hc]
 have:=(ak ae (aq _) hO (au _) h).1;simpa [HS.mem] using this
def uV(s:aeE) (L:List P2):Mem:=[.cells false 2 (pC s.P),.cells false 3 (tC s.T),.cells false 2 (pC L)]
def mL(s:aeE) (L:List P2) (ev:List AV):Mem:=[.cells false 2 (pC s.P),.cells false 3 (tC s.T),.cells false 2 (pC L),.cells true 0 [.slice 0 0 s.P.length none,.slice 1 0 s.T.length none],.cells true 0 ev]
theorem xS(sh:aeE)(nm:List UInt8)(n s:Z3)(L:List P2)(c:Nat):
  kF prog 194 [.agg (bO nm n (.slice 2 0 c none) s),.ptr 5 0] (mL sh L (bO nm n (.slice 2 0 c none) s)++[.cells true 0 (cS 3 nm)]) (.tuple []) (mL sh L (bO nm n (.slice 2 0 c none) s)++[.cells true 0 (bO nm n (.slice 2 0 c none) s)]):=by
 have hG:aT prog 194=some f194:=by kernel_rfl
 have h:ad (aM prog) (fun _=>[]) (aT prog) bq 1 194 [.agg (bO nm n (.slice 2 0 c none) s),.ptr 5 0] (mL sh L (bO nm n (.slice 2 0 c none) s)++[.cells true 0 (cS 3 nm)])=some ⟨.tuple [],some (mL sh L (bO nm n (.slice 2 0 c none) s)++[.cells true 0 (bO nm n (.slice 2 0 c none) s)]),[]⟩:=by simp[ad,hG,f194,mL,cS,bO,dV,eO,gA,iS]
 have:=(ak ae (aq _) (ah _) (au _) h).1;simpa [HS.mem] using this
noncomputable def ma(sh:aeE) (L:List P2) (nm:List UInt8) (ev:List AV):List (FuncId×List AV×Mem×HS):=[
 (59,[shA sh],mL sh L ev,⟨.int .i64 0,none,[]⟩),
 (77,[.agg ev],mL sh L ev++[.cells true 0 (cS 3 nm)],⟨fR,none,[]⟩),
 (194,[.agg ev,.ptr 5 0],mL sh L ev++[.cells true 0 (cS 3 nm)],⟨.tuple [],some (mL sh L ev++[.cells true 0 ev]),[]⟩),
 (110,[.agg ev,.agg ev],mL sh L ev++[.cells true 0 ev],⟨.bool true,none,[]⟩),
 (77,[.agg ev],mL sh L ev++[.cells true 0 ev],⟨fR,none,[]⟩),
 (195,[shA sh,.agg ev],mL sh L ev++[.cells true 0 ev],⟨.int .i64 0,none,[]⟩)]
theorem vI(sh:aeE)(nm:List UInt8)(n s:Z3)(d:aeN)(c:Nat)(h1:0<c)(hc:c≤3)(hm:nm∈bC)(hn:eS 99 n)(hz:ib n=false)(hs:eS 99 s)(hd:AM s n=0):
  kF prog 61 [shA sh,.agg (bO nm n (.slice 2 0 c none) s)] (uV sh (bV d c)) (.int .i64 0) (uV sh (bV d c)):=by
 have hG:aT prog 61=some f61:=by kernel_rfl
 have IR:=bj (rfl:aG f61=_) (ls:=[[0,1,3,0,15],[0,1,3,0,0,31,63]]) (by kernel_rfl);simp only[aG,bF,f61,List.nil_append,List.append_nil,List.cons_append,List.map_cons,List.map_nil,List.cons.injEq,and_true] at IR;obtain⟨XY,hb1⟩:=IR;have a0:aX [0,1,3,0,15] 4=true:=by decide
 have a1:aX [0,1,3,0,0,31,63] 6=true:=by decide
 have hl:=cW d c;obtain⟨ev,X9⟩:∃ev,ev=bO nm n (.slice 2 0 c none) s:=⟨_,rfl⟩
 have YC:kP prog (ag (cK [(109,[.str nm],.int .i64 0)])):=fa fun e he M=>by simp only[List.mem_cons,List.not_mem_nil,or_false] at he;subst he;exact dj nm hm M
 have Yn:kP prog (fM (ma sh (bV d c) nm ev)):=iO fun e he=>by
  simp only[ma,List.mem_cons,List.not_mem_nil,or_false] at he;subst X9;have hq:=BP nm n (bV d c) s (by omega) (by omega) (mL sh (bV d c) (bO nm n (.slice 2 0 c none) s)++[.cells true 0 (bO nm n (.slice 2 0 c none) s)]) 2 false rfl;rw[hl] at hq;rcases he with rfl | rfl | rfl | rfl | rfl | rfl
  ·exact⟨by simpa [HS.mem,shA] using dR sh (mL sh (bV d c) (bO nm n (.slice 2 0 c none) s)) 0 1 false false rfl rfl,by simp⟩
  ·exact⟨by simpa [HS.mem] using rU nm n c s (mL sh (bV d c) (bO nm n (.slice 2 0 c none) s)++[.cells true 0 (cS 3 nm)]) 2 (by simp[mL]),by simp⟩
  ·exact⟨by simpa [HS.mem] using xS sh nm n s (bV d c) c,by simp[mL]⟩
  ·exact⟨by simpa [HS.mem] using hq,by simp⟩
  ·exact⟨by simpa [HS.mem] using rU nm n c s (mL sh (bV d c) (bO nm n (.slice 2 0 c none) s)++[.cells true 0 (bO nm n (.slice 2 0 c none) s)]) 2 (by simp[mL]),by simp⟩
  ·exact⟨by simpa [HS.mem,shA] using FR nm n s d c h1 hc hn hz hs hd (.slice 0 0 sh.P.length none) (.slice 1 0 sh.T.length none) (mL sh (bV d c) (bO nm n (.slice 2 0 c none) s)++[.cells true 0 (bO nm n (.slice 2 0 c none) s)]) 2 false rfl,by simp⟩
 have hO:=kP.or' YC Yn;obtain⟨L,hL⟩:∃L,L=bV d c:=⟨_,rfl⟩
 rw[←hL] at hO ⊢;have h:ad (aM prog) (fun _=>[]) (aT prog) (adM.or (ag (cK [(109,[.str nm],.int .i64 0)])) (fM (ma sh L nm ev))) 1 61 [shA sh,.agg (bO nm n (.slice 2 0 c none) s)] (uV sh L)=some ⟨.int .i64 0,some (uV sh L),[]⟩:=by rw[X9];simp[cz,-aE,aj XY,aj hb1,bn,bf,bm,a0,a1,Nat.testBit,-nb,gr,gu,ad,hG,f61,adM.or,ag,cK,fM,ma,fR,shA,mL,uV,cS,bO,cM,aR,dV,eO,gA,iS,Bk,wW]
 have:=(ak ae (aq _) hO (au _) h).1;simpa [HS.mem] using this
theorem XC{Z:List Int}{i:Nat}{z:Int}(h:Z[i]? =some z):(qC (qH Z))[i]? =some (.str (aw (hQ z))):=W2 (by simp[qH,h])
def ph(c:Code):List Nat:=if (aa c).contains 18 then [18] else [30]
variable{K b0 m0:Nat}{O:adM}{b:Code}{mem:Mem}{o:Bool}
theorem iY(Z:List Int)(hZ:∀z∈Z,z.natAbs<1000)(hl:Z.length≤1000)(hK:Z.length<K)(hm:mem[b0]? =some (.cells o 1 (qC (qH Z))))(hO:∀z:Int,z.natAbs<1000→O (.fn 55) [.str (aw (hQ z))] mem=some ⟨.int .i64 0,none,[]⟩){b1:Code}(hb:ai f281=[b1,b]):
  ∃F:Env→Bool→Env,∀z' d,(ab z' 28=.slice b0 0 Z.length none∧ab z' 29=.int .i64 Z.length∧ab z' 30=.int .i64 0)→
   aN (aM prog) ph O K 41 m0 true (.loop b) ⟨z',mem,d⟩=some (.exit 2,⟨F z' d,mem,d⟩)∧(ab (F z' d) 16=ab z' 16∧ab (F z' d) 17=ab z' 17∧ab (F z' d) 18=ab z' 18∧ab (F z' d) 2=ab z' 2):=by
 refine cv (L:=[30]) (by simp[ai,aK,f281] at hb;rw[←hb.2];rfl) (fun z'=>ab z' 28=.slice b0 0 Z.length none∧ab z' 29=.int .i64 Z.length∧ab z' 30=.int .i64 0) (fun z' AC =>ab AC 16=ab z' 16∧ab AC 17=ab z' 17∧ab AC 18=ab z' 18∧ab AC 2=ab z' 2) ?_;rintro z' d ⟨YH,YI,YB⟩;simp[ai,aK,f281] at hb;have hn:aD [30] (aa b) z' ((30,.int .i64 ((0:Nat):Int))::z')=aD [30] (aa b) z' z':=by simp[aD,YB]
 rw[←hn];refine cV (α:=Nat) (fun n=>⟨aD [30] (aa b) z' ((30,.int .i64 (n:Int))::z'),mem,d⟩) (fun n=>Z.length-n) (fun n=>n≤Z.length) (.exit 2) _ d _ (by simp) ?_ K 0 (by omega) (by omega);rintro n Za;clear hn;obtain⟨_,rfl⟩:=hb;by_cases A':n<Z.length
 ·obtain⟨z,hz⟩:∃z,Z[n]? =some z:=⟨Z[n],List.getElem?_eq_getElem A'⟩
  have k1:=XC hz;have l1:=hO z (hZ z (List.mem_of_getElem? hz));have w1:IntKind.i64.wrap ((n:Int)+1)=((n+1:Nat):Int):=by rw[al (by omega) (by omega)];omega
  left;obtain⟨v,hv⟩:∃v,v=n+1:=⟨_,rfl⟩
  rw[←hv] at w1;refine⟨v,?_⟩;simp[YH,YI,A',hm,k1,l1,w1];omega
 ·right
  simp[YI,A']
def uF(f:FuncId) (args:List AV):Option AV:=match f,args with
 |55,[.str s]=>if s.length≤9 then some (.int .i64 (xk s)) else none
 |_,_=>none
theorem O7:kP prog (ag uF):=bK fun f args v h mem=>by
 unfold uF at h;split at h
 ·split at h
  ·cases h;exact o6 _ (by omega) mem
  ·cases h
 ·cases h
noncomputable def jt(s:aeE) (m:Mem):adM:=adM.or (ag uF) (gq 59 [shA s] (.int .i64 0) (fun M=>∃ext,M=m++ext))
section
variable (s:aeE)
include s
theorem z7(m:Mem)(p q:Nat)(o o' :Bool)(hp:m[p]? =some (.cells o 2 (pC s.P)))(hq:m[q]? =some (.cells o' 3 (tC s.T)))(h0:p=0)(h1:q=1):kP prog (jt s m):=by subst h0;subst h1;have l0:=(gL hp);have l1:=(gL hq);refine kP.or' O7 (ic fun M hM=>?_);obtain⟨ext,rfl⟩:=hM;exact dR s _ 0 1 o o' (by rw[List.getElem?_append_left l0];exact hp) (by rw[List.getElem?_append_left l1];exact hq)
theorem pI(m M:Mem)(z:Int)(h:z.natAbs<1000):jt s m (.fn 55) [.str (aw (hQ z))] M=some ⟨.int .i64 0,none,[]⟩:=by have hl:=AT h;have hc:=tG ((R6 h).mono (by omega) (by omega));simp[jt,adM.or,ag,uF,hl,hc]
theorem uo(m ext:Mem):jt s m (.fn 59) [shA s] (m++ext)=some ⟨.int .i64 0,none,[]⟩:=by simp[jt,adM.or,ag,uF,gq]
section
variable (Z:List Int)(hZ:∀z∈Z,z.natAbs<1000)(hl:Z.length≤1000)(hn:Z.length=s.P.length)
include Z hZ hl hn
theorem BU(m:Mem)(b c:Nat)(o1 o2 o3 o4:Bool)(hp:m[0]? =some (.cells o1 2 (pC s.P)))(hq:m[1]? =some (.cells o2 3 (tC s.T)))(hb:m[b]? =some (.cells o3 1 (qC (qH Z))))(hc:m[c]? =some (.cells o4 1 [.slice b 0 Z.length none])):
  kF prog 281 [shA s,.slice c 0 1 none] m (.int .i64 0) m:=by
 have hG:aT prog 281=some f281:=by kernel_rfl
 have lb:=(gL hb);have lc:=(gL hc);have hO:=z7 s m 0 1 o1 o2 hp hq rfl rfl;obtain⟨b1,b2,YN⟩:∃b1 b2,ai f281=[b1,b2]:=⟨_,_,rfl⟩
 obtain⟨F,hF⟩:=iY (O:=jt s m) (K:=Z.length+3) Z hZ hl (by omega) (mem:=m++[.cells true 0 [.slice 0 0 s.P.length none,.slice 1 0 s.T.length none]]) (b0:=b) (o:=o3) (by rw[List.getElem?_append_left lb];exact hb) (m0:=m.length) (fun z h=>pI s m _ z h) YN;have I':=fun z' d YH YI YB=>(hF z' d ⟨YH,YI,YB⟩).1
 have g16:=fun z' d YH YI YB=>(hF z' d ⟨YH,YI,YB⟩).2.1
 have g17:=fun z' d YH YI YB=>(hF z' d ⟨YH,YI,YB⟩).2.2.1
 have g18:=fun z' d YH YI YB=>(hF z' d ⟨YH,YI,YB⟩).2.2.2.1
 have g2:=fun z' d YH YI YB=>(hF z' d ⟨YH,YI,YB⟩).2.2.2.2
 clear hF;simp[ai,aK,f281] at YN;obtain⟨_,rfl⟩:=YN;have w0:IntKind.i64.wrap 1=1:=rfl;have hms:=uo s m [.cells true 0 [.slice 0 0 s.P.length none,.slice 1 0 s.T.length none]];obtain⟨O,hOO⟩:∃O,O=jt s m:=⟨_,rfl⟩
 rw[←hOO] at hO I' hms;have hc' :(m++[.cells true 0 [.slice 0 0 s.P.length none,.slice 1 0 s.T.length none]])[c]? =some (.cells o4 1 [.slice b 0 Z.length none]):=by rw[List.getElem?_append_left lc];exact hc
 refine bB (lv:=ph) (K:=(Z.length+3)) hO ?_;obtain⟨N,hN⟩:∃N,N=s.P.length:=⟨_,rfl⟩
 simp only[shA,hn,←hN] at hms I' g16 g17 g18 g2 hc' ⊢;simp[ad,hG,f281,hms,I',g18,aI,ej,ph,hc',w0]
theorem BV(Y:List Int)(hY:∀z∈Y,z.natAbs<1000)(hn2:Y.length=s.P.length)(m:Mem)(b b' c:Nat)(o1 o2 o3 o3' o4:Bool)(hp:m[0]? =some (.cells o1 2 (pC s.P)))(hq:m[1]? =some (.cells o2 3 (tC s.T)))(hb:m[b]? =some (.cells o3 1 (qC (qH Z))))(UV :m[b']? =some (.cells o3' 1 (qC (qH Y))))(hc:m[c]? =some (.cells o4 1 [.slice b 0 Z.length none,.slice b' 0 Y.length none])):
  kF prog 281 [shA s,.slice c 0 2 none] m (.int .i64 0) m:=by
 have hG:aT prog 281=some f281:=by kernel_rfl
 have lb:=(gL hb);have lb' :=(gL UV);have lc:=(gL hc);have hO:=z7 s m 0 1 o1 o2 hp hq rfl rfl;obtain⟨b1,b2,YN⟩:∃b1 b2,ai f281=[b1,b2]:=⟨_,_,rfl⟩
 obtain⟨F,hF⟩:=iY (O:=jt s m) (K:=s.P.length+4) Z hZ hl (by omega) (mem:=m++[.cells true 0 [.slice 0 0 s.P.length none,.slice 1 0 s.T.length none]]) (b0:=b) (o:=o3) (by rw[List.getElem?_append_left lb];exact hb) (m0:=m.length) (fun z h=>pI s m _ z h) YN;have I':=fun z' d YH YI YB=>(hF z' d ⟨YH,YI,YB⟩).1
 have g16:=fun z' d YH YI YB=>(hF z' d ⟨YH,YI,YB⟩).2.1
 have g17:=fun z' d YH YI YB=>(hF z' d ⟨YH,YI,YB⟩).2.2.1
 have g18:=fun z' d YH YI YB=>(hF z' d ⟨YH,YI,YB⟩).2.2.2.1
 have g2:=fun z' d YH YI YB=>(hF z' d ⟨YH,YI,YB⟩).2.2.2.2
 obtain⟨F2,T'⟩:=iY (O:=jt s m) (K:=s.P.length+4) Y hY (by omega) (by omega) (mem:=m++[.cells true 0 [.slice 0 0 s.P.length none,.slice 1 0 s.T.length none]]) (b0:=b') (o:=o3') (by rw[List.getElem?_append_left lb'];exact UV) (m0:=m.length) (fun z h=>pI s m _ z h) YN;have ab1 :=fun z' d YH YI YB=>(T' z' d ⟨YH,YI,YB⟩).1
 have adU :=fun z' d YH YI YB=>(T' z' d ⟨YH,YI,YB⟩).2.1
 have adV :=fun z' d YH YI YB=>(T' z' d ⟨YH,YI,YB⟩).2.2.1
 have acN :=fun z' d YH YI YB=>(T' z' d ⟨YH,YI,YB⟩).2.2.2.1
 have g2' :=fun z' d YH YI YB=>(T' z' d ⟨YH,YI,YB⟩).2.2.2.2
 clear hF T';simp[ai,aK,f281] at YN;obtain⟨_,rfl⟩:=YN;have w0:IntKind.i64.wrap 1=1:=rfl;have hms:=uo s m [.cells true 0 [.slice 0 0 s.P.length none,.slice 1 0 s.T.length none]];obtain⟨O,hOO⟩:∃O,O=jt s m:=⟨_,rfl⟩
 rw[←hOO] at hO I' ab1 hms;have hc' :(m++[.cells true 0 [.slice 0 0 s.P.length none,.slice 1 0 s.T.length none]])[c]? =some (.cells o4 1 [.slice b 0 Z.length none,.slice b' 0 Y.length none]):=by rw[List.getElem?_append_left lc];exact hc
 refine bB (lv:=ph) (K:=(s.P.length+4)) hO ?_;obtain⟨N,hN⟩:∃N,N=s.P.length:=⟨_,rfl⟩
 simp only[shA,hn,hn2,←hN] at hms I' g16 g17 g18 g2 ab1 adU adV acN g2' hc' ⊢;simp[ad,hG,f281,hms,I',g18,ab1,acN,w2,aI,ej,ph,hc',w0]
theorem pd(m:Mem)(b:Nat)(o1 o2 o3:Bool)(hp:m[0]? =some (.cells o1 2 (pC s.P)))(hq:m[1]? =some (.cells o2 3 (tC s.T)))(hb:m[b]? =some (.cells o3 1 (qC (qH Z)))):
  kF prog 250 [shA s,.slice b 0 Z.length none] m (.int .i64 0) m:=by
 have hG:aT prog 250=some f250:=by kernel_rfl
 have l0:=(gL hp);have l1:=(gL hq);have lb:=(gL hb);obtain⟨E,hE⟩:∃E:Mem,E=[.cells true 0 [.slice 0 0 s.P.length none,.slice 1 0 s.T.length none],.cells true 1 [.slice b 0 Z.length none]]:=⟨_,rfl⟩
 have hk:=BU s Z hZ hl hn (m++E) b (m.length+1) o1 o2 o3 true (by rw[List.getElem?_append_left l0];exact hp) (by rw[List.getElem?_append_left l1];exact hq) (by rw[List.getElem?_append_left lb];exact hb) (by rw[hE];simp);have hO:kP prog (fM [(281,[shA s,.slice (m.length+1) 0 1 none],m++E,⟨.int .i64 0,none,[]⟩)]):=iO fun e he=>by simp only[List.mem_cons,List.not_mem_nil,or_false] at he;subst he;exact⟨by simpa [HS.mem] using hk,by simp⟩
 refine bB (K:=1) (lv:=fun _=>[]) hO ?_;rw[hE];simp[ad,hG,f250,fM,shA]
end
end
theorem VL{a b:Int}(h:a≤b):¬0<mo (hQ a) (hQ b):=by have:=tH.2 (Xw h);omega
theorem zJ(Z Y:List Int)(hZY:∀(i:Nat) z y,Z[i]? =some z→Y[i]? =some y→z≤y∧z.natAbs<1000∧y.natAbs<1000)(hn:Z.length=Y.length)(hl:Z.length≤1000)(hK:Z.length<K){b1:Nat}{o' :Bool}(hm:mem[b0]? =some (.cells o 1 (qC (qH Z))))(ZN :mem[b1]? =some (.cells o' 1 (qC (qH Y))))(hO:∀z y:Int,z.natAbs<1000→y.natAbs<1000→O (.fn 85) [.str (aw (hQ z)),.str (aw (hQ y))] mem=some ⟨.int .i64 (mo (hQ z) (hQ y)),none,[]⟩)(hb:ai f251=[b]):
  ∃F:Env→Bool→Env,∀z' d,(ab z' 19=.slice b0 0 Z.length none∧ab z' 20=.int .i64 Z.length∧ab z' 21=.int .i64 0∧ab z' 2=.slice b1 0 Z.length none)→
   aN (aM prog) (fun _=>[21]) O K 34 m0 true (.loop b) ⟨z',mem,d⟩=some (.exit 0,⟨F z' d,mem,d⟩)∧True:=by
 refine cv (L:=[21]) rfl (fun z'=>ab z' 19=.slice b0 0 Z.length none∧ab z' 20=.int .i64 Z.length∧ab z' 21=.int .i64 0∧ab z' 2=.slice b1 0 Z.length none) (fun _ _=>True) ?_;rintro z' d ⟨YH,YI,YB,h2⟩;simp[ai,aK,f251] at hb;have YF:aD [21] (aa b) z' ((21,.int .i64 ((0:Nat):Int))::z')=aD [21] (aa b) z' z':=by simp[aD,YB]
 rw[←YF];refine cV (α:=Nat) (fun n=>⟨aD [21] (aa b) z' ((21,.int .i64 (n:Int))::z'),mem,d⟩) (fun n=>Z.length-n) (fun n=>n≤Z.length) (.exit 0) _ d _ (by simp) ?_ K 0 (by omega) (by omega);rintro n Za;clear YF;subst hb;by_cases A':n<Z.length
 ·obtain⟨z,hz⟩:∃z,Z[n]? =some z:=⟨Z[n],List.getElem?_eq_getElem A'⟩
  obtain⟨y,hy⟩:∃y,Y[n]? =some y:=⟨Y[n]'(by omega),List.getElem?_eq_getElem (by omega)⟩
  have k1:=XC hz;have k2:=XC hy;obtain⟨p1,p2,p3⟩:=hZY n z y hz hy;have l1:=hO z y p2 p3;have c1:=VL p1;have w1:IntKind.i64.wrap ((n:Int)+1)=((n+1:Nat):Int):=by rw[al (by omega) (by omega)];omega
  left;obtain⟨v,hv⟩:∃v,v=n+1:=⟨_,rfl⟩
  rw[←hv] at w1;refine⟨v,?_⟩;simp[YH,YI,h2,A',hm,ZN,k1,k2,l1,w1,c1];omega
 ·right
  simp[YI,A']
open Classical in
noncomputable def um(f:FuncId) (args:List AV):Option AV:=match f,args with
 |85,[.str s,.str t]=>match dJ s,dJ t with
  |some a,some b=>if big 3 a∧big 3 b then some (.int .i64 (mo a b)) else none
  |_,_=>none
 |_,_=>none
theorem Nd{k:Nat}{q:Rat}(h0:0<k)(hk:k≤9)(h:big k q):aeF q:=by have h1:=br h0 h.1;have h2:=br h0 h.2;exact⟨by omega,by omega⟩
theorem OH:kP prog (ag um):=bK fun f args v h mem=>by
 unfold um at h;split at h
 ·split at h
  ·rename_i a b ha hb
   split at h
   ·rename_i hc
    cases h;rw[aA ha,aA hb];exact rN a b (Nd (by decide) (by decide) hc.1) (Nd (by decide) (by decide) hc.2) mem
   ·cases h
  ·cases h
 ·cases h
theorem pc(s:aeE)(Z Y:List Int)(hZ:∀z∈Z,z.natAbs<1000)(hY:∀z∈Y,z.natAbs<1000)(hl:Z.length≤1000)(hn:Z.length=s.P.length)(hn2:Y.length=s.P.length)(hZY:∀(i:Nat) z y,Z[i]? =some z→Y[i]? =some y→z≤y)(m:Mem)(b b' :Nat)(o1 o2 o3 o4:Bool)(hp:m[0]? =some (.cells o1 2 (pC s.P)))(hq:m[1]? =some (.cells o2 3 (tC s.T)))(hb:m[b]? =some (.cells o3 1 (qC (qH Z))))(UV :m[b']? =some (.cells o4 1 (qC (qH Y)))):
  kF prog 251 [shA s,.slice b 0 Z.length none,.slice b' 0 Y.length none] m (.tuple [.bool true,.int .i64 0]) m:=by
 have hG:aT prog 251=some f251:=by kernel_rfl
 have l0:=(gL hp);have l1:=(gL hq);have lb:=(gL hb);have lb' :=(gL UV);obtain⟨E,hE⟩:∃E:Mem,E=[.cells true 0 [.slice 0 0 s.P.length none,.slice 1 0 s.T.length none],.cells true 1 [.slice b 0 Z.length none,.slice b' 0 Y.length none]]:=⟨_,rfl⟩
 have hk:=BV s Z hZ hl hn Y hY hn2 (m++E) b b' (m.length+1) o1 o2 o3 o4 true (by rw[List.getElem?_append_left l0];exact hp) (by rw[List.getElem?_append_left l1];exact hq) (by rw[List.getElem?_append_left lb];exact hb) (by rw[List.getElem?_append_left lb'];exact UV) (by rw[hE];simp);obtain⟨O,hOO⟩:∃O,O=adM.or (ag um) (fM [(281,[shA s,.slice (m.length+1) 0 2 none],m++E,⟨.int .i64 0,none,[]⟩)]):=⟨_,rfl⟩
 have hO:kP prog O:=by rw[hOO];refine kP.or' OH (iO fun e he=>?_);simp only[List.mem_cons,List.not_mem_nil,or_false] at he;subst he;exact⟨by simpa [HS.mem] using hk,by simp⟩
 have YC:O (.fn 281) [shA s,.slice (m.length+1) 0 2 none] (m++E)=some ⟨.int .i64 0,none,[]⟩:=by rw[hOO];simp[adM.or,ag,um,fM]
 have Yn:∀z y:Int,z.natAbs<1000→y.natAbs<1000→O (.fn 85) [.str (aw (hQ z)),.str (aw (hQ y))] (m++E)=some ⟨.int .i64 (mo (hQ z) (hQ y)),none,[]⟩:=fun z y hz hy=>by have e1:=R6 hz;have e2:=R6 hy;have b1:big 3 (hQ z):=⟨e1.1,by have:=e1.2;omega⟩;have b2:big 3 (hQ y):=⟨e2.1,by have:=e2.2;omega⟩;rw[hOO];simp[adM.or,ag,um,aB,b1,b2]
 clear hOO;obtain⟨bb,YN⟩:∃b,ai f251=[b]:=⟨_,rfl⟩
 obtain⟨F,hF⟩:=zJ (O:=O) (K:=s.P.length+1) Z Y (fun i z y hz hy=>⟨hZY i z y hz hy,hZ z (List.mem_of_getElem? hz),hY y (List.mem_of_getElem? hy)⟩) (by omega) hl (by omega) (mem:=m++E) (b0:=b) (b1:=b') (o:=o3) (o' :=o4) (by rw[List.getElem?_append_left lb];exact hb) (by rw[List.getElem?_append_left lb'];exact UV) (m0:=m.length) Yn YN;have I':=fun z' d h1 h2 h3 h4=>(hF z' d ⟨h1,h2,h3,h4⟩).1
 clear hF Yn;simp[ai,aK,f251] at YN;subst YN;refine bB (lv:=(fun _=>[21])) (K:=(s.P.length+1)) hO ?_;clear hk;obtain⟨N,hN⟩:∃N,N=s.P.length:=⟨_,rfl⟩
 subst hE;simp only[shA,hn,hn2,←hN] at YC I' ⊢;simp[ad,hG,f251,YC,I']
end Go.Proofs
