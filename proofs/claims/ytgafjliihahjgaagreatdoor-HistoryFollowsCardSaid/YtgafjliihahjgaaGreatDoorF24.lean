/- See F54. -/
import Derived.Test.YtgafjliihahjgaaGreatDoorF22
import Derived.Test.YtgafjliihahjgaaGreatDoorF23
set_option linter.all false
set_option maxRecDepth 100000
set_option maxHeartbeats 40000000
namespace Go.Proofs
open Go.Eng
open Tryz
theorem U6:∀L:List P2,pC L=kC (kT L)
 | []=>rfl
 |p::L=>by have:=U6 L;simp[pC,kC,kT,this]
theorem GV(d:ae6)(j:Nat)(A:j<3):xv (ak (uI d j).1)=0∧xv (ak (uI d j).2)=0:=by have h3: -3<d.N.tmod 3∧d.N.tmod 3<3:=nT d.N 3 (by decide);have X:Mf d.K j%4<4:=Nat.mod_lt _ (by decide);obtain⟨u,hu⟩:=xE (Mf d.K j%4);rw[←hu] at X;refine⟨Xl (n:=d.N.tmod 3+2*j) (by omega),?_⟩;have W:d.K.2.2.2%2<2:=Nat.mod_lt _ (by decide);obtain⟨v,Z⟩:=xE (d.K.2.2.2%2);rw[←Z] at W;have:dg 3 1 (mkRat ((u:Int)-1) (1+v)):=oK (by omega) (by omega) (by omega);unfold uI;rw[←hu,←Z];exact qT (this.mono (by omega) (by omega))
theorem Yg(d:ae6)(c:Nat)(A:0<c)(hc:c≤3):knE (kT (bQ d c))=0:=by
 have Z:=GV d 0 (by omega);have X:=GV d 1 (by omega);have V:=GV d 2 (by omega);have p:∀q:Rat,dC (ak q)=some q:=ao
 have l:∀i j:Nat,i<j→(uI d i).1<(uI d j).1:=fun i j h=>by
  simp only[uI]
  exact_mod_cast (by omega:d.N.tmod 3+2*(i:Int)<d.N.tmod 3+2*(j:Int))
 have W:=l 0 1 (by omega);have S:=l 1 2 (by omega);have r1:List.range 1=[0]:=rfl;have r2:List.range 2=[0,1]:=rfl;have O:List.range 3=[0,1,2]:=rfl;have:c=1∨c=2∨c=3:=by omega
 rcases this with rfl | rfl | rfl
 ·simp[knE,bQ,r1,kT,ckE,Z,EL]
 ·simp[knE,bQ,r2,kT,ckE,Z,X,p,EL,W]
 ·simp[knE,bQ,O,kT,ckE,Z,X,V,p,EL,W,S]
theorem uX(d:ae6)(c:Nat)(A:0<c)(hc:c≤3)(M:Mem)(b:Nat)(o:Bool)(G:M[b]? =some (.cells o 2 (pC (bQ d c)))):
  kO prog 256 [.slice b 0 c none] M (.int .i64 0) M:=by
 have W:(kT (bQ d c)).length=c:=by rw[cM,bP]
 have h:=wO (kT (bQ d c)) (fun q hq=>by
  simp only[kT,bQ,List.map_map,List.mem_map,List.mem_range] at hq;obtain⟨j,S,rfl⟩:=hq;have h3: -3<d.N.tmod 3∧d.N.tmod 3<3:=nT d.N 3 (by decide);obtain⟨u,hu⟩:=xE (Mf d.K j%4);have O:u<4:=by rw[hu];exact Nat.mod_lt _ (by decide)
  obtain⟨v,Z⟩:=xE (d.K.2.2.2%2);have J:v<2:=by rw[Z];exact Nat.mod_lt _ (by decide)
  have X:dg 3 1 (mkRat ((u:Int)-1) (1+v)):=oK (by omega) (by omega) (by omega);have V:big 3 (mkRat ((u:Int)-1) (1+v)):=⟨X.1,by have:=X.2;omega⟩;have F:=Ee (by decide) V;have D:=fX (n:=d.N.tmod 3+2*j) (by omega);have f1:(((fun q=>(ak q.1,ak q.2))∘uI d) j).1=zS (d.N.tmod 3+2*j):=rfl;have f2:(((fun q=>(ak q.1,ak q.2))∘uI d) j).2=ak (mkRat ((u:Int)-1) (1+v)):=by rw[hu,Z];rfl
  rw[f1,f2];exact⟨by unfold zS;omega,by omega⟩) (by omega)
 rw[W,Yg d c A hc,←U6] at h;exact kO.agI (rest:=[]) (dA _) rfl rfl h ⟨b,o,_,rfl,G,List.take_length⟩
theorem NC(d:Nat)(a b:List UInt8):lz (aN prog) (d+2) 124 (.agg [.str a,.str b]) (.agg [.str a,.str b])=some true:=by have i:=kA d;rw[lz];simp[Sp,jt,TyI.isAgg,i]
section
variable (L:List P2)(h1:0<L.length)(hc:L.length≤3)
include L h1 hc
theorem QB:
  kO prog 168 [.slice 0 0 L.length none,.slice 0 0 L.length none] [.cells false 2 (pC L)] (.bool true) [.cells false 2 (pC L)]:=by
 have X:aK prog 168=some f168:=by kernel_rfl
 obtain⟨S,W⟩:∃S,aC f168=S:=⟨_,rfl⟩
 have Z:=be W (ls:=[[0,0,3,7,0,0,48,112,255]]) (by kernel_rfl);simp only[aC,bn,f168,List.nil_append,List.append_nil] at W;subst W;simp only[lB] at Z;have V:ba [0,0,3,7,0,0,48,112,255] 8=true:=by decide
 have e:=fun d=>NC d
 refine cR (lv:=(fun _=>[13])) (K:=5) (al _) ?_
 match L,h1,hc with
 | [p],_,_=>simp[-aB,ag Z,aS,aO,aP,V,aa,X,f168,aQ,er,pC,e,w1]
 | [p,q],_,_=>simp[-aB,ag Z,aS,aO,aP,V,aa,X,f168,aQ,er,pC,e,w1,w2]
 | [p,q,r],_,_=>simp[-aB,ag Z,aS,aO,aP,V,aa,X,f168,aQ,er,pC,e,w1,w2,w3]
theorem Sx(M:Mem)(b:Nat)(o:Bool)(A:M[b]? =some (.cells o 2 (pC L))):
  kO prog 168 [.slice b 0 L.length none,.slice b 0 L.length none] M (.bool true) M:=by
 have X:=gL A;have:=kO.frame (M:=M) (new:=[]) [b] rfl (by simpa using X) (by rfl) (fun i t Z=>by
  match i with
  |0=>simp at Z;subst Z;exact bu (dA _) A List.take_length
  |i+1=>simp at Z) rfl (QB L h1 hc)
 simpa [AV.ae3,AV.ren,dL] using this
end
open Classical in
noncomputable def bT(f:FuncId)(args:List AV)(v:AV)(p:Mem→Prop):aeT:=fun c a M=>if c=.fn f∧a=args∧p M then some ⟨v,none,[]⟩ else none
theorem cf{P:Program}{f:FuncId}{args:List AV}{v:AV}{p:Mem→Prop}(h:∀M,p M→kO P f args M v M):HS P (bT f args v p):=by
 have k:∀c a M r,bT f args v p c a M=some r→(c=.fn f∧a=args∧p M)∧r=⟨v,none,[]⟩:=fun c a M r Z=>by
  unfold bT at Z;split at Z
  ·cases Z;exact⟨‹_›,rfl⟩
  ·cases Z
 refine⟨fun g a M r Z=>?_,fun b a M r Z=>?_,fun c a M r q Z hq=>?_⟩
 ·obtain⟨⟨X,rfl,W⟩,rfl⟩:=k _ _ _ _ Z
  cases X;simpa [aeQ.mem] using h M W
 ·obtain⟨⟨X,_⟩,_⟩:=k _ _ _ _ Z
  cases X
 ·obtain⟨_,rfl⟩:=k _ _ _ _ Z
  cases hq
theorem C5(nm:List UInt8)(n:Z3)(L:List P2)(s:Z3)(G:0<L.length)(hc:L.length≤3)(M:Mem)(b:Nat)(o:Bool)(A:M[b]? =some (.cells o 2 (pC L))):
  kO prog 110 [.agg (bw nm n (.slice b 0 L.length none) s),.agg (bw nm n (.slice b 0 L.length none) s)] M (.bool true) M:=by
 have X:=gL A;refine jg (HS.or' iD (cf (f:=168) (args:=[.slice b 0 L.length none,.slice b 0 L.length none]) (v:=.bool true) (p:=fun Z =>Z[b]? =some (.cells o 2 (pC L))) fun Z h=>Sx L G hc Z b o h)) rfl rfl rfl ?_;have:(M++[.cells true 0 (bw nm n (.slice b 0 L.length none) s),.cells true 0 (bw nm n (.slice b 0 L.length none) s)])[b]? =some (.cells o 2 (pC L)):=gU A _;unfold aeT.or;rw[show rV (.fn 168) [.slice b 0 L.length none,.slice b 0 L.length none] _=none from rfl];simp only[bT];exact if_pos ⟨rfl,rfl,this⟩
def fY:AV:=.agg [.func 194 [],.func 195 [],.func 196 [],.func 197 [],.func 198 []]
theorem AK(nm:List UInt8)(n:Z3)(c:Nat)(s:Z3):kO prog 77 [.agg (bw nm n (.slice 0 0 c none) s)] [.aeP] fY [.aeP]:=by
 have h:aa (aN prog) ab (aK prog) vp 6 77 [.agg (bw nm n (.slice 0 0 c none) s)] [.aeP]=some ⟨fY,none,[]⟩:=by as_aux_lemma=>kernel_rfl
 have:=(ah ae (ar _) iC (au _) h).1;simpa [aeQ.mem] using this
theorem mP(nm:List UInt8)(n:Z3)(c:Nat)(s:Z3)(M:Mem)(b:Nat)(A:b<M.length):kO prog 77 [.agg (bw nm n (.slice b 0 c none) s)] M fY M:=by
 have:=kO.frame (M:=M) (new:=[]) [b] rfl (by simpa using A) (by rfl) (fun i t Z=>by
  match i with
  |0=>simp at Z;subst Z;trivial
  |i+1=>simp at Z) rfl (AK nm n c s)
 simpa [bw,AV.ae3,AV.ren,dL,fY] using this
noncomputable def iI(n s:Z3):List (FuncId×List AV×AV):=[
 (14,[zA n],.int .i64 0),
 (255,[zA s,zA n],.int .i64 0)]
theorem HA(nm:List UInt8)(n s:Z3)(d:ae6)(c:Nat)(h1:0<c)(hc:c≤3)(H:fq 99 n)(I:iu n=false)(hs:fq 99 s)(R:Hq s n=0)(x y:AV)(m:Mem)(b:Nat)(o:Bool)(G:m[b]? =some (.cells o 2 (pC (bQ d c)))):
  kO prog 195 [.agg [x,y],.agg (bw nm n (.slice b 0 c none) s)] m (.int .i64 0) m:=by
 have J:aK prog 195=some f195:=by kernel_rfl
 have FS:=gL G;have X:HS prog (af (bY (iI n s))):=du fun e he M=>by
  simp only[iI,lM] at he;rcases he with rfl | rfl
  ·exact vg n H M
  ·exact At s n hs H R M
 have W:HS prog (bT 256 [.slice b 0 c none] (.int .i64 0) (fun M=>∃ext,M=m++ext)):=cf fun M hM=>by obtain⟨ext,rfl⟩:=hM;exact uX d c h1 hc _ b o (gU G _)
 have hO:=HS.or' X W;have j:=o6 n.1;have Y:=o6 n.2.1;have e3:=o6 n.2.2;have V:((zS n.1==[48]&&zS n.2.1==[48])&&zS n.2.2==[48])=false:=by rw[j,Y,e3];exact I
 clear X W G FS R hs I H j Y e3;obtain⟨F,D,z⟩:=n;simp only at V;obtain⟨A,S⟩:=xE (zS F);obtain⟨B,O⟩:=xE (zS D);obtain⟨C,K⟩:=xE (zS z);rw[←S,←O,←K] at V;have h:aa (aN prog) (fun _=>[]) (aK prog) (aeT.or (af (bY (iI (F,D,z) s))) (bT 256 [.slice b 0 c none] (.int .i64 0) (fun M=>∃ext,M=m++ext))) 1 195 [.agg [x,y],.agg (bw nm (F,D,z) (.slice b 0 c none) s)] m=some ⟨.int .i64 0,none,[]⟩:=by
  have u:(A==[48])=false∨((A==[48])=true∧(B==[48])=false)∨((A==[48])=true∧(B==[48])=true∧(C==[48])=false):=by cases Z:(A==[48])<;>cases G:(B==[48])<;>cases hc:(C==[48])<;>simp_all
  rcases u with Z | ⟨Z,G⟩ | ⟨Z,G,hc⟩
  ·simp[aa,J,f195,aeT.or,af,iI,bY,bT,bw,zA,←S,←O,←K,Z]
  ·simp[aa,J,f195,aeT.or,af,iI,bY,bT,bw,zA,←S,←O,←K,Z,G]
  ·simp[aa,J,f195,aeT.or,af,iI,bY,bT,bw,zA,←S,←O,←K,Z,G,hc]
 have:=(ah ae (ar _) hO (au _) h).1;simpa [aeQ.mem] using this
def vQ(s:aeX)(L:List P2):Mem:=[.cells false 2 (pC s.P),.cells false 3 (tC s.T),.cells false 2 (pC L)]
def mX(s:aeX)(L:List P2)(A:List AV):Mem:=[.cells false 2 (pC s.P),.cells false 3 (tC s.T),.cells false 2 (pC L),.cells true 0 [.slice 0 0 s.P.length none,.slice 1 0 s.T.length none],.cells true 0 A]
theorem y8(A:aeX)(nm:List UInt8)(n s:Z3)(L:List P2)(c:Nat):
  kO prog 194 [.agg (bw nm n (.slice 2 0 c none) s),.ptr 5 0] (mX A L (bw nm n (.slice 2 0 c none) s)++[.cells true 0 (dq 3 nm)]) (.tuple []) (mX A L (bw nm n (.slice 2 0 c none) s)++[.cells true 0 (bw nm n (.slice 2 0 c none) s)]):=by
 have Z:aK prog 194=some f194:=by kernel_rfl
 have h:aa (aN prog) (fun _=>[]) (aK prog) bM 1 194 [.agg (bw nm n (.slice 2 0 c none) s),.ptr 5 0] (mX A L (bw nm n (.slice 2 0 c none) s)++[.cells true 0 (dq 3 nm)])=some ⟨.tuple [],some (mX A L (bw nm n (.slice 2 0 c none) s)++[.cells true 0 (bw nm n (.slice 2 0 c none) s)]),[]⟩:=by simp[aa,Z,f194,mX,dq,bw,ef,eW,gx,iS]
 have:=(ah ae (ar _) (al _) (au _) h).1;simpa [aeQ.mem] using this
noncomputable def mg(G:aeX)(L:List P2)(nm:List UInt8)(A:List AV):List (FuncId×List AV×Mem×aeQ):=[
 (59,[shA G],mX G L A,⟨.int .i64 0,none,[]⟩),
 (77,[.agg A],mX G L A++[.cells true 0 (dq 3 nm)],⟨fY,none,[]⟩),
 (194,[.agg A,.ptr 5 0],mX G L A++[.cells true 0 (dq 3 nm)],⟨.tuple [],some (mX G L A++[.cells true 0 A]),[]⟩),
 (110,[.agg A,.agg A],mX G L A++[.cells true 0 A],⟨.bool true,none,[]⟩),
 (77,[.agg A],mX G L A++[.cells true 0 A],⟨fY,none,[]⟩),
 (195,[shA G,.agg A],mX G L A++[.cells true 0 A],⟨.int .i64 0,none,[]⟩)]
theorem wU(A:aeX)(nm:List UInt8)(n s:Z3)(d:ae6)(c:Nat)(G:0<c)(hc:c≤3)(H:nm∈bG)(I:fq 99 n)(R:iu n=false)(hs:fq 99 s)(Y:Hq s n=0):
  kO prog 61 [shA A,.agg (bw nm n (.slice 2 0 c none) s)] (vQ A (bQ d c)) (.int .i64 0) (vQ A (bQ d c)):=by
 have D:aK prog 61=some f61:=by kernel_rfl
 obtain⟨O,X⟩:∃O,aC f61=O:=⟨_,rfl⟩
 have K:=be X (ls:=[[0,1,3,0,15],[0,1,3,0,0,31,63]]) (by kernel_rfl);simp only[aC,bn,f61,lA] at X;subst X;simp only[lB] at K;obtain⟨C,W⟩:=K;have B:ba [0,1,3,0,15] 4=true:=by decide
 have z:ba [0,1,3,0,0,31,63] 6=true:=by decide
 have u:=bP d c;obtain⟨J,Z⟩:=xE (bw nm n (.slice 2 0 c none) s);have V:HS prog (af (bY [(109,[.str nm],.int .i64 0)])):=du fun e he M=>by simp only[lM] at he;subst he;exact dD nm H M
 have S:HS prog (fz (mg A (bQ d c) nm J)):=fL fun e he=>by
  simp only[mg,lM] at he;subst Z;have hq:=C5 nm n (bQ d c) s (by omega) (by omega) (mX A (bQ d c) (bw nm n (.slice 2 0 c none) s)++[.cells true 0 (bw nm n (.slice 2 0 c none) s)]) 2 false rfl;rw[u] at hq;rcases he with rfl | rfl | rfl | rfl | rfl | rfl
  ·exact⟨by simpa [aeQ.mem,shA] using dP A (mX A (bQ d c) (bw nm n (.slice 2 0 c none) s)) 0 1 false false rfl rfl,by simp⟩
  ·exact⟨by simpa [aeQ.mem] using mP nm n c s (mX A (bQ d c) (bw nm n (.slice 2 0 c none) s)++[.cells true 0 (dq 3 nm)]) 2 (by simp[mX]),by simp⟩
  ·exact⟨by simpa [aeQ.mem] using y8 A nm n s (bQ d c) c,by simp[mX]⟩
  ·exact⟨by simpa [aeQ.mem] using hq,by simp⟩
  ·exact⟨by simpa [aeQ.mem] using mP nm n c s (mX A (bQ d c) (bw nm n (.slice 2 0 c none) s)++[.cells true 0 (bw nm n (.slice 2 0 c none) s)]) 2 (by simp[mX]),by simp⟩
  ·exact⟨by simpa [aeQ.mem,shA] using HA nm n s d c G hc I R hs Y (.slice 0 0 A.P.length none) (.slice 1 0 A.T.length none) (mX A (bQ d c) (bw nm n (.slice 2 0 c none) s)++[.cells true 0 (bw nm n (.slice 2 0 c none) s)]) 2 false rfl,by simp⟩
 have F:=HS.or' V S;obtain⟨L,m⟩:=xE (bQ d c);rw[←m] at F ⊢;have h:aa (aN prog) (fun _=>[]) (aK prog) (aeT.or (af (bY [(109,[.str nm],.int .i64 0)])) (fz (mg A L nm J))) 1 61 [shA A,.agg (bw nm n (.slice 2 0 c none) s)] (vQ A L)=some ⟨.int .i64 0,some (vQ A L),[]⟩:=by rw[Z];simp[cO,-aB,ag C,ag W,aS,aO,aP,B,z,Nat.testBit,-ns,gB,gC,aa,D,f61,aeT.or,af,bY,fz,mg,fY,shA,mX,vQ,dq,bw,bW,aE,ef,eW,gx,iS,Cv,CQ]
 have:=(ah ae (ar _) F (au _) h).1;simpa [aeQ.mem] using this
theorem ZM{Z:List Int}{i:Nat}{z:Int}(h:Z[i]? =some z):(qC (qH Z))[i]? =some (.str (ak (hQ z))):=R5 (by simp[qH,h])
def pT(c:Code):List Nat:=if (ab c).contains 18 then [18] else [30]
variable{K b0 m0:Nat}{O:aeT}{b:Code}{mem:Mem}{o:Bool}
theorem jh(Z:List Int)(G:∀z∈Z,z.natAbs<1000)(R:Z.length≤1000)(Y:Z.length<K)(H:mem[b0]? =some (.cells o 1 (qC (qH Z))))(I:∀z:Int,z.natAbs<1000→O (.fn 55) [.str (ak (hQ z))] mem=some ⟨.int .i64 0,none,[]⟩){b1:Code}(A:ai f281=[b1,b]):
  ∃F:Env→Bool→Env,∀X d,(ad X 28=.slice b0 0 Z.length none∧ad X 29=.int .i64 Z.length∧ad X 30=.int .i64 0)→
   aM (aN prog) pT O K 41 m0 true (.loop b) ⟨X,mem,d⟩=some (.exit 2,⟨F X d,mem,d⟩)∧(ad (F X d) 16=ad X 16∧ad (F X d) 17=ad X 17∧ad (F X d) 18=ad X 18∧ad (F X d) 2=ad X 2):=by
 refine cD (L:=[30]) (by simp[ai,aG,f281] at A;rw[←A.2];rfl) (fun X=>ad X 28=.slice b0 0 Z.length none∧ad X 29=.int .i64 Z.length∧ad X 30=.int .i64 0) (fun X W =>ad W 16=ad X 16∧ad W 17=ad X 17∧ad W 18=ad X 18∧ad W 2=ad X 2) ?_;rintro X d ⟨h28,h29,h30⟩;simp[ai,aG,f281] at A;have S:aD [30] (ab b) X ((30,.int .i64 ((0:Nat):Int))::X)=aD [30] (ab b) X X:=by simp[aD,h30]
 rw[←S];refine dh (α:=Nat) (fun n=>⟨aD [30] (ab b) X ((30,.int .i64 (n:Int))::X),mem,d⟩) (fun n=>Z.length-n) (fun n=>n≤Z.length) (.exit 2) _ d _ (by simp) ?_ K 0 (by omega) (by omega);rintro n J;clear S;obtain⟨_,rfl⟩:=A;by_cases V:n<Z.length
 ·obtain⟨z,M⟩:∃z,Z[n]? =some z:=⟨Z[n],List.getElem?_eq_getElem V⟩
  have D:=ZM M;have C:=I z (G z (List.mem_of_getElem? M));have w1:IntKind.i64.wrap ((n:Int)+1)=((n+1:Nat):Int):=by rw[aq];omega
  left;obtain⟨v,B⟩:=xE (n+1);rw[←B] at w1;refine⟨v,?_⟩;simp[h28,h29,V,H,D,C,w1];omega
 ·right
  simp[h29,V]
def vx(f:FuncId)(args:List AV):Option AV:=match f,args with
 |55,[.str s]=>if s.length≤9 then some (.int .i64 (xv s)) else none
 |_,_=>none
theorem Rj:HS prog (af vx):=bH fun f Z v h mem=>by
 unfold vx at h;split at h
 ·split at h
  ·cases h;exact pI _ (by omega) mem
  ·cases h
 ·cases h
noncomputable def jy(s:aeX)(m:Mem):aeT:=aeT.or (af vx) (bT 59 [shA s] (.int .i64 0) (fun M=>∃ext,M=m++ext))
section
variable (s:aeX)
include s
theorem Bi(m:Mem)(p q:Nat)(o o' :Bool)(A:m[p]? =some (.cells o 2 (pC s.P)))(hq:m[q]? =some (.cells o' 3 (tC s.T)))(h0:p=0)(G:q=1):HS prog (jy s m):=by subst h0;subst G;have X:=gL A;have W:=gL hq;refine HS.or' Rj (cf fun M Z=>?_);obtain⟨ext,rfl⟩:=Z;exact dP s _ 0 1 o o' (gU A _) (gU hq _)
theorem qh(m M:Mem)(z:Int)(h:z.natAbs<1000):jy s m (.fn 55) [.str (ak (hQ z))] M=some ⟨.int .i64 0,none,[]⟩:=by have Z:=B6 h;have hc:=qT ((Un h).mono (by omega) (by omega));simp[jy,aeT.or,af,vx,Z,hc]
theorem vm(m ext:Mem):jy s m (.fn 59) [shA s] (m++ext)=some ⟨.int .i64 0,none,[]⟩:=by simp[jy,aeT.or,af,vx,bT]
section
variable (Z:List Int)(hZ:∀z∈Z,z.natAbs<1000)(hl:Z.length≤1000)(hn:Z.length=s.P.length)
include Z hZ hl hn
theorem sY(m:Mem)(b c:Nat)(o1 o2 o3 o4:Bool)(hp:m[0]? =some (.cells o1 2 (pC s.P)))(hq:m[1]? =some (.cells o2 3 (tC s.T)))(A:m[b]? =some (.cells o3 1 (qC (qH Z))))(hc:m[c]? =some (.cells o4 1 [.slice b 0 Z.length none])):
  kO prog 281 [shA s,.slice c 0 1 none] m (.int .i64 0) m:=by
 have hG:aK prog 281=some f281:=by kernel_rfl
 have lb:=gL A;have lc:=gL hc;have I:=Bi s m 0 1 o1 o2 hp hq rfl rfl;obtain⟨H,G,M⟩:∃H G,ai f281=[H,G]:=⟨_,_,rfl⟩
 obtain⟨F,D⟩:=jh (O:=jy s m) (K:=Z.length+3) Z hZ hl (by omega) (mem:=m++[.cells true 0 [.slice 0 0 s.P.length none,.slice 1 0 s.T.length none]]) (b0:=b) (o:=o3) (gU A _) (m0:=m.length) (fun z h=>qh s m _ z h) M;have u:=fun S d X W V=>(D S d ⟨X,W,V⟩).1
 have j:=fun S d X W V=>(D S d ⟨X,W,V⟩).2.1
 have Y:=fun S d X W V=>(D S d ⟨X,W,V⟩).2.2.1
 have C:=fun S d X W V=>(D S d ⟨X,W,V⟩).2.2.2.1
 have g2:=fun S d X W V=>(D S d ⟨X,W,V⟩).2.2.2.2
 clear D;simp[ai,aG,f281] at M;obtain⟨_,rfl⟩:=M;have w0:IntKind.i64.wrap 1=1:=rfl;have J:=vm s m [.cells true 0 [.slice 0 0 s.P.length none,.slice 1 0 s.T.length none]];obtain⟨O,R⟩:=xE (jy s m);rw[←R] at I u J;have B :(m++[.cells true 0 [.slice 0 0 s.P.length none,.slice 1 0 s.T.length none]])[c]? =some (.cells o4 1 [.slice b 0 Z.length none]):=gU hc _;refine cR (lv:=pT) (K:=(Z.length+3)) I ?_;obtain⟨N,hN⟩:=xE s.P.length;simp only[shA,hn,←hN] at J u j Y C g2 B ⊢;simp[aa,hG,f281,J,u,C,aQ,er,pT,B,w0]
theorem Db(Y:List Int)(hY:∀z∈Y,z.natAbs<1000)(H:Y.length=s.P.length)(m:Mem)(b G c:Nat)(o1 o2 o3 A o4:Bool)(hp:m[0]? =some (.cells o1 2 (pC s.P)))(hq:m[1]? =some (.cells o2 3 (tC s.T)))(hb:m[b]? =some (.cells o3 1 (qC (qH Z))))(Z8 :m[G]? =some (.cells A 1 (qC (qH Y))))(hc:m[c]? =some (.cells o4 1 [.slice b 0 Z.length none,.slice G 0 Y.length none])):
  kO prog 281 [shA s,.slice c 0 2 none] m (.int .i64 0) m:=by
 have hG:aK prog 281=some f281:=by kernel_rfl
 have lb:=gL hb;have lb' :=gL Z8;have lc:=gL hc;have hO:=Bi s m 0 1 o1 o2 hp hq rfl rfl;obtain⟨b1,b2,M⟩:∃b1 b2,ai f281=[b1,b2]:=⟨_,_,rfl⟩
 obtain⟨F,C⟩:=jh (O:=jy s m) (K:=s.P.length+4) Z hZ hl (by omega) (mem:=m++[.cells true 0 [.slice 0 0 s.P.length none,.slice 1 0 s.T.length none]]) (b0:=b) (o:=o3) (gU hb _) (m0:=m.length) (fun z h=>qh s m _ z h) M;have I:=fun S d X W V=>(C S d ⟨X,W,V⟩).1
 have g16:=fun S d X W V=>(C S d ⟨X,W,V⟩).2.1
 have g17:=fun S d X W V=>(C S d ⟨X,W,V⟩).2.2.1
 have u:=fun S d X W V=>(C S d ⟨X,W,V⟩).2.2.2.1
 have g2:=fun S d X W V=>(C S d ⟨X,W,V⟩).2.2.2.2
 obtain⟨F2,B⟩:=jh (O:=jy s m) (K:=s.P.length+4) Y hY (by omega) (by omega) (mem:=m++[.cells true 0 [.slice 0 0 s.P.length none,.slice 1 0 s.T.length none]]) (b0:=G) (o:=A) (gU Z8 _) (m0:=m.length) (fun z h=>qh s m _ z h) M;have J :=fun S d X W V=>(B S d ⟨X,W,V⟩).1
 have aer :=fun S d X W V=>(B S d ⟨X,W,V⟩).2.1
 have aes :=fun S d X W V=>(B S d ⟨X,W,V⟩).2.2.1
 have j :=fun S d X W V=>(B S d ⟨X,W,V⟩).2.2.2.1
 have g2' :=fun S d X W V=>(B S d ⟨X,W,V⟩).2.2.2.2
 clear C B;simp[ai,aG,f281] at M;obtain⟨_,rfl⟩:=M;have w0:IntKind.i64.wrap 1=1:=rfl;have D:=vm s m [.cells true 0 [.slice 0 0 s.P.length none,.slice 1 0 s.T.length none]];obtain⟨O,hOO⟩:=xE (jy s m);rw[←hOO] at hO I J D;have R :(m++[.cells true 0 [.slice 0 0 s.P.length none,.slice 1 0 s.T.length none]])[c]? =some (.cells o4 1 [.slice b 0 Z.length none,.slice G 0 Y.length none]):=gU hc _;refine cR (lv:=pT) (K:=(s.P.length+4)) hO ?_;obtain⟨N,hN⟩:=xE s.P.length;simp only[shA,hn,H,←hN] at D I g16 g17 u g2 J aer aes j g2' R ⊢;simp[aa,hG,f281,D,I,u,J,j,w2,aQ,er,pT,R,w0]
theorem pQ(m:Mem)(b:Nat)(o1 o2 o3:Bool)(A:m[0]? =some (.cells o1 2 (pC s.P)))(hq:m[1]? =some (.cells o2 3 (tC s.T)))(G:m[b]? =some (.cells o3 1 (qC (qH Z)))):
  kO prog 250 [shA s,.slice b 0 Z.length none] m (.int .i64 0) m:=by
 have W:aK prog 250=some f250:=by kernel_rfl
 have M:=gL A;have J:=gL hq;have F:=gL G;obtain⟨E,X⟩:=xE (α:=Mem) [.cells true 0 [.slice 0 0 s.P.length none,.slice 1 0 s.T.length none],.cells true 1 [.slice b 0 Z.length none]];have V:=sY s Z hZ hl hn (m++E) b (m.length+1) o1 o2 o3 true (gU A _) (gU hq _) (gU G _) (by rw[X];simp);have S:HS prog (fz [(281,[shA s,.slice (m.length+1) 0 1 none],m++E,⟨.int .i64 0,none,[]⟩)]):=fL fun e he=>by simp only[lM] at he;subst he;exact⟨by simpa [aeQ.mem] using V,by simp⟩
 refine cd S ?_;rw[X];simp[aa,W,f250,fz,shA]
end
end
theorem XO{a b:Int}(h:a≤b):¬0<jQ (hQ a) (hQ b):=by have:=oI.2 (ZG h);omega
theorem A0(Z Y:List Int)(A:∀(i:Nat) z y,Z[i]? =some z→Y[i]? =some y→z≤y∧z.natAbs<1000∧y.natAbs<1000)(hn:Z.length=Y.length)(hl:Z.length≤1000)(hK:Z.length<K){b1:Nat}{o' :Bool}(I:mem[b0]? =some (.cells o 1 (qC (qH Z))))(G :mem[b1]? =some (.cells o' 1 (qC (qH Y))))(R:∀z y:Int,z.natAbs<1000→y.natAbs<1000→O (.fn 85) [.str (ak (hQ z)),.str (ak (hQ y))] mem=some ⟨.int .i64 (jQ (hQ z) (hQ y)),none,[]⟩)(H:ai f251=[b]):
  ∃F:Env→Bool→Env,∀X d,(ad X 19=.slice b0 0 Z.length none∧ad X 20=.int .i64 Z.length∧ad X 21=.int .i64 0∧ad X 2=.slice b1 0 Z.length none)→
   aM (aN prog) (fun _=>[21]) O K 34 m0 true (.loop b) ⟨X,mem,d⟩=some (.exit 0,⟨F X d,mem,d⟩)∧True:=by
 refine cD (L:=[21]) rfl (fun X=>ad X 19=.slice b0 0 Z.length none∧ad X 20=.int .i64 Z.length∧ad X 21=.int .i64 0∧ad X 2=.slice b1 0 Z.length none) (fun _ _=>True) ?_;rintro X d ⟨h28,h29,h30,h2⟩;simp[ai,aG,f251] at H;have W:aD [21] (ab b) X ((21,.int .i64 ((0:Nat):Int))::X)=aD [21] (ab b) X X:=by simp[aD,h30]
 rw[←W];refine dh (α:=Nat) (fun n=>⟨aD [21] (ab b) X ((21,.int .i64 (n:Int))::X),mem,d⟩) (fun n=>Z.length-n) (fun n=>n≤Z.length) (.exit 0) _ d _ (by simp) ?_ K 0 (by omega) (by omega);rintro n J;clear W;subst H;by_cases V:n<Z.length
 ·obtain⟨z,S⟩:∃z,Z[n]? =some z:=⟨Z[n],List.getElem?_eq_getElem V⟩
  obtain⟨y,M⟩:∃y,Y[n]? =some y:=⟨Y[n]'(by omega),List.getElem?_eq_getElem (by omega)⟩
  have D:=ZM S;have C:=ZM M;obtain⟨B,u,m⟩:=A n z y S M;have j:=R z y u m;have c1:=XO B;have w1:IntKind.i64.wrap ((n:Int)+1)=((n+1:Nat):Int):=by rw[aq];omega
  left;obtain⟨v,hv⟩:=xE (n+1);rw[←hv] at w1;refine⟨v,?_⟩;simp[h28,h29,h2,V,I,G,D,C,j,w1,c1];omega
 ·right
  simp[h29,V]
open Classical in
noncomputable def vj(f:FuncId)(args:List AV):Option AV:=match f,args with
 |85,[.str s,.str t]=>match dC s,dC t with
  |some a,some b=>if big 3 a∧big 3 b then some (.int .i64 (jQ a b)) else none
  |_,_=>none
 |_,_=>none
theorem Py{k:Nat}{q:Rat}(h0:0<k)(A:k≤9)(h:big k q):aeZ q:=by have Z:=bD h0 h.1;have X:=bD h0 h.2;exact⟨by omega,by omega⟩
theorem QT:HS prog (af vj):=bH fun f Z v h mem=>by
 unfold vj at h;split at h
 ·split at h
  ·rename_i a b X W
   split at h
   ·rename_i hc
    cases h;rw[aw X,aw W];exact sQ a b (Py (by decide) (by decide) hc.1) (Py (by decide) (by decide) hc.2) mem
   ·cases h
  ·cases h
 ·cases h
theorem pP(s:aeX)(Z Y:List Int)(hZ:∀z∈Z,z.natAbs<1000)(hY:∀z∈Y,z.natAbs<1000)(hl:Z.length≤1000)(hn:Z.length=s.P.length)(A:Y.length=s.P.length)(H:∀(i:Nat) z y,Z[i]? =some z→Y[i]? =some y→z≤y)(m:Mem)(b G :Nat)(o1 o2 o3 o4:Bool)(hp:m[0]? =some (.cells o1 2 (pC s.P)))(hq:m[1]? =some (.cells o2 3 (tC s.T)))(I:m[b]? =some (.cells o3 1 (qC (qH Z))))(R :m[G]? =some (.cells o4 1 (qC (qH Y)))):
  kO prog 251 [shA s,.slice b 0 Z.length none,.slice G 0 Y.length none] m (.tuple [.bool true,.int .i64 0]) m:=by
 have hG:aK prog 251=some f251:=by kernel_rfl
 have l0:=gL hp;have l1:=gL hq;have lb:=gL I;have lb' :=gL R;obtain⟨E,D⟩:=xE (α:=Mem) [.cells true 0 [.slice 0 0 s.P.length none,.slice 1 0 s.T.length none],.cells true 1 [.slice b 0 Z.length none,.slice G 0 Y.length none]];have C:=Db s Z hZ hl hn Y hY A (m++E) b G (m.length+1) o1 o2 o3 o4 true (gU hp _) (gU hq _) (gU I _) (gU R _) (by rw[D];simp);obtain⟨O,X⟩:=xE (aeT.or (af vj) (fz [(281,[shA s,.slice (m.length+1) 0 2 none],m++E,⟨.int .i64 0,none,[]⟩)]));have hO:HS prog O:=by rw[X];refine HS.or' QT (fL fun e he=>?_);simp only[lM] at he;subst he;exact⟨by simpa [aeQ.mem] using C,by simp⟩
 have V:O (.fn 281) [shA s,.slice (m.length+1) 0 2 none] (m++E)=some ⟨.int .i64 0,none,[]⟩:=by rw[X];simp[aeT.or,af,vj,fz]
 have S:∀z y:Int,z.natAbs<1000→y.natAbs<1000→O (.fn 85) [.str (ak (hQ z)),.str (ak (hQ y))] (m++E)=some ⟨.int .i64 (jQ (hQ z) (hQ y)),none,[]⟩:=fun z y M J=>by have B:=Un M;have u:=Un J;have j:big 3 (hQ z):=⟨B.1,by have:=B.2;omega⟩;have b2:big 3 (hQ y):=⟨u.1,by have:=u.2;omega⟩;rw[X];simp[aeT.or,af,vj,ao,j,b2]
 clear X;obtain⟨bb,W⟩:∃b,ai f251=[b]:=⟨_,rfl⟩
 obtain⟨F,hF⟩:=A0 (O:=O) (K:=s.P.length+1) Z Y (fun i z y M J=>⟨H i z y M J,hZ z (List.mem_of_getElem? M),hY y (List.mem_of_getElem? J)⟩) (by omega) hl (by omega) (mem:=m++E) (b0:=b) (b1:=G) (o:=o3) (o' :=o4) (gU I _) (gU R _) (m0:=m.length) S W;have J':=fun z' d h1 h2 h3 h4=>(hF z' d ⟨h1,h2,h3,h4⟩).1
 clear hF S;simp[ai,aG,f251] at W;subst W;refine cR (lv:=(fun _=>[21])) (K:=(s.P.length+1)) hO ?_;clear C;obtain⟨N,hN⟩:=xE s.P.length;subst D;simp only[shA,hn,A,←hN] at V J' ⊢;simp[aa,hG,f251,V,J']
end Go.Proofs
