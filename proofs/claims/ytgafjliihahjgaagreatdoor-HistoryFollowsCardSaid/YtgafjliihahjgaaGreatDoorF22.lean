/- See F54. -/
import Derived.Test.YtgafjliihahjgaaGreatDoorF21
set_option linter.all false
namespace Go.Proofs
open Go.Eng
open Tryz
def vp:aeT:=af fun f Z=>match f,Z with
 |127,[]=>some (.agg nq)
 |_,_=>none
theorem iC:HS prog vp:=bH fun f Z v h mem=>by
 split at h
 ·cases h;exact HF mem
 ·cases h
theorem pO(nm:List UInt8)(n:Z3)(o:Int)(s:Z3)(M:Mem):kO prog 77 [.agg (bo nm n o s)] M (.agg ((nq.drop 5).take 5)) M:=by refine cV iC (lv:=ab) (K:=6) rfl rfl ?_ M;as_aux_lemma=>kernel_rfl
theorem sW(nm:List UInt8)(n:Z3)(o w:Int)(u:List UInt8)(M:Mem):kO prog 77 [.agg (cX nm n o w u)] M (.agg ((nq.drop 15).take 5)) M:=by refine cV iC (lv:=ab) (K:=6) rfl rfl ?_ M;as_aux_lemma=>kernel_rfl
theorem sX(nm:List UInt8)(t:Int×Int×Int×Int)(c:Z3)(M:Mem):kO prog 77 [.agg (cL nm t c)] M (.agg ((nq.drop 20).take 5)) M:=by refine cV iC (lv:=ab) (K:=6) rfl rfl ?_ M;as_aux_lemma=>kernel_rfl
def rV:aeT:=af fun f Z=>match f,Z with
 |166,[.y9,.y9]=>some (.bool true)
 |26,[.y9,.y9]=>some (.bool true)
 |167,[.y9,.y9]=>some (.bool true)
 |168,[.y9,.y9]=>some (.bool true)
 |_,_=>none
theorem iD:HS prog rV:=bH fun f Z v h mem=>by
 split at h
 ·cases h;exact HK mem
 ·cases h;exact Ii mem
 ·cases h;exact Nq mem
 ·cases h;exact HX mem
 ·cases h
theorem AG(nm:List UInt8)(n:Z3)(o:Int)(s:Z3)(M:Mem):kO prog 110 [.agg (bo nm n o s),.agg (bo nm n o s)] M (.bool true) M:=
 jg iD rfl rfl rfl rfl
theorem C4(nm:List UInt8)(n:Z3)(o w:Int)(u:List UInt8)(M:Mem):kO prog 110 [.agg (cX nm n o w u),.agg (cX nm n o w u)] M (.bool true) M:=
 jg iD rfl rfl rfl rfl
theorem C6(nm:List UInt8)(t:Int×Int×Int×Int)(c:Z3)(M:Mem):kO prog 110 [.agg (cL nm t c),.agg (cL nm t c)] M (.bool true) M:=
 jg iD rfl rfl rfl rfl
theorem Oi(t u v w:Int)(h:(t,u,v,w)∈[bC 0,bC 1,bC 2,bC 3,bC 4,bC 5]):(sN (aN prog) ab (aK prog) bM 8 6 (.fn 245) [.agg [.int .i64 t,.int .i64 u,.int .i64 v,.int .i64 w]] []).map (fun r=>(r.v,r.mem []))=some (.int .i64 0,[]++[]):=by simp only[lM,bC,Prod.mk.injEq] at h;rcases h with⟨rfl,rfl,rfl,rfl⟩ | ⟨rfl,rfl,rfl,rfl⟩ | ⟨rfl,rfl,rfl,rfl⟩ | ⟨rfl,rfl,rfl,rfl⟩ | ⟨rfl,rfl,rfl,rfl⟩ | ⟨rfl,rfl,rfl,rfl⟩<;>(as_aux_lemma=>kernel_rfl)
theorem Di(i:Nat)(M:Mem):kO prog 245 [.agg [.int .i64 (bC i).1,.int .i64 (bC i).2.1,.int .i64 (bC i).2.2.1,.int .i64 (bC i).2.2.2]] M (.int .i64 0) M:=by
 refine kO.lift rfl rfl (dJ (new:=[]) ae (ar _) (au _) (al _) (Oi _ _ _ _ ?_)) M
 match i with
 |0 | 1 | 2 | 3 | 4 | n+5=>simp[bC]
open Classical in
noncomputable def bY:List (FuncId×List AV×AV)→FuncId→List AV→Option AV
 | [],_,_=>none
 |x::L,f,args=>if f=x.1∧args=x.2.1 then some x.2.2 else bY L f args
variable{P:Program}
theorem du{L:List (FuncId×List AV×AV)}(h:∀x∈L,∀M,kO P x.1 x.2.1 M x.2.2 M):HS P (af (bY L)):=bH fun f X v Z mem=>by
 induction L with
 |nil=>simp[bY] at Z
 |cons x L ih=>
  rw[bY] at Z;split at Z
  ·rename_i hc
   cases Z;rw[hc.1,hc.2];exact h x (by simp) mem
  ·exact ih (fun y W=>h y (by simp[W])) Z
noncomputable def n7(n:Z3)(o:Int)(s:Z3):List (FuncId×List AV×AV):=[
 (254,[.agg [.str (zS n.1),.str (zS n.2.1),.str (zS n.2.2),.str (zS o)]],.int .i64 0),
 (255,[zA s,zA n],.int .i64 0)]
theorem E3(nm:List UInt8)(n:Z3)(o:Int)(s:Z3)(A:fq 99 n)(G:iu n=false)(H:o.natAbs≤1000)(hs:fq 99 s)(I:Hq s n=0)(x y:AV)(m:Mem):
  kO prog 191 [.agg [x,y],.agg (bo nm n o s)] m (.int .i64 0) m:=by
 have Z:aK prog 191=some f191:=by kernel_rfl
 have X:HS prog (af (bY (n7 n o s))):=du fun e he M=>by
  simp only[n7,lM] at he;rcases he with rfl | rfl
  ·exact o9 n o A G H M
  ·exact At s n hs A I M
 refine cd X ?_;simp[aa,Z,f191,af,n7,bY,bo,zA]
noncomputable def lU(t:Int×Int×Int×Int)(c:Z3):List (FuncId×List AV×AV):=[
 (245,[.agg [.int .i64 t.1,.int .i64 t.2.1,.int .i64 t.2.2.1,.int .i64 t.2.2.2]],.int .i64 0),
 (14,[zA c],.int .i64 0)]
theorem vg(c:Z3)(hc:fq 99 c)(M:Mem):kO prog 14 [zA c] M (.int .i64 0) M:=by have Z:=Xw hc;obtain⟨X,W,h3⟩:=hc;have V:=fX (n:=c.1) (by omega);have S:=fX (n:=c.2.1) (by omega);have O:=fX (n:=c.2.2) (by omega);have:=lT (zS c.1) (zS c.2.1) (zS c.2.2) (by unfold zS;omega) (by unfold zS;omega) (by unfold zS;omega) M;rw[Z] at this;exact this
theorem HB(nm:List UInt8)(i:Nat)(c:Z3)(hc:fq 99 c)(x y:AV)(m:Mem):
  kO prog 205 [.agg [x,y],.agg (cL nm (bC i) c)] m (.int .i64 0) m:=by
 have X:aK prog 205=some f205:=by kernel_rfl
 have Z:HS prog (af (bY (lU (bC i) c))):=du fun e he M=>by
  simp only[lU,lM] at he;rcases he with rfl | rfl
  ·exact Di i M
  ·exact vg c hc M
 obtain⟨t,W⟩:=xE (bC i);rw[←W] at Z ⊢;have h:aa (aN prog) (fun _=>[]) (aK prog) (af (bY (lU t c))) 1 205 [.agg [x,y],.agg (cL nm t c)] m=some ⟨.int .i64 0,none,[]⟩:=by simp[aa,X,f205,af,lU,bY,cL,zA]
 have:=(ah ae (ar _) Z (au _) h).1;simpa [aeQ.mem] using this
noncomputable def pV(n:Z3)(o w:Int)(u:List UInt8):List (FuncId×List AV×AV):=[
 (254,[.agg [.str (zS n.1),.str (zS n.2.1),.str (zS n.2.2),.str (zS o)]],.int .i64 0),
 (55,[.str (ak (hQ w))],.int .i64 0),
 (89,[.str (ak (hQ w))],.int .i64 1),
 (109,[.str u],.int .i64 0)]
theorem YW{w:Int}(h:0<w):0<hQ w:=by
 rw[yy];have:(0:Rat)<(w:Rat):=by exact_mod_cast h
 grind
theorem Hz(nm:List UInt8)(n:Z3)(o w:Int)(u:List UInt8)(A:fq 99 n)(G:iu n=false)(H:o.natAbs≤1000)(I:0<w)(R:w<1000)(hu:u∈bG)(x y:AV)(m:Mem):
  kO prog 200 [.agg [x,y],.agg (cX nm n o w u)] m (.int .i64 0) m:=by
 have Z:aK prog 200=some f200:=by kernel_rfl
 have S:=B6 (z:=w) (by omega);have X:HS prog (af (bY (pV n o w u))):=du fun e he M=>by
  simp only[pV,lM] at he;rcases he with rfl | rfl | rfl | rfl
  ·exact o9 n o A G H M
  ·have:=pI (ak (hQ w)) (by omega) M
   rw[qT ((Un (z:=w) (by omega)).mono (by omega) (by omega))] at this;exact this
  ·have:=AW (hQ w) M
   have W:=YW I;rw[show jV (hQ w)=1 by
    have O:0<(hQ w).num:=Rat.intCast_pos.mp W;have V:¬(hQ w).num<0:=by omega
    have h3:¬(hQ w).num=0:=by omega
    simp[jV,mJ,V,h3]] at this
   exact this
  ·exact dD u hu M
 refine cd X ?_;simp[aa,Z,f200,af,pV,bY,cX]
theorem dP(s:aeX)(M:Mem)(b c:Nat)(o o' :Bool)(A:M[b]? =some (.cells o 2 (pC s.P)))(hc:M[c]? =some (.cells o' 3 (tC s.T))):
  kO prog 59 [.agg [.slice b 0 s.P.length none,.slice c 0 s.T.length none]] M (.int .i64 0) M:=by
 have W:=gL A;have X :=gL hc;have:=kO.frame (M:=M) (new:=[]) [b,c] rfl (by simp[W,X]) (by rfl) (fun i t Z=>by
  match i with
  |0=>simp at Z;subst Z;exact bu (dA _) A List.take_length
  |1=>simp at Z;subst Z;exact bu (dV _) hc List.take_length
  |i+2=>simp at Z) rfl (Fg s)
 simpa [AV.ae3,AV.ren,dL] using this
open Classical in
noncomputable def fz:List (FuncId×List AV×Mem×aeQ)→aeT
 | [],_,_,_=>none
 |x::L,c,args,M=>if c=.fn x.1∧args=x.2.1∧M=x.2.2.1 then some x.2.2.2 else fz L c args M
theorem fL{L:List (FuncId×List AV×Mem×aeQ)}(h:∀x∈L,kO P x.1 x.2.1 x.2.2.1 x.2.2.2.v (x.2.2.2.mem x.2.2.1)∧∀p,x.2.2.2.pre=some p→p.length=x.2.2.1.length):HS P (fz L):=by
 have k:∀c Z M r,fz L c Z M=some r→∃x∈L,c=.fn x.1∧Z=x.2.1∧M=x.2.2.1∧r=x.2.2.2:=by
  clear h;intro c Z M r X;induction L with
  |nil=>simp[fz] at X
  |cons x L ih=>
   rw[fz] at X;split at X
   ·rename_i hc
    cases X;exact⟨x,by simp,hc.1,hc.2.1,hc.2.2,rfl⟩
   ·obtain⟨y,S,W⟩:=ih X
    exact⟨y,by simp[S],W⟩
 refine⟨fun f Z M r X=>?_,fun b Z M r X=>?_,fun c Z M r p X O=>?_⟩
 ·obtain⟨x,V,W,rfl,rfl,rfl⟩:=k _ _ _ _ X
  cases W;exact(h x V).1
 ·obtain⟨x,V,W,_⟩:=k _ _ _ _ X
  cases W
 ·obtain⟨x,V,W,rfl,rfl,rfl⟩:=k _ _ _ _ X
  exact(h x V).2 p O
def gA(s:aeX)(A:List AV):Mem:=[.cells false 2 (pC s.P),.cells false 3 (tC s.T),.cells true 0 [.slice 0 0 s.P.length none,.slice 1 0 s.T.length none],.cells true 0 A]
def dq(k:Int)(nm:List UInt8):List AV:=[.int .i64 k,.str nm,.y9,.y9,.y9,.str [],.str [],.str [],.str [],.str [],.str [],.str [],.str [],.str [],.str [],.y9,.str [],.str [],.str [],.str [],.str [],.str [],.str [],.str [],.str [],.int .i64 0,.int .i64 0,.int .i64 0,.int .i64 0,.str [],.str [],.str []]
theorem wM(A:aeX)(nm:List UInt8)(n:Z3)(o:Int)(s:Z3):
  kO prog 190 [.agg (bo nm n o s),.ptr 4 0] (gA A (bo nm n o s)++[.cells true 0 (dq 2 nm)]) (.tuple []) (gA A (bo nm n o s)++[.cells true 0 (bo nm n o s)]):=by
 have Z:aK prog 190=some f190:=by kernel_rfl
 have h:aa (aN prog) (fun _=>[]) (aK prog) bM 1 190 [.agg (bo nm n o s),.ptr 4 0] (gA A (bo nm n o s)++[.cells true 0 (dq 2 nm)])=some ⟨.tuple [],some (gA A (bo nm n o s)++[.cells true 0 (bo nm n o s)]),[]⟩:=by simp[aa,Z,f190,gA,dq,bo,ef,eW,gx,iS]
 have:=(ah ae (ar _) (al _) (au _) h).1;simpa [aeQ.mem] using this
noncomputable def ke(nm:List UInt8)(A:List AV):List (FuncId×List AV×AV):=[
 (109,[.str nm],.int .i64 0),
 (77,[.agg A],.agg [.func 190 [],.func 191 [],.func 192 [],.func 69 [],.func 193 []]),
 (110,[.agg A,.agg A],.bool true)]
def shA(s:aeX):AV:=.agg [.slice 0 0 s.P.length none,.slice 1 0 s.T.length none]
noncomputable def kf(G:aeX)(nm:List UInt8)(A:List AV):List (FuncId×List AV×Mem×aeQ):=[
 (59,[shA G],gA G A,⟨.int .i64 0,none,[]⟩),
 (190,[.agg A,.ptr 4 0],gA G A++[.cells true 0 (dq 2 nm)],⟨.tuple [],some (gA G A++[.cells true 0 A]),[]⟩),
 (191,[shA G,.agg A],gA G A++[.cells true 0 A],⟨.int .i64 0,none,[]⟩)]
theorem HS.or'{O A :aeT}(h:HS P O)(G :HS P A):HS P (aeT.or O A):=by
 have k:∀c Z mem r,aeT.or O A c Z mem=some r→O c Z mem=some r∨A c Z mem=some r:=fun c Z mem r X=>by
  unfold aeT.or at X;split at X
  ·rename_i q hq
   cases X;exact .inl hq
  ·exact .inr X
 refine⟨fun f Z mem r X=>?_,fun f Z mem r X=>?_,fun c Z mem r p X W=>?_⟩
 ·rcases k _ _ _ _ X with h1 | h1
  ·exact h.fn _ _ _ _ h1
  ·exact G.fn _ _ _ _ h1
 ·rcases k _ _ _ _ X with h1 | h1
  ·exact h.yld _ _ _ _ h1
  ·exact G.yld _ _ _ _ h1
 ·rcases k _ _ _ _ X with h1 | h1
  ·exact h.pre _ _ _ _ _ h1 W
  ·exact G.pre _ _ _ _ _ h1 W
theorem gB(a b c d e:AV):ns (aN prog) 168 (.agg [a,b,c,d,e]) 0=some a:=by kernel_rfl
theorem gC(a b c d e:AV):ns (aN prog) 168 (.agg [a,b,c,d,e]) 1=some b:=by kernel_rfl
theorem agS:aK prog 61=some f61:=by kernel_rfl
theorem agT:ba [0,1,3,0,15] 4=true:=by decide
theorem agU:ba [0,1,3,0,0,31,63] 6=true:=by decide
theorem uY(A:aeX)(nm:List UInt8)(n:Z3)(o:Int)(s:Z3)(G:nm∈bG)(H:fq 99 n)(I:iu n=false)(R:o.natAbs≤1000)(hs:fq 99 s)(Y:Hq s n=0):
  kO prog 61 [shA A,.agg (bo nm n o s)] [.cells false 2 (pC A.P),.cells false 3 (tC A.T)] (.int .i64 0) [.cells false 2 (pC A.P),.cells false 3 (tC A.T)]:=by
 obtain⟨F,V⟩:∃F,aC f61=F:=⟨_,rfl⟩
 have D:=be V (ls:=[[0,1,3,0,15],[0,1,3,0,0,31,63]]) (by kernel_rfl);simp only[aC,bn,f61,lA] at V;subst V;simp only[lB] at D;obtain⟨B,S⟩:=D;obtain⟨W,Z⟩:=xE (bo nm n o s);have K:HS prog (af (bY (ke nm W))):=du fun e he M=>by
  simp only[ke,lM] at he;subst Z;rcases he with rfl | rfl | rfl
  ·exact dD nm G M
  ·exact pO nm n o s M
  ·exact AG nm n o s M
 have J:HS prog (fz (kf A nm W)):=fL fun e he=>by
  simp only[kf,lM] at he;subst Z;rcases he with rfl | rfl | rfl
  ·exact⟨by simpa [aeQ.mem,shA] using dP A (gA A (bo nm n o s)) 0 1 false false rfl rfl,by simp⟩
  ·exact⟨by simpa [aeQ.mem] using wM A nm n o s,by simp[gA]⟩
  ·exact⟨by simpa [aeQ.mem,shA] using E3 nm n o s H I R hs Y _ _ _,by simp⟩
 have C:=HS.or' K J;obtain⟨O,X⟩:=xE (aeT.or (af (bY (ke nm W))) (fz (kf A nm W)));rw[←X] at C;have h:aa (aN prog) (fun _=>[]) (aK prog) O 1 61 [shA A,.agg (bo nm n o s)] [.cells false 2 (pC A.P),.cells false 3 (tC A.T)]=some ⟨.int .i64 0,some [.cells false 2 (pC A.P),.cells false 3 (tC A.T)],[]⟩:=by rw[X,Z];simp[cO,-aB,ag B,ag S,aS,aO,aP,agT,agU,Nat.testBit,-ns,gB,gC,aa,agS,f61,aeT.or,af,bY,fz,ke,kf,shA,gA,dq,bo,bW,aE,ef,eW,gx,iS,Cv,CQ]
 have:=(ah ae (ar _) C (au _) h).1;simpa [aeQ.mem] using this
theorem y7(A:aeX)(nm:List UInt8)(n:Z3)(o w:Int)(u:List UInt8):
  kO prog 199 [.agg (cX nm n o w u),.ptr 4 0] (gA A (cX nm n o w u)++[.cells true 0 (dq 4 nm)]) (.tuple []) (gA A (cX nm n o w u)++[.cells true 0 (cX nm n o w u)]):=by
 have Z:aK prog 199=some f199:=by kernel_rfl
 have h:aa (aN prog) (fun _=>[]) (aK prog) bM 1 199 [.agg (cX nm n o w u),.ptr 4 0] (gA A (cX nm n o w u)++[.cells true 0 (dq 4 nm)])=some ⟨.tuple [],some (gA A (cX nm n o w u)++[.cells true 0 (cX nm n o w u)]),[]⟩:=by simp[aa,Z,f199,gA,dq,cX,ef,eW,gx,iS]
 have:=(ah ae (ar _) (al _) (au _) h).1;simpa [aeQ.mem] using this
noncomputable def lW(nm:List UInt8)(A:List AV):List (FuncId×List AV×AV):=[
 (109,[.str nm],.int .i64 0),
 (77,[.agg A],.agg [.func 199 [],.func 200 [],.func 201 [],.func 202 [],.func 203 []]),
 (110,[.agg A,.agg A],.bool true)]
noncomputable def me(G:aeX)(nm:List UInt8)(A:List AV):List (FuncId×List AV×Mem×aeQ):=[
 (59,[shA G],gA G A,⟨.int .i64 0,none,[]⟩),
 (199,[.agg A,.ptr 4 0],gA G A++[.cells true 0 (dq 4 nm)],⟨.tuple [],some (gA G A++[.cells true 0 A]),[]⟩),
 (200,[shA G,.agg A],gA G A++[.cells true 0 A],⟨.int .i64 0,none,[]⟩)]
theorem wT(A:aeX)(nm:List UInt8)(n:Z3)(o w:Int)(u:List UInt8)(H:nm∈bG)(I:fq 99 n)(R:iu n=false)(Y:o.natAbs≤1000)(hw:0<w)(G:w<1000)(hu:u∈bG):
  kO prog 61 [shA A,.agg (cX nm n o w u)] [.cells false 2 (pC A.P),.cells false 3 (tC A.T)] (.int .i64 0) [.cells false 2 (pC A.P),.cells false 3 (tC A.T)]:=by
 obtain⟨F,V⟩:∃F,aC f61=F:=⟨_,rfl⟩
 have D:=be V (ls:=[[0,1,3,0,15],[0,1,3,0,0,31,63]]) (by kernel_rfl);simp only[aC,bn,f61,lA] at V;subst V;simp only[lB] at D;obtain⟨B,S⟩:=D;obtain⟨W,Z⟩:=xE (cX nm n o w u);have K:HS prog (af (bY (lW nm W))):=du fun e he M=>by
  simp only[lW,lM] at he;subst Z;rcases he with rfl | rfl | rfl
  ·exact dD nm H M
  ·exact sW nm n o w u M
  ·exact C4 nm n o w u M
 have J:HS prog (fz (me A nm W)):=fL fun e he=>by
  simp only[me,lM] at he;subst Z;rcases he with rfl | rfl | rfl
  ·exact⟨by simpa [aeQ.mem,shA] using dP A (gA A (cX nm n o w u)) 0 1 false false rfl rfl,by simp⟩
  ·exact⟨by simpa [aeQ.mem] using y7 A nm n o w u,by simp[gA]⟩
  ·exact⟨by simpa [aeQ.mem,shA] using Hz nm n o w u I R Y hw G hu _ _ _,by simp⟩
 have C:=HS.or' K J;obtain⟨O,X⟩:=xE (aeT.or (af (bY (lW nm W))) (fz (me A nm W)));rw[←X] at C;have h:aa (aN prog) (fun _=>[]) (aK prog) O 1 61 [shA A,.agg (cX nm n o w u)] [.cells false 2 (pC A.P),.cells false 3 (tC A.T)]=some ⟨.int .i64 0,some [.cells false 2 (pC A.P),.cells false 3 (tC A.T)],[]⟩:=by rw[X,Z];simp[cO,-aB,ag B,ag S,aS,aO,aP,agT,agU,Nat.testBit,-ns,gB,gC,aa,agS,f61,aeT.or,af,bY,fz,lW,me,shA,gA,dq,cX,bW,aE,ef,eW,gx,iS,Cv,CQ]
 have:=(ah ae (ar _) C (au _) h).1;simpa [aeQ.mem] using this
theorem za(A:aeX)(nm:List UInt8)(i:Nat)(c:Z3):
  kO prog 204 [.agg (cL nm (bC i) c),.ptr 4 0] (gA A (cL nm (bC i) c)++[.cells true 0 (dq 5 nm)]) (.tuple []) (gA A (cL nm (bC i) c)++[.cells true 0 (cL nm (bC i) c)]):=by
 have Z:aK prog 204=some f204:=by kernel_rfl
 have h:aa (aN prog) (fun _=>[]) (aK prog) bM 1 204 [.agg (cL nm (bC i) c),.ptr 4 0] (gA A (cL nm (bC i) c)++[.cells true 0 (dq 5 nm)])=some ⟨.tuple [],some (gA A (cL nm (bC i) c)++[.cells true 0 (cL nm (bC i) c)]),[]⟩:=by simp[aa,Z,f204,gA,dq,cL,ef,eW,gx,iS]
 have:=(ah ae (ar _) (al _) (au _) h).1;simpa [aeQ.mem] using this
noncomputable def lX(nm:List UInt8)(A:List AV):List (FuncId×List AV×AV):=[
 (109,[.str nm],.int .i64 0),
 (77,[.agg A],.agg [.func 204 [],.func 205 [],.func 206 [],.func 207 [],.func 208 []]),
 (110,[.agg A,.agg A],.bool true)]
noncomputable def mh(G:aeX)(nm:List UInt8)(A:List AV):List (FuncId×List AV×Mem×aeQ):=[
 (59,[shA G],gA G A,⟨.int .i64 0,none,[]⟩),
 (204,[.agg A,.ptr 4 0],gA G A++[.cells true 0 (dq 5 nm)],⟨.tuple [],some (gA G A++[.cells true 0 A]),[]⟩),
 (205,[shA G,.agg A],gA G A++[.cells true 0 A],⟨.int .i64 0,none,[]⟩)]
theorem wV(A:aeX)(nm:List UInt8)(i:Nat)(c:Z3)(G:nm∈bG)(hc:fq 99 c):
  kO prog 61 [shA A,.agg (cL nm (bC i) c)] [.cells false 2 (pC A.P),.cells false 3 (tC A.T)] (.int .i64 0) [.cells false 2 (pC A.P),.cells false 3 (tC A.T)]:=by
 obtain⟨F,V⟩:∃F,aC f61=F:=⟨_,rfl⟩
 have D:=be V (ls:=[[0,1,3,0,15],[0,1,3,0,0,31,63]]) (by kernel_rfl);simp only[aC,bn,f61,lA] at V;subst V;simp only[lB] at D;obtain⟨B,S⟩:=D;obtain⟨W,Z⟩:=xE (cL nm (bC i) c);have K:HS prog (af (bY (lX nm W))):=du fun e he M=>by
  simp only[lX,lM] at he;subst Z;rcases he with rfl | rfl | rfl
  ·exact dD nm G M
  ·exact sX nm (bC i) c M
  ·exact C6 nm (bC i) c M
 have J:HS prog (fz (mh A nm W)):=fL fun e he=>by
  simp only[mh,lM] at he;subst Z;rcases he with rfl | rfl | rfl
  ·exact⟨by simpa [aeQ.mem,shA] using dP A (gA A (cL nm (bC i) c)) 0 1 false false rfl rfl,by simp⟩
  ·exact⟨by simpa [aeQ.mem] using za A nm i c,by simp[gA]⟩
  ·exact⟨by simpa [aeQ.mem,shA] using HB nm i c hc _ _ _,by simp⟩
 have C:=HS.or' K J;obtain⟨O,X⟩:=xE (aeT.or (af (bY (lX nm W))) (fz (mh A nm W)));rw[←X] at C;have h:aa (aN prog) (fun _=>[]) (aK prog) O 1 61 [shA A,.agg (cL nm (bC i) c)] [.cells false 2 (pC A.P),.cells false 3 (tC A.T)]=some ⟨.int .i64 0,some [.cells false 2 (pC A.P),.cells false 3 (tC A.T)],[]⟩:=by rw[X,Z];simp[cO,-aB,ag B,ag S,aS,aO,aP,agT,agU,Nat.testBit,-ns,gB,gC,aa,agS,f61,aeT.or,af,bY,fz,lX,mh,shA,gA,dq,cL,bW,aE,ef,eW,gx,iS,Cv,CQ]
 have:=(ah ae (ar _) C (au _) h).1;simpa [aeQ.mem] using this
end Go.Proofs
