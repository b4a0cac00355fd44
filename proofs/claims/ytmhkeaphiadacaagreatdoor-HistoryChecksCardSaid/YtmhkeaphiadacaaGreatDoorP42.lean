/- See P53. -/
import Derived.Test.YtmhkeaphiadacaaGreatDoorP41
set_option linter.all false
set_option maxRecDepth 100000
set_option maxHeartbeats 40000000
namespace Go.Proofs
open Go.Eng
open Tryz
def mr(PS:List P2) (TS:List Tr):Mem:=[.cells false 2 (pC PS),.cells false 3 (tC TS)]
variable{i:Nat}
theorem Sm{PS:List P2}{TS:List Tr}(hT:∀t∈TS,Ua PS t)(hi:i<TS.length):∃t,TS[i]? =some t∧PS[t.1]? =some (lf PS TS i).1∧PS[t.2.1]? =some (lf PS TS i).2.1∧PS[t.2.2]? =some (lf PS TS i).2.2:=by
 have h:TS[i]? =some TS[i]:=List.getElem?_eq_getElem hi;obtain⟨p,q,r,e1,e2,e3,-⟩:=hT _ (List.mem_of_getElem? h);obtain⟨t,ht⟩:∃t,t=TS[i]:=⟨_,rfl⟩
 rw[←ht] at h e1 e2 e3;refine⟨t,h,?_⟩;have hd:TS.getD i (0,0,0)=t:=by rw[List.getD_eq_getElem?_getD,h];rfl
 unfold lf;rw[hd];simp only[List.getD_eq_getElem?_getD,e1,e2,e3,Option.getD_some,and_self]
theorem BW(PS:List P2)(TS:List Tr)(X:Mem)(hT:∀t∈TS,Ua PS t)(hi:i<TS.length):
  mB prog 109 [.agg [.slice 0 0 PS.length none,.slice 1 0 TS.length none],.int .i64 i] (.cells false 2 (pC PS)::.cells false 3 (tC TS)::X) (tA (lf PS TS i)) (.cells false 2 (pC PS)::.cells false 3 (tC TS)::X):=by
 have hG:aO prog 109=some f109:=by kernel_rfl
 obtain⟨t,ht,e1,e2,e3⟩:=Sm hT hi;obtain⟨⟨a,b,c⟩,hT2⟩:∃T,T=lf PS TS i:=⟨_,rfl⟩
 rw[←hT2] at e1 e2 e3;rw[←hT2];obtain⟨k1,k2⟩:=U7 ht;obtain⟨i1,i2,i3⟩:=t;simp only at e1 e2 e3 k1;obtain⟨p1,-,-,p4⟩:=wS e1;obtain⟨q1,-,-,q4⟩:=wS e2;obtain⟨r1,-,-,r4⟩:=wS e3;have a1:=(List.getElem?_eq_some_iff.1 e1).1;have a2:=(List.getElem?_eq_some_iff.1 e2).1;have a3:=(List.getElem?_eq_some_iff.1 e3).1;obtain⟨ops,F'⟩:∃ops,aP f109=[ops]:=⟨_,rfl⟩
 have PP:=ie F' (l:=[0,1,0,4,15,31,0,64,0,256,960,1984,0,4096,0,16384,61440,126976,262143,524287]) (by kernel_rfl);have Y9:ba [0,1,0,4,15,31,0,64,0,256,960,1984,0,4096,0,16384,61440,126976,262143,524287] 19=true:=by decide
 simp[aP,bQ,f109] at F';subst F';have h:ad (aC prog) (fun _=>[]) (aO prog) bt 1 109 [.agg [.slice 0 0 PS.length none,.slice 1 0 TS.length none],.int .i64 i] [.cells false 2 (pC PS),.cells false 3 (tC TS)]=some ⟨tA (a,b,c),none,[]⟩:=by simp[ad,hG,f109,hi,k1,k2,a1,a2,a3,p1,q1,r1,p4,q4,r4,tA,tL,pC,-ay,ag PP,aJ,aG,aH,Y9,bO]
 have h2:=(au af (aw _) (ah _) (ax _) h).1;have:=mB.frame (M:=.cells false 2 (pC PS)::.cells false 3 (tC TS)::X) (new:=[]) (args:=[.agg [.slice 0 0 PS.length none,.slice 1 0 TS.length none],.int .i64 i]) [0,1] (m:=[.cells false 2 (pC PS),.cells false 3 (tC TS)]) rfl (by simp) (by rfl) (fun i s hs=>by
  match i with
  |0=>simp at hs;subst hs;exact aV (bV PS) rfl List.take_length
  |1=>simp at hs;subst hs;exact aV (dp TS) rfl List.take_length
  |i+2=>simp at hs) rfl (by simpa [HS.mem] using h2)
 simpa [AV.aal,AV.ren,dr,tA,tL,pC] using this
def dC(PS:List P2) (TS:List Tr) (c:Go.Eng.Callee) (a:List AV) (N:Mem) (r:HS):Prop:=match c,a with
 |.fn 109,[x,.int .i64 i]=>x=.agg [.slice 0 0 PS.length none,.slice 1 0 TS.length none]∧(∃X,N=.cells false 2 (pC PS)::.cells false 3 (tC TS)::X)∧∃j:Nat,i=(j:Int)∧j<TS.length∧r=⟨tA (lf PS TS j),none,[]⟩
 |.fn 110,[x,y]=>∃a b,x=tA a∧y=tA b∧Ft a b=true∧r=⟨ouP N.length (sk a b),none,ouR (sk a b)⟩
 |.fn 111,[x,p]=>∃L s,aa6 N x L∧x.qK=true∧p=pA s∧r=⟨.bool (uo L s),none,[]⟩
 |_,_=>False
theorem LH{PS:List P2}{TS:List Tr}(hT:∀t∈TS,Ua PS t):qS prog (fS (dC PS TS)):=vz fun c a N r h=>by
 unfold dC at h;split at h
 ·obtain⟨rfl,⟨X,rfl⟩,j,rfl,h2,rfl⟩:=h
  exact ak (by simpa using BW PS TS X hT h2)
 ·obtain⟨a,b,rfl,rfl,h1,rfl⟩:=h
  exact ak (Lr a b h1 N)
 ·obtain⟨L,s,h1,h2,rfl,rfl⟩:=h
  exact ak (by simpa using yg s h1 h2)
 ·exact h.elim
variable{a b:T2}
theorem Uq(h:tA a=tA b):a=b:=by have:=R6 (AV.agg.inj h);simp only[tL,List.cons.injEq,and_true] at this;exact Prod.ext this.1 (Prod.ext this.2.1 this.2.2)
variable{K j:Nat}{b1 b2:Code}
section
variable {PS:List P2}{TS:List Tr}
theorem pO(X:Mem)(hi:i<TS.length):fS (dC PS TS) (.fn 109) [.agg [.slice 0 0 PS.length none,.slice 1 0 TS.length none],.int .i64 i] (.cells false 2 (pC PS)::.cells false 3 (tC TS)::X)=some ⟨tA (lf PS TS i),none,[]⟩:=
 eY (S:=dC PS TS) (show dC PS TS _ _ _ _ from⟨rfl,⟨X,rfl⟩,i,rfl,hi,rfl⟩) fun r' h=>by
  obtain⟨_,_,j,h1,_,h3⟩:=h;have:j=i:=by omega
  rw[h3,this]
theorem GI(N:Mem)(h:Ft a b=true):fS (dC PS TS) (.fn 110) [tA a,tA b] N=some ⟨ouP N.length (sk a b),none,ouR (sk a b)⟩:=
 eY (S:=dC PS TS) (show dC PS TS _ _ _ _ from⟨a,b,rfl,rfl,h,rfl⟩) fun r' h=>by obtain⟨a',b',h1,h2,_,h3⟩:=h;rw[h3,Uq h1,Uq h2]
theorem nE{N:Mem}{x:AV}{L:List P2}(s:P2)(h:aa6 N x L)(hk:x.qK=true):fS (dC PS TS) (.fn 111) [x,pA s] N=some ⟨.bool (uo L s),none,[]⟩:=
 eY (S:=dC PS TS) (show dC PS TS _ _ _ _ from⟨L,s,h,hk,rfl,rfl⟩) fun r' h' =>by obtain⟨L',s',h1,_,h2,h3⟩:=h';rw[h3,h.uniq h1,Um h2]
def ke(c:Code):List Nat:=if (ab c).contains 25 then [10,25] else [41]
def shN(a b:T2) (n:Nat):List P2:=((tL a).take n).filter (uo (tL b))
def aU(PS:List P2) (TS:List Tr) (a b:T2):Mem:=[.cells false 2 (pC PS),.cells false 3 (tC TS),.cells true 0 [.slice 0 0 PS.length none,.slice 1 0 TS.length none],.cells true 0 (pC (tL a)),.cells true 0 (pC (tL b))]
theorem yz(a b:T2)(CV:AV)(hK:3<K)(hb:aj f78=[b1,b2]):
  ∃F:Env→Bool→Env,∀y' d,(aa y' 8=.ptr 4 0∧aa y' 10=.kO∧aa y' 24=tA a∧aa y' 25=.int .i64 0∧aa y' 9=CV)→
   aQ (aC prog) ke (fS (dC PS TS)) K 50 2 true (.loop b1) ⟨y',aU PS TS a b,d⟩=some (.exit 0,⟨F y' d,aU PS TS a b++ouR (jk a b),d⟩)∧(aa (F y' d) 10=ouP 5 (jk a b)∧aa (F y' d) 9=CV):=by
 refine bf (L:=[10,25]) (by simp[aj,aD,f78] at hb;rw[←hb.1];rfl) (fun y'=>aa y' 8=.ptr 4 0∧aa y' 10=.kO∧aa y' 24=tA a∧aa y' 25=.int .i64 0∧aa y' 9=CV) (fun _ z' =>aa z' 10=ouP 5 (jk a b)∧aa z' 9=CV) ?_;rintro y' d ⟨h8,h10,X5,h25,h9⟩;obtain⟨a0,a1,a2⟩:=a;obtain⟨o1,o2,F'⟩:∃o1 o2,aP f78=[o1,o2]:=⟨_,_,rfl⟩
 obtain⟨hb1,WE⟩:=kA F' (l:=[0,0,3,0,0,31,0,0,255,511]) (l' :=[0,0,3]) (by kernel_rfl);have j2:ba [0,0,3] 2=true:=by decide
 simp[aP,bQ,f78] at F';simp[aj,aD,f78] at hb;obtain⟨hb,-⟩:=hb;have Z7:(aU PS TS (a0,a1,a2) b).length=5:=rfl;rw[Z7];have UV:az [10,25] (ab b1) y' ((10,ouP 5 (shN (a0,a1,a2) b 0))::(25,.int .i64 ((0:Nat):Int))::y')=az [10,25] (ab b1) y' y':=by simp[az,h10,h25,shN,gU]
 rw[←UV];have XH:aU PS TS (a0,a1,a2) b=aU PS TS (a0,a1,a2) b++ouR (shN (a0,a1,a2) b 0):=by simp[shN,gV]
 conv=>congr;ext z';lhs;lhs;rw[XH]
 have es3:jk (a0,a1,a2) b=shN (a0,a1,a2) b 3:=rfl;rw[es3];refine bA (α:=Nat) (fun n=>⟨az [10,25] (ab b1) y' ((10,ouP 5 (shN (a0,a1,a2) b n))::(25,.int .i64 (n:Int))::y'),aU PS TS (a0,a1,a2) b++ouR (shN (a0,a1,a2) b n),d⟩) (fun n=>3-n) (fun n=>n≤3) (.exit 0) _ d _ (by simp) ?_ K 0 (by omega) (by omega);intro n Xi;clear UV XH;subst hb;obtain⟨rfl,rfl⟩:=F';have v1:IntKind.i64.wrap 1=1:=rfl;have v2:IntKind.i64.wrap 2=2:=rfl;have v3:IntKind.i64.wrap 3=3:=rfl;have eH:∀X s,fS (dC PS TS) (.fn 111) [.slice 4 0 3 (some 3),.agg [.str (aN s.1),.str (aN s.2)]] (.cells false 2 (pC PS)::.cells false 3 (tC TS)::.cells true 0 [.slice 0 0 PS.length none,.slice 1 0 TS.length none]::.cells true 0 (pC (tL (a0,a1,a2)))::.cells true 0 (pC (tL b))::X)=some ⟨.bool (uo (tL b) s),none,[]⟩:=fun X s=>nE s ⟨by simp[tL],.inl ⟨4,some 3,true,0,rfl,rfl⟩⟩ rfl
 simp only[tL,pC] at eH;obtain rfl | rfl | rfl | rfl:n=0∨n=1∨n=2∨n=3:=by omega
 ·left
  refine⟨1,?_⟩;have es:shN (a0,a1,a2) b 1=shN (a0,a1,a2) b 0++if uo (tL b) a0=true then [a0] else []:=by
   show List.filter _ ((tL (a0,a1,a2)).take 0++[a0])=_
   rw[List.filter_append];simp[shN,List.filter_cons]
  have ol:(shN (a0,a1,a2) b 0).length≤3:=Nat.le_trans (List.length_filter_le _ _) (by simp[tL]);obtain⟨o,ho⟩:∃x,x=shN (a0,a1,a2) b 0:=⟨_,rfl⟩
  rw[←ho] at es ol;rw[←ho,es];have Xk:=gy o;have Yh:∀z:P2,pC (o++[z])=pC o++[.str (aN z.1),.str (aN z.2)]:=fun z=>by rw[gx];rfl
  obtain⟨r,WO⟩:∃r,r=o.length:=⟨_,rfl⟩
  rw[←WO] at Xk ol;have g1:(r+1)*32≤140737488355328:=by omega
  have g2:r≤140737488355327:=by omega
  have ZM:r+1≤140737488355328:=by omega
  have g3:(pC o).take (r*2)=pC o:=List.take_of_length_le (by omega);obtain⟨W,hW⟩:∃W,W=uo (tL b) a0:=⟨_,rfl⟩
  rw[←hW];have hp:=hW.symm;simp only[tL] at hp;cases W with
  |true=>
   by_cases Xw:r=0
   ·have XF:o=[]:=List.eq_nil_of_length_eq_zero (by omega)
    subst XF;simp[h8,X5,eH,hp,-ay,ag WE,aJ,aG,aH,j2,tA,aU,tL,pC,v1,be,bM,Nat.testBit,ouP,ouR]
   ·simp[h8,X5,eH,hp,-ay,ag WE,aJ,aG,aH,j2,tA,aU,tL,pC,v1,be,bM,cz,Nat.testBit,ouP,ouR,Xw,Xk,Yh,g1,ZM,g3,←WO]
  |false=>
   by_cases Xw:r=0
   ·have XF:o=[]:=List.eq_nil_of_length_eq_zero (by omega)
    subst XF;simp[h8,X5,eH,hp,-ay,ag WE,aJ,aG,aH,j2,tA,aU,tL,pC,v1,be,bM,Nat.testBit,ouP,ouR]
   ·simp[h8,X5,eH,hp,-ay,ag WE,aJ,aG,aH,j2,tA,aU,tL,pC,v1,be,bM,cz,Nat.testBit,ouP,ouR,Xw,←WO]
 ·left
  refine⟨2,?_⟩;have es:shN (a0,a1,a2) b 2=shN (a0,a1,a2) b 1++if uo (tL b) a1=true then [a1] else []:=by
   show List.filter _ ((tL (a0,a1,a2)).take 1++[a1])=_
   rw[List.filter_append];simp[shN,List.filter_cons]
  have ol:(shN (a0,a1,a2) b 1).length≤3:=Nat.le_trans (List.length_filter_le _ _) (by simp[tL]);obtain⟨o,ho⟩:∃x,x=shN (a0,a1,a2) b 1:=⟨_,rfl⟩
  rw[←ho] at es ol;rw[←ho,es];have Xk:=gy o;have Yh:∀z:P2,pC (o++[z])=pC o++[.str (aN z.1),.str (aN z.2)]:=fun z=>by rw[gx];rfl
  obtain⟨r,WO⟩:∃r,r=o.length:=⟨_,rfl⟩
  rw[←WO] at Xk ol;have g1:(r+1)*32≤140737488355328:=by omega
  have g2:r≤140737488355327:=by omega
  have ZM:r+1≤140737488355328:=by omega
  have g3:(pC o).take (r*2)=pC o:=List.take_of_length_le (by omega);obtain⟨W,hW⟩:∃W,W=uo (tL b) a1:=⟨_,rfl⟩
  rw[←hW];have hp:=hW.symm;simp only[tL] at hp;cases W with
  |true=>
   by_cases Xw:r=0
   ·have XF:o=[]:=List.eq_nil_of_length_eq_zero (by omega)
    subst XF;simp[h8,X5,eH,hp,-ay,ag WE,aJ,aG,aH,j2,tA,aU,tL,pC,v2,be,bM,Nat.testBit,ouP,ouR]
   ·simp[h8,X5,eH,hp,-ay,ag WE,aJ,aG,aH,j2,tA,aU,tL,pC,v2,be,bM,cz,Nat.testBit,ouP,ouR,Xw,Xk,Yh,g1,ZM,g3,←WO]
  |false=>
   by_cases Xw:r=0
   ·have XF:o=[]:=List.eq_nil_of_length_eq_zero (by omega)
    subst XF;simp[h8,X5,eH,hp,-ay,ag WE,aJ,aG,aH,j2,tA,aU,tL,pC,v2,be,bM,Nat.testBit,ouP,ouR]
   ·simp[h8,X5,eH,hp,-ay,ag WE,aJ,aG,aH,j2,tA,aU,tL,pC,v2,be,bM,cz,Nat.testBit,ouP,ouR,Xw,←WO]
 ·left
  refine⟨3,?_⟩;have es:shN (a0,a1,a2) b 3=shN (a0,a1,a2) b 2++if uo (tL b) a2=true then [a2] else []:=by
   show List.filter _ ((tL (a0,a1,a2)).take 2++[a2])=_
   rw[List.filter_append];simp[shN,List.filter_cons]
  have ol:(shN (a0,a1,a2) b 2).length≤3:=Nat.le_trans (List.length_filter_le _ _) (by simp[tL]);obtain⟨o,ho⟩:∃x,x=shN (a0,a1,a2) b 2:=⟨_,rfl⟩
  rw[←ho] at es ol;rw[←ho,es];have Xk:=gy o;have Yh:∀z:P2,pC (o++[z])=pC o++[.str (aN z.1),.str (aN z.2)]:=fun z=>by rw[gx];rfl
  obtain⟨r,WO⟩:∃r,r=o.length:=⟨_,rfl⟩
  rw[←WO] at Xk ol;have g1:(r+1)*32≤140737488355328:=by omega
  have g2:r≤140737488355327:=by omega
  have ZM:r+1≤140737488355328:=by omega
  have g3:(pC o).take (r*2)=pC o:=List.take_of_length_le (by omega);obtain⟨W,hW⟩:∃W,W=uo (tL b) a2:=⟨_,rfl⟩
  rw[←hW];have hp:=hW.symm;simp only[tL] at hp;cases W with
  |true=>
   by_cases Xw:r=0
   ·have XF:o=[]:=List.eq_nil_of_length_eq_zero (by omega)
    subst XF;simp[h8,X5,eH,hp,-ay,ag WE,aJ,aG,aH,j2,tA,aU,tL,pC,v3,be,bM,Nat.testBit,ouP,ouR]
   ·simp[h8,X5,eH,hp,-ay,ag WE,aJ,aG,aH,j2,tA,aU,tL,pC,v3,be,bM,cz,Nat.testBit,ouP,ouR,Xw,Xk,Yh,g1,ZM,g3,←WO]
  |false=>
   by_cases Xw:r=0
   ·have XF:o=[]:=List.eq_nil_of_length_eq_zero (by omega)
    subst XF;simp[h8,X5,eH,hp,-ay,ag WE,aJ,aG,aH,j2,tA,aU,tL,pC,v3,be,bM,Nat.testBit,ouP,ouR]
   ·simp[h8,X5,eH,hp,-ay,ag WE,aJ,aG,aH,j2,tA,aU,tL,pC,v3,be,bM,cz,Nat.testBit,ouP,ouR,Xw,←WO]
 ·right
  simp[h9]
theorem yA(a b:T2)(CL:List P2)(CV:AV)(hK:3<K)(hb:aj f78=[b1,b2]):
  ∃F:Env→Bool→Env,∀y' d,(aa y' 8=.ptr 4 0∧aa y' 10=.kO∧aa y' 24=tA a∧aa y' 25=.int .i64 0∧aa y' 9=CV)→
   aQ (aC prog) ke (fS (dC PS TS)) K 50 2 true (.loop b1) ⟨y',aU PS TS a b++[aae.cells true 2 (pC CL)],d⟩=some (.exit 0,⟨F y' d,aU PS TS a b++[aae.cells true 2 (pC CL)]++ouR (jk a b),d⟩)∧(aa (F y' d) 10=ouP 6 (jk a b)∧aa (F y' d) 9=CV):=by
 refine bf (L:=[10,25]) (by simp[aj,aD,f78] at hb;rw[←hb.1];rfl) (fun y'=>aa y' 8=.ptr 4 0∧aa y' 10=.kO∧aa y' 24=tA a∧aa y' 25=.int .i64 0∧aa y' 9=CV) (fun _ z' =>aa z' 10=ouP 6 (jk a b)∧aa z' 9=CV) ?_;rintro y' d ⟨h8,h10,X5,h25,h9⟩;obtain⟨a0,a1,a2⟩:=a;obtain⟨o1,o2,F'⟩:∃o1 o2,aP f78=[o1,o2]:=⟨_,_,rfl⟩
 obtain⟨hb1,WE⟩:=kA F' (l:=[0,0,3,0,0,31,0,0,255,511]) (l' :=[0,0,3]) (by kernel_rfl);have j2:ba [0,0,3] 2=true:=by decide
 simp[aP,bQ,f78] at F';simp[aj,aD,f78] at hb;obtain⟨hb,-⟩:=hb;have Z7:(aU PS TS (a0,a1,a2) b++[aae.cells true 2 (pC CL)]).length=6:=rfl;rw[Z7];have UV:az [10,25] (ab b1) y' ((10,ouP 6 (shN (a0,a1,a2) b 0))::(25,.int .i64 ((0:Nat):Int))::y')=az [10,25] (ab b1) y' y':=by simp[az,h10,h25,shN,gU]
 rw[←UV];have XH:aU PS TS (a0,a1,a2) b++[aae.cells true 2 (pC CL)]=aU PS TS (a0,a1,a2) b++[aae.cells true 2 (pC CL)]++ouR (shN (a0,a1,a2) b 0):=by simp[shN,gV]
 conv=>congr;ext z';lhs;lhs;rw[XH]
 have es3:jk (a0,a1,a2) b=shN (a0,a1,a2) b 3:=rfl;rw[es3];refine bA (α:=Nat) (fun n=>⟨az [10,25] (ab b1) y' ((10,ouP 6 (shN (a0,a1,a2) b n))::(25,.int .i64 (n:Int))::y'),aU PS TS (a0,a1,a2) b++[aae.cells true 2 (pC CL)]++ouR (shN (a0,a1,a2) b n),d⟩) (fun n=>3-n) (fun n=>n≤3) (.exit 0) _ d _ (by simp) ?_ K 0 (by omega) (by omega);intro n Xi;clear UV XH;subst hb;obtain⟨rfl,rfl⟩:=F';have v1:IntKind.i64.wrap 1=1:=rfl;have v2:IntKind.i64.wrap 2=2:=rfl;have v3:IntKind.i64.wrap 3=3:=rfl;have eH:∀X s,fS (dC PS TS) (.fn 111) [.slice 4 0 3 (some 3),.agg [.str (aN s.1),.str (aN s.2)]] (.cells false 2 (pC PS)::.cells false 3 (tC TS)::.cells true 0 [.slice 0 0 PS.length none,.slice 1 0 TS.length none]::.cells true 0 (pC (tL (a0,a1,a2)))::.cells true 0 (pC (tL b))::X)=some ⟨.bool (uo (tL b) s),none,[]⟩:=fun X s=>nE s ⟨by simp[tL],.inl ⟨4,some 3,true,0,rfl,rfl⟩⟩ rfl
 simp only[tL,pC] at eH;obtain rfl | rfl | rfl | rfl:n=0∨n=1∨n=2∨n=3:=by omega
 ·left
  refine⟨1,?_⟩;have es:shN (a0,a1,a2) b 1=shN (a0,a1,a2) b 0++if uo (tL b) a0=true then [a0] else []:=by
   show List.filter _ ((tL (a0,a1,a2)).take 0++[a0])=_
   rw[List.filter_append];simp[shN,List.filter_cons]
  have ol:(shN (a0,a1,a2) b 0).length≤3:=Nat.le_trans (List.length_filter_le _ _) (by simp[tL]);obtain⟨o,ho⟩:∃x,x=shN (a0,a1,a2) b 0:=⟨_,rfl⟩
  rw[←ho] at es ol;rw[←ho,es];have Xk:=gy o;have Yh:∀z:P2,pC (o++[z])=pC o++[.str (aN z.1),.str (aN z.2)]:=fun z=>by rw[gx];rfl
  obtain⟨r,WO⟩:∃r,r=o.length:=⟨_,rfl⟩
  rw[←WO] at Xk ol;have g1:(r+1)*32≤140737488355328:=by omega
  have g2:r≤140737488355327:=by omega
  have ZM:r+1≤140737488355328:=by omega
  have g3:(pC o).take (r*2)=pC o:=List.take_of_length_le (by omega);obtain⟨W,hW⟩:∃W,W=uo (tL b) a0:=⟨_,rfl⟩
  rw[←hW];have hp:=hW.symm;simp only[tL] at hp;cases W with
  |true=>
   by_cases Xw:r=0
   ·have XF:o=[]:=List.eq_nil_of_length_eq_zero (by omega)
    subst XF;simp[h8,X5,eH,hp,-ay,ag WE,aJ,aG,aH,j2,tA,aU,tL,pC,v1,be,bM,Nat.testBit,ouP,ouR]
   ·simp[h8,X5,eH,hp,-ay,ag WE,aJ,aG,aH,j2,tA,aU,tL,pC,v1,be,bM,cz,Nat.testBit,ouP,ouR,Xw,Xk,Yh,g1,ZM,g3,←WO]
  |false=>
   by_cases Xw:r=0
   ·have XF:o=[]:=List.eq_nil_of_length_eq_zero (by omega)
    subst XF;simp[h8,X5,eH,hp,-ay,ag WE,aJ,aG,aH,j2,tA,aU,tL,pC,v1,be,bM,Nat.testBit,ouP,ouR]
   ·simp[h8,X5,eH,hp,-ay,ag WE,aJ,aG,aH,j2,tA,aU,tL,pC,v1,be,bM,cz,Nat.testBit,ouP,ouR,Xw,←WO]
 ·left
  refine⟨2,?_⟩;have es:shN (a0,a1,a2) b 2=shN (a0,a1,a2) b 1++if uo (tL b) a1=true then [a1] else []:=by
   show List.filter _ ((tL (a0,a1,a2)).take 1++[a1])=_
   rw[List.filter_append];simp[shN,List.filter_cons]
  have ol:(shN (a0,a1,a2) b 1).length≤3:=Nat.le_trans (List.length_filter_le _ _) (by simp[tL]);obtain⟨o,ho⟩:∃x,x=shN (a0,a1,a2) b 1:=⟨_,rfl⟩
  rw[←ho] at es ol;rw[←ho,es];have Xk:=gy o;have Yh:∀z:P2,pC (o++[z])=pC o++[.str (aN z.1),.str (aN z.2)]:=fun z=>by rw[gx];rfl
  obtain⟨r,WO⟩:∃r,r=o.length:=⟨_,rfl⟩
  rw[←WO] at Xk ol;have g1:(r+1)*32≤140737488355328:=by omega
  have g2:r≤140737488355327:=by omega
  have ZM:r+1≤140737488355328:=by omega
  have g3:(pC o).take (r*2)=pC o:=List.take_of_length_le (by omega);obtain⟨W,hW⟩:∃W,W=uo (tL b) a1:=⟨_,rfl⟩
  rw[←hW];have hp:=hW.symm;simp only[tL] at hp;cases W with
  |true=>
   by_cases Xw:r=0
   ·have XF:o=[]:=List.eq_nil_of_length_eq_zero (by omega)
    subst XF;simp[h8,X5,eH,hp,-ay,ag WE,aJ,aG,aH,j2,tA,aU,tL,pC,v2,be,bM,Nat.testBit,ouP,ouR]
   ·simp[h8,X5,eH,hp,-ay,ag WE,aJ,aG,aH,j2,tA,aU,tL,pC,v2,be,bM,cz,Nat.testBit,ouP,ouR,Xw,Xk,Yh,g1,ZM,g3,←WO]
  |false=>
   by_cases Xw:r=0
   ·have XF:o=[]:=List.eq_nil_of_length_eq_zero (by omega)
    subst XF;simp[h8,X5,eH,hp,-ay,ag WE,aJ,aG,aH,j2,tA,aU,tL,pC,v2,be,bM,Nat.testBit,ouP,ouR]
   ·simp[h8,X5,eH,hp,-ay,ag WE,aJ,aG,aH,j2,tA,aU,tL,pC,v2,be,bM,cz,Nat.testBit,ouP,ouR,Xw,←WO]
 ·left
  refine⟨3,?_⟩;have es:shN (a0,a1,a2) b 3=shN (a0,a1,a2) b 2++if uo (tL b) a2=true then [a2] else []:=by
   show List.filter _ ((tL (a0,a1,a2)).take 2++[a2])=_
   rw[List.filter_append];simp[shN,List.filter_cons]
  have ol:(shN (a0,a1,a2) b 2).length≤3:=Nat.le_trans (List.length_filter_le _ _) (by simp[tL]);obtain⟨o,ho⟩:∃x,x=shN (a0,a1,a2) b 2:=⟨_,rfl⟩
  rw[←ho] at es ol;rw[←ho,es];have Xk:=gy o;have Yh:∀z:P2,pC (o++[z])=pC o++[.str (aN z.1),.str (aN z.2)]:=fun z=>by rw[gx];rfl
  obtain⟨r,WO⟩:∃r,r=o.length:=⟨_,rfl⟩
  rw[←WO] at Xk ol;have g1:(r+1)*32≤140737488355328:=by omega
  have g2:r≤140737488355327:=by omega
  have ZM:r+1≤140737488355328:=by omega
  have g3:(pC o).take (r*2)=pC o:=List.take_of_length_le (by omega);obtain⟨W,hW⟩:∃W,W=uo (tL b) a2:=⟨_,rfl⟩
  rw[←hW];have hp:=hW.symm;simp only[tL] at hp;cases W with
  |true=>
   by_cases Xw:r=0
   ·have XF:o=[]:=List.eq_nil_of_length_eq_zero (by omega)
    subst XF;simp[h8,X5,eH,hp,-ay,ag WE,aJ,aG,aH,j2,tA,aU,tL,pC,v3,be,bM,Nat.testBit,ouP,ouR]
   ·simp[h8,X5,eH,hp,-ay,ag WE,aJ,aG,aH,j2,tA,aU,tL,pC,v3,be,bM,cz,Nat.testBit,ouP,ouR,Xw,Xk,Yh,g1,ZM,g3,←WO]
  |false=>
   by_cases Xw:r=0
   ·have XF:o=[]:=List.eq_nil_of_length_eq_zero (by omega)
    subst XF;simp[h8,X5,eH,hp,-ay,ag WE,aJ,aG,aH,j2,tA,aU,tL,pC,v3,be,bM,Nat.testBit,ouP,ouR]
   ·simp[h8,X5,eH,hp,-ay,ag WE,aJ,aG,aH,j2,tA,aU,tL,pC,v3,be,bM,cz,Nat.testBit,ouP,ouR,Xw,←WO]
 ·right
  simp[h9]
theorem z6(a b:T2)(CL SL:List P2)(hl:CL.length≤1000)(hs:SL.length≤1000)(hs0:SL=[])(G':∀p∈CL,uo SL p=true)(hK:CL.length<K)(hb:aj f78=[b1,b2]):
  ∃F:Env→Bool→Env,∀y' d,(aa y' 10=.kO∧aa y' 39=.slice 5 0 CL.length none∧aa y' 40=.int .i64 CL.length∧aa y' 41=.int .i64 0)→
   aQ (aC prog) ke (fS (dC PS TS)) K 50 2 true (.loop b2) ⟨y',aU PS TS a b++[.cells true 2 (pC CL)],d⟩=some (.exit 2,⟨F y' d,aU PS TS a b++[.cells true 2 (pC CL)],d⟩)∧True:=by
 refine bf (L:=[41]) (by simp[aj,aD,f78] at hb;rw[←hb.2];rfl) (fun y'=>aa y' 10=.kO∧aa y' 39=.slice 5 0 CL.length none∧aa y' 40=.int .i64 CL.length∧aa y' 41=.int .i64 0) (fun _ z' =>True) ?_;rintro y' d ⟨h10,h39,h40,h41⟩;simp[aj,aD,f78] at hb;obtain⟨-,hb⟩:=hb;have UV:az [41] (ab b2) y' ((41,.int .i64 ((0:Nat):Int))::y')=az [41] (ab b2) y' y':=by simp[az,h41]
 rw[←UV];refine bA (α:=Nat) (fun n=>⟨az [41] (ab b2) y' ((41,.int .i64 (n:Int))::y'),aU PS TS a b++[.cells true 2 (pC CL)],d⟩) (fun n=>CL.length-n) (fun n=>n≤CL.length) (.exit 2) _ d _ (by simp) ?_ K 0 (by omega) (by omega);intro n Xi;clear UV;subst hb;by_cases AC:n<CL.length
 ·left
  obtain⟨x,hx⟩:∃x,CL[n]? =some x:=⟨CL[n],List.getElem?_eq_getElem AC⟩
  obtain⟨k1,-,-,k4⟩:=wS hx;have hh:=G' x (List.mem_of_getElem? hx);have w1:IntKind.i64.wrap ((n:Int)+1)=((n+1:Nat):Int):=by rw[ai (by omega) (by omega)];omega
  obtain⟨m,hm⟩:∃m,m=n+1:=⟨_,rfl⟩
  rw[←hm] at w1;have eH:∀X,fS (dC PS TS) (.fn 111) [.kO,.agg [.str (aN x.1),.str (aN x.2)]] (.cells false 2 (pC PS)::.cells false 3 (tC TS)::.cells true 0 [.slice 0 0 PS.length none,.slice 1 0 TS.length none]::.cells true 0 (pC (tL a))::.cells true 0 (pC (tL b))::.cells true 2 (pC CL)::X)=some ⟨.bool true,none,[]⟩:=fun X=>by refine Eq.trans (b:=some ⟨.bool (uo SL x),none,[]⟩) ?_ (by rw[hh]);exact nE x ⟨hs,.inr ⟨rfl,hs0⟩⟩ rfl
  obtain⟨x1,x2⟩:=x;simp only at k1 eH;refine⟨m,?_⟩;simp[h10,h39,h40,AC,k1,k4,eH,w1,aU,be,bM];omega
 ·right
  have e:n=CL.length:=by omega
  subst e;simp[h40]
theorem z7(a b:T2)(CL SL:List P2)(hl:CL.length≤1000)(hs:SL.length≤1000)(G':∀p∈CL,uo SL p=true)(hK:CL.length<K)(hb:aj f78=[b1,b2]):
  ∃F:Env→Bool→Env,∀y' d,(aa y' 10=.slice 6 0 SL.length none∧aa y' 39=.slice 5 0 CL.length none∧aa y' 40=.int .i64 CL.length∧aa y' 41=.int .i64 0)→
   aQ (aC prog) ke (fS (dC PS TS)) K 50 2 true (.loop b2) ⟨y',aU PS TS a b++[.cells true 2 (pC CL)]++[.cells true 2 (pC SL)],d⟩=some (.exit 2,⟨F y' d,aU PS TS a b++[.cells true 2 (pC CL)]++[.cells true 2 (pC SL)],d⟩)∧True:=by
 refine bf (L:=[41]) (by simp[aj,aD,f78] at hb;rw[←hb.2];rfl) (fun y'=>aa y' 10=.slice 6 0 SL.length none∧aa y' 39=.slice 5 0 CL.length none∧aa y' 40=.int .i64 CL.length∧aa y' 41=.int .i64 0) (fun _ z' =>True) ?_;rintro y' d ⟨h10,h39,h40,h41⟩;simp[aj,aD,f78] at hb;obtain⟨-,hb⟩:=hb;have UV:az [41] (ab b2) y' ((41,.int .i64 ((0:Nat):Int))::y')=az [41] (ab b2) y' y':=by simp[az,h41]
 rw[←UV];refine bA (α:=Nat) (fun n=>⟨az [41] (ab b2) y' ((41,.int .i64 (n:Int))::y'),aU PS TS a b++[.cells true 2 (pC CL)]++[.cells true 2 (pC SL)],d⟩) (fun n=>CL.length-n) (fun n=>n≤CL.length) (.exit 2) _ d _ (by simp) ?_ K 0 (by omega) (by omega);intro n Xi;clear UV;subst hb;by_cases AC:n<CL.length
 ·left
  obtain⟨x,hx⟩:∃x,CL[n]? =some x:=⟨CL[n],List.getElem?_eq_getElem AC⟩
  obtain⟨k1,-,-,k4⟩:=wS hx;have hh:=G' x (List.mem_of_getElem? hx);have w1:IntKind.i64.wrap ((n:Int)+1)=((n+1:Nat):Int):=by rw[ai (by omega) (by omega)];omega
  obtain⟨m,hm⟩:∃m,m=n+1:=⟨_,rfl⟩
  rw[←hm] at w1;have eH:∀X,fS (dC PS TS) (.fn 111) [.slice 6 0 SL.length none,.agg [.str (aN x.1),.str (aN x.2)]] (.cells false 2 (pC PS)::.cells false 3 (tC TS)::.cells true 0 [.slice 0 0 PS.length none,.slice 1 0 TS.length none]::.cells true 0 (pC (tL a))::.cells true 0 (pC (tL b))::.cells true 2 (pC CL)::.cells true 2 (pC SL)::X)=some ⟨.bool true,none,[]⟩:=fun X=>by refine Eq.trans (b:=some ⟨.bool (uo SL x),none,[]⟩) ?_ (by rw[hh]);exact nE x ⟨hs,.inl ⟨6,none,true,2,rfl,rfl⟩⟩ rfl
  obtain⟨x1,x2⟩:=x;simp only at k1 eH;refine⟨m,?_⟩;simp[h10,h39,h40,AC,k1,k4,eH,w1,aU,be,bM];omega
 ·right
  have e:n=CL.length:=by omega
  subst e;simp[h40]
theorem yB(a b:T2)(hK:0<K)(hb:aj f78=[b1,b2]):
  ∃F:Env→Bool→Env,∀y' d,(aa y' 40=.int .i64 0∧aa y' 41=.int .i64 0)→
   aQ (aC prog) ke (fS (dC PS TS)) K 50 2 true (.loop b2) ⟨y',aU PS TS a b,d⟩=some (.exit 2,⟨F y' d,aU PS TS a b,d⟩)∧True:=by
 refine bf (L:=[41]) (by simp[aj,aD,f78] at hb;rw[←hb.2];rfl) (fun y'=>aa y' 40=.int .i64 0∧aa y' 41=.int .i64 0) (fun _ z' =>True) ?_;rintro y' d ⟨h40,h41⟩;simp[aj,aD,f78] at hb;obtain⟨-,hb⟩:=hb;refine bA (α:=Nat) (fun n=>⟨az [41] (ab b2) y' y',aU PS TS a b,d⟩) (fun n=>0) (fun n=>n=0) (.exit 2) _ d _ (by simp) ?_ K 0 rfl (by omega);rintro n rfl;right;subst hb;simp[h40,h41]
theorem yC(a b:T2)(SL:List P2)(hK:0<K)(hb:aj f78=[b1,b2]):
  ∃F:Env→Bool→Env,∀y' d,(aa y' 40=.int .i64 0∧aa y' 41=.int .i64 0)→
   aQ (aC prog) ke (fS (dC PS TS)) K 50 2 true (.loop b2) ⟨y',aU PS TS a b++[.cells true 2 (pC SL)],d⟩=some (.exit 2,⟨F y' d,aU PS TS a b++[.cells true 2 (pC SL)],d⟩)∧True:=by
 refine bf (L:=[41]) (by simp[aj,aD,f78] at hb;rw[←hb.2];rfl) (fun y'=>aa y' 40=.int .i64 0∧aa y' 41=.int .i64 0) (fun _ z' =>True) ?_;rintro y' d ⟨h40,h41⟩;simp[aj,aD,f78] at hb;obtain⟨-,hb⟩:=hb;refine bA (α:=Nat) (fun n=>⟨az [41] (ab b2) y' y',aU PS TS a b++[.cells true 2 (pC SL)],d⟩) (fun n=>0) (fun n=>n=0) (.exit 2) _ d _ (by simp) ?_ K 0 rfl (by omega);rintro n rfl;right;subst hb;simp[h40,h41]
theorem Sk(a b:T2):(jk a b).length≤3:=Nat.le_trans (List.length_filter_le _ _) (by simp[tL])
theorem UC(a b:T2):(sk a b).length≤24:=vw (n:=12) (vw (n:=6) (vw (n:=3) (by simp[tL])))
theorem D8(hT:∀t∈TS,Ua PS t)(hi:i<TS.length)(hj:j<i)(hB:Ft (lf PS TS i) (lf PS TS j)=true)(hX:NK (lf PS TS i) (lf PS TS j)=false):
  mB prog 78 [.agg [.slice 0 0 PS.length none,.slice 1 0 TS.length none],.int .i64 i,.int .i64 j] (mr PS TS) (.bool false) (mr PS TS):=by
 have hG:aO prog 78=some f78:=by kernel_rfl
 have ei:=fun X=>pO (PS:=PS) (TS:=TS) X hi
 have ej:=fun X=>pO (PS:=PS) (TS:=TS) X (Nat.lt_trans hj hi)
 obtain⟨a,ha⟩:∃a,a=lf PS TS i:=⟨_,rfl⟩
 obtain⟨b,WS⟩:∃a,a=lf PS TS j:=⟨_,rfl⟩
 rw[←ha] at ei hB hX;rw[←WS] at ej hB hX;have eC:=fun N=>GI (PS:=PS) (TS:=TS) N hB
 have l1:=UC a b;have l2:=Sk a b;unfold NK at hX;rw[Bool.or_eq_false_iff] at hX;obtain⟨x1,x2⟩:=hX;rw[decide_eq_false_iff_not] at x1;have G':∀p∈sk a b,uo (jk a b) p=true:=fun p hp=>by have:=List.any_eq_false.1 x2 p hp;simpa using this
 obtain⟨CL,hCL⟩:∃L,L=sk a b:=⟨_,rfl⟩
 obtain⟨SL,hSL⟩:∃L,L=jk a b:=⟨_,rfl⟩
 obtain⟨K,hK⟩:∃K,K=100:=⟨_,rfl⟩
 obtain⟨b1,b2,hb⟩:∃b1 b2,aj f78=[b1,b2]:=⟨_,_,rfl⟩
 obtain⟨o1,o2,F'⟩:∃o1 o2,aP f78=[o1,o2]:=⟨_,_,rfl⟩
 obtain⟨hb1,WE⟩:=kA F' (l:=[0,0,3,0,0,31,0,0,255,511]) (l' :=[0,0,3]) (by kernel_rfl);simp[aP,bQ,f78] at F';rw[←hCL] at eC l1;rw[←hCL,←hSL] at G';rw[←hSL] at l2 x1;refine aY (lv:=ke) (K:=K) (LH hT) ?_;by_cases c0:CL.length=0
 ·have hC0:CL=[]:=List.eq_nil_of_length_eq_zero c0
  subst hC0;obtain⟨F1,H1⟩:=yz (PS:=PS) (TS:=TS) (K:=K) a b .kO (by omega) hb;rw[←hSL] at H1;have f1:=fun y' d h=>(H1 y' d h).1
  have f2:=fun y' d h=>(H1 y' d h).2.1
  have f3:=fun y' d h=>(H1 y' d h).2.2
  by_cases s0:SL.length=0
  ·have hS0:SL=[]:=List.eq_nil_of_length_eq_zero s0
   rw[hS0] at f1 f2;obtain⟨F2,P'⟩:=yB (PS:=PS) (TS:=TS) (K:=K) a b (by omega) hb;have g1:=fun y' d h=>(P' y' d h).1
   simp[aj,aD,f78] at hb;obtain⟨rfl,rfl⟩:=hb;obtain⟨rfl,rfl⟩:=F';obtain⟨⟨a1,a2⟩,⟨a3,a4⟩,⟨a5,a6⟩⟩:=a;obtain⟨⟨b1,b2⟩,⟨b3,b4⟩,⟨b5,b6⟩⟩:=b;simp only[aU,tA,tL,pC,gU,gV,List.append_nil] at ei ej eC f1 f2 f3 g1;simp[ad,hG,f78,mr,ei,ej,eC,f1,f2,f3,g1,-ay,br hb1,cO,fu,fg,cY,cj,iT,bef,cw,jd,Nat.testBit]
  ·obtain⟨F2,P'⟩:=yC (PS:=PS) (TS:=TS) (K:=K) a b SL (by omega) hb
   have g1:=fun y' d h=>(P' y' d h).1
   rw[kH s0] at f2;rw[kI s0] at f1;simp[aj,aD,f78] at hb;obtain⟨rfl,rfl⟩:=hb;obtain⟨rfl,rfl⟩:=F';obtain⟨⟨a1,a2⟩,⟨a3,a4⟩,⟨a5,a6⟩⟩:=a;obtain⟨⟨b1,b2⟩,⟨b3,b4⟩,⟨b5,b6⟩⟩:=b;have x1' :¬(SL.length:Int)=3:=by omega
   simp only[aU,tA,tL,pC,gU,gV,List.cons_append,List.nil_append] at ei ej eC f1 f2 f3 g1;simp[ad,hG,f78,mr,ei,ej,eC,f1,f2,f3,g1,x1',-ay,br hb1,cO,fu,fg,cY,cj,iT,bef,cw,jd,Nat.testBit]
 ·obtain⟨F1,H1⟩:=yA (PS:=PS) (TS:=TS) (K:=K) a b CL (.slice 5 0 CL.length none) (by omega) hb
  rw[←hSL] at H1;have f1:=fun y' d h=>(H1 y' d h).1
  have f2:=fun y' d h=>(H1 y' d h).2.1
  have f3:=fun y' d h=>(H1 y' d h).2.2
  have ePc:∀N:Mem,ouP N.length CL=.slice N.length 0 CL.length none:=fun N=>kH c0
  simp only[ePc,kI c0] at eC;by_cases s0:SL.length=0
  ·have hS0:SL=[]:=List.eq_nil_of_length_eq_zero s0
   obtain⟨F2,P'⟩:=z6 (PS:=PS) (TS:=TS) (K:=K) a b CL SL (by omega) (by omega) hS0 G' (by omega) hb;have g1:=fun y' d h=>(P' y' d h).1
   rw[hS0] at f1 f2;simp[aj,aD,f78] at hb;obtain⟨rfl,rfl⟩:=hb;obtain⟨rfl,rfl⟩:=F';obtain⟨⟨a1,a2⟩,⟨a3,a4⟩,⟨a5,a6⟩⟩:=a;obtain⟨⟨b1,b2⟩,⟨b3,b4⟩,⟨b5,b6⟩⟩:=b;simp only[aU,tA,tL,pC,gU,gV,List.append_nil,List.cons_append,List.nil_append] at ei ej eC f1 f2 f3 g1;simp[ad,hG,f78,mr,ei,ej,eC,f1,f2,f3,g1,-ay,br hb1,cO,fu,fg,cY,cj,iT,bef,cw,jd,Nat.testBit]
  ·obtain⟨F2,P'⟩:=z7 (PS:=PS) (TS:=TS) (K:=K) a b CL SL (by omega) (by omega) G' (by omega) hb
   have g1:=fun y' d h=>(P' y' d h).1
   rw[kH s0] at f2;rw[kI s0] at f1;simp[aj,aD,f78] at hb;obtain⟨rfl,rfl⟩:=hb;obtain⟨rfl,rfl⟩:=F';obtain⟨⟨a1,a2⟩,⟨a3,a4⟩,⟨a5,a6⟩⟩:=a;obtain⟨⟨b1,b2⟩,⟨b3,b4⟩,⟨b5,b6⟩⟩:=b;have x1' :¬(SL.length:Int)=3:=by omega
   simp only[aU,tA,tL,pC,List.cons_append,List.nil_append] at ei ej eC f1 f2 f3 g1;simp[ad,hG,f78,mr,ei,ej,eC,f1,f2,f3,g1,x1',-ay,br hb1,cO,fu,fg,cY,cj,iT,bef,cw,jd,Nat.testBit]
theorem Gn{p t:Nat}{M:Mem}(hT:∀t∈TS,Ua PS t)(hi:i<TS.length)(hj:j<i)(hB:Ft (lf PS TS i) (lf PS TS j)=true)(hX:NK (lf PS TS i) (lf PS TS j)=false)(hp:∃o,M[p]? =some (.cells o 2 (pC PS)))(ht:∃o,M[t]? =some (.cells o 3 (tC TS))):
  mB prog 78 [.agg [.slice p 0 PS.length none,.slice t 0 TS.length none],.int .i64 i,.int .i64 j] M (.bool false) M:=by
 obtain⟨o,hM⟩:=hp;obtain⟨o2,XH⟩:=ht;have:=mB.frame (M:=M) (new:=[]) (args:=[.agg [.slice 0 0 PS.length none,.slice 1 0 TS.length none],.int .i64 i,.int .i64 j]) [p,t] (m:=mr PS TS) rfl (by
  intro k hk;simp only[List.mem_cons,List.not_mem_nil,or_false] at hk;rcases hk with rfl | rfl
  ·exact bL hM
  ·exact bL XH) (by rfl) (fun i s hs=>by
  match i with
  |0=>simp[mr] at hs;subst hs;exact aV (bV PS) hM (List.take_length)
  |1=>simp[mr] at hs;subst hs;exact aV (dp TS) XH (List.take_length)
  |i+2=>simp[mr] at hs) rfl (by simpa using D8 hT hi hj hB hX)
 simpa [AV.aal,AV.ren,dr] using this
end
end Go.Proofs
namespace Go.Proofs
open Go.Eng
open Tryz
theorem Gp(PS:List P2)(k:Nat)(cyc:List Nat)(hP:∀p∈PS,pDg 2 p)(hc:∀c∈cyc,c<PS.length)(h0:cyc≠[])(Xu:nq (gr (q9 PS cyc 0) (q9 PS cyc 1) (q9 PS cyc 2))<0):
  mB prog 108 [.agg [.slice 0 0 PS.length none,.slice 1 0 k none],.slice 2 0 cyc.length none] [.cells false 2 (pC PS),.qF,.cells false 1 (cZ cyc)] (.bool false) [.cells false 2 (pC PS),.qF,.cells false 1 (cZ cyc)]:=by
 have hG:aO prog 108=some f108:=by kernel_rfl
 have hn:0<cyc.length:=List.length_pos_iff.2 h0;have hp:=ra hP cyc 0;have hq:=ra hP cyc 1;have hr:=ra hP cyc 2;obtain⟨p,hpe⟩:∃p,p=q9 PS cyc 0:=⟨_,rfl⟩
 obtain⟨q,hqe⟩:∃q,q=q9 PS cyc 1:=⟨_,rfl⟩
 obtain⟨r,hre⟩:∃r,r=q9 PS cyc 2:=⟨_,rfl⟩
 rw[←hpe,←hqe,←hre] at Xu;rw[←hpe] at hp;rw[←hqe] at hq;rw[←hre] at hr;obtain⟨p5,p6⟩:=cV hp.1 (by omega) (by omega) (m:=2) (k:=1) (by omega) (by omega);obtain⟨p7,p8⟩:=cV hp.2 (by omega) (by omega) (m:=2) (k:=1) (by omega) (by omega);obtain⟨q5,q6⟩:=cV hq.1 (by omega) (by omega) (m:=2) (k:=1) (by omega) (by omega);obtain⟨q7,q8⟩:=cV hq.2 (by omega) (by omega) (m:=2) (k:=1) (by omega) (by omega);obtain⟨r5,r6⟩:=cV hr.1 (by omega) (by omega) (m:=2) (k:=1) (by omega) (by omega);obtain⟨r7,r8⟩:=cV hr.2 (by omega) (by omega) (m:=2) (k:=1) (by omega) (by omega);obtain⟨px,py⟩:=p;obtain⟨qx,qy⟩:=q;obtain⟨rx,ry⟩:=r;simp only at p5 p6 p7 p8 q5 q6 q7 q8 r5 r6 r7 r8;obtain⟨S,hS⟩:∃S,S=nq (gr (px,py) (qx,qy) (rx,ry)):=⟨_,rfl⟩
 rw[←hS] at Xu;obtain⟨ops,F'⟩:∃ops,aP f108=[ops]:=⟨_,rfl⟩
 have PP:=ie F' (l:=[0,0,3,0,0,16,63,0,0,256,1023,2047,4095]) (by kernel_rfl);have Y9:ba [0,0,3,0,0,16,63,0,0,256,1023,2047,4095] 12=true:=by decide
 simp[aP,bQ,f108] at F';subst F';have e1:∀(N:Mem),N=dx PS k cyc→fQ PS k cyc (.fn 144) [.int .i64 0,.ptr 3 0,.ptr 4 0,.ptr 5 0] N=some ⟨pA (px,py),none,[]⟩:=fun N h=>by simp[fQ,gF,h,hpe]
 have e2:∀(N:Mem),N=dx PS k cyc→fQ PS k cyc (.fn 144) [.int .i64 1,.ptr 3 0,.ptr 4 0,.ptr 5 0] N=some ⟨pA (qx,qy),none,[]⟩:=fun N h=>by simp[fQ,gF,h,hqe]
 have e3:∀(N:Mem),N=dx PS k cyc→fQ PS k cyc (.fn 144) [.int .i64 2,.ptr 3 0,.ptr 4 0,.ptr 5 0] N=some ⟨pA (rx,ry),none,[]⟩:=fun N h=>by simp[fQ,gF,h,hre]
 have e4:∀(N:Mem),fQ PS k cyc (.fn 76) [pA (px,py),pA (qx,qy),pA (rx,ry)] N=some ⟨.int .i64 S,none,[]⟩:=fun N=>by simp[fQ,gF,pA,ar,fP,aM,p5,p6,p7,p8,q5,q6,q7,q8,r5,r6,r7,r8,←hS]
 simp only[pA,dx] at e1 e2 e3 e4;have hn' :¬cyc.length=0:=by omega
 refine aY (lv:=(fun _=>[8,15])) (K:=2) (xt PS k cyc hP hc h0) ?_;simp[ad,hG,f108,aR,gl,e1,e2,e3,e4,hn,Xu,w1,w2,-ay,ag PP,aJ,aG,aH,Y9,Nat.testBit]
def K5(ks:List Sd):Bool:=(List.range ks.length).any fun i=>(List.range ks.length).any fun j=>decide (i≠j)&&match bAt ks i,bAt ks j with
 |some p,some q=>decide (p.1=q.1)
 |_,_=>false
theorem Ec(ks:List Sd)(n1 n2:Nat)(WN:K5 ks=true):
  mB prog 107 [.agg [.slice 1 0 n1 none,.slice 2 0 n2 none],.map 0] [.aaF (ks.map sdE),.qF,.qF] (.tuple [.kO,.bool false]) [.aaF (ks.map sdE),.qF,.qF]:=by
 have hT:=aw prog;refine aaM.intro hT (fn:=f107) (by kernel_rfl) rfl rfl (Nat.le_of_ble_eq_true rfl) ?_;refine mv ?_;refine jJ af hT (ah _) (lv:=fun _=>[]) (K:=1) (s:=⟨dE 0 [.agg [.slice 1 0 n1 none,.slice 2 0 n2 none],.map 0],[.aaF (ks.map sdE),.qF,.qF],false⟩) rfl (s' :=⟨[(5,.bool false),(4,.kO),(2,.ptr 3 0),(0,.agg [.slice 1 0 n1 none,.slice 2 0 n2 none]),(1,.map 0)],[.aaF (ks.map sdE),.qF,.qF,.cells true 0 [.slice 1 0 n1 none,.slice 2 0 n2 none]],false⟩) (e:=.normal) (by simp) ?_;refine mv ?_;refine jJ af hT (ah _) (lv:=fun _=>[]) (K:=1) (s:=⟨_,_,false⟩) rfl (s' :=⟨[(6,.map 4),(17,.map 4),(5,.bool false),(4,.kO),(2,.ptr 3 0),(0,.agg [.slice 1 0 n1 none,.slice 2 0 n2 none]),(1,.map 0)],[.aaF (ks.map sdE),.qF,.qF,.cells true 0 [.slice 1 0 n1 none,.slice 2 0 n2 none],.map []],false⟩) (e:=.normal) (by simp) ?_;refine mv ?_;refine jJ af hT (ah _) (lv:=fun _=>[]) (K:=1) (s:=⟨_,_,false⟩) rfl (s' :=⟨[(7,.int .i64 (-1)),(6,.map 4),(17,.map 4),(5,.bool false),(4,.kO),(2,.ptr 3 0),(0,.agg [.slice 1 0 n1 none,.slice 2 0 n2 none]),(1,.map 0)],[.aaF (ks.map sdE),.qF,.qF,.cells true 0 [.slice 1 0 n1 none,.slice 2 0 n2 none],.map []],false⟩) (e:=.normal) (by simp) ?_;refine mv ?_;show AWP _ _ _ _ _ ⟨[(7,.int .i64 (-1)),(6,.map 4),(17,.map 4),(5,.bool false),(4,.kO),(2,.ptr 3 0),(0,.agg [.slice 1 0 n1 none,.slice 2 0 n2 none]),(1,.map 0)],[.aaF (ks.map sdE),.qF,.qF,.cells true 0 [.slice 1 0 n1 none,.slice 2 0 n2 none],.map []]⟩ _
 refine xv af hT (ah _) (lv:=fun _=>[]) (K:=1) (b:=0) (es:=ks.map sdE) (s:=⟨[(7,.int .i64 (-1)),(6,.map 4),(17,.map 4),(5,.bool false),(4,.kO),(2,.ptr 3 0),(0,.agg [.slice 1 0 n1 none,.slice 2 0 n2 none]),(1,.map 0)],[.aaF (ks.map sdE),.qF,.qF,.cells true 0 [.slice 1 0 n1 none,.slice 2 0 n2 none],.map []],false⟩) (s1:=⟨[(18,.map 0),(7,.int .i64 (-1)),(6,.map 4),(17,.map 4),(5,.bool false),(4,.kO),(2,.ptr 3 0),(0,.agg [.slice 1 0 n1 none,.slice 2 0 n2 none]),(1,.map 0)],[.aaF (ks.map sdE),.qF,.qF,.cells true 0 [.slice 1 0 n1 none,.slice 2 0 n2 none],.map []],false⟩)
  rfl rfl rfl rfl (AG) rfl rfl rfl rfl rfl rfl rfl rfl rfl rfl rfl rfl ?_ ?_ ?_ ?_ rfl rfl [7] _ (ouV ks) (FF ks n1 n2) (fun seen=>(seen.Nodup∧∀j∈seen,j<ks.length)∧∀i∈seen,∀j∈seen,∀p q,bAt ks i=some p→bAt ks j=some q→p.1=q.1→i=j) rfl ?_ ?_ ?_ ?_ ?_ ?_ ?_
 ·decide
 ·decide
 ·rfl
 ·simp
 ·decide
 ·rfl
 ·rintro seen ⟨⟨_,_⟩,_⟩
  refine⟨rfl,rfl,rfl,fun x hx=>?_⟩;simp only[FF,List.mem_cons,List.not_mem_nil,or_false] at hx;rcases hx with rfl | rfl | rfl | rfl | rfl | rfl
  ·exact jA _ _
  ·rfl
  ·rfl
  ·rfl
  ·exact jz _ _
  ·rfl
 ·intro seen t _ ht
  simp only[List.mem_singleton] at ht;subst ht;rfl
 ·refine⟨⟨⟨List.nodup_nil,fun j hj=>(by cases hj)⟩,fun i hi=>(by cases hi)⟩,rfl,fun t ht=>?_⟩
  simp only[List.mem_singleton] at ht;subst ht;rfl
 ·rintro seen env ⟨⟨i1,i2⟩,i3⟩ hs hv G'
  exfalso;unfold K5 at WN;obtain⟨i,hi,h1⟩:=List.any_eq_true.1 WN;obtain⟨j,hj,h2⟩:=List.any_eq_true.1 h1;simp only[Bool.and_eq_true,decide_eq_true_eq] at h2;obtain⟨YE,h2⟩:=h2;split at h2
  ·rename_i p q hp hq
   exact YE (i3 i (G' i (by simpa using hi)) j (G' j (by simpa using hj)) p q hp hq (by simpa using h2))
  ·cases h2
 ·rintro seen env j k v ⟨⟨i1,i2⟩,i3⟩ hs hv hj hns
  have h7:=hv 7 (by simp);have h1:=hs 1 (by decide);have h6:=hs 6 (by decide);simp[] at h1 h6;simp only[ouV,if_true] at h7;rw[List.getElem?_map] at hj;simp only[Option.map_eq_some_iff] at hj;obtain⟨s,Zn,Yj⟩:=hj;have hkv:=Prod.mk.inj Yj;obtain⟨hk,hvv⟩:=hkv;subst hk hvv;have WB:=(List.getElem?_eq_some_iff.1 Zn).1;have hinv:(seen++[j]).Nodup∧∀i∈seen++[j],i<ks.length:=by
   constructor
   ·rw[List.nodup_append];exact⟨i1,by simp,fun a ha b hb=>by simp at hb;subst hb;rintro rfl;exact hns ha⟩
   ·intro i hi
    rcases List.mem_append.1 hi with h | h
    ·exact i2 i h
    ·simp at h;subst h;exact WB
  cases ZF:M5 ks (s.1.2,s.1.1) with
  |some t=>
   have hb:bAt ks j=none:=by simp[bAt,Zn,ZF]
   have hva:bJ ks (seen++[j])=bJ ks seen:=by rw[jq,hb];simp
   have X9:((seen++[j]).Nodup∧∀i∈seen++[j],i<ks.length)∧∀i∈seen++[j],∀l∈seen++[j],∀p q,bAt ks i=some p→bAt ks l=some q→p.1=q.1→i=l:=by
    refine⟨hinv,fun i hi l hl p q hp hq e=>?_⟩;rcases List.mem_append.1 hi with h | h
    ·rcases List.mem_append.1 hl with h' | h'
     ·exact i3 i h l h' p q hp hq e
     ·simp at h';subst h';rw[hb] at hq;cases hq
    ·simp at h;subst h;rw[hb] at hp;cases hp
   have YT :=X9;simp only[List.mem_append,List.mem_singleton] at YT;obtain⟨q,hq⟩:=(mK (s.1.2,s.1.1) ks 0).2 t ZF;rw[show(List.length _+1:Nat)=6 from rfl];obtain⟨Inv,hInv⟩:∃I:Prop,I=(((seen++[j]).Nodup∧∀i∈seen++[j],i<ks.length)∧∀i∈seen++[j],∀l∈seen++[j],∀p q,bAt ks i=some p→bAt ks l=some q→p.1=q.1→i=l):=⟨_,rfl⟩
   rw[←hInv] at X9 ⊢;simp[-aae.refs,-aae.ren,FF,ouV,h1,hq,hva,gO,fI,jf,wM,fR,kk,ko,bO,kB,List.range'];exact⟨_,_,⟨rfl,rfl⟩,.inl ⟨.inr rfl,X9,by simpa using h7,rfl⟩⟩
  |none=>
   have hb:bAt ks j=some s.1:=by simp[bAt,Zn,ZF]
   have hq:=(mK (s.1.2,s.1.1) ks 0).1 ZF;cases XZ:mA (bJ ks seen) s.1.1 with
   |some t=>
    obtain⟨q,hq2⟩:=(mJ s.1.1 (bJ ks seen) 0).2 t XZ;rw[show(List.length _+1:Nat)=6 from rfl];unfold FF ouV;simp[-aae.refs,-aae.ren,h1,h6,hq,hq2,gO,dq,fI,jf,wM,fR,kk,ko,bO,kB,List.range'];refine⟨_,_,⟨rfl,rfl⟩,.inr ⟨rfl,.inr rfl,[],rfl,.inl ⟨rfl,?_⟩⟩⟩;simp[AV.ren,AV.aal,aa3]
   |none=>
   have hva:bJ ks (seen++[j])=bJ ks seen++[s.1]:=by rw[jq,hb]
   have X9:((seen++[j]).Nodup∧∀i∈seen++[j],i<ks.length)∧∀i∈seen++[j],∀l∈seen++[j],∀p q,bAt ks i=some p→bAt ks l=some q→p.1=q.1→i=l:=by
    have key:∀i∈seen,∀p,bAt ks i=some p→p.1≠s.1.1:=fun i hi p hp e=>by
     have hm:p∈bJ ks seen:=List.mem_filterMap.2 ⟨i,hi,hp⟩;have:∀(l:List (Int×Int)),mA l s.1.1=none→∀p∈l,p.1≠s.1.1:=by
      intro l;induction l with
      |nil=>intro _ p hp;cases hp
      |cons a l ih=>
       intro h p hp;rw[mA] at h;split at h
       ·cases h
       ·rename_i H'
        rcases List.mem_cons.1 hp with rfl | hp
        ·exact fun e=>H' e.symm
        ·exact ih h p hp
     exact this _ XZ p hm e
    refine⟨hinv,fun i hi l hl p q hp hq e=>?_⟩;rcases List.mem_append.1 hi with h | h
    ·rcases List.mem_append.1 hl with h' | h'
     ·exact i3 i h l h' p q hp hq e
     ·simp at h';subst h';rw[hb] at hq;cases hq;exact absurd e (key i h p hp)
    ·simp at h;subst h
     rw[hb] at hp;cases hp;rcases List.mem_append.1 hl with h' | h'
     ·exact absurd e.symm (key l h' q hq)
     ·simp at h';exact h'.symm
   have ZA:vm (-1) (bJ ks (seen++[j]))=if vm (-1) (bJ ks seen)<0∨s.1.1<vm (-1) (bJ ks seen) then s.1.1 else vm (-1) (bJ ks seen):=by rw[hva,Bk];rfl
   have hq2:=(mJ s.1.1 (bJ ks seen) 0).1 XZ;rw[show(List.length _+1:Nat)=6 from rfl];unfold FF ouV;rw[ZA,hva];obtain⟨m,hm⟩:∃m,m=vm (-1) (bJ ks seen):=⟨_,rfl⟩
   rw[←hm] at h7 ⊢;clear ZA;obtain⟨Inv,hInv⟩:∃I:Prop,I=(((seen++[j]).Nodup∧∀i∈seen++[j],i<ks.length)∧∀i∈seen++[j],∀l∈seen++[j],∀p q,bAt ks i=some p→bAt ks l=some q→p.1=q.1→i=l):=⟨_,rfl⟩
   rw[←hInv] at X9 ⊢;by_cases c1:m<0
   ·simp[-aae.refs,-aae.ren,h1,h6,h7,hq,hq2,c1,gO,dq,fI,jf,wM,fR,kk,ko,bO,kB,List.range']
    exact⟨_,_,⟨rfl,rfl⟩,.inl ⟨.inl rfl,X9,rfl,rfl⟩⟩
   ·by_cases c2:s.1.1<m
    ·simp[-aae.refs,-aae.ren,h1,h6,h7,hq,hq2,c1,c2,gO,dq,fI,jf,wM,fR,kk,ko,bO,kB,List.range']
     exact⟨_,_,⟨rfl,rfl⟩,.inl ⟨.inl rfl,X9,rfl,rfl⟩⟩
    ·simp[-aae.refs,-aae.ren,h1,h6,h7,hq,hq2,c1,c2,gO,dq,fI,jf,wM,fR,kk,ko,bO,kB,List.range']
     exact⟨_,_,⟨rfl,rfl⟩,.inl ⟨.inl rfl,X9,h7,rfl⟩⟩
end Go.Proofs
