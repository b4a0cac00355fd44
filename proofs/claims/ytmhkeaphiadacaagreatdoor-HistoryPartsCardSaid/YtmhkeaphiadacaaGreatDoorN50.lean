/- See N58. -/
import Derived.Test.YtmhkeaphiadacaaGreatDoorN41
import Derived.Test.YtmhkeaphiadacaaGreatDoorN08
import Derived.Test.YtmhkeaphiadacaaGreatDoorN46
import Derived.Test.YtmhkeaphiadacaaGreatDoorN48
import Derived.Test.YtmhkeaphiadacaaGreatDoorN09
set_option linter.all false
namespace Go.Proofs
open Go.Eng
def clV(L n:Nat):AV:=if n=0 then .nilslice else .slice (L+1) 0 n none
def clX(es n:Nat) (C:List AV):Slot:=if n=0 then .absent else .cells true es C
theorem iA(L n:Nat):(clV L n).cellOk=true:=by unfold clV;split<;>rfl
theorem Pf{L n k:Nat}(h:L+1<k):(clV L n).refsOk (fun b=>decide (b<k))=true:=by
 unfold clV;split
 ·rfl
 ·simp[AV.refsOk];omega
theorem kQ(es n:Nat) (C:List AV):bG (clX es n C)=true:=by unfold clX;split<;>rfl
theorem pE{es n:Nat}{C:List AV}(h:∀f,AV.refsOkL f C=true) (f:Nat→Bool):(clX es n C).refsOk f=true:=by
 unfold clX;split
 ·rfl
 ·exact h f
theorem wd{N:Mem}{L es n:Nat}{C:List AV}(h:N[L+1]? =some (clX es n C)) (hC:n=0→C=[]):RowAt N (clV L n) es n C:=by
 unfold clX at h
 unfold clV
 split
 ·rename_i h0;exact .inl ⟨rfl,h0,hC h0⟩
 ·rename_i h0
  rw[if_neg h0] at h
  exact .inr ⟨_,true,rfl,by omega,h⟩
theorem P8{M:Mem}{v:AV}{n:Nat}{C:List AV}(h:RowAt M v 2 n C) (hl:C.length=n*2) (hn:n≤1000) (hall:C.all AV.cellOk=true):
  ACallsTo Tryz.prog 69 [v] M (clV M.length n) (M++[.absent,clX 2 n C]):=by
 have hG:aI Tryz.prog 69=some Tryz.f69:=by kernel_rfl
 rcases h with⟨rfl,rfl,rfl⟩ | ⟨b,o,rfl,hp,hb⟩
 ·have h:aT (az Tryz.prog) (fun _=>[]) (aI Tryz.prog) aE 1 69 [.nilslice] M=some (.nilslice,M):=by
   simp[aT,hG,Tryz.f69,zf]
  have:=aP aa (ai _) (af _) (aj _) h
  simpa [clV,clX] using dG 2 this
 ·have lb:=(List.getElem?_eq_some_iff.1 hb).1
  have hb' :∀Z,(M++Z)[b]? =some (.cells o 2 C):=fun Z=>by rw[List.getElem?_append_left lb];exact hb
  have ht:C.take (n*2)=C:=List.take_of_length_le (by omega)
  have hle:n*2≤C.length:=by omega
  have q1:n*32≤140737488355328:=by omega
  have q2:n≤140737488355328:=by omega
  have h:aT (az Tryz.prog) (fun _=>[]) (aI Tryz.prog) aE 1 69 [.slice b 0 n none] M=some (.slice (M.length+1) 0 n none,M++[.absent,.cells true 2 C]):=by
   simp[-List.all_eq_true,-AV.cellOk,aT,hG,Tryz.f69,zf,hb',ht,hle,q1,q2,hall]
   done
  have:=aP aa (ai _) (af _) (aj _) h
  unfold clV clX
  rw[if_neg (by omega),if_neg (by omega)]
  exact this
theorem Qa{M:Mem}{v:AV}{n:Nat}{C:List AV}(h:RowAt M v 3 n C) (hl:C.length=n*3) (hn:n≤1000) (hall:C.all AV.cellOk=true):
  ACallsTo Tryz.prog 70 [v] M (clV M.length n) (M++[.absent,clX 3 n C]):=by
 have hG:aI Tryz.prog 70=some Tryz.f70:=by kernel_rfl
 rcases h with⟨rfl,rfl,rfl⟩ | ⟨b,o,rfl,hp,hb⟩
 ·have h:aT (az Tryz.prog) (fun _=>[]) (aI Tryz.prog) aE 1 70 [.nilslice] M=some (.nilslice,M):=by
   simp[aT,hG,Tryz.f70,zf]
  have:=aP aa (ai _) (af _) (aj _) h
  simpa [clV,clX] using dG 2 this
 ·have lb:=(List.getElem?_eq_some_iff.1 hb).1
  have hb' :∀Z,(M++Z)[b]? =some (.cells o 3 C):=fun Z=>by rw[List.getElem?_append_left lb];exact hb
  have ht:C.take (n*3)=C:=List.take_of_length_le (by omega)
  have hle:n*3≤C.length:=by omega
  have q1:n*24≤140737488355328:=by omega
  have q2:n≤140737488355328:=by omega
  have h:aT (az Tryz.prog) (fun _=>[]) (aI Tryz.prog) aE 1 70 [.slice b 0 n none] M=some (.slice (M.length+1) 0 n none,M++[.absent,.cells true 3 C]):=by
   simp[-List.all_eq_true,-AV.cellOk,aT,hG,Tryz.f70,zf,hb',ht,hle,q1,q2,hall]
   done
  have:=aP aa (ai _) (af _) (aj _) h
  unfold clV clX
  rw[if_neg (by omega),if_neg (by omega)]
  exact this
theorem P6{M:Mem}{v:AV}{n:Nat}{C:List AV}(h:RowAt M v 1 n C) (hl:C.length=n*1) (hn:n≤1000) (hall:C.all AV.cellOk=true):
  ACallsTo Tryz.prog 71 [v] M (clV M.length n) (M++[.absent,clX 1 n C]):=by
 have hG:aI Tryz.prog 71=some Tryz.f71:=by kernel_rfl
 rcases h with⟨rfl,rfl,rfl⟩ | ⟨b,o,rfl,hp,hb⟩
 ·have h:aT (az Tryz.prog) (fun _=>[]) (aI Tryz.prog) aE 1 71 [.nilslice] M=some (.nilslice,M):=by
   simp[aT,hG,Tryz.f71,zf]
  have:=aP aa (ai _) (af _) (aj _) h
  simpa [clV,clX] using dG 2 this
 ·have lb:=(List.getElem?_eq_some_iff.1 hb).1
  have hb' :∀Z,(M++Z)[b]? =some (.cells o 1 C):=fun Z=>by rw[List.getElem?_append_left lb];exact hb
  have ht:C.take (n)=C:=List.take_of_length_le (by omega)
  have hle:n≤C.length:=by omega
  have q1:n*16≤140737488355328:=by omega
  have q2:n≤140737488355328:=by omega
  have h:aT (az Tryz.prog) (fun _=>[]) (aI Tryz.prog) aE 1 71 [.slice b 0 n none] M=some (.slice (M.length+1) 0 n none,M++[.absent,.cells true 1 C]):=by
   simp[-List.all_eq_true,-AV.cellOk,aT,hG,Tryz.f71,zf,hb',ht,hle,q1,q2,hall]
   done
  have:=aP aa (ai _) (af _) (aj _) h
  unfold clV clX
  rw[if_neg (by omega),if_neg (by omega)]
  exact this
theorem P9{M:Mem}{v:AV}{n:Nat}{C:List AV}(h:RowAt M v 1 n C) (hl:C.length=n*1) (hn:n≤1000) (hall:C.all AV.cellOk=true):
  ACallsTo Tryz.prog 72 [v] M (clV M.length n) (M++[.absent,clX 1 n C]):=by
 have hG:aI Tryz.prog 72=some Tryz.f72:=by kernel_rfl
 rcases h with⟨rfl,rfl,rfl⟩ | ⟨b,o,rfl,hp,hb⟩
 ·have h:aT (az Tryz.prog) (fun _=>[]) (aI Tryz.prog) aE 1 72 [.nilslice] M=some (.nilslice,M):=by
   simp[aT,hG,Tryz.f72,zf]
  have:=aP aa (ai _) (af _) (aj _) h
  simpa [clV,clX] using dG 2 this
 ·have lb:=(List.getElem?_eq_some_iff.1 hb).1
  have hb' :∀Z,(M++Z)[b]? =some (.cells o 1 C):=fun Z=>by rw[List.getElem?_append_left lb];exact hb
  have ht:C.take (n)=C:=List.take_of_length_le (by omega)
  have hle:n≤C.length:=by omega
  have q1:n*16≤140737488355328:=by omega
  have q2:n≤140737488355328:=by omega
  have h:aT (az Tryz.prog) (fun _=>[]) (aI Tryz.prog) aE 1 72 [.slice b 0 n none] M=some (.slice (M.length+1) 0 n none,M++[.absent,.cells true 1 C]):=by
   simp[-List.all_eq_true,-AV.cellOk,aT,hG,Tryz.f72,zf,hb',ht,hle,q1,q2,hall]
   done
  have:=aP aa (ai _) (af _) (aj _) h
  unfold clV clX
  rw[if_neg (by omega),if_neg (by omega)]
  exact this
theorem P7{M:Mem}{v:AV}{n:Nat}{C:List AV}(h:RowAt M v 2 n C) (hl:C.length=n*2) (hn:n≤1000) (hall:C.all AV.cellOk=true):
  ACallsTo Tryz.prog 73 [v] M (clV M.length n) (M++[.absent,clX 2 n C]):=by
 have hG:aI Tryz.prog 73=some Tryz.f73:=by kernel_rfl
 rcases h with⟨rfl,rfl,rfl⟩ | ⟨b,o,rfl,hp,hb⟩
 ·have h:aT (az Tryz.prog) (fun _=>[]) (aI Tryz.prog) aE 1 73 [.nilslice] M=some (.nilslice,M):=by
   simp[aT,hG,Tryz.f73,zf]
  have:=aP aa (ai _) (af _) (aj _) h
  simpa [clV,clX] using dG 2 this
 ·have lb:=(List.getElem?_eq_some_iff.1 hb).1
  have hb' :∀Z,(M++Z)[b]? =some (.cells o 2 C):=fun Z=>by rw[List.getElem?_append_left lb];exact hb
  have ht:C.take (n*2)=C:=List.take_of_length_le (by omega)
  have hle:n*2≤C.length:=by omega
  have q1:n*32≤140737488355328:=by omega
  have q2:n≤140737488355328:=by omega
  have h:aT (az Tryz.prog) (fun _=>[]) (aI Tryz.prog) aE 1 73 [.slice b 0 n none] M=some (.slice (M.length+1) 0 n none,M++[.absent,.cells true 2 C]):=by
   simp[-List.all_eq_true,-AV.cellOk,aT,hG,Tryz.f73,zf,hb',ht,hle,q1,q2,hall]
   done
  have:=aP aa (ai _) (af _) (aj _) h
  unfold clV clX
  rw[if_neg (by omega),if_neg (by omega)]
  exact this
def Keep3(N N' :Mem):Prop:=∀(b:Nat) o es C,es=1∨es=2∨es=3→N[b]? =some (.cells o es C)→N'[b]? =some (.cells o es C)
theorem Keep3.refl(N:Mem):Keep3 N N:=fun _ _ _ _ _ h=>h
theorem Keep3.trans{A B C:Mem}(h:Keep3 A B) (h' :Keep3 B C):Keep3 A C:=fun b o es D hes hb=>h' b o es D hes (h b o es D hes hb)
theorem Keep3.app(N Z:Mem):Keep3 N (N++Z):=fun b o es D _ hb=>by rw[List.getElem?_append_left (List.getElem?_eq_some_iff.1 hb).1];exact hb
theorem Keep3.set{N:Mem}{k e:Nat}{o:Bool}{D:List AV}(h:N[k]? =some (.cells o e D)) (he:e=0∨e=32) (s:Slot):Keep3 N (N.set k s):=fun b o' es D' hes hb=>by
 rw[List.getElem?_set_ne]
 ·exact hb
 ·rintro rfl
  rw[h] at hb
  cases hb
  omega
theorem RowAt.upd{N N' :Mem}{v:AV}{es n:Nat}{C:List AV}(h:RowAt N v es n C) (hes:es=1∨es=2∨es=3) (hk:Keep3 N N'):RowAt N' v es n C:=by
 rcases h with h | ⟨b,o,h1,h2,h3⟩
 ·exact .inl h
 ·exact .inr ⟨b,o,h1,h2,hk b o es C hes h3⟩
theorem SfAt.upd{N N' :Mem}{v:AV}{S:List (List (List UInt8))}(h:SfAt N v S) (hk:Keep3 N N'):SfAt N' v S:=by
 obtain⟨vs,h1,h2,h3⟩:=h
 exact⟨vs,h1,h2.upd (.inl rfl) hk,fun i x L a b=>(h3 i x L a b).upd (.inl rfl) hk⟩
theorem EvAt.upd{N N' :Mem}{ev:List AV}{c:Evc}(h:EvAt N ev c) (hk:Keep3 N N'):EvAt N' ev c:=by
 obtain⟨b,u,s,kn,h1,h2,h3,h4,h5⟩:=h
 exact⟨b,u,s,kn,h1,h2.upd (.inl rfl) hk,h3.upd (.inl rfl) hk,h4.upd hk,h5.upd (.inr (.inl rfl)) hk⟩
theorem nr(L:List (List UInt8)):(stC L).all AV.cellOk=true:=by
 rw[List.all_eq_true];intro x hx
 simp only[stC,List.mem_map] at hx
 obtain⟨y,_,rfl⟩:=hx;rfl
theorem G3:∀L:List (List UInt8×List UInt8),(kC L).all AV.cellOk=true
 | []=>rfl
 |k::l=>by simp only[kC,List.all_cons,G3 l];rfl
theorem PZ:∀L:List Tr,(tC L).all AV.cellOk=true
 | []=>rfl
 |k::l=>by simp only[tC,List.all_cons,PZ l];rfl
theorem Dp(d:Nat) (a b:List UInt8):iT (az Tryz.prog) (d+2) 121 (.agg [.str a,.str b]) (.agg [.str a,.str b])=some true:=by
 have i:=ge d
 rw[iT]
 simp[LF,gv,TyI.isAgg,i]
theorem KP(d:Nat) (t u v:Int):iT (az Tryz.prog) (d+2) 124 (.agg [.int .i64 t,.int .i64 u,.int .i64 v]) (.agg [.int .i64 t,.int .i64 u,.int .i64 v])=some true:=by
 have r:List.range' 0 3=[0,1,2]:=rfl
 have i:=rB d
 rw[iT]
 simp only[Gp,B6,r,PQ]
 simp[gv,TyI.isAgg,i]
set_option maxHeartbeats 1600000 in
theorem Gc{K:Nat}(L:List (List UInt8×List UInt8)) (hl:L.length≤1000) (hK:L.length<K) {b:Code}(hb:am Tryz.f46=[b]):
  ∃F:Env→Bool→Env,∀env0 d,(ac env0 0=.slice 0 0 L.length none∧ac env0 1=.slice 1 0 L.length none∧ac env0 12=.int .i64 L.length∧ac env0 13=.int .i64 0)→
   aO (az Tryz.prog) (fun _=>[13]) aE K 26 2 true (.loop b) ⟨env0,[.cells false 2 (kC L),.cells false 2 (kC L)],d⟩=some (.exit 0,⟨F env0 d,[.cells false 2 (kC L),.cells false 2 (kC L)],d⟩)∧True:=by
 refine bD (L:=[13]) rfl (fun env0=>ac env0 0=.slice 0 0 L.length none∧ac env0 1=.slice 1 0 L.length none∧ac env0 12=.int .i64 L.length∧ac env0 13=.int .i64 0) (fun _ _=>True) ?_
 rintro env0 d ⟨h0,h1,h12,h13⟩
 obtain⟨os,hops⟩:∃os,aG Tryz.f46=os:=⟨_,rfl⟩
 have hbs:=aV hops (ls:=[[0,0,3,7,0,0,48,112,255]]) (by kernel_rfl)
 simp only[aG,bC,Tryz.f46,List.nil_append,List.append_nil,List.cons_append] at hops
 subst hops
 simp only[List.map_cons,List.map_nil,List.cons.injEq,and_true] at hbs
 have a0:aS [0,0,3,7,0,0,48,112,255] 8=true:=by decide
 have e:=fun d=>Dp d
 simp[am,aJ,Tryz.f46] at hb
 have hn0:ay [13] (ad b) env0 ((13,.int .i64 ((0:Nat):Int))::env0)=ay [13] (ad b) env0 env0:=by simp[ay,h13]
 rw[←hn0]
 refine bR (α:=Nat) (fun n=>⟨ay [13] (ad b) env0 ((13,.int .i64 (n:Int))::env0),[.cells false 2 (kC L),.cells false 2 (kC L)],d⟩) (fun n=>L.length-n) (fun n=>n≤L.length) (.exit 0) _ d _ (by simp) ?_ K 0 (by omega) (by omega)
 rintro n hn1
 clear hn0
 subst hb
 by_cases hlt:n<L.length
 ·obtain⟨z,hz⟩:∃z,L[n]? =some z:=⟨L[n],List.getElem?_eq_getElem hlt⟩
  have k1:=(Ps hz).1
  have k2:=gr L
  have w1:IntKind.i64.wrap ((n:Int)+1)=((n+1:Nat):Int):=by rw[al (by omega) (by omega)];omega
  have k3:n*2+2≤(kC L).length:=by omega
  clear k2
  left
  obtain⟨v,hv⟩:∃v,v=n+1:=⟨_,rfl⟩
  rw[←hv] at w1
  refine⟨v,?_⟩
  simp[-aF,ax hbs,bS,bF,bM,a0,Nat.testBit,h0,h1,h12,hlt,k1,k3,w1,e,qN,Nv]
  omega
 ·right
  simp[h12,hlt]
theorem Ou(L:List (List UInt8×List UInt8)) (hl:L.length≤1000):
  ACallsTo Tryz.prog 46 [.slice 0 0 L.length none,.slice 1 0 L.length none] [.cells false 2 (kC L),.cells false 2 (kC L)] (.bool true) [.cells false 2 (kC L),.cells false 2 (kC L)]:=by
 have hG:aI Tryz.prog 46=some Tryz.f46:=by kernel_rfl
 obtain⟨b,hb⟩:∃b,am Tryz.f46=[b]:=⟨_,rfl⟩
 obtain⟨F,hF⟩:=Gc (K:=L.length+1) L hl (by omega) hb
 have hF1:=fun env0 d h1 h2 h3 h4=>(hF env0 d ⟨h1,h2,h3,h4⟩).1
 clear hF
 simp[am,aJ,Tryz.f46] at hb
 subst hb
 have h:ab (az Tryz.prog) (fun _=>[13]) (aI Tryz.prog) aE (L.length+1) 46 [.slice 0 0 L.length none,.slice 1 0 L.length none] [.cells false 2 (kC L),.cells false 2 (kC L)]=some ⟨.bool true,none,[]⟩:=by
  simp[ab,hG,Tryz.f46,hF1]
 have:=(ae aa (ai _) (af _) (aj _) h).1
 simpa [CallRes.mem] using this
theorem Ov(M:Mem):ACallsTo Tryz.prog 46 [.nilslice,.nilslice] M (.bool true) M:=by
 have hG:aI Tryz.prog 46=some Tryz.f46:=by kernel_rfl
 refine aw (af _) (lv:=fun _=>[13]) (K:=3) rfl rfl ?_ M
 simp[ab,hG,Tryz.f46,aC,dS]
theorem Qd{M:Mem}{x y:AV}{L:List (List UInt8×List UInt8)}(hl:L.length≤1000) (hx:RowAt M x 2 L.length (kC L)) (hy:RowAt M y 2 L.length (kC L)):ACallsTo Tryz.prog 46 [x,y] M (.bool true) M:=by
 rcases hx with⟨rfl,h1,_⟩ | ⟨b,o,rfl,hp,hb⟩
 ·rcases hy with⟨rfl,_,_⟩ | ⟨b',o',_,hp',_⟩
  ·exact Ov M
  ·omega
 ·rcases hy with⟨_,h1,_⟩ | ⟨b',o',rfl,_,hb'⟩
  ·omega
  ·exact ACallsTo.rows2R (rest:=[]) (oP L) (oP L) rfl rfl (Ou L hl) ⟨b,o,_,rfl,hb,List.take_length⟩ ⟨b',o',_,rfl,hb',List.take_length⟩
set_option maxHeartbeats 1600000 in
theorem Gf{K:Nat}(L:List Tr) (hl:L.length≤1000) (hK:L.length<K) {b:Code}(hb:am Tryz.f47=[b]):
  ∃F:Env→Bool→Env,∀env0 d,(ac env0 0=.slice 0 0 L.length none∧ac env0 1=.slice 1 0 L.length none∧ac env0 12=.int .i64 L.length∧ac env0 13=.int .i64 0)→
   aO (az Tryz.prog) (fun _=>[13]) aE K 26 2 true (.loop b) ⟨env0,[.cells false 3 (tC L),.cells false 3 (tC L)],d⟩=some (.exit 0,⟨F env0 d,[.cells false 3 (tC L),.cells false 3 (tC L)],d⟩)∧True:=by
 refine bD (L:=[13]) rfl (fun env0=>ac env0 0=.slice 0 0 L.length none∧ac env0 1=.slice 1 0 L.length none∧ac env0 12=.int .i64 L.length∧ac env0 13=.int .i64 0) (fun _ _=>True) ?_
 rintro env0 d ⟨h0,h1,h12,h13⟩
 obtain⟨os,hops⟩:∃os,aG Tryz.f47=os:=⟨_,rfl⟩
 have hbs:=aV hops (ls:=[[0,0,3,7,0,0,48,112,255]]) (by kernel_rfl)
 simp only[aG,bC,Tryz.f47,List.nil_append,List.append_nil,List.cons_append] at hops
 subst hops
 simp only[List.map_cons,List.map_nil,List.cons.injEq,and_true] at hbs
 have a0:aS [0,0,3,7,0,0,48,112,255] 8=true:=by decide
 have e:=fun d=>KP d
 simp[am,aJ,Tryz.f47] at hb
 have hn0:ay [13] (ad b) env0 ((13,.int .i64 ((0:Nat):Int))::env0)=ay [13] (ad b) env0 env0:=by simp[ay,h13]
 rw[←hn0]
 refine bR (α:=Nat) (fun n=>⟨ay [13] (ad b) env0 ((13,.int .i64 (n:Int))::env0),[.cells false 3 (tC L),.cells false 3 (tC L)],d⟩) (fun n=>L.length-n) (fun n=>n≤L.length) (.exit 0) _ d _ (by simp) ?_ K 0 (by omega) (by omega)
 rintro n hn1
 clear hn0
 subst hb
 by_cases hlt:n<L.length
 ·obtain⟨z,hz⟩:∃z,L[n]? =some z:=⟨L[n],List.getElem?_eq_getElem hlt⟩
  have k1:=(QL hz).1
  have k2:=sO L
  have w1:IntKind.i64.wrap ((n:Int)+1)=((n+1:Nat):Int):=by rw[al (by omega) (by omega)];omega
  have k3:n*3+3≤(tC L).length:=by omega
  clear k2
  left
  obtain⟨v,hv⟩:∃v,v=n+1:=⟨_,rfl⟩
  rw[←hv] at w1
  refine⟨v,?_⟩
  simp[-aF,ax hbs,bS,bF,bM,a0,Nat.testBit,h0,h1,h12,hlt,k1,k3,w1,e,cP,pW]
  omega
 ·right
  simp[h12,hlt]
theorem Oy(L:List Tr) (hl:L.length≤1000):
  ACallsTo Tryz.prog 47 [.slice 0 0 L.length none,.slice 1 0 L.length none] [.cells false 3 (tC L),.cells false 3 (tC L)] (.bool true) [.cells false 3 (tC L),.cells false 3 (tC L)]:=by
 have hG:aI Tryz.prog 47=some Tryz.f47:=by kernel_rfl
 obtain⟨b,hb⟩:∃b,am Tryz.f47=[b]:=⟨_,rfl⟩
 obtain⟨F,hF⟩:=Gf (K:=L.length+1) L hl (by omega) hb
 have hF1:=fun env0 d h1 h2 h3 h4=>(hF env0 d ⟨h1,h2,h3,h4⟩).1
 clear hF
 simp[am,aJ,Tryz.f47] at hb
 subst hb
 have h:ab (az Tryz.prog) (fun _=>[13]) (aI Tryz.prog) aE (L.length+1) 47 [.slice 0 0 L.length none,.slice 1 0 L.length none] [.cells false 3 (tC L),.cells false 3 (tC L)]=some ⟨.bool true,none,[]⟩:=by
  simp[ab,hG,Tryz.f47,hF1]
 have:=(ae aa (ai _) (af _) (aj _) h).1
 simpa [CallRes.mem] using this
theorem Oz(M:Mem):ACallsTo Tryz.prog 47 [.nilslice,.nilslice] M (.bool true) M:=by
 have hG:aI Tryz.prog 47=some Tryz.f47:=by kernel_rfl
 refine aw (af _) (lv:=fun _=>[13]) (K:=3) rfl rfl ?_ M
 simp[ab,hG,Tryz.f47,aC,dS]
theorem MM{M:Mem}{x y:AV}{L:List Tr}(hl:L.length≤1000) (hx:RowAt M x 3 L.length (tC L)) (hy:RowAt M y 3 L.length (tC L)):ACallsTo Tryz.prog 47 [x,y] M (.bool true) M:=by
 rcases hx with⟨rfl,h1,_⟩ | ⟨b,o,rfl,hp,hb⟩
 ·rcases hy with⟨rfl,_,_⟩ | ⟨b',o',_,hp',_⟩
  ·exact Oz M
  ·omega
 ·rcases hy with⟨_,h1,_⟩ | ⟨b',o',rfl,_,hb'⟩
  ·omega
  ·exact ACallsTo.rows2R (rest:=[]) (dL L) (dL L) rfl rfl (Oy L hl) ⟨b,o,_,rfl,hb,List.take_length⟩ ⟨b',o',_,rfl,hb',List.take_length⟩
def EvRow(N:Mem) (v:AV) (n:Nat) (C:List AV):Prop:=(n=0∧C=[]∧(v=.nilslice∨∃b,v=.slice b 0 0 none))∨∃b o D,v=.slice b 0 n none∧0<n∧N[b]? =some (.cells o 32 D)∧D.take (n*32)=C
theorem EvRow.more{N:Mem}{v:AV}{n:Nat}{C:List AV}(h:EvRow N v n C) (Z:Mem):EvRow (N++Z) v n C:=by
 rcases h with h | ⟨b,o,D,h1,h2,h3,h4⟩
 ·exact .inl h
 ·exact .inr ⟨b,o,D,h1,h2,by rw[List.getElem?_append_left (List.getElem?_eq_some_iff.1 h3).1];exact h3,h4⟩
def EvsAt(N:Mem) (v:AV) (cs:List Evc):Prop:=∃evs:List (List AV),evs.length=cs.length∧EvRow N v cs.length evs.flatten∧∀(i:Nat) e c,evs[i]? =some e→cs[i]? =some c→EvAt N e c
theorem EvsAt.more{N:Mem}{v:AV}{cs:List Evc}(h:EvsAt N v cs) (Z:Mem):EvsAt (N++Z) v cs:=by
 obtain⟨evs,h1,h2,h3⟩:=h
 exact⟨evs,h1,h2.more Z,fun i e c a b=>(h3 i e c a b).more Z⟩
theorem PD:∀{l:List (List AV)}{i:Nat}{e:List AV},(∀x∈l,x.length=32)→l[i]? =some e→(l.flatten.drop (i*32)).take 32=e∧i*32+32≤l.flatten.length
 | [],i,e,_,h=>by simp at h
 |x::l,0,e,hl,h=>by
  simp at h;subst h
  have:=hl x (by simp)
  refine⟨by rw[Nat.zero_mul,List.drop_zero,List.flatten_cons,List.take_append_of_le_length (by omega),List.take_of_length_le (by omega)],by rw[List.flatten_cons,List.length_append];omega⟩
 |x::l,i+1,e,hl,h=>by
  have hx:=hl x (by simp)
  obtain⟨a,b⟩:=PD (l:=l) (i:=i) (e:=e) (fun y hy=>hl y (by simp[hy])) (by simpa using h)
  refine⟨?_,by rw[List.flatten_cons,List.length_append];omega⟩
  rw[List.flatten_cons,List.drop_append,List.drop_of_length_le (by omega),List.nil_append,hx,show(i+1)*32-32=i*32 by omega]
  exact a
noncomputable def rA(vs ws:List (List AV)) (m:Mem):Oracle:=dR fun c a N r=>∃(i:Nat) (x y:List AV),vs[i]? =some x∧ws[i]? =some y∧c=.fn 49∧a=[.agg x,.agg y]∧(∃Z,N=m++Z)∧r=⟨.bool true,none,[]⟩
theorem Ig{vs ws:List (List AV)}{m:Mem}{i:Nat}{x y:List AV}(h1:vs[i]? =some x) (h2:ws[i]? =some y) (Z:Mem):rA vs ws m (.fn 49) [.agg x,.agg y] (m++Z)=some ⟨.bool true,none,[]⟩:=
 cv ⟨i,x,y,h1,h2,rfl,rfl,⟨Z,rfl⟩,rfl⟩ fun r' ⟨_,_,_,_,_,_,_,_,h⟩=>h
set_option maxRecDepth 8192 in
set_option maxHeartbeats 4000000 in
theorem Do{m:Mem}{v w:AV}{n:Nat}{vs ws:List (List AV)}(lv:vs.length=n) (lw:ws.length=n) (hv:EvRow m v n vs.flatten) (hw:EvRow m w n ws.flatten) (v32:∀x∈vs,x.length=32) (w32:∀x∈ws,x.length=32) (vck:∀x∈vs,∀y∈x,y.cellOk=true) (wck:∀x∈ws,∀y∈x,y.cellOk=true) (hl:n≤1000) {K:Nat}(hK:n<K) {b:Code}(hb:am Tryz.f48=[b]):
  ∃F:Env→Bool→Env×Mem×Nat,∀env0 d,(ac env0 15=v∧ac env0 1=w∧ac env0 2=.func 49 []∧ac env0 16=.int .i64 n∧ac env0 17=.int .i64 0)→
   aO (az Tryz.prog) (fun _=>[17,17,17]) (rA vs ws m) K 32 m.length true (.loop b) ⟨env0,m,d⟩=some (.exit 0,⟨(F env0 d).1,(F env0 d).2.1,d⟩)∧True:=by
 refine ng rfl (fun env0=>ac env0 15=v∧ac env0 1=w∧ac env0 2=.func 49 []∧ac env0 16=.int .i64 n∧ac env0 17=.int .i64 0) (fun _ _ _ _=>True) ?_
 rintro env0 d ⟨h15,h1,h2,h16,h17⟩
 simp[am,aJ,Tryz.f48] at hb
 have hn:ay [17,17,17] (ad b) env0 ((17,.int .i64 ((0:Nat):Int))::env0)=ay [17,17,17] (ad b) env0 env0:=by simp[ay,h17]
 rw[←hn]
 obtain⟨m1,hm1⟩:∃m1,m1=m++[]:=⟨_,rfl⟩
 have hm:m1=m:=by rw[hm1,List.append_nil]
 suffices h:∃env' mem',dS [17,17,17] (ad b) env0 m.length (aO (az Tryz.prog) (fun _=>[17,17,17]) (rA vs ws m) K 32 m.length true b) K ⟨ay [17,17,17] (ad b) env0 ((17,.int .i64 ((0:Nat):Int))::env0),m++[],d⟩=some (.exit 0,⟨env',mem',d⟩)∧∃_:Nat,True by
  rw[List.append_nil] at h;exact h
 clear hm hm1 m1
 refine lU (α:=Mem×Nat) (fun a=>⟨ay [17,17,17] (ad b) env0 ((17,.int .i64 (a.2:Int))::env0),m++a.1,d⟩) (fun a=>n-a.2) (fun a=>a.2≤n) (.exit 0) d (fun _ _=>∃_:Nat,True) (by simp) ?_ K ([],0) (by simp only;omega) (by simp only;omega)
 rintro ⟨X,i⟩ hi
 simp only at hi
 clear hn
 by_cases hlt:i<n
 ·obtain⟨x,hx⟩:∃x,vs[i]? =some x:=⟨_,List.getElem?_eq_getElem (by omega)⟩
  obtain⟨y,hy⟩:∃y,ws[i]? =some y:=⟨_,List.getElem?_eq_getElem (by omega)⟩
  have w1:IntKind.i64.wrap ((i:Int)+1)=((i+1:Nat):Int):=by rw[al (by omega) (by omega)];omega
  have ho:=Ig (m:=m) hx hy (X++[.cells true 0 x,.cells true 0 y])
  obtain⟨r1,r2⟩:=PD v32 hx
  obtain⟨s1,s2⟩:=PD w32 hy
  have gx:(∀z:AV,z∈x→z.cellOk=true)=True:=eq_true (vck x (List.mem_of_getElem? hx))
  have gy:(∀z:AV,z∈y→z.cellOk=true)=True:=eq_true (wck y (List.mem_of_getElem? hy))
  have lx:=v32 x (List.mem_of_getElem? hx)
  have ly:=w32 y (List.mem_of_getElem? hy)
  have tx:List.take 32 x=x:=List.take_of_length_le (by omega)
  have ty:List.take 32 y=y:=List.take_of_length_le (by omega)
  rcases hv with⟨h,_,_⟩ | ⟨b1,o1,D1,rfl,_,e1,t1⟩
  ·omega
  rcases hw with⟨h,_,_⟩ | ⟨b2,o2,D2,rfl,_,e2,t2⟩
  ·omega
  have k1:(D1.drop (i*32)).take 32=x:=by
   rw[←t1,List.drop_take,List.take_take,show min 32 (n*32-i*32)=32 by omega] at r1
   exact r1
  have k2:(D2.drop (i*32)).take 32=y:=by
   rw[←t2,List.drop_take,List.take_take,show min 32 (n*32-i*32)=32 by omega] at s1
   exact s1
  have k3:i*32+32≤D1.length:=by rw[←t1,List.length_take] at r2;omega
  have k4:i*32+32≤D2.length:=by rw[←t2,List.length_take] at s2;omega
  have e1' :∀Z,(m++Z)[b1]? =some (.cells o1 32 D1):=fun Z=>by rw[List.getElem?_append_left (List.getElem?_eq_some_iff.1 e1).1];exact e1
  have e2' :∀Z,(m++Z)[b2]? =some (.cells o2 32 D2):=fun Z=>by rw[List.getElem?_append_left (List.getElem?_eq_some_iff.1 e2).1];exact e2
  have hjl:∀j,(m.length+j<m.length)=False:=fun j=>fm _ _
  clear r1 r2 s1 s2 t1 t2 e1 e2
  left
  refine⟨(X++[.cells true 0 x,.cells true 0 y],i+1),?_⟩
  refine cT (show i+1≤n∧n-(i+1)<n-i from⟨by omega,by omega⟩) ?_
  subst hb
  simp[-AV.cellOk,h15,h1,h2,h16,hlt,e1',e2',k1,k2,k3,k4,lx,ly,gx,gy,tx,ty,ho,w1,hjl]
  done
 ·right
  subst hb
  simp[h16,hlt]
theorem gf{N:Mem}{v:AV}{n:Nat}{C:List AV}(h:EvRow N v n C) (N' :Mem):gI (az Tryz.prog) 39 N' v=some (.int .i64 n):=by
 rcases h with⟨rfl,_,rfl | ⟨b,rfl⟩⟩ | ⟨b,o,D,rfl,_⟩<;>simp
theorem F9{m:Mem}{v w:AV}{cs:List Evc}(hv:EvsAt m v cs) (hw:EvsAt m w cs) (hok:∀c∈cs,c.Ok) (hl:cs.length≤1000):
  ACallsTo Tryz.prog 48 [v,w,.func 49 []] m (.bool true) m:=by
 have hG:aI Tryz.prog 48=some Tryz.f48:=by kernel_rfl
 obtain⟨vs,l1,r1,c1⟩:=hv
 obtain⟨ws,l2,r2,c2⟩:=hw
 have hat:∀(us:List (List AV)),us.length=cs.length→(∀(i:Nat) e c,us[i]? =some e→cs[i]? =some c→EvAt m e c)→∀x∈us,∃c,EvAt m x c:=fun us hl h x hx=>by
  obtain⟨i,hi⟩:=List.getElem?_of_mem hx
  have:=(List.getElem?_eq_some_iff.1 hi).1
  exact⟨_,h i x _ hi (List.getElem?_eq_getElem (by omega))⟩
 have hO:OracleOk Tryz.prog (rA vs ws m):=kH fun c a N r hr=>by
  obtain⟨i,x,y,hx,hy,rfl,rfl,⟨Z,rfl⟩,rfl⟩:=hr
  have hlt:=(List.getElem?_eq_some_iff.1 hx).1
  obtain⟨c,hc⟩:∃c,cs[i]? =some c:=⟨_,List.getElem?_eq_getElem (by omega)⟩
  exact ap (by simpa using Ku (hok c (List.mem_of_getElem? hc)) ((c1 i x c hx hc).more Z) ((c2 i y c hy hc).more Z))
 obtain⟨b,hb⟩:∃b,am Tryz.f48=[b]:=⟨_,rfl⟩
 obtain⟨F,hF⟩:=Do (K:=cs.length+1) l1 l2 r1 r2 (fun x hx=>(hat vs l1 c1 x hx).elim fun c h=>h.l32) (fun x hx=>(hat ws l2 c2 x hx).elim fun c h=>h.l32) (fun x hx=>(hat vs l1 c1 x hx).elim fun c h=>h.cok) (fun x hx=>(hat ws l2 c2 x hx).elim fun c h=>h.cok) hl (by omega) hb
 have hF1:=fun env0 d h=>(hF env0 d h).1
 clear hF
 simp[am,aJ,Tryz.f48] at hb
 subst hb
 have hlv:=gf r1
 have hlw:=gf r2
 have h:ab (az Tryz.prog) (fun _=>[17,17,17]) (aI Tryz.prog) (rA vs ws m) (cs.length+1) 48 [v,w,.func 49 []] m=some ⟨.bool true,none,[]⟩:=by
  clear hO
  simp[-gI,hlv,hlw,ab,hG,Tryz.f48,hF1]
  done
 have:=(ae aa (ai _) hO (aj _) h).1
 simpa [CallRes.mem] using this
theorem xP{m:Mem}{v w:AV}{cs ds:List Evc}(hv:EvsAt m v cs) (hw:EvsAt m w ds) (hne:cs.length≠ds.length):
  ACallsTo Tryz.prog 48 [v,w,.func 49 []] m (.bool false) m:=by
 have hG:aI Tryz.prog 48=some Tryz.f48:=by kernel_rfl
 obtain⟨vs,l1,r1,c1⟩:=hv
 obtain⟨ws,l2,r2,c2⟩:=hw
 have hlv:=gf r1
 have hlw:=gf r2
 have hne' :¬((cs.length:Int)=ds.length):=by omega
 have h:ab (az Tryz.prog) (fun _=>[17,17,17]) (aI Tryz.prog) aE 1 48 [v,w,.func 49 []] m=some ⟨.bool false,none,[]⟩:=by
  simp[-gI,hlv,hlw,ab,hG,Tryz.f48,hne,hne']
  done
 have:=(ae aa (ai _) (af _) (aj _) h).1
 simpa [CallRes.mem] using this
def cR(c:Go.Eng.Callee) (a:List AV) (N:Mem) (r:CallRes):Prop:=match c,a with
 |.fn 69,[v]=>∃n C,RowAt N v 2 n C∧C.length=n*2∧n≤1000∧C.all AV.cellOk=true∧r=⟨clV N.length n,none,[.absent,clX 2 n C]⟩
 |.fn 70,[v]=>∃n C,RowAt N v 3 n C∧C.length=n*3∧n≤1000∧C.all AV.cellOk=true∧r=⟨clV N.length n,none,[.absent,clX 3 n C]⟩
 |.fn 71,[v]=>∃n C,RowAt N v 1 n C∧C.length=n*1∧n≤1000∧C.all AV.cellOk=true∧r=⟨clV N.length n,none,[.absent,clX 1 n C]⟩
 |.fn 72,[v]=>∃n C,RowAt N v 1 n C∧C.length=n*1∧n≤1000∧C.all AV.cellOk=true∧r=⟨clV N.length n,none,[.absent,clX 1 n C]⟩
 |.fn 73,[v]=>∃n C,RowAt N v 2 n C∧C.length=n*2∧n≤1000∧C.all AV.cellOk=true∧r=⟨clV N.length n,none,[.absent,clX 2 n C]⟩
 |_,_=>False
theorem KM:OracleOk Tryz.prog (dR cR):=kH fun c a N r h=>by
 unfold cR at h
 split at h
 ·obtain⟨n,C,h1,h2,h3,h4,rfl⟩:=h
  exact ap (P8 h1 h2 h3 h4)
 ·obtain⟨n,C,h1,h2,h3,h4,rfl⟩:=h
  exact ap (Qa h1 h2 h3 h4)
 ·obtain⟨n,C,h1,h2,h3,h4,rfl⟩:=h
  exact ap (P6 h1 h2 h3 h4)
 ·obtain⟨n,C,h1,h2,h3,h4,rfl⟩:=h
  exact ap (P9 h1 h2 h3 h4)
 ·obtain⟨n,C,h1,h2,h3,h4,rfl⟩:=h
  exact ap (P7 h1 h2 h3 h4)
 ·exact h.elim
theorem Of{N:Mem}{v:AV}{n:Nat}{C:List AV}(h1:RowAt N v 2 n C) (h2:C.length=n*2) (h3:n≤1000) (h4:C.all AV.cellOk=true):dR cR (.fn 69) [v] N=some ⟨clV N.length n,none,[.absent,clX 2 n C]⟩:=
 cv (S:=cR) ⟨n,C,h1,h2,h3,h4,rfl⟩ fun r' h=>by
  obtain⟨n',C',k1,_,_,_,rfl⟩:=h
  obtain⟨rfl,rfl⟩:=h1.inj k1
  rfl
theorem Og{N:Mem}{v:AV}{n:Nat}{C:List AV}(h1:RowAt N v 3 n C) (h2:C.length=n*3) (h3:n≤1000) (h4:C.all AV.cellOk=true):dR cR (.fn 70) [v] N=some ⟨clV N.length n,none,[.absent,clX 3 n C]⟩:=
 cv (S:=cR) ⟨n,C,h1,h2,h3,h4,rfl⟩ fun r' h=>by
  obtain⟨n',C',k1,_,_,_,rfl⟩:=h
  obtain⟨rfl,rfl⟩:=h1.inj k1
  rfl
theorem pn{N:Mem}{v:AV}{n:Nat}{C:List AV}(h1:RowAt N v 1 n C) (h2:C.length=n*1) (h3:n≤1000) (h4:C.all AV.cellOk=true):dR cR (.fn 71) [v] N=some ⟨clV N.length n,none,[.absent,clX 1 n C]⟩:=
 cv (S:=cR) ⟨n,C,h1,h2,h3,h4,rfl⟩ fun r' h=>by
  obtain⟨n',C',k1,_,_,_,rfl⟩:=h
  obtain⟨rfl,rfl⟩:=h1.inj k1
  rfl
theorem xo{N:Mem}{v:AV}{n:Nat}{C:List AV}(h1:RowAt N v 1 n C) (h2:C.length=n*1) (h3:n≤1000) (h4:C.all AV.cellOk=true):dR cR (.fn 72) [v] N=some ⟨clV N.length n,none,[.absent,clX 1 n C]⟩:=
 cv (S:=cR) ⟨n,C,h1,h2,h3,h4,rfl⟩ fun r' h=>by
  obtain⟨n',C',k1,_,_,_,rfl⟩:=h
  obtain⟨rfl,rfl⟩:=h1.inj k1
  rfl
theorem By{N:Mem}{v:AV}{n:Nat}{C:List AV}(h1:RowAt N v 2 n C) (h2:C.length=n*2) (h3:n≤1000) (h4:C.all AV.cellOk=true):dR cR (.fn 73) [v] N=some ⟨clV N.length n,none,[.absent,clX 2 n C]⟩:=
 cv (S:=cR) ⟨n,C,h1,h2,h3,h4,rfl⟩ fun r' h=>by
  obtain⟨n',C',k1,_,_,_,rfl⟩:=h
  obtain⟨rfl,rfl⟩:=h1.inj k1
  rfl
def eI(c:Code):List Nat:=if (ad c).contains 28 then [28,28,28] else [48,48,48,8]
structure CpI (N0:Mem) (kc:Nat) (pv tv:AV) (cs:List Evc) (N:Mem) (i:Nat) (E:AV) (evs:List (List AV)):Prop where
 len:N0.length≤N.length
 same:∀k,k<N0.length→k≠kc→N[k]? =N0[k]?
 cell:N[kc]? =some (.cells true 0 [pv,tv,.str ak,E])
 evl:evs.length=i
 row:(i=0∧E=.nilslice)∨∃kr,E=.slice kr 0 i none∧0<i∧N0.length≤kr∧N[kr]? =some (.cells true 32 evs.flatten)
 con:∀(k:Nat) e c,evs[k]? =some e→cs[k]? =some c→EvAt N e c
 keep:Keep3 N0 N
 ok:∀(k:Nat) x,N0.length≤k→N[k]? =some x→bG x=true∧x.refsOk (fun b=>decide (b<N.length))=true
theorem uN:∀{l:List (List AV)},(∀x∈l,x.length=32)→l.flatten.length=l.length*32
 | [],_=>rfl
 |x::l,h=>by
  rw[List.flatten_cons,List.length_append,h x (by simp),uN (fun y hy=>h y (by simp[hy])),List.length_cons,Nat.succ_mul];omega
theorem CpI.step{N0 N Z:Mem}{kc i:Nat}{pv tv E:AV}{cs:List Evc}{evs:List (List AV)}{e:List AV}{c:Evc}(H:CpI N0 kc pv tv cs N i E evs) (hkc:kc<N0.length) (hc:cs[i]? =some c) (N' :Mem) (hkr:Nat)
  (hN' :(i=0→N' =(N.set kc (.cells true 0 [pv,tv,.str ak,.slice hkr 0 (i+1) none]))++Z)∧(∀kr,E=.slice kr 0 i none→N' =((N.set kr .absent).set kc (.cells true 0 [pv,tv,.str ak,.slice hkr 0 (i+1) none]))++Z))
  (hrow:N.length≤hkr∧N'[hkr]? =some (.cells true 32 (evs.flatten++e))) (he:EvAt N' e c) (hZok:Z.all (fun x=>bG x&&x.refsOk (fun b=>decide (b<N.length+Z.length)))=true):CpI N0 kc pv tv cs N' (i+1) (.slice hkr 0 (i+1) none) (evs++[e]):=by
 have hl:=H.len
 have hcell:=H.cell
 have key:∃N1:Mem,N' =N1.set kc (.cells true 0 [pv,tv,.str ak,.slice hkr 0 (i+1) none])++Z∧N1.length=N.length∧(∀k,k<N0.length→N1[k]? =N[k]?)∧Keep3 N N1∧∀(k:Nat) x,N1[k]? =some x→N[k]? =some x∨x=.absent:=by
  rcases H.row with⟨h0,hE⟩ | ⟨kr,hE,h0,hk,hr⟩
  ·exact⟨N,hN'.1 h0,rfl,fun k _=>rfl,Keep3.refl N,fun k x h=>.inl h⟩
  ·refine⟨N.set kr .absent,hN'.2 kr hE,by simp,fun k hk2=>?_,Keep3.set hr (.inr rfl) _,fun k x h=>?_⟩
   ·rw[List.getElem?_set_ne (by omega)]
   ·rw[List.getElem?_set] at h
    split at h
    ·split at h
     ·cases h;exact .inr rfl
     ·cases h
    ·exact .inl h
 obtain⟨N1,rfl,h1,h2,h3,h4⟩:=key
 have hlen:(N1.set kc (.cells true 0 [pv,tv,.str ak,.slice hkr 0 (i+1) none])).length=N.length:=by rw[List.length_set,h1]
 have hk3:Keep3 N (N1.set kc (.cells true 0 [pv,tv,.str ak,.slice hkr 0 (i+1) none])++Z):=h3.trans ((Keep3.set (by rw[h2 kc hkc];exact hcell) (.inl rfl) _).trans (Keep3.app _ _))
 refine⟨by rw[List.length_append,hlen];omega,fun k hk hne=>?_,?_,by rw[List.length_append,H.evl];rfl,.inr ⟨hkr,rfl,by omega,by omega,by rw[hrow.2,List.flatten_append];simp⟩,fun k x c' hx hc' =>?_,H.keep.trans hk3,fun k x hk hx=>?_⟩
 ·rw[List.getElem?_append_left (by omega),List.getElem?_set_ne (by omega),h2 k hk]
  exact H.same k hk hne
 ·rw[List.getElem?_append_left (by omega),List.getElem?_set_self (by omega)]
 ·rw[List.getElem?_append] at hx
  split at hx
  ·exact(H.con k x c' hx hc').upd hk3
  ·rename_i hge
   have hk:k=i:=by
    have:=(List.getElem?_eq_some_iff.1 hx).1
    rw[H.evl] at hge this
    simp at this;omega
   subst hk
   rw[H.evl,Nat.sub_self] at hx
   simp at hx
   subst hx
   rw[hc] at hc'
   cases hc'
   exact he
 ·rw[List.length_append,hlen]
  rw[List.getElem?_append] at hx
  split at hx
  ·rename_i hlt
   rw[List.getElem?_set_ne (by omega)] at hx
   rcases h4 k x hx with h5 | rfl
   ·obtain⟨a,b⟩:=H.ok k x hk h5
    exact⟨a,Slot.refsOk_mono (fun y hy=>by simp only[decide_eq_true_eq] at hy ⊢;omega) x b⟩
   ·exact⟨rfl,rfl⟩
  ·have:=List.all_eq_true.1 hZok x (List.mem_of_getElem? hx)
   simpa only[Bool.and_eq_true] using this
theorem cM(k:Nat) (M:Mem) (lo n:Nat) (h:k<lo):(((bc (fun b=>decide (b=k)) 0 M).drop lo).take n).all qL=true:=
 AR _ M lo n fun b h1 _=>by simp;omega
theorem LT(a b:Nat):(!decide (a≤b)|| !decide (b<a))=true:=by
 rcases Nat.lt_or_ge b a with h | h
 ·simp[Nat.not_le.2 h]
 ·simp[Nat.not_lt.2 h]
theorem cL(bs:List Nat) (j:Nat) (acc:List (Nat×Rec)) (r:Rec) (rest:List Rec):oJ bs j acc (r::rest)=(r.v.refsOk (fun b=>decide (b<r.nx.length))&&(cf r||(gC bs j r (j+1) rest&&(r.wr.isEmpty||(nL bs j r acc&&r.wr.all (fun b=>dh r.tm b&&(match r.nx[b]? with | some s=>s.refsOk (fun b=>decide (b<r.nx.length)) | none=>true))))&&
   (r.nx.drop r.mem.length).all fun s=>bG s&&s.refsOk (fun b=>decide (b<r.nx.length))))&&oJ bs (j+1) ((j,r)::acc) rest):=rfl
theorem G9(f:Nat→Bool) (s:Slot) (new:Mem) (M:Mem) (k:Nat):aU [k] 0 M ((bc f 0 M).set k s++new)=M.set k s++new:=by
 have key:∀(i:Nat) (M:Mem) (k:Nat),aU [i+k] i M ((bc f i M).set k s++new)=M.set k s++new:=by
  intro i M
  induction M generalizing i with
  |nil=>intro k;rfl
  |cons x M ih=>
   intro k
   cases k with
   |zero=>
    have h:∀(j:Nat) (M:Mem),i<j→aU [i] j M (bc f j M++new)=M++new:=by
     intro j M hj
     induction M generalizing j with
     |nil=>rfl
     |cons y M ih=>simp[bc,aU,ih (j+1) (by omega),show¬j=i by omega]
    simp[bc,aU,h (i+1) M (by omega)]
   |succ k=>
    have:=ih (i+1) k
    rw[show i+1+k=i+(k+1) by omega] at this
    simp[bc,aU,this,show¬i=i+(k+1) by omega]
 have:=key 0 M k
 rwa [Nat.zero_add] at this
theorem vS:((∀a,(AV.str a).known=true)∧(∀k i,(AV.int k i).known=true)∧(∀b o n c,(AV.slice b o n c).known=true)∧AV.nilslice.known=true∧(∀b o,(AV.ptr b o).known=true)∧(∀cs,(AV.agg cs).known=true))∧
  ((∀a,(AV.str a).cells=[.str a])∧(∀k i,(AV.int k i).cells=[.int k i])∧(∀b o n c,(AV.slice b o n c).cells=[.slice b o n c])∧AV.nilslice.cells=[.nilslice]∧(∀b o,(AV.ptr b o).cells=[.ptr b o])∧∀cs,(AV.agg cs).cells=cs)∧
  ((∀b o n c,(AV.slice b o n c).cellOk=true)∧(∀a,(AV.str a).cellOk=true)∧(∀k i,(AV.int k i).cellOk=true)∧(∀b,(AV.bool b).cellOk=true)∧AV.nilslice.cellOk=true∧∀b o,(AV.ptr b o).cellOk=true):=
 ⟨⟨fun _=>rfl,fun _ _=>rfl,fun _ _ _ _=>rfl,rfl,fun _ _=>rfl,fun _=>rfl⟩,⟨fun _=>rfl,fun _ _=>rfl,fun _ _ _ _=>rfl,rfl,fun _ _=>rfl,fun _=>rfl⟩,⟨fun _ _ _ _=>rfl,fun _=>rfl,fun _ _=>rfl,fun _=>rfl,rfl,fun _ _=>rfl⟩⟩
theorem A6(f:Nat→Bool) (a:List UInt8):(AV.str a).refsOk f=true:=rfl
theorem pO(f:Nat→Bool):Slot.refsOk f .absent=true:=rfl
theorem rS(f:Nat→Bool):AV.nilslice.refsOk f=true∧(∀b o n c,(AV.slice b o n c).refsOk f=f b)∧(∀b o,(AV.ptr b o).refsOk f=f b)∧(∀a,(AV.str a).refsOk f=true)∧(∀k i,(AV.int k i).refsOk f=true)∧(∀b,(AV.bool b).refsOk f=true)∧(∀cs,(AV.agg cs).refsOk f=AV.refsOkL f cs)∧(∀cs,(AV.tuple cs).refsOk f=AV.refsOkL f cs)∧AV.undef.refsOk f=true∧
  Slot.refsOk f .absent=true∧(∀o es cs,Slot.refsOk f (.cells o es cs)=AV.refsOkL f cs):=⟨rfl,fun _ _ _ _=>rfl,fun _ _=>rfl,fun _=>rfl,fun _ _=>rfl,fun _=>rfl,fun _=>rfl,fun _=>rfl,rfl,rfl,fun _ _ _=>rfl⟩
theorem mS:((∀(M X:Mem) k,(M++X)[M.length+k]? =X[k]?)∧(∀M X:Mem,(M++X)[M.length]? =X[0]?)∧(∀(M X:Mem) k s,(M++X).set (M.length+k) s=M++X.set k s)∧(∀(M X:Mem) s,(M++X).set M.length s=M++X.set 0 s)∧(∀(M X:Mem) k,(M++X).drop (M.length+k)=X.drop k)∧(∀M X:Mem,(M++X).drop M.length=X))∧
  ((∀(α:Type) (s:α) l,(s::l)[0]? =some s)∧(∀(α:Type) (s:α) l (i:Nat),(s::l)[i+1]? =l[i]?))∧((∀es cs,bG (.cells true es cs)=true)∧bG .absent=true)∧
  ((∀f i M,aU [] i M (bc f i M)=M)∧(∀i M,aU [] i M M=M)∧(∀f new i M,aU [] i M (bc f i M++new)=M++new)∧(∀new i M,aU [] i M (M++new)=M++new)∧(∀f s M k,aU [k] 0 M ((bc f 0 M).set k s)=M.set k s)∧(∀f s new M k,aU [k] 0 M ((bc f 0 M).set k s++new)=M.set k s++new)∧(∀wr i M,aU wr i [] M=M)∧(∀i s s' r r',aU [] i (s::r) (s' ::r')=s::aU [] (i+1) r r')∧(∀i N X Y,aU [] i (N++X) (N++Y)=N++aU [] (i+N.length) X Y))∧
  ((∀f i M b,(bc f i M)[b]? =(M[b]?).map fun s=>if f (i+b) then s else .absent)∧(∀i M,bc (fun _=>true) i M=M)∧(∀f i M,(bc f i M).length=M.length)∧(∀M lo n,(((bc (fun _=>false) 0 M).drop lo).take n).all qL=true)∧(∀a b:Nat,(a≤b∧b<a)=False)∧(∀a b:Nat,(!decide (a≤b)|| !decide (b<a))=true))∧
  ((∀b o n c,cX (.slice b o n c)=[b])∧cX .nilslice=[])∧(∀bs j acc,oJ bs j acc []=true):=
 ⟨⟨fQ,qR,yK,J6,Qt,Pk⟩,⟨fun _ _ _=>rfl,fun _ _ _ _=>rfl⟩,⟨fun _ _=>rfl,rfl⟩,⟨sB,uV,yM,uU,G8,G9,fun _ _ _=>rfl,sw,yN⟩,⟨qQ,AS,AT,Jk,Ji,LT⟩,⟨fun _ _ _ _=>rfl,rfl⟩,fun _ _ _=>rfl⟩
theorem RowAt.refs{N:Mem}{v:AV}{es n:Nat}{C:List AV}(h:RowAt N v es n C) (j:Nat):AV.refsOk (fun a=>decide (a<N.length+j)) v=true:=by
 rcases h with⟨rfl,_,_⟩ | ⟨b,o,rfl,_,hb⟩
 ·rfl
 ·have:=(List.getElem?_eq_some_iff.1 hb).1
  simp only[AV.refsOk,decide_eq_true_eq];omega
theorem RowAt.off{N:Mem}{v:AV}{es n:Nat}{C:List AV}(h:RowAt N v es n C) (j k:Nat):AV.refsOk (fun b=> !decide (N.length+j≤b)|| !decide (b<N.length+k)) v=true:=AV.refsOk_mono (fun b hb=>by
 simp only[decide_eq_true_eq] at hb
 have:¬N.length+j≤b:=by omega
 simp[this]) v (h.refs 0)
theorem uJ(L n:Nat):(clV L n).known=true:=by unfold clV;split<;>rfl
theorem uI(L n:Nat):(clV L n).cells=[clV L n]:=by unfold clV;split<;>rfl
theorem cA{L n j:Nat}(h:L+2≤j):AV.refsOk (fun a=>decide (a<j)) (clV L n)=true:=Pf (by omega)
theorem AD(n:Nat) (L:List (List UInt8)) (f:Nat→Bool):(clX 1 n (stC L)).refsOk f=true:=pE (fun f=>uo f _) f
theorem AC(n:Nat) (L:List (List UInt8×List UInt8)) (f:Nat→Bool):(clX 2 n (kC L)).refsOk f=true:=pE (fun f=>Nv f _) f
set_option maxRecDepth 16384 in
set_option maxHeartbeats 8000000 in
theorem Mr{N N2:Mem}{l:AV}{n i K m0 m1 kc b1:Nat}{o1:Bool}{D1:List AV}{pv tv E b u kn:AV}{R:Slot}{c:Evc}
  (hlt:i<n) (hn:n≤10) (hl:l=.slice b1 0 n none) (hb1n:N[b1]? =some (.cells o1 32 D1)) (hD:(D1.drop (i*32)).take 32=c.cells b u .nilslice kn) (hD2:i*32+32≤D1.length) (hkc:kc<N.length) (hm0:m0≤kc) (hcell:N[kc]? =some (.cells true 0 [pv,tv,.str ak,E])) (hN2:N2.length=N.length∧N2[kc]? =some (.cells true 0 [pv,tv,.str ak,E]))
  (hB:RowAt N b 1 c.B.length (stC c.B)) (hU:RowAt N u 1 c.U.length (stC c.U)) (hK:RowAt N kn 2 c.K.length (kC c.K)) (hc:c.Ok) (cE:E.cellOk=true) (cpv:pv.cellOk=true) (ctv:tv.cellOk=true) (hwr:(cX E).any (fun b=>decide (b<m0))=false)
  (hap:cU (az Tryz.prog) (N++[.cells true 0 (c.cells (clV (N.length+1) c.B.length) (clV (N.length+3) c.U.length) .nilslice (clV (N.length+5) c.K.length)),.absent,clX 1 c.B.length (stC c.B),.absent,clX 1 c.U.length (stC c.U),.absent,clX 2 c.K.length (kC c.K),.cells true 32 (c.cells (clV (N.length+1) c.B.length) (clV (N.length+3) c.U.length) .nilslice (clV (N.length+5) c.K.length))]) 39 39 E (.slice (N.length+7) 0 1 none)=some (.slice (N.length+8) 0 (i+1) none,N2++[.cells true 0 (c.cells (clV (N.length+1) c.B.length) (clV (N.length+3) c.U.length) .nilslice (clV (N.length+5) c.K.length)),.absent,clX 1 c.B.length (stC c.B),.absent,clX 1 c.U.length (stC c.U),.absent,clX 2 c.K.length (kC c.K),.cells true 32 (c.cells (clV (N.length+1) c.B.length) (clV (N.length+3) c.U.length) .nilslice (clV (N.length+5) c.K.length)),R]))
  {w wi:Code}(hb:am Tryz.f39=[w,wi]) {env0:Env}{d:Bool}(h26:ac env0 26=l) (h27:ac env0 27=.int .i64 n) (h5:ac env0 5=.ptr kc 0):
  ∃s',aO (az Tryz.prog) eI (dR cR) (K+4) 75 m0 true w ⟨ay [28,28,28] (ad w) env0 ((28,.int .i64 (i:Int))::env0),N,d⟩=some (.normal,s')∧nO [28,28,28] (ad w) env0 m1 s' =⟨ay [28,28,28] (ad w) env0 ((28,.int .i64 ((i+1:Nat):Int))::env0),N2.set kc (.cells true 0 [pv,tv,.str ak,.slice (N.length+8) 0 (i+1) none])++[.cells true 0 (c.cells (clV (N.length+1) c.B.length) (clV (N.length+3) c.U.length) .nilslice (clV (N.length+5) c.K.length)),.absent,clX 1 c.B.length (stC c.B),.absent,clX 1 c.U.length (stC c.U),.absent,clX 2 c.K.length (kC c.K),.cells true 32 (c.cells (clV (N.length+1) c.B.length) (clV (N.length+3) c.U.length) .nilslice (clV (N.length+5) c.K.length)),R],d⟩:=by
 obtain⟨os',hops⟩:∃os',aG Tryz.f39=os' :=⟨_,rfl⟩
 have hbs' :=aV hops (ls:=[[0,1,3,7,0,16,48,127,15,271,1023,2047,4095,8191],[0,1,3,7,0,16,48,127,127,383,1023,2047,4095,8191]]) (by kernel_rfl)
 simp only[aG,bC,Tryz.f39,List.nil_append,List.append_nil,List.cons_append] at hops
 subst hops
 simp only[List.map_cons,List.map_nil,List.cons.injEq,and_true] at hbs'
 obtain⟨_,hb1⟩:=hbs'
 simp[am,aJ,Tryz.f39] at hb
 obtain⟨hb,_⟩:=hb
 have w1:IntKind.i64.wrap ((i:Int)+1)=((i+1:Nat):Int):=by rw[al (by omega) (by omega)];omega
 have wz1:IntKind.i64.wrap 1=1:=rfl
 have wz2:IntKind.i64.wrap 2=2:=rfl
 have hjl:∀j,(N.length+j<m0)=False:=fun j=>by rw[eq_iff_iff,iff_false];omega
 have hjl0:(N.length<m0)=False:=by rw[eq_iff_iff,iff_false];omega
 have hc2:∀Z,(N2++Z)[kc]? =some (.cells true 0 [pv,tv,.str ak,E]):=fun Z=>by rw[List.getElem?_append_left (List.getElem?_eq_some_iff.1 hN2.2).1];exact hN2.2
 have hc1:∀Z,(N++Z)[kc]? =some (.cells true 0 [pv,tv,.str ak,E]):=fun Z=>by rw[List.getElem?_append_left hkc];exact hcell
 have hs2:∀Z s,(N2++Z).set kc s=N2.set kc s++Z:=fun Z s=>List.set_append_left _ _ (by rw[hN2.1];exact hkc)
 have hlen2:=hN2.1
 have hkm:¬kc<m0:=by omega
 have eB:=fun Z=>pn (hB.more Z) (by rw[br,Nat.mul_one]) hc.B (nr _)
 have eU:=fun Z=>xo (hU.more Z) (by rw[br,Nat.mul_one]) hc.U (nr _)
 have eK:=fun Z=>By (hK.more Z) (by rw[gr,Nat.mul_comm]) hc.K (G3 _)
 obtain⟨O,hO⟩:∃O,O=dR cR:=⟨_,rfl⟩
 rw[←hO]
 simp only[←hO] at eB eU eK
 simp only[Evc.cells] at hD hap
 subst hb
 subst hl
 simp[-getElem?_pos,-AV.cellOk,-AV.known,-AV.cells,-cX,-bc,-aU,-aF,-AV.refsOk,-Slot.refsOk,-List.all_eq_true,vS,rS,mS,cM,cu hb1,dT,cL,gC,dO,cf,nL,bef,Nat.testBit,bB,ar,-cU,Evc.cells,iA,uJ,uI,cA,kQ,AD,AC,h26,h27,h5,hlt,hb1n,hD,hD2,hc1,hc2,hs2,hkm,hlen2,eB,eU,eK,hap,hwr,w1,wz1,wz2,hjl,hjl0,aC,dS,eI,hB.ck,hB.refs,hB.off,hU.ck,hU.refs,hU.off,hK.ck,hK.refs,hK.off,cE,cpv,ctv]
set_option maxRecDepth 16384 in
set_option maxHeartbeats 8000000 in
theorem Ms{N N2:Mem}{l:AV}{n i K m0 m1 kc b1 bs:Nat}{o1 os:Bool}{D1:List AV}{pv tv E v1 b u kn:AV}{R:Slot}{c:Evc}{L1:List (List UInt8)}
  (hlt:i<n) (hn:n≤10) (hl:l=.slice b1 0 n none) (hb1n:N[b1]? =some (.cells o1 32 D1)) (hD:(D1.drop (i*32)).take 32=c.cells b u (.slice bs 0 1 none) kn) (hD2:i*32+32≤D1.length) (hkc:kc<N.length) (hm0:m0≤kc) (hcell:N[kc]? =some (.cells true 0 [pv,tv,.str ak,E])) (hN2:N2.length=N.length∧N2[kc]? =some (.cells true 0 [pv,tv,.str ak,E]))
  (hB:RowAt N b 1 c.B.length (stC c.B)) (hU:RowAt N u 1 c.U.length (stC c.U)) (hK:RowAt N kn 2 c.K.length (kC c.K)) (hc:c.Ok) (hV1:RowAt N v1 1 L1.length (stC L1)) (hL1:L1.length≤1000) (hbs:N[bs]? =some (.cells os 1 [v1])) (cE:E.cellOk=true) (cpv:pv.cellOk=true) (ctv:tv.cellOk=true) (hwr:(cX E).any (fun b=>decide (b<m0))=false)
  (hap:cU (az Tryz.prog) (N++[.cells true 0 (c.cells (clV (N.length+1) c.B.length) (clV (N.length+3) c.U.length) (.slice (N.length+8) 0 1 none) (clV (N.length+9) c.K.length)),.absent,clX 1 c.B.length (stC c.B),.absent,clX 1 c.U.length (stC c.U),.absent,clX 1 L1.length (stC L1),.cells true 1 [clV (N.length+5) L1.length],.cells true 1 [clV (N.length+5) L1.length],.absent,clX 2 c.K.length (kC c.K),.cells true 32 (c.cells (clV (N.length+1) c.B.length) (clV (N.length+3) c.U.length) (.slice (N.length+8) 0 1 none) (clV (N.length+9) c.K.length))]) 39 39 E (.slice (N.length+11) 0 1 none)=some (.slice (N.length+12) 0 (i+1) none,N2++[.cells true 0 (c.cells (clV (N.length+1) c.B.length) (clV (N.length+3) c.U.length) (.slice (N.length+8) 0 1 none) (clV (N.length+9) c.K.length)),.absent,clX 1 c.B.length (stC c.B),.absent,clX 1 c.U.length (stC c.U),.absent,clX 1 L1.length (stC L1),.cells true 1 [clV (N.length+5) L1.length],.cells true 1 [clV (N.length+5) L1.length],.absent,clX 2 c.K.length (kC c.K),.cells true 32 (c.cells (clV (N.length+1) c.B.length) (clV (N.length+3) c.U.length) (.slice (N.length+8) 0 1 none) (clV (N.length+9) c.K.length)),R]))
  {w wi:Code}(hb:am Tryz.f39=[w,wi]) {env0:Env}{d:Bool}(h26:ac env0 26=l) (h27:ac env0 27=.int .i64 n) (h5:ac env0 5=.ptr kc 0):
  ∃s',aO (az Tryz.prog) eI (dR cR) (K+4) 75 m0 true w ⟨ay [28,28,28] (ad w) env0 ((28,.int .i64 (i:Int))::env0),N,d⟩=some (.normal,s')∧nO [28,28,28] (ad w) env0 m1 s' =⟨ay [28,28,28] (ad w) env0 ((28,.int .i64 ((i+1:Nat):Int))::env0),N2.set kc (.cells true 0 [pv,tv,.str ak,.slice (N.length+12) 0 (i+1) none])++[.cells true 0 (c.cells (clV (N.length+1) c.B.length) (clV (N.length+3) c.U.length) (.slice (N.length+8) 0 1 none) (clV (N.length+9) c.K.length)),.absent,clX 1 c.B.length (stC c.B),.absent,clX 1 c.U.length (stC c.U),.absent,clX 1 L1.length (stC L1),.cells true 1 [clV (N.length+5) L1.length],.cells true 1 [clV (N.length+5) L1.length],.absent,clX 2 c.K.length (kC c.K),.cells true 32 (c.cells (clV (N.length+1) c.B.length) (clV (N.length+3) c.U.length) (.slice (N.length+8) 0 1 none) (clV (N.length+9) c.K.length)),R],d⟩:=by
 obtain⟨os',hops⟩:∃os',aG Tryz.f39=os' :=⟨_,rfl⟩
 have hbs' :=aV hops (ls:=[[0,1,3,7,0,16,48,127,15,271,1023,2047,4095,8191],[0,1,3,7,0,16,48,127,127,383,1023,2047,4095,8191]]) (by kernel_rfl)
 simp only[aG,bC,Tryz.f39,List.nil_append,List.append_nil,List.cons_append] at hops
 subst hops
 simp only[List.map_cons,List.map_nil,List.cons.injEq,and_true] at hbs'
 obtain⟨_,hb1⟩:=hbs'
 simp[am,aJ,Tryz.f39] at hb
 obtain⟨hb,_⟩:=hb
 have w1:IntKind.i64.wrap ((i:Int)+1)=((i+1:Nat):Int):=by rw[al (by omega) (by omega)];omega
 have wz1:IntKind.i64.wrap 1=1:=rfl
 have wz2:IntKind.i64.wrap 2=2:=rfl
 have hjl:∀j,(N.length+j<m0)=False:=fun j=>by rw[eq_iff_iff,iff_false];omega
 have hjl0:(N.length<m0)=False:=by rw[eq_iff_iff,iff_false];omega
 have hc2:∀Z,(N2++Z)[kc]? =some (.cells true 0 [pv,tv,.str ak,E]):=fun Z=>by rw[List.getElem?_append_left (List.getElem?_eq_some_iff.1 hN2.2).1];exact hN2.2
 have hc1:∀Z,(N++Z)[kc]? =some (.cells true 0 [pv,tv,.str ak,E]):=fun Z=>by rw[List.getElem?_append_left hkc];exact hcell
 have hs2:∀Z s,(N2++Z).set kc s=N2.set kc s++Z:=fun Z s=>List.set_append_left _ _ (by rw[hN2.1];exact hkc)
 have hlen2:=hN2.1
 have hkm:¬kc<m0:=by omega
 have eB:=fun Z=>pn (hB.more Z) (by rw[br,Nat.mul_one]) hc.B (nr _)
 have eU:=fun Z=>xo (hU.more Z) (by rw[br,Nat.mul_one]) hc.U (nr _)
 have eK:=fun Z=>By (hK.more Z) (by rw[gr,Nat.mul_comm]) hc.K (G3 _)
 have e1:=fun Z=>pn (hV1.more Z) (by rw[br,Nat.mul_one]) hL1 (nr _)
 have hbsn:∀Z,(N++Z)[bs]? =some (.cells os 1 [v1]):=fun Z=>by rw[List.getElem?_append_left (List.getElem?_eq_some_iff.1 hbs).1];exact hbs
 have lbs:=(List.getElem?_eq_some_iff.1 hbs).1
 have hbs2:∀j,(bs<N.length+j)=True:=fun j=>by rw[eq_iff_iff,iff_true];omega
 have ap1:cU (az Tryz.prog) (N++[.cells true 0 (c.cells (clV (N.length+1) c.B.length) (clV (N.length+3) c.U.length) (.slice bs 0 1 none) kn),.absent,clX 1 c.B.length (stC c.B),.absent,clX 1 c.U.length (stC c.U),.absent,clX 1 L1.length (stC L1),.cells true 1 [clV (N.length+5) L1.length]]) 46 46 .nilslice (.slice (N.length+7) 0 1 none)=some (.slice (N.length+8) 0 1 none,N++[.cells true 0 (c.cells (clV (N.length+1) c.B.length) (clV (N.length+3) c.U.length) (.slice bs 0 1 none) kn),.absent,clX 1 c.B.length (stC c.B),.absent,clX 1 c.U.length (stC c.U),.absent,clX 1 L1.length (stC L1),.cells true 1 [clV (N.length+5) L1.length],.cells true 1 [clV (N.length+5) L1.length]]):=by
  simp[-AV.cellOk,-AV.known,-AV.cells,iA,uJ,uI,nl]
 obtain⟨O,hO⟩:∃O,O=dR cR:=⟨_,rfl⟩
 rw[←hO]
 simp only[←hO] at eB eU eK e1
 simp only[Evc.cells] at hD hap ap1
 subst hb
 subst hl
 simp[-getElem?_pos,-AV.cellOk,-AV.known,-AV.cells,-cX,-bc,-aU,-aF,-AV.refsOk,-Slot.refsOk,-List.all_eq_true,vS,rS,mS,cM,cu hb1,dT,cL,gC,dO,cf,nL,bef,Nat.testBit,bB,ar,-cU,Evc.cells,iA,uJ,uI,cA,kQ,AD,AC,h26,h27,h5,hlt,hb1n,hD,hD2,hc1,hc2,hs2,hkm,hlen2,eB,eU,eK,e1,ap1,hbsn,hbs2,hap,hwr,w1,wz1,wz2,hjl,hjl0,aC,dS,eI,hB.ck,hB.refs,hB.off,hU.ck,hU.refs,hU.off,hK.ck,hK.refs,hK.off,hV1.ck,hV1.refs,hV1.off,cE,cpv,ctv]
set_option maxRecDepth 16384 in
set_option maxHeartbeats 8000000 in
theorem Mt{N N2:Mem}{l:AV}{n i K m0 m1 kc b1 bs:Nat}{o1 os:Bool}{D1:List AV}{pv tv E v1 v2 b u kn:AV}{R:Slot}{c:Evc}{L1 L2:List (List UInt8)}
  (hlt:i<n) (hn:n≤10) (hl:l=.slice b1 0 n none) (hb1n:N[b1]? =some (.cells o1 32 D1)) (hD:(D1.drop (i*32)).take 32=c.cells b u (.slice bs 0 2 none) kn) (hD2:i*32+32≤D1.length) (hkc:kc<N.length) (hm0:m0≤kc) (hcell:N[kc]? =some (.cells true 0 [pv,tv,.str ak,E])) (hN2:N2.length=N.length∧N2[kc]? =some (.cells true 0 [pv,tv,.str ak,E]))
  (hB:RowAt N b 1 c.B.length (stC c.B)) (hU:RowAt N u 1 c.U.length (stC c.U)) (hK:RowAt N kn 2 c.K.length (kC c.K)) (hc:c.Ok) (hV1:RowAt N v1 1 L1.length (stC L1)) (hL1:L1.length≤1000) (hV2:RowAt N v2 1 L2.length (stC L2)) (hL2:L2.length≤1000) (hbs:N[bs]? =some (.cells os 1 [v1,v2])) (cE:E.cellOk=true) (cpv:pv.cellOk=true) (ctv:tv.cellOk=true) (hwr:(cX E).any (fun b=>decide (b<m0))=false)
  (hap:cU (az Tryz.prog) (N++[.cells true 0 (c.cells (clV (N.length+1) c.B.length) (clV (N.length+3) c.U.length) (.slice (N.length+12) 0 2 none) (clV (N.length+13) c.K.length)),.absent,clX 1 c.B.length (stC c.B),.absent,clX 1 c.U.length (stC c.U),.absent,clX 1 L1.length (stC L1),.cells true 1 [clV (N.length+5) L1.length],.absent,.absent,clX 1 L2.length (stC L2),.cells true 1 [clV (N.length+9) L2.length],.cells true 1 [clV (N.length+5) L1.length,clV (N.length+9) L2.length],.absent,clX 2 c.K.length (kC c.K),.cells true 32 (c.cells (clV (N.length+1) c.B.length) (clV (N.length+3) c.U.length) (.slice (N.length+12) 0 2 none) (clV (N.length+13) c.K.length))]) 39 39 E (.slice (N.length+15) 0 1 none)=some (.slice (N.length+16) 0 (i+1) none,N2++[.cells true 0 (c.cells (clV (N.length+1) c.B.length) (clV (N.length+3) c.U.length) (.slice (N.length+12) 0 2 none) (clV (N.length+13) c.K.length)),.absent,clX 1 c.B.length (stC c.B),.absent,clX 1 c.U.length (stC c.U),.absent,clX 1 L1.length (stC L1),.cells true 1 [clV (N.length+5) L1.length],.absent,.absent,clX 1 L2.length (stC L2),.cells true 1 [clV (N.length+9) L2.length],.cells true 1 [clV (N.length+5) L1.length,clV (N.length+9) L2.length],.absent,clX 2 c.K.length (kC c.K),.cells true 32 (c.cells (clV (N.length+1) c.B.length) (clV (N.length+3) c.U.length) (.slice (N.length+12) 0 2 none) (clV (N.length+13) c.K.length)),R]))
  {w wi:Code}(hb:am Tryz.f39=[w,wi]) {env0:Env}{d:Bool}(h26:ac env0 26=l) (h27:ac env0 27=.int .i64 n) (h5:ac env0 5=.ptr kc 0):
  ∃s',aO (az Tryz.prog) eI (dR cR) (K+4) 75 m0 true w ⟨ay [28,28,28] (ad w) env0 ((28,.int .i64 (i:Int))::env0),N,d⟩=some (.normal,s')∧nO [28,28,28] (ad w) env0 m1 s' =⟨ay [28,28,28] (ad w) env0 ((28,.int .i64 ((i+1:Nat):Int))::env0),N2.set kc (.cells true 0 [pv,tv,.str ak,.slice (N.length+16) 0 (i+1) none])++[.cells true 0 (c.cells (clV (N.length+1) c.B.length) (clV (N.length+3) c.U.length) (.slice (N.length+12) 0 2 none) (clV (N.length+13) c.K.length)),.absent,clX 1 c.B.length (stC c.B),.absent,clX 1 c.U.length (stC c.U),.absent,clX 1 L1.length (stC L1),.cells true 1 [clV (N.length+5) L1.length],.absent,.absent,clX 1 L2.length (stC L2),.cells true 1 [clV (N.length+9) L2.length],.cells true 1 [clV (N.length+5) L1.length,clV (N.length+9) L2.length],.absent,clX 2 c.K.length (kC c.K),.cells true 32 (c.cells (clV (N.length+1) c.B.length) (clV (N.length+3) c.U.length) (.slice (N.length+12) 0 2 none) (clV (N.length+13) c.K.length)),R],d⟩:=by
 obtain⟨os',hops⟩:∃os',aG Tryz.f39=os' :=⟨_,rfl⟩
 have hbs' :=aV hops (ls:=[[0,1,3,7,0,16,48,127,15,271,1023,2047,4095,8191],[0,1,3,7,0,16,48,127,127,383,1023,2047,4095,8191]]) (by kernel_rfl)
 simp only[aG,bC,Tryz.f39,List.nil_append,List.append_nil,List.cons_append] at hops
 subst hops
 simp only[List.map_cons,List.map_nil,List.cons.injEq,and_true] at hbs'
 obtain⟨_,hb1⟩:=hbs'
 simp[am,aJ,Tryz.f39] at hb
 obtain⟨hb,_⟩:=hb
 have w1:IntKind.i64.wrap ((i:Int)+1)=((i+1:Nat):Int):=by rw[al (by omega) (by omega)];omega
 have wz1:IntKind.i64.wrap 1=1:=rfl
 have wz2:IntKind.i64.wrap 2=2:=rfl
 have hjl:∀j,(N.length+j<m0)=False:=fun j=>by rw[eq_iff_iff,iff_false];omega
 have hjl0:(N.length<m0)=False:=by rw[eq_iff_iff,iff_false];omega
 have hc2:∀Z,(N2++Z)[kc]? =some (.cells true 0 [pv,tv,.str ak,E]):=fun Z=>by rw[List.getElem?_append_left (List.getElem?_eq_some_iff.1 hN2.2).1];exact hN2.2
 have hc1:∀Z,(N++Z)[kc]? =some (.cells true 0 [pv,tv,.str ak,E]):=fun Z=>by rw[List.getElem?_append_left hkc];exact hcell
 have hs2:∀Z s,(N2++Z).set kc s=N2.set kc s++Z:=fun Z s=>List.set_append_left _ _ (by rw[hN2.1];exact hkc)
 have hlen2:=hN2.1
 have hkm:¬kc<m0:=by omega
 have eB:=fun Z=>pn (hB.more Z) (by rw[br,Nat.mul_one]) hc.B (nr _)
 have eU:=fun Z=>xo (hU.more Z) (by rw[br,Nat.mul_one]) hc.U (nr _)
 have eK:=fun Z=>By (hK.more Z) (by rw[gr,Nat.mul_comm]) hc.K (G3 _)
 have e1:=fun Z=>pn (hV1.more Z) (by rw[br,Nat.mul_one]) hL1 (nr _)
 have e2:=fun Z=>pn (hV2.more Z) (by rw[br,Nat.mul_one]) hL2 (nr _)
 have hbsn:∀Z,(N++Z)[bs]? =some (.cells os 1 [v1,v2]):=fun Z=>by rw[List.getElem?_append_left (List.getElem?_eq_some_iff.1 hbs).1];exact hbs
 have lbs:=(List.getElem?_eq_some_iff.1 hbs).1
 have hbs2:∀j,(bs<N.length+j)=True:=fun j=>by rw[eq_iff_iff,iff_true];omega
 have ap1:cU (az Tryz.prog) (N++[.cells true 0 (c.cells (clV (N.length+1) c.B.length) (clV (N.length+3) c.U.length) (.slice bs 0 2 none) kn),.absent,clX 1 c.B.length (stC c.B),.absent,clX 1 c.U.length (stC c.U),.absent,clX 1 L1.length (stC L1),.cells true 1 [clV (N.length+5) L1.length]]) 46 46 .nilslice (.slice (N.length+7) 0 1 none)=some (.slice (N.length+8) 0 1 none,N++[.cells true 0 (c.cells (clV (N.length+1) c.B.length) (clV (N.length+3) c.U.length) (.slice bs 0 2 none) kn),.absent,clX 1 c.B.length (stC c.B),.absent,clX 1 c.U.length (stC c.U),.absent,clX 1 L1.length (stC L1),.cells true 1 [clV (N.length+5) L1.length],.cells true 1 [clV (N.length+5) L1.length]]):=by
  simp[-AV.cellOk,-AV.known,-AV.cells,iA,uJ,uI,nl]
 have ap2:cU (az Tryz.prog) (N++[.cells true 0 (c.cells (clV (N.length+1) c.B.length) (clV (N.length+3) c.U.length) (.slice bs 0 2 none) kn),.absent,clX 1 c.B.length (stC c.B),.absent,clX 1 c.U.length (stC c.U),.absent,clX 1 L1.length (stC L1),.cells true 1 [clV (N.length+5) L1.length],.cells true 1 [clV (N.length+5) L1.length],.absent,clX 1 L2.length (stC L2),.cells true 1 [clV (N.length+9) L2.length]]) 46 46 (.slice (N.length+8) 0 1 none) (.slice (N.length+11) 0 1 none)=some (.slice (N.length+12) 0 2 none,N++[.cells true 0 (c.cells (clV (N.length+1) c.B.length) (clV (N.length+3) c.U.length) (.slice bs 0 2 none) kn),.absent,clX 1 c.B.length (stC c.B),.absent,clX 1 c.U.length (stC c.U),.absent,clX 1 L1.length (stC L1),.cells true 1 [clV (N.length+5) L1.length],.absent,.absent,clX 1 L2.length (stC L2),.cells true 1 [clV (N.length+9) L2.length],.cells true 1 [clV (N.length+5) L1.length,clV (N.length+9) L2.length]]):=by
  simp[-AV.cellOk,-AV.known,-AV.cells,iA,uJ,uI,nl]
 obtain⟨O,hO⟩:∃O,O=dR cR:=⟨_,rfl⟩
 rw[←hO]
 simp only[←hO] at eB eU eK e1 e2
 simp only[Evc.cells] at hD hap ap1 ap2
 subst hb
 subst hl
 simp[-getElem?_pos,-AV.cellOk,-AV.known,-AV.cells,-cX,-bc,-aU,-aF,-AV.refsOk,-Slot.refsOk,-List.all_eq_true,vS,rS,mS,cM,cu hb1,dT,cL,gC,dO,cf,nL,bef,Nat.testBit,bB,ar,-cU,Evc.cells,iA,uJ,uI,cA,kQ,AD,AC,h26,h27,h5,hlt,hb1n,hD,hD2,hc1,hc2,hs2,hkm,hlen2,eB,eU,eK,e1,e2,ap1,ap2,hbsn,hbs2,hap,hwr,w1,wz1,wz2,hjl,hjl0,aC,dS,eI,hB.ck,hB.refs,hB.off,hU.ck,hU.refs,hU.off,hK.ck,hK.refs,hK.off,hV1.ck,hV1.refs,hV1.off,hV2.ck,hV2.refs,hV2.off,cE,cpv,ctv]
end Go.Proofs
