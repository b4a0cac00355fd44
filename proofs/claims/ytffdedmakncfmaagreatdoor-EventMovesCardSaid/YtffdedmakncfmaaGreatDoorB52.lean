/- See B54. -/
import Derived.Test.YtffdedmakncfmaaGreatDoorB51
set_option linter.all false
set_option maxRecDepth 100000
set_option maxHeartbeats 40000000
namespace Go.Proofs
open Go.Eng
open Tryz
def mvM(s:afh)(C:List AV)(y d1 H d2 I d3:Int):Mem:=[.cells true 0 [.int .u8 s.kind,.int .i8 s.sx,.int .i8 s.sy,.bool s.half],.cells true 0 C,.cells true 0 [.int .i16 y,.int .u8 d1,.int .i16 H,.int .u8 d2,.int .i16 I,.int .u8 d3],.cells true 2 (pC s.P),.cells true 3 (tC s.T),.cells true 0 [.slice 3 0 s.P.length none,.slice 4 0 s.T.length none]]
def mvN(s:afh)(C:List AV)(y d1 H d2 I d3:Int)(J:Mem):Mem:=mvM s C y d1 H d2 I d3++J
theorem ni{f g:FuncId}{a b:List AV}{p:Mem→Prop}{r:y9}{m:Mem}{L:List (FuncId×List AV×(Mem→Prop)×y9)}(h:b≠a):cJ ((f,a,p,r)::L) (.fn g) b m=cJ L (.fn g) b m:=by rw[cJ,if_neg (fun e=>h e.2.1)]
theorem iL:(aJ f3).map (fun o=>dW o.toList)=[[0,0,3,0,15,0,0,127,255],[0,1,3,7,15,31,63,127,127,127,127,1919,4095,8191,16383,32767,32767,32767,32767,491519,1048575,2097151,4194303]]:=by kernel_rfl
theorem agF:aT prog 3=some f3:=by kernel_rfl
theorem agG:dS [0,1,3,7,15,31,63,127,127,127,127,1919,4095,8191,16383,32767,32767,32767,32767,491519,1048575,2097151,4194303] 22=true:=by decide
section
variable (s:afh)(hs:s.Ok)(C ev:List AV)(hC:C.length=34)(hCc:AV.ae8 C=true)(hl:ev.length=32)(ZB:∀x∈ev,x.ae9=true)(n0:Nat)(p1 d1 p2 d2 p3 d3:Int)(p:V3)
include s hs C ev hC hCc hl ZB n0 p1 d1 p2 d2 p3 d3 p
theorem xA(y:∀i,AV.afa (fun b=>decide (b<6+i)) ev=true)(I:∀M,kO prog 9 [.agg [.int .i16 p1,.int .u8 d1,.int .i16 p2,.int .u8 d2,.int .i16 p3,.int .u8 d3]] M (vA p) M)(H:kO prog 8 [kj s 3 4,.agg C,.str [110]] (mvM s C p1 d1 p2 d2 p3 d3) (.agg ev) ((mvM s C p1 d1 p2 d2 p3 d3)++[]))(hG:fl (mvN s C p1 d1 p2 d2 p3 d3 []) (kj s 3 4) ev p):
  kO prog 3 [s.av,.agg C,.agg [.int .i16 p1,.int .u8 d1,.int .i16 p2,.int .u8 d2,.int .i16 p3,.int .u8 d3]] [] (.bool true) []:=by
 have r0:=cp hCc;have o0:=dc hCc;have pO:=fun f=>dc (dY s.P) f
 have tO:=fun f=>dc (fC s.T) f
 have N:AV.afa (fun b=>decide (b<6)) ev=true:=y 0;have ev1:AV.afa (fun b=>decide (b<7)) ev=true:=y 1;have K:AV.afa (fun b=>decide (b<8)) ev=true:=y 2;have ev3:AV.afa (fun b=>decide (b<9)) ev=true:=y 3;have G:AV.afa (fun b=>decide (b<10)) ev=true:=y 4;have ev5:AV.afa (fun b=>decide (b<11)) ev=true:=y 5;have t34:C.take 34=C:=List.take_of_length_le (by omega);have t32:ev.take 32=ev:=List.take_of_length_le (by omega);have g1:ev.all AV.ae9=true:=List.all_eq_true.2 ZB;obtain⟨R,Q,⟨J,h2⟩,h3,h4⟩:=hG;obtain⟨L,X⟩:=xE (α:=List (FuncId×List AV×(Mem→Prop)×y9)) [(6,[],(fun _=>True),⟨.bool true,none,[]⟩),(7,[s.av],(fun M=>M.length=3),⟨kj s 3 4,none,[.cells true 2 (pC s.P),.cells true 3 (tC s.T)]⟩),(8,[kj s 3 4,.agg C,.str [110]],(fun M=>M=(mvM s C p1 d1 p2 d2 p3 d3)),⟨.agg ev,none,[]⟩),(9,[.agg [.int .i16 p1,.int .u8 d1,.int .i16 p2,.int .u8 d2,.int .i16 p3,.int .u8 d3]],(fun _=>True),⟨vA p,none,[]⟩),(10,[kj s 3 4,.agg ev,vA p],(fun M=>∃Z,M=(mvN s C p1 d1 p2 d2 p3 d3 [])++Z),⟨.tuple [vA R,.int .i64 0],none,[]⟩),(11,[kj s 3 4,.agg ev,vA p],(fun M=>∃Z,M=(mvN s C p1 d1 p2 d2 p3 d3 [])++Z),⟨.tuple [vA Q,.int .i64 0],none,[]⟩),(12,[kj s 3 4,.agg ev,vA p,.bool false],(fun M=>∃Z,M=(mvN s C p1 d1 p2 d2 p3 d3 [])++Z),⟨vA R,none,[]⟩),(12,[kj s 3 4,.agg ev,vA p,.bool true],(fun M=>∃Z,M=(mvN s C p1 d1 p2 d2 p3 d3 [])++Z),⟨vA Q,none,[]⟩)];have hO:qS prog (cJ L):=pf fun z F M V=>by
  rw[X] at F;simp only[lM] at F;rcases F with rfl | rfl | rfl | rfl | rfl | rfl | rfl | rfl
  ·exact aF (kL M)
  ·have V:M.length=3:=V
   have:=kM s hs M;rw[V] at this;exact aw this
  ·have V:M=_:=V
   rw[V];exact aw H
  ·exact aF (I M)
  ·obtain⟨Z,rfl⟩:=V
   exact aF (J Z)
  ·obtain⟨Z,rfl⟩:=V
   exact aF (h2 Z)
  ·obtain⟨Z,rfl⟩:=V
   exact aF (h3 Z)
  ·obtain⟨Z,rfl⟩:=V
   exact aF (h4 Z)
 have e1:∀M,cJ L (.fn 6) [] M=some ⟨.bool true,none,[]⟩:=fun M=>by rw[X];exact bz trivial
 have e2:∀M:Mem,M.length=3→cJ L (.fn 7) [.agg [.int .u8 s.kind,.int .i8 s.sx,.int .i8 s.sy,.bool s.half]] M=some ⟨.agg [.slice 3 0 s.P.length none,.slice 4 0 s.T.length none],none,[.cells true 2 (pC s.P),.cells true 3 (tC s.T)]⟩:=fun M H=>by rw[X,ag (.inl (by decide))];exact bz H
 have e3:cJ L (.fn 8) [.agg [.slice 3 0 s.P.length none,.slice 4 0 s.T.length none],.agg C,.str [110]] [.cells true 0 [.int .u8 s.kind,.int .i8 s.sx,.int .i8 s.sy,.bool s.half],.cells true 0 C,.cells true 0 [.int .i16 p1,.int .u8 d1,.int .i16 p2,.int .u8 d2,.int .i16 p3,.int .u8 d3],.cells true 2 (pC s.P),.cells true 3 (tC s.T),.cells true 0 [.slice 3 0 s.P.length none,.slice 4 0 s.T.length none]]=some ⟨.agg ev,none,[]⟩:=by rw[X,ag (.inl (by decide)),ag (.inl (by decide))];exact bz rfl
 have D:∀M,cJ L (.fn 9) [.agg [.int .i16 p1,.int .u8 d1,.int .i16 p2,.int .u8 d2,.int .i16 p3,.int .u8 d3]] M=some ⟨vA p,none,[]⟩:=fun M=>by rw[X,ag (.inl (by decide)),ag (.inl (by decide)),ag (.inl (by decide))];exact bz trivial
 have B:∀Z,cJ L (.fn 10) [.agg [.slice 3 0 s.P.length none,.slice 4 0 s.T.length none],.agg ev,vA p] (.cells true 0 [.int .u8 s.kind,.int .i8 s.sx,.int .i8 s.sy,.bool s.half]::.cells true 0 C::.cells true 0 [.int .i16 p1,.int .u8 d1,.int .i16 p2,.int .u8 d2,.int .i16 p3,.int .u8 d3]::.cells true 2 (pC s.P)::.cells true 3 (tC s.T)::.cells true 0 [.slice 3 0 s.P.length none,.slice 4 0 s.T.length none]::Z)=some ⟨.tuple [vA R,.int .i64 0],none,[]⟩:=fun Z=>by rw[X,ag (.inl (by decide)),ag (.inl (by decide)),ag (.inl (by decide)),ag (.inl (by decide))];exact bz ⟨Z,rfl⟩
 have u:∀Z,cJ L (.fn 11) [.agg [.slice 3 0 s.P.length none,.slice 4 0 s.T.length none],.agg ev,vA p] (.cells true 0 [.int .u8 s.kind,.int .i8 s.sx,.int .i8 s.sy,.bool s.half]::.cells true 0 C::.cells true 0 [.int .i16 p1,.int .u8 d1,.int .i16 p2,.int .u8 d2,.int .i16 p3,.int .u8 d3]::.cells true 2 (pC s.P)::.cells true 3 (tC s.T)::.cells true 0 [.slice 3 0 s.P.length none,.slice 4 0 s.T.length none]::Z)=some ⟨.tuple [vA Q,.int .i64 0],none,[]⟩:=fun Z=>by rw[X,ag (.inl (by decide)),ag (.inl (by decide)),ag (.inl (by decide)),ag (.inl (by decide)),ag (.inl (by decide))];exact bz ⟨Z,rfl⟩
 have o:∀Z,cJ L (.fn 12) [.agg [.slice 3 0 s.P.length none,.slice 4 0 s.T.length none],.agg ev,vA p,.bool false] (.cells true 0 [.int .u8 s.kind,.int .i8 s.sx,.int .i8 s.sy,.bool s.half]::.cells true 0 C::.cells true 0 [.int .i16 p1,.int .u8 d1,.int .i16 p2,.int .u8 d2,.int .i16 p3,.int .u8 d3]::.cells true 2 (pC s.P)::.cells true 3 (tC s.T)::.cells true 0 [.slice 3 0 s.P.length none,.slice 4 0 s.T.length none]::Z)=some ⟨vA R,none,[]⟩:=fun Z=>by rw[X,ag (.inl (by decide)),ag (.inl (by decide)),ag (.inl (by decide)),ag (.inl (by decide)),ag (.inl (by decide)),ag (.inl (by decide))];exact bz ⟨Z,rfl⟩
 have m:∀Z,cJ L (.fn 12) [.agg [.slice 3 0 s.P.length none,.slice 4 0 s.T.length none],.agg ev,vA p,.bool true] (.cells true 0 [.int .u8 s.kind,.int .i8 s.sx,.int .i8 s.sy,.bool s.half]::.cells true 0 C::.cells true 0 [.int .i16 p1,.int .u8 d1,.int .i16 p2,.int .u8 d2,.int .i16 p3,.int .u8 d3]::.cells true 2 (pC s.P)::.cells true 3 (tC s.T)::.cells true 0 [.slice 3 0 s.P.length none,.slice 4 0 s.T.length none]::Z)=some ⟨vA Q,none,[]⟩:=fun Z=>by rw[X,ag (.inl (by decide)),ag (.inl (by decide)),ag (.inl (by decide)),ag (.inl (by decide)),ag (.inl (by decide)),ag (.inl (by decide)),ni (by simp)];exact bz ⟨Z,rfl⟩
 have eV:∀a b c,jy (ba prog) 20 54 (.agg [.str a,.str b,.str c]) (.agg [.str a,.str b,.str c])=some true:=fun a b c=>fU (d:=18) a b c
 obtain⟨O,U⟩:=xE (cJ L);rw[←U] at hO e1 e2 e3 D B u o m;clear U X J h2 h3 h4 H I;unfold vA at D B u o m;obtain⟨os,j⟩:∃os,aJ f3=os:=⟨_,rfl⟩
 have IR:=cw j iL;simp only[aJ,bU,f3,lA] at j;subst j;simp only[lB] at IR;obtain⟨H',Y⟩:=IR;have W:∃S,dI (ba prog) (fun _=>[]) (aT prog) O 1 3 [s.av,.agg C,.agg [.int .i16 p1,.int .u8 d1,.int .i16 p2,.int .u8 d2,.int .i16 p3,.int .u8 d3]] []=some (.bool true,[]++S):=by simp (maxSteps:=1000000) [-AV.ae9,-AV.known,-List.all_eq_true,vS,dI,agF,f3,afh.av,e1,e2,e3,D,B,u,o,m,eV,hC,o0,N,K,G,t34,t32,hl,g1,-aK,bT H',aq Y,bm,aZ,bl,agG,dG,dP,fQ,dJ,dT,kk,bef,lQ,Nat.testBit]
 obtain⟨S,W⟩:=W;exact kO.forget rfl (cV aj (aI _) hO (aP _) W)
theorem Qe(K:List AV)(I:AV.ae8 K=true)(y:∀i,AV.afa (fun b=>decide (b<7+i)) ev=true)(hP:∀M,kO prog 9 [.agg [.int .i16 p1,.int .u8 d1,.int .i16 p2,.int .u8 d2,.int .i16 p3,.int .u8 d3]] M (vA p) M)(H:kO prog 8 [kj s 3 4,.agg C,.str [110]] (mvM s C p1 d1 p2 d2 p3 d3) (.agg ev) ((mvM s C p1 d1 p2 d2 p3 d3)++[.cells true 2 K]))(hG:fl (mvN s C p1 d1 p2 d2 p3 d3 [.cells true 2 K]) (kj s 3 4) ev p):
  kO prog 3 [s.av,.agg C,.agg [.int .i16 p1,.int .u8 d1,.int .i16 p2,.int .u8 d2,.int .i16 p3,.int .u8 d3]] [] (.bool true) []:=by
 have r0:=cp hCc;have o0:=dc hCc;have pO:=fun f=>dc (dY s.P) f
 have tO:=fun f=>dc (fC s.T) f
 have rK:=cp I;have oK:=dc I;have N:AV.afa (fun b=>decide (b<7)) ev=true:=y 0;have ev1:AV.afa (fun b=>decide (b<8)) ev=true:=y 1;have G:AV.afa (fun b=>decide (b<9)) ev=true:=y 2;have ev3:AV.afa (fun b=>decide (b<10)) ev=true:=y 3;have F:AV.afa (fun b=>decide (b<11)) ev=true:=y 4;have ev5:AV.afa (fun b=>decide (b<12)) ev=true:=y 5;have t34:C.take 34=C:=List.take_of_length_le (by omega);have t32:ev.take 32=ev:=List.take_of_length_le (by omega);have g1:ev.all AV.ae9=true:=List.all_eq_true.2 ZB;obtain⟨R,Q,⟨h1,h2⟩,h3,h4⟩:=hG;obtain⟨L,X⟩:=xE (α:=List (FuncId×List AV×(Mem→Prop)×y9)) [(6,[],(fun _=>True),⟨.bool true,none,[]⟩),(7,[s.av],(fun M=>M.length=3),⟨kj s 3 4,none,[.cells true 2 (pC s.P),.cells true 3 (tC s.T)]⟩),(8,[kj s 3 4,.agg C,.str [110]],(fun M=>M=(mvM s C p1 d1 p2 d2 p3 d3)),⟨.agg ev,none,[.cells true 2 K]⟩),(9,[.agg [.int .i16 p1,.int .u8 d1,.int .i16 p2,.int .u8 d2,.int .i16 p3,.int .u8 d3]],(fun _=>True),⟨vA p,none,[]⟩),(10,[kj s 3 4,.agg ev,vA p],(fun M=>∃Z,M=(mvN s C p1 d1 p2 d2 p3 d3 [.cells true 2 K])++Z),⟨.tuple [vA R,.int .i64 0],none,[]⟩),(11,[kj s 3 4,.agg ev,vA p],(fun M=>∃Z,M=(mvN s C p1 d1 p2 d2 p3 d3 [.cells true 2 K])++Z),⟨.tuple [vA Q,.int .i64 0],none,[]⟩),(12,[kj s 3 4,.agg ev,vA p,.bool false],(fun M=>∃Z,M=(mvN s C p1 d1 p2 d2 p3 d3 [.cells true 2 K])++Z),⟨vA R,none,[]⟩),(12,[kj s 3 4,.agg ev,vA p,.bool true],(fun M=>∃Z,M=(mvN s C p1 d1 p2 d2 p3 d3 [.cells true 2 K])++Z),⟨vA Q,none,[]⟩)];have hO:qS prog (cJ L):=pf fun z D M V=>by
  rw[X] at D;simp only[lM] at D;rcases D with rfl | rfl | rfl | rfl | rfl | rfl | rfl | rfl
  ·exact aF (kL M)
  ·have V:M.length=3:=V
   have:=kM s hs M;rw[V] at this;exact aw this
  ·have V:M=_:=V
   rw[V];exact aw H
  ·exact aF (hP M)
  ·obtain⟨Z,rfl⟩:=V
   exact aF (h1 Z)
  ·obtain⟨Z,rfl⟩:=V
   exact aF (h2 Z)
  ·obtain⟨Z,rfl⟩:=V
   exact aF (h3 Z)
  ·obtain⟨Z,rfl⟩:=V
   exact aF (h4 Z)
 have e1:∀M,cJ L (.fn 6) [] M=some ⟨.bool true,none,[]⟩:=fun M=>by rw[X];exact bz trivial
 have e2:∀M:Mem,M.length=3→cJ L (.fn 7) [.agg [.int .u8 s.kind,.int .i8 s.sx,.int .i8 s.sy,.bool s.half]] M=some ⟨.agg [.slice 3 0 s.P.length none,.slice 4 0 s.T.length none],none,[.cells true 2 (pC s.P),.cells true 3 (tC s.T)]⟩:=fun M H=>by rw[X,ag (.inl (by decide))];exact bz H
 have e3:cJ L (.fn 8) [.agg [.slice 3 0 s.P.length none,.slice 4 0 s.T.length none],.agg C,.str [110]] [.cells true 0 [.int .u8 s.kind,.int .i8 s.sx,.int .i8 s.sy,.bool s.half],.cells true 0 C,.cells true 0 [.int .i16 p1,.int .u8 d1,.int .i16 p2,.int .u8 d2,.int .i16 p3,.int .u8 d3],.cells true 2 (pC s.P),.cells true 3 (tC s.T),.cells true 0 [.slice 3 0 s.P.length none,.slice 4 0 s.T.length none]]=some ⟨.agg ev,none,[.cells true 2 K]⟩:=by rw[X,ag (.inl (by decide)),ag (.inl (by decide))];exact bz rfl
 have B:∀M,cJ L (.fn 9) [.agg [.int .i16 p1,.int .u8 d1,.int .i16 p2,.int .u8 d2,.int .i16 p3,.int .u8 d3]] M=some ⟨vA p,none,[]⟩:=fun M=>by rw[X,ag (.inl (by decide)),ag (.inl (by decide)),ag (.inl (by decide))];exact bz trivial
 have u:∀Z,cJ L (.fn 10) [.agg [.slice 3 0 s.P.length none,.slice 4 0 s.T.length none],.agg ev,vA p] (.cells true 0 [.int .u8 s.kind,.int .i8 s.sx,.int .i8 s.sy,.bool s.half]::.cells true 0 C::.cells true 0 [.int .i16 p1,.int .u8 d1,.int .i16 p2,.int .u8 d2,.int .i16 p3,.int .u8 d3]::.cells true 2 (pC s.P)::.cells true 3 (tC s.T)::.cells true 0 [.slice 3 0 s.P.length none,.slice 4 0 s.T.length none]::.cells true 2 K::Z)=some ⟨.tuple [vA R,.int .i64 0],none,[]⟩:=fun Z=>by rw[X,ag (.inl (by decide)),ag (.inl (by decide)),ag (.inl (by decide)),ag (.inl (by decide))];exact bz ⟨Z,rfl⟩
 have o:∀Z,cJ L (.fn 11) [.agg [.slice 3 0 s.P.length none,.slice 4 0 s.T.length none],.agg ev,vA p] (.cells true 0 [.int .u8 s.kind,.int .i8 s.sx,.int .i8 s.sy,.bool s.half]::.cells true 0 C::.cells true 0 [.int .i16 p1,.int .u8 d1,.int .i16 p2,.int .u8 d2,.int .i16 p3,.int .u8 d3]::.cells true 2 (pC s.P)::.cells true 3 (tC s.T)::.cells true 0 [.slice 3 0 s.P.length none,.slice 4 0 s.T.length none]::.cells true 2 K::Z)=some ⟨.tuple [vA Q,.int .i64 0],none,[]⟩:=fun Z=>by rw[X,ag (.inl (by decide)),ag (.inl (by decide)),ag (.inl (by decide)),ag (.inl (by decide)),ag (.inl (by decide))];exact bz ⟨Z,rfl⟩
 have m:∀Z,cJ L (.fn 12) [.agg [.slice 3 0 s.P.length none,.slice 4 0 s.T.length none],.agg ev,vA p,.bool false] (.cells true 0 [.int .u8 s.kind,.int .i8 s.sx,.int .i8 s.sy,.bool s.half]::.cells true 0 C::.cells true 0 [.int .i16 p1,.int .u8 d1,.int .i16 p2,.int .u8 d2,.int .i16 p3,.int .u8 d3]::.cells true 2 (pC s.P)::.cells true 3 (tC s.T)::.cells true 0 [.slice 3 0 s.P.length none,.slice 4 0 s.T.length none]::.cells true 2 K::Z)=some ⟨vA R,none,[]⟩:=fun Z=>by rw[X,ag (.inl (by decide)),ag (.inl (by decide)),ag (.inl (by decide)),ag (.inl (by decide)),ag (.inl (by decide)),ag (.inl (by decide))];exact bz ⟨Z,rfl⟩
 have j:∀Z,cJ L (.fn 12) [.agg [.slice 3 0 s.P.length none,.slice 4 0 s.T.length none],.agg ev,vA p,.bool true] (.cells true 0 [.int .u8 s.kind,.int .i8 s.sx,.int .i8 s.sy,.bool s.half]::.cells true 0 C::.cells true 0 [.int .i16 p1,.int .u8 d1,.int .i16 p2,.int .u8 d2,.int .i16 p3,.int .u8 d3]::.cells true 2 (pC s.P)::.cells true 3 (tC s.T)::.cells true 0 [.slice 3 0 s.P.length none,.slice 4 0 s.T.length none]::.cells true 2 K::Z)=some ⟨vA Q,none,[]⟩:=fun Z=>by rw[X,ag (.inl (by decide)),ag (.inl (by decide)),ag (.inl (by decide)),ag (.inl (by decide)),ag (.inl (by decide)),ag (.inl (by decide)),ni (by simp)];exact bz ⟨Z,rfl⟩
 have eV:∀a b c,jy (ba prog) 20 54 (.agg [.str a,.str b,.str c]) (.agg [.str a,.str b,.str c])=some true:=fun a b c=>fU (d:=18) a b c
 obtain⟨O,U⟩:=xE (cJ L);rw[←U] at hO e1 e2 e3 B u o m j;clear U X h1 h2 h3 h4 H hP;unfold vA at B u o m j;obtain⟨os,Y⟩:∃os,aJ f3=os:=⟨_,rfl⟩
 have IR:=cw Y iL;simp only[aJ,bU,f3,lA] at Y;subst Y;simp only[lB] at IR;obtain⟨H',W⟩:=IR;have J:∃S,dI (ba prog) (fun _=>[]) (aT prog) O 1 3 [s.av,.agg C,.agg [.int .i16 p1,.int .u8 d1,.int .i16 p2,.int .u8 d2,.int .i16 p3,.int .u8 d3]] []=some (.bool true,[]++S):=by simp (maxSteps:=1000000) [-AV.ae9,-AV.known,-List.all_eq_true,vS,dI,agF,f3,afh.av,e1,e2,e3,B,u,o,m,j,eV,hC,o0,oK,N,G,F,t34,t32,hl,g1,-aK,bT H',aq W,bm,aZ,bl,agG,dG,dP,fQ,dJ,dT,kk,bef,lQ,Nat.testBit]
 obtain⟨S,J⟩:=J;exact kO.forget rfl (cV aj (aI _) hO (aP _) J)
section
variable (A:List AV)(hA:AV.ae8 A=true)(U:List AV)(hU:AV.ae8 U=true)
include A hA U hU
theorem Nl(y:∀i,AV.afa (fun b=>decide (b<8+i)) ev=true)(I:∀M,kO prog 9 [.agg [.int .i16 p1,.int .u8 d1,.int .i16 p2,.int .u8 d2,.int .i16 p3,.int .u8 d3]] M (vA p) M)(H:kO prog 8 [kj s 3 4,.agg C,.str [110]] (mvM s C p1 d1 p2 d2 p3 d3) (.agg ev) ((mvM s C p1 d1 p2 d2 p3 d3)++[.cells true 1 A,.cells true 1 U]))(hG:fl (mvN s C p1 d1 p2 d2 p3 d3 [.cells true 1 A,.cells true 1 U]) (kj s 3 4) ev p):
  kO prog 3 [s.av,.agg C,.agg [.int .i16 p1,.int .u8 d1,.int .i16 p2,.int .u8 d2,.int .i16 p3,.int .u8 d3]] [] (.bool true) []:=by
 have r0:=cp hCc;have o0:=dc hCc;have pO:=fun f=>dc (dY s.P) f
 have tO:=fun f=>dc (fC s.T) f
 have rA:=cp hA;have oA:=dc hA;have rU:=cp hU;have oU:=dc hU;have K:AV.afa (fun b=>decide (b<8)) ev=true:=y 0;have ev1:AV.afa (fun b=>decide (b<9)) ev=true:=y 1;have G:AV.afa (fun b=>decide (b<10)) ev=true:=y 2;have ev3:AV.afa (fun b=>decide (b<11)) ev=true:=y 3;have F:AV.afa (fun b=>decide (b<12)) ev=true:=y 4;have ev5:AV.afa (fun b=>decide (b<13)) ev=true:=y 5;have t34:C.take 34=C:=List.take_of_length_le (by omega);have t32:ev.take 32=ev:=List.take_of_length_le (by omega);have g1:ev.all AV.ae9=true:=List.all_eq_true.2 ZB;obtain⟨Q,N,⟨h1,h2⟩,h3,h4⟩:=hG;obtain⟨L,X⟩:=xE (α:=List (FuncId×List AV×(Mem→Prop)×y9)) [(6,[],(fun _=>True),⟨.bool true,none,[]⟩),(7,[s.av],(fun M=>M.length=3),⟨kj s 3 4,none,[.cells true 2 (pC s.P),.cells true 3 (tC s.T)]⟩),(8,[kj s 3 4,.agg C,.str [110]],(fun M=>M=(mvM s C p1 d1 p2 d2 p3 d3)),⟨.agg ev,none,[.cells true 1 A,.cells true 1 U]⟩),(9,[.agg [.int .i16 p1,.int .u8 d1,.int .i16 p2,.int .u8 d2,.int .i16 p3,.int .u8 d3]],(fun _=>True),⟨vA p,none,[]⟩),(10,[kj s 3 4,.agg ev,vA p],(fun M=>∃Z,M=(mvN s C p1 d1 p2 d2 p3 d3 [.cells true 1 A,.cells true 1 U])++Z),⟨.tuple [vA Q,.int .i64 0],none,[]⟩),(11,[kj s 3 4,.agg ev,vA p],(fun M=>∃Z,M=(mvN s C p1 d1 p2 d2 p3 d3 [.cells true 1 A,.cells true 1 U])++Z),⟨.tuple [vA N,.int .i64 0],none,[]⟩),(12,[kj s 3 4,.agg ev,vA p,.bool false],(fun M=>∃Z,M=(mvN s C p1 d1 p2 d2 p3 d3 [.cells true 1 A,.cells true 1 U])++Z),⟨vA Q,none,[]⟩),(12,[kj s 3 4,.agg ev,vA p,.bool true],(fun M=>∃Z,M=(mvN s C p1 d1 p2 d2 p3 d3 [.cells true 1 A,.cells true 1 U])++Z),⟨vA N,none,[]⟩)];have hO:qS prog (cJ L):=pf fun z D M V=>by
  rw[X] at D;simp only[lM] at D;rcases D with rfl | rfl | rfl | rfl | rfl | rfl | rfl | rfl
  ·exact aF (kL M)
  ·have V:M.length=3:=V
   have:=kM s hs M;rw[V] at this;exact aw this
  ·have V:M=_:=V
   rw[V];exact aw H
  ·exact aF (I M)
  ·obtain⟨Z,rfl⟩:=V
   exact aF (h1 Z)
  ·obtain⟨Z,rfl⟩:=V
   exact aF (h2 Z)
  ·obtain⟨Z,rfl⟩:=V
   exact aF (h3 Z)
  ·obtain⟨Z,rfl⟩:=V
   exact aF (h4 Z)
 have e1:∀M,cJ L (.fn 6) [] M=some ⟨.bool true,none,[]⟩:=fun M=>by rw[X];exact bz trivial
 have e2:∀M:Mem,M.length=3→cJ L (.fn 7) [.agg [.int .u8 s.kind,.int .i8 s.sx,.int .i8 s.sy,.bool s.half]] M=some ⟨.agg [.slice 3 0 s.P.length none,.slice 4 0 s.T.length none],none,[.cells true 2 (pC s.P),.cells true 3 (tC s.T)]⟩:=fun M H=>by rw[X,ag (.inl (by decide))];exact bz H
 have e3:cJ L (.fn 8) [.agg [.slice 3 0 s.P.length none,.slice 4 0 s.T.length none],.agg C,.str [110]] [.cells true 0 [.int .u8 s.kind,.int .i8 s.sx,.int .i8 s.sy,.bool s.half],.cells true 0 C,.cells true 0 [.int .i16 p1,.int .u8 d1,.int .i16 p2,.int .u8 d2,.int .i16 p3,.int .u8 d3],.cells true 2 (pC s.P),.cells true 3 (tC s.T),.cells true 0 [.slice 3 0 s.P.length none,.slice 4 0 s.T.length none]]=some ⟨.agg ev,none,[.cells true 1 A,.cells true 1 U]⟩:=by rw[X,ag (.inl (by decide)),ag (.inl (by decide))];exact bz rfl
 have B:∀M,cJ L (.fn 9) [.agg [.int .i16 p1,.int .u8 d1,.int .i16 p2,.int .u8 d2,.int .i16 p3,.int .u8 d3]] M=some ⟨vA p,none,[]⟩:=fun M=>by rw[X,ag (.inl (by decide)),ag (.inl (by decide)),ag (.inl (by decide))];exact bz trivial
 have u:∀Z,cJ L (.fn 10) [.agg [.slice 3 0 s.P.length none,.slice 4 0 s.T.length none],.agg ev,vA p] (.cells true 0 [.int .u8 s.kind,.int .i8 s.sx,.int .i8 s.sy,.bool s.half]::.cells true 0 C::.cells true 0 [.int .i16 p1,.int .u8 d1,.int .i16 p2,.int .u8 d2,.int .i16 p3,.int .u8 d3]::.cells true 2 (pC s.P)::.cells true 3 (tC s.T)::.cells true 0 [.slice 3 0 s.P.length none,.slice 4 0 s.T.length none]::.cells true 1 A::.cells true 1 U::Z)=some ⟨.tuple [vA Q,.int .i64 0],none,[]⟩:=fun Z=>by rw[X,ag (.inl (by decide)),ag (.inl (by decide)),ag (.inl (by decide)),ag (.inl (by decide))];exact bz ⟨Z,rfl⟩
 have o:∀Z,cJ L (.fn 11) [.agg [.slice 3 0 s.P.length none,.slice 4 0 s.T.length none],.agg ev,vA p] (.cells true 0 [.int .u8 s.kind,.int .i8 s.sx,.int .i8 s.sy,.bool s.half]::.cells true 0 C::.cells true 0 [.int .i16 p1,.int .u8 d1,.int .i16 p2,.int .u8 d2,.int .i16 p3,.int .u8 d3]::.cells true 2 (pC s.P)::.cells true 3 (tC s.T)::.cells true 0 [.slice 3 0 s.P.length none,.slice 4 0 s.T.length none]::.cells true 1 A::.cells true 1 U::Z)=some ⟨.tuple [vA N,.int .i64 0],none,[]⟩:=fun Z=>by rw[X,ag (.inl (by decide)),ag (.inl (by decide)),ag (.inl (by decide)),ag (.inl (by decide)),ag (.inl (by decide))];exact bz ⟨Z,rfl⟩
 have m:∀Z,cJ L (.fn 12) [.agg [.slice 3 0 s.P.length none,.slice 4 0 s.T.length none],.agg ev,vA p,.bool false] (.cells true 0 [.int .u8 s.kind,.int .i8 s.sx,.int .i8 s.sy,.bool s.half]::.cells true 0 C::.cells true 0 [.int .i16 p1,.int .u8 d1,.int .i16 p2,.int .u8 d2,.int .i16 p3,.int .u8 d3]::.cells true 2 (pC s.P)::.cells true 3 (tC s.T)::.cells true 0 [.slice 3 0 s.P.length none,.slice 4 0 s.T.length none]::.cells true 1 A::.cells true 1 U::Z)=some ⟨vA Q,none,[]⟩:=fun Z=>by rw[X,ag (.inl (by decide)),ag (.inl (by decide)),ag (.inl (by decide)),ag (.inl (by decide)),ag (.inl (by decide)),ag (.inl (by decide))];exact bz ⟨Z,rfl⟩
 have j:∀Z,cJ L (.fn 12) [.agg [.slice 3 0 s.P.length none,.slice 4 0 s.T.length none],.agg ev,vA p,.bool true] (.cells true 0 [.int .u8 s.kind,.int .i8 s.sx,.int .i8 s.sy,.bool s.half]::.cells true 0 C::.cells true 0 [.int .i16 p1,.int .u8 d1,.int .i16 p2,.int .u8 d2,.int .i16 p3,.int .u8 d3]::.cells true 2 (pC s.P)::.cells true 3 (tC s.T)::.cells true 0 [.slice 3 0 s.P.length none,.slice 4 0 s.T.length none]::.cells true 1 A::.cells true 1 U::Z)=some ⟨vA N,none,[]⟩:=fun Z=>by rw[X,ag (.inl (by decide)),ag (.inl (by decide)),ag (.inl (by decide)),ag (.inl (by decide)),ag (.inl (by decide)),ag (.inl (by decide)),ni (by simp)];exact bz ⟨Z,rfl⟩
 have eV:∀a b c,jy (ba prog) 20 54 (.agg [.str a,.str b,.str c]) (.agg [.str a,.str b,.str c])=some true:=fun a b c=>fU (d:=18) a b c
 obtain⟨O,S⟩:=xE (cJ L);rw[←S] at hO e1 e2 e3 B u o m j;clear S X h1 h2 h3 h4 H I;unfold vA at B u o m j;obtain⟨os,Y⟩:∃os,aJ f3=os:=⟨_,rfl⟩
 have IR:=cw Y iL;simp only[aJ,bU,f3,lA] at Y;subst Y;simp only[lB] at IR;obtain⟨H',W⟩:=IR;have J:∃R,dI (ba prog) (fun _=>[]) (aT prog) O 1 3 [s.av,.agg C,.agg [.int .i16 p1,.int .u8 d1,.int .i16 p2,.int .u8 d2,.int .i16 p3,.int .u8 d3]] []=some (.bool true,[]++R):=by simp (maxSteps:=1000000) [-AV.ae9,-AV.known,-List.all_eq_true,vS,dI,agF,f3,afh.av,e1,e2,e3,B,u,o,m,j,eV,hC,o0,oA,oU,K,G,F,t34,t32,hl,g1,-aK,bT H',aq W,bm,aZ,bl,agG,dG,dP,fQ,dJ,dT,kk,bef,lQ,Nat.testBit]
 obtain⟨R,J⟩:=J;exact kO.forget rfl (cV aj (aI _) hO (aP _) J)
section
variable (R:List AV)(hR:AV.ae8 R=true)
include R hR
theorem Nn(y:∀i,AV.afa (fun b=>decide (b<10+i)) ev=true)(hP:∀M,kO prog 9 [.agg [.int .i16 p1,.int .u8 d1,.int .i16 p2,.int .u8 d2,.int .i16 p3,.int .u8 d3]] M (vA p) M)(H:kO prog 8 [kj s 3 4,.agg C,.str [110]] (mvM s C p1 d1 p2 d2 p3 d3) (.agg ev) ((mvM s C p1 d1 p2 d2 p3 d3)++[.cells true 1 A,.cells true 1 U,.cells true 1 [.slice 9 0 n0 none],.cells true 1 R]))(hG:fl (mvN s C p1 d1 p2 d2 p3 d3 [.cells true 1 A,.cells true 1 U,.cells true 1 [.slice 9 0 n0 none],.cells true 1 R]) (kj s 3 4) ev p):
  kO prog 3 [s.av,.agg C,.agg [.int .i16 p1,.int .u8 d1,.int .i16 p2,.int .u8 d2,.int .i16 p3,.int .u8 d3]] [] (.bool true) []:=by
 have r0:=cp hCc;have o0:=dc hCc;have pO:=fun f=>dc (dY s.P) f
 have tO:=fun f=>dc (fC s.T) f
 have rA:=cp hA;have oA:=dc hA;have rU:=cp hU;have oU:=dc hU;have rR:=cp hR;have oR:=dc hR;have G:AV.afa (fun b=>decide (b<10)) ev=true:=y 0;have ev1:AV.afa (fun b=>decide (b<11)) ev=true:=y 1;have F:AV.afa (fun b=>decide (b<12)) ev=true:=y 2;have ev3:AV.afa (fun b=>decide (b<13)) ev=true:=y 3;have D:AV.afa (fun b=>decide (b<14)) ev=true:=y 4;have ev5:AV.afa (fun b=>decide (b<15)) ev=true:=y 5;have t34:C.take 34=C:=List.take_of_length_le (by omega);have t32:ev.take 32=ev:=List.take_of_length_le (by omega);have g1:ev.all AV.ae9=true:=List.all_eq_true.2 ZB;obtain⟨N,K,⟨h1,h2⟩,h3,h4⟩:=hG;obtain⟨L,X⟩:=xE (α:=List (FuncId×List AV×(Mem→Prop)×y9)) [(6,[],(fun _=>True),⟨.bool true,none,[]⟩),(7,[s.av],(fun M=>M.length=3),⟨kj s 3 4,none,[.cells true 2 (pC s.P),.cells true 3 (tC s.T)]⟩),(8,[kj s 3 4,.agg C,.str [110]],(fun M=>M=(mvM s C p1 d1 p2 d2 p3 d3)),⟨.agg ev,none,[.cells true 1 A,.cells true 1 U,.cells true 1 [.slice 9 0 n0 none],.cells true 1 R]⟩),(9,[.agg [.int .i16 p1,.int .u8 d1,.int .i16 p2,.int .u8 d2,.int .i16 p3,.int .u8 d3]],(fun _=>True),⟨vA p,none,[]⟩),(10,[kj s 3 4,.agg ev,vA p],(fun M=>∃Z,M=(mvN s C p1 d1 p2 d2 p3 d3 [.cells true 1 A,.cells true 1 U,.cells true 1 [.slice 9 0 n0 none],.cells true 1 R])++Z),⟨.tuple [vA N,.int .i64 0],none,[]⟩),(11,[kj s 3 4,.agg ev,vA p],(fun M=>∃Z,M=(mvN s C p1 d1 p2 d2 p3 d3 [.cells true 1 A,.cells true 1 U,.cells true 1 [.slice 9 0 n0 none],.cells true 1 R])++Z),⟨.tuple [vA K,.int .i64 0],none,[]⟩),(12,[kj s 3 4,.agg ev,vA p,.bool false],(fun M=>∃Z,M=(mvN s C p1 d1 p2 d2 p3 d3 [.cells true 1 A,.cells true 1 U,.cells true 1 [.slice 9 0 n0 none],.cells true 1 R])++Z),⟨vA N,none,[]⟩),(12,[kj s 3 4,.agg ev,vA p,.bool true],(fun M=>∃Z,M=(mvN s C p1 d1 p2 d2 p3 d3 [.cells true 1 A,.cells true 1 U,.cells true 1 [.slice 9 0 n0 none],.cells true 1 R])++Z),⟨vA K,none,[]⟩)];have hO:qS prog (cJ L):=pf fun z B M V=>by
  rw[X] at B;simp only[lM] at B;rcases B with rfl | rfl | rfl | rfl | rfl | rfl | rfl | rfl
  ·exact aF (kL M)
  ·have V:M.length=3:=V
   have:=kM s hs M;rw[V] at this;exact aw this
  ·have V:M=_:=V
   rw[V];exact aw H
  ·exact aF (hP M)
  ·obtain⟨Z,rfl⟩:=V
   exact aF (h1 Z)
  ·obtain⟨Z,rfl⟩:=V
   exact aF (h2 Z)
  ·obtain⟨Z,rfl⟩:=V
   exact aF (h3 Z)
  ·obtain⟨Z,rfl⟩:=V
   exact aF (h4 Z)
 have e1:∀M,cJ L (.fn 6) [] M=some ⟨.bool true,none,[]⟩:=fun M=>by rw[X];exact bz trivial
 have e2:∀M:Mem,M.length=3→cJ L (.fn 7) [.agg [.int .u8 s.kind,.int .i8 s.sx,.int .i8 s.sy,.bool s.half]] M=some ⟨.agg [.slice 3 0 s.P.length none,.slice 4 0 s.T.length none],none,[.cells true 2 (pC s.P),.cells true 3 (tC s.T)]⟩:=fun M H=>by rw[X,ag (.inl (by decide))];exact bz H
 have e3:cJ L (.fn 8) [.agg [.slice 3 0 s.P.length none,.slice 4 0 s.T.length none],.agg C,.str [110]] [.cells true 0 [.int .u8 s.kind,.int .i8 s.sx,.int .i8 s.sy,.bool s.half],.cells true 0 C,.cells true 0 [.int .i16 p1,.int .u8 d1,.int .i16 p2,.int .u8 d2,.int .i16 p3,.int .u8 d3],.cells true 2 (pC s.P),.cells true 3 (tC s.T),.cells true 0 [.slice 3 0 s.P.length none,.slice 4 0 s.T.length none]]=some ⟨.agg ev,none,[.cells true 1 A,.cells true 1 U,.cells true 1 [.slice 9 0 n0 none],.cells true 1 R]⟩:=by rw[X,ag (.inl (by decide)),ag (.inl (by decide))];exact bz rfl
 have u:∀M,cJ L (.fn 9) [.agg [.int .i16 p1,.int .u8 d1,.int .i16 p2,.int .u8 d2,.int .i16 p3,.int .u8 d3]] M=some ⟨vA p,none,[]⟩:=fun M=>by rw[X,ag (.inl (by decide)),ag (.inl (by decide)),ag (.inl (by decide))];exact bz trivial
 have o:∀Z,cJ L (.fn 10) [.agg [.slice 3 0 s.P.length none,.slice 4 0 s.T.length none],.agg ev,vA p] (.cells true 0 [.int .u8 s.kind,.int .i8 s.sx,.int .i8 s.sy,.bool s.half]::.cells true 0 C::.cells true 0 [.int .i16 p1,.int .u8 d1,.int .i16 p2,.int .u8 d2,.int .i16 p3,.int .u8 d3]::.cells true 2 (pC s.P)::.cells true 3 (tC s.T)::.cells true 0 [.slice 3 0 s.P.length none,.slice 4 0 s.T.length none]::.cells true 1 A::.cells true 1 U::.cells true 1 [.slice 9 0 n0 none]::.cells true 1 R::Z)=some ⟨.tuple [vA N,.int .i64 0],none,[]⟩:=fun Z=>by rw[X,ag (.inl (by decide)),ag (.inl (by decide)),ag (.inl (by decide)),ag (.inl (by decide))];exact bz ⟨Z,rfl⟩
 have m:∀Z,cJ L (.fn 11) [.agg [.slice 3 0 s.P.length none,.slice 4 0 s.T.length none],.agg ev,vA p] (.cells true 0 [.int .u8 s.kind,.int .i8 s.sx,.int .i8 s.sy,.bool s.half]::.cells true 0 C::.cells true 0 [.int .i16 p1,.int .u8 d1,.int .i16 p2,.int .u8 d2,.int .i16 p3,.int .u8 d3]::.cells true 2 (pC s.P)::.cells true 3 (tC s.T)::.cells true 0 [.slice 3 0 s.P.length none,.slice 4 0 s.T.length none]::.cells true 1 A::.cells true 1 U::.cells true 1 [.slice 9 0 n0 none]::.cells true 1 R::Z)=some ⟨.tuple [vA K,.int .i64 0],none,[]⟩:=fun Z=>by rw[X,ag (.inl (by decide)),ag (.inl (by decide)),ag (.inl (by decide)),ag (.inl (by decide)),ag (.inl (by decide))];exact bz ⟨Z,rfl⟩
 have j:∀Z,cJ L (.fn 12) [.agg [.slice 3 0 s.P.length none,.slice 4 0 s.T.length none],.agg ev,vA p,.bool false] (.cells true 0 [.int .u8 s.kind,.int .i8 s.sx,.int .i8 s.sy,.bool s.half]::.cells true 0 C::.cells true 0 [.int .i16 p1,.int .u8 d1,.int .i16 p2,.int .u8 d2,.int .i16 p3,.int .u8 d3]::.cells true 2 (pC s.P)::.cells true 3 (tC s.T)::.cells true 0 [.slice 3 0 s.P.length none,.slice 4 0 s.T.length none]::.cells true 1 A::.cells true 1 U::.cells true 1 [.slice 9 0 n0 none]::.cells true 1 R::Z)=some ⟨vA N,none,[]⟩:=fun Z=>by rw[X,ag (.inl (by decide)),ag (.inl (by decide)),ag (.inl (by decide)),ag (.inl (by decide)),ag (.inl (by decide)),ag (.inl (by decide))];exact bz ⟨Z,rfl⟩
 have Y:∀Z,cJ L (.fn 12) [.agg [.slice 3 0 s.P.length none,.slice 4 0 s.T.length none],.agg ev,vA p,.bool true] (.cells true 0 [.int .u8 s.kind,.int .i8 s.sx,.int .i8 s.sy,.bool s.half]::.cells true 0 C::.cells true 0 [.int .i16 p1,.int .u8 d1,.int .i16 p2,.int .u8 d2,.int .i16 p3,.int .u8 d3]::.cells true 2 (pC s.P)::.cells true 3 (tC s.T)::.cells true 0 [.slice 3 0 s.P.length none,.slice 4 0 s.T.length none]::.cells true 1 A::.cells true 1 U::.cells true 1 [.slice 9 0 n0 none]::.cells true 1 R::Z)=some ⟨vA K,none,[]⟩:=fun Z=>by rw[X,ag (.inl (by decide)),ag (.inl (by decide)),ag (.inl (by decide)),ag (.inl (by decide)),ag (.inl (by decide)),ag (.inl (by decide)),ni (by simp)];exact bz ⟨Z,rfl⟩
 have eV:∀a b c,jy (ba prog) 20 54 (.agg [.str a,.str b,.str c]) (.agg [.str a,.str b,.str c])=some true:=fun a b c=>fU (d:=18) a b c
 obtain⟨O,S⟩:=xE (cJ L);rw[←S] at hO e1 e2 e3 u o m j Y;clear S X h1 h2 h3 h4 H hP;unfold vA at u o m j Y;obtain⟨os,W⟩:∃os,aJ f3=os:=⟨_,rfl⟩
 have IR:=cw W iL;simp only[aJ,bU,f3,lA] at W;subst W;simp only[lB] at IR;obtain⟨H',J⟩:=IR;have I:∃Q,dI (ba prog) (fun _=>[]) (aT prog) O 1 3 [s.av,.agg C,.agg [.int .i16 p1,.int .u8 d1,.int .i16 p2,.int .u8 d2,.int .i16 p3,.int .u8 d3]] []=some (.bool true,[]++Q):=by simp (maxSteps:=1000000) [-AV.ae9,-AV.known,-List.all_eq_true,vS,dI,agF,f3,afh.av,e1,e2,e3,u,o,m,j,Y,eV,hC,o0,oA,oU,oR,G,F,D,t34,t32,hl,g1,-aK,bT H',aq J,bm,aZ,bl,agG,dG,dP,fQ,dJ,dT,kk,bef,lQ,Nat.testBit]
 obtain⟨Q,I⟩:=I;exact kO.forget rfl (cV aj (aI _) hO (aP _) I)
theorem No(S:List AV)(hS:AV.ae8 S=true)(y:∀i,AV.afa (fun b=>decide (b<11+i)) ev=true)(hP:∀M,kO prog 9 [.agg [.int .i16 p1,.int .u8 d1,.int .i16 p2,.int .u8 d2,.int .i16 p3,.int .u8 d3]] M (vA p) M)(H:kO prog 8 [kj s 3 4,.agg C,.str [110]] (mvM s C p1 d1 p2 d2 p3 d3) (.agg ev) ((mvM s C p1 d1 p2 d2 p3 d3)++[.cells true 1 A,.cells true 1 U,.cells true 1 [.slice 9 0 n0 none,.slice 10 0 n0 none],.cells true 1 R,.cells true 1 S]))(hG:fl (mvN s C p1 d1 p2 d2 p3 d3 [.cells true 1 A,.cells true 1 U,.cells true 1 [.slice 9 0 n0 none,.slice 10 0 n0 none],.cells true 1 R,.cells true 1 S]) (kj s 3 4) ev p):
  kO prog 3 [s.av,.agg C,.agg [.int .i16 p1,.int .u8 d1,.int .i16 p2,.int .u8 d2,.int .i16 p3,.int .u8 d3]] [] (.bool true) []:=by
 have r0:=cp hCc;have o0:=dc hCc;have pO:=fun f=>dc (dY s.P) f
 have tO:=fun f=>dc (fC s.T) f
 have rA:=cp hA;have oA:=dc hA;have rU:=cp hU;have oU:=dc hU;have rR:=cp hR;have oR:=dc hR;have rS:=cp hS;have oS:=dc hS;have F:AV.afa (fun b=>decide (b<11)) ev=true:=y 0;have ev1:AV.afa (fun b=>decide (b<12)) ev=true:=y 1;have D:AV.afa (fun b=>decide (b<13)) ev=true:=y 2;have ev3:AV.afa (fun b=>decide (b<14)) ev=true:=y 3;have B:AV.afa (fun b=>decide (b<15)) ev=true:=y 4;have ev5:AV.afa (fun b=>decide (b<16)) ev=true:=y 5;have t34:C.take 34=C:=List.take_of_length_le (by omega);have t32:ev.take 32=ev:=List.take_of_length_le (by omega);have g1:ev.all AV.ae9=true:=List.all_eq_true.2 ZB;obtain⟨K,G,⟨h1,h2⟩,h3,h4⟩:=hG;obtain⟨L,X⟩:=xE (α:=List (FuncId×List AV×(Mem→Prop)×y9)) [(6,[],(fun _=>True),⟨.bool true,none,[]⟩),(7,[s.av],(fun M=>M.length=3),⟨kj s 3 4,none,[.cells true 2 (pC s.P),.cells true 3 (tC s.T)]⟩),(8,[kj s 3 4,.agg C,.str [110]],(fun M=>M=(mvM s C p1 d1 p2 d2 p3 d3)),⟨.agg ev,none,[.cells true 1 A,.cells true 1 U,.cells true 1 [.slice 9 0 n0 none,.slice 10 0 n0 none],.cells true 1 R,.cells true 1 S]⟩),(9,[.agg [.int .i16 p1,.int .u8 d1,.int .i16 p2,.int .u8 d2,.int .i16 p3,.int .u8 d3]],(fun _=>True),⟨vA p,none,[]⟩),(10,[kj s 3 4,.agg ev,vA p],(fun M=>∃Z,M=(mvN s C p1 d1 p2 d2 p3 d3 [.cells true 1 A,.cells true 1 U,.cells true 1 [.slice 9 0 n0 none,.slice 10 0 n0 none],.cells true 1 R,.cells true 1 S])++Z),⟨.tuple [vA K,.int .i64 0],none,[]⟩),(11,[kj s 3 4,.agg ev,vA p],(fun M=>∃Z,M=(mvN s C p1 d1 p2 d2 p3 d3 [.cells true 1 A,.cells true 1 U,.cells true 1 [.slice 9 0 n0 none,.slice 10 0 n0 none],.cells true 1 R,.cells true 1 S])++Z),⟨.tuple [vA G,.int .i64 0],none,[]⟩),(12,[kj s 3 4,.agg ev,vA p,.bool false],(fun M=>∃Z,M=(mvN s C p1 d1 p2 d2 p3 d3 [.cells true 1 A,.cells true 1 U,.cells true 1 [.slice 9 0 n0 none,.slice 10 0 n0 none],.cells true 1 R,.cells true 1 S])++Z),⟨vA K,none,[]⟩),(12,[kj s 3 4,.agg ev,vA p,.bool true],(fun M=>∃Z,M=(mvN s C p1 d1 p2 d2 p3 d3 [.cells true 1 A,.cells true 1 U,.cells true 1 [.slice 9 0 n0 none,.slice 10 0 n0 none],.cells true 1 R,.cells true 1 S])++Z),⟨vA G,none,[]⟩)];have hO:qS prog (cJ L):=pf fun z u M V=>by
  rw[X] at u;simp only[lM] at u;rcases u with rfl | rfl | rfl | rfl | rfl | rfl | rfl | rfl
  ·exact aF (kL M)
  ·have V:M.length=3:=V
   have:=kM s hs M;rw[V] at this;exact aw this
  ·have V:M=_:=V
   rw[V];exact aw H
  ·exact aF (hP M)
  ·obtain⟨Z,rfl⟩:=V
   exact aF (h1 Z)
  ·obtain⟨Z,rfl⟩:=V
   exact aF (h2 Z)
  ·obtain⟨Z,rfl⟩:=V
   exact aF (h3 Z)
  ·obtain⟨Z,rfl⟩:=V
   exact aF (h4 Z)
 have e1:∀M,cJ L (.fn 6) [] M=some ⟨.bool true,none,[]⟩:=fun M=>by rw[X];exact bz trivial
 have e2:∀M:Mem,M.length=3→cJ L (.fn 7) [.agg [.int .u8 s.kind,.int .i8 s.sx,.int .i8 s.sy,.bool s.half]] M=some ⟨.agg [.slice 3 0 s.P.length none,.slice 4 0 s.T.length none],none,[.cells true 2 (pC s.P),.cells true 3 (tC s.T)]⟩:=fun M H=>by rw[X,ag (.inl (by decide))];exact bz H
 have e3:cJ L (.fn 8) [.agg [.slice 3 0 s.P.length none,.slice 4 0 s.T.length none],.agg C,.str [110]] [.cells true 0 [.int .u8 s.kind,.int .i8 s.sx,.int .i8 s.sy,.bool s.half],.cells true 0 C,.cells true 0 [.int .i16 p1,.int .u8 d1,.int .i16 p2,.int .u8 d2,.int .i16 p3,.int .u8 d3],.cells true 2 (pC s.P),.cells true 3 (tC s.T),.cells true 0 [.slice 3 0 s.P.length none,.slice 4 0 s.T.length none]]=some ⟨.agg ev,none,[.cells true 1 A,.cells true 1 U,.cells true 1 [.slice 9 0 n0 none,.slice 10 0 n0 none],.cells true 1 R,.cells true 1 S]⟩:=by rw[X,ag (.inl (by decide)),ag (.inl (by decide))];exact bz rfl
 have o:∀M,cJ L (.fn 9) [.agg [.int .i16 p1,.int .u8 d1,.int .i16 p2,.int .u8 d2,.int .i16 p3,.int .u8 d3]] M=some ⟨vA p,none,[]⟩:=fun M=>by rw[X,ag (.inl (by decide)),ag (.inl (by decide)),ag (.inl (by decide))];exact bz trivial
 have m:∀Z,cJ L (.fn 10) [.agg [.slice 3 0 s.P.length none,.slice 4 0 s.T.length none],.agg ev,vA p] (.cells true 0 [.int .u8 s.kind,.int .i8 s.sx,.int .i8 s.sy,.bool s.half]::.cells true 0 C::.cells true 0 [.int .i16 p1,.int .u8 d1,.int .i16 p2,.int .u8 d2,.int .i16 p3,.int .u8 d3]::.cells true 2 (pC s.P)::.cells true 3 (tC s.T)::.cells true 0 [.slice 3 0 s.P.length none,.slice 4 0 s.T.length none]::.cells true 1 A::.cells true 1 U::.cells true 1 [.slice 9 0 n0 none,.slice 10 0 n0 none]::.cells true 1 R::.cells true 1 S::Z)=some ⟨.tuple [vA K,.int .i64 0],none,[]⟩:=fun Z=>by rw[X,ag (.inl (by decide)),ag (.inl (by decide)),ag (.inl (by decide)),ag (.inl (by decide))];exact bz ⟨Z,rfl⟩
 have j:∀Z,cJ L (.fn 11) [.agg [.slice 3 0 s.P.length none,.slice 4 0 s.T.length none],.agg ev,vA p] (.cells true 0 [.int .u8 s.kind,.int .i8 s.sx,.int .i8 s.sy,.bool s.half]::.cells true 0 C::.cells true 0 [.int .i16 p1,.int .u8 d1,.int .i16 p2,.int .u8 d2,.int .i16 p3,.int .u8 d3]::.cells true 2 (pC s.P)::.cells true 3 (tC s.T)::.cells true 0 [.slice 3 0 s.P.length none,.slice 4 0 s.T.length none]::.cells true 1 A::.cells true 1 U::.cells true 1 [.slice 9 0 n0 none,.slice 10 0 n0 none]::.cells true 1 R::.cells true 1 S::Z)=some ⟨.tuple [vA G,.int .i64 0],none,[]⟩:=fun Z=>by rw[X,ag (.inl (by decide)),ag (.inl (by decide)),ag (.inl (by decide)),ag (.inl (by decide)),ag (.inl (by decide))];exact bz ⟨Z,rfl⟩
 have Y:∀Z,cJ L (.fn 12) [.agg [.slice 3 0 s.P.length none,.slice 4 0 s.T.length none],.agg ev,vA p,.bool false] (.cells true 0 [.int .u8 s.kind,.int .i8 s.sx,.int .i8 s.sy,.bool s.half]::.cells true 0 C::.cells true 0 [.int .i16 p1,.int .u8 d1,.int .i16 p2,.int .u8 d2,.int .i16 p3,.int .u8 d3]::.cells true 2 (pC s.P)::.cells true 3 (tC s.T)::.cells true 0 [.slice 3 0 s.P.length none,.slice 4 0 s.T.length none]::.cells true 1 A::.cells true 1 U::.cells true 1 [.slice 9 0 n0 none,.slice 10 0 n0 none]::.cells true 1 R::.cells true 1 S::Z)=some ⟨vA K,none,[]⟩:=fun Z=>by rw[X,ag (.inl (by decide)),ag (.inl (by decide)),ag (.inl (by decide)),ag (.inl (by decide)),ag (.inl (by decide)),ag (.inl (by decide))];exact bz ⟨Z,rfl⟩
 have W:∀Z,cJ L (.fn 12) [.agg [.slice 3 0 s.P.length none,.slice 4 0 s.T.length none],.agg ev,vA p,.bool true] (.cells true 0 [.int .u8 s.kind,.int .i8 s.sx,.int .i8 s.sy,.bool s.half]::.cells true 0 C::.cells true 0 [.int .i16 p1,.int .u8 d1,.int .i16 p2,.int .u8 d2,.int .i16 p3,.int .u8 d3]::.cells true 2 (pC s.P)::.cells true 3 (tC s.T)::.cells true 0 [.slice 3 0 s.P.length none,.slice 4 0 s.T.length none]::.cells true 1 A::.cells true 1 U::.cells true 1 [.slice 9 0 n0 none,.slice 10 0 n0 none]::.cells true 1 R::.cells true 1 S::Z)=some ⟨vA G,none,[]⟩:=fun Z=>by rw[X,ag (.inl (by decide)),ag (.inl (by decide)),ag (.inl (by decide)),ag (.inl (by decide)),ag (.inl (by decide)),ag (.inl (by decide)),ni (by simp)];exact bz ⟨Z,rfl⟩
 have eV:∀a b c,jy (ba prog) 20 54 (.agg [.str a,.str b,.str c]) (.agg [.str a,.str b,.str c])=some true:=fun a b c=>fU (d:=18) a b c
 obtain⟨O,Q⟩:=xE (cJ L);rw[←Q] at hO e1 e2 e3 o m j Y W;clear Q X h1 h2 h3 h4 H hP;unfold vA at o m j Y W;obtain⟨os,J⟩:∃os,aJ f3=os:=⟨_,rfl⟩
 have IR:=cw J iL;simp only[aJ,bU,f3,lA] at J;subst J;simp only[lB] at IR;obtain⟨H',I⟩:=IR;have hr:∃N,dI (ba prog) (fun _=>[]) (aT prog) O 1 3 [s.av,.agg C,.agg [.int .i16 p1,.int .u8 d1,.int .i16 p2,.int .u8 d2,.int .i16 p3,.int .u8 d3]] []=some (.bool true,[]++N):=by simp (maxSteps:=1000000) [-AV.ae9,-AV.known,-List.all_eq_true,vS,dI,agF,f3,afh.av,e1,e2,e3,o,m,j,Y,W,eV,hC,o0,oA,oU,oR,oS,F,D,B,t34,t32,hl,g1,-aK,bT H',aq I,bm,aZ,bl,agG,dG,dP,fQ,dJ,dT,kk,bef,lQ,Nat.testBit]
 obtain⟨N,hr⟩:=hr;exact kO.forget rfl (cV aj (aI _) hO (aP _) hr)
end
end
end
theorem zq(s:afh)(hs:s.Ok)(x:ae4)(y:x.Ok)(pl:Pl)(H:Xp pl):kO prog 3 [s.av,.agg x.cells,.agg (plC pl)] [] (.bool true) []:=by
 obtain⟨N,K⟩:=yn s;obtain⟨M,S⟩:=xE (mvM s x.cells pl.1.1 (pl.1.2:Int) pl.2.1.1 (pl.2.1.2:Int) pl.2.2.1 (pl.2.2.2:Int));have Z:=HX x y s.P.length s.T.length N K M 3 4 (by rw[S];show 3<6;omega) (by rw[S];show 4<6;omega);have X:=Nj (x:=x) (s:=s) (M:=M) (p:=3) (t:=4) (o:=true) (o' :=true) (Xb H) (by rw[S];rfl) (by rw[S];rfl);have V:=Sv x s.P.length N M;have G:M.length=6:=by rw[S];rfl
 rw[G] at Z X V;have U:=fun i=>V.refs i
 have R:=ae4.afc y;have h3:=kW x;have Q:=fun M=>HG pl H M
 have O:=fun L:List Int=>(by rw[VO];exact dR _:AV.ae8 (qC (qH L))=true)
 unfold Ru at Z X U;subst S;rcases sH x.kind with h | h | h | h | h
 ·simp only[h,if_true] at Z X U
  rcases h3 with h3 | h3 | h3
  ·rw[h3] at Z X U
   exact Nl s hs _ _ R x.closed V.l32 V.cok s.P.length _ _ _ _ _ _ _ _ (O _) _ (dR _) U Q Z X
  ·rw[h3] at Z X U
   exact Nn s hs _ _ R x.closed V.l32 V.cok s.P.length _ _ _ _ _ _ _ _ (O _) _ (dR _) _ (O _) U Q Z X
  ·rw[h3] at Z X U
   exact No s hs _ _ R x.closed V.l32 V.cok s.P.length _ _ _ _ _ _ _ _ (O _) _ (dR _) _ (O _) _ (O _) U Q Z X
 ·simp only[h,Nat.one_ne_zero,if_false,show¬(1:Nat)=2 by decide] at Z X U
  exact xA s hs _ _ R x.closed V.l32 V.cok s.P.length _ _ _ _ _ _ _ U Q Z X
 ·simp only[h,show¬(2:Nat)=0 by decide,if_false,if_true] at Z X U
  exact Qe s hs _ _ R x.closed V.l32 V.cok s.P.length _ _ _ _ _ _ _ _ (jZ _) U Q Z X
 ·simp only[h,show¬(3:Nat)=0 by decide,if_false,show¬(3:Nat)=2 by decide] at Z X U
  exact xA s hs _ _ R x.closed V.l32 V.cok s.P.length _ _ _ _ _ _ _ U Q Z X
 ·simp only[h,show¬(4:Nat)=0 by decide,if_false,show¬(4:Nat)=2 by decide] at Z X U
  exact xA s hs _ _ R x.closed V.l32 V.cok s.P.length _ _ _ _ _ _ _ U Q Z X
end Go.Proofs
