/- See K51. -/
import Derived.Test.YtffdedmakncfmaaGreatDoorK43
import Derived.Test.YtffdedmakncfmaaGreatDoorK44
set_option linter.all false
namespace Go.Proofs
open Go.Eng
def idM:M3:=((1,0,0),(0,1,0),(0,0,1))
def v0:V3:=(0,0,0)
theorem HJ(M:Mem):ACallsTo Tryz.prog 85 [] M (.agg (mC idM)) M:=by
 refine aq (ak _) (lv:=ad) (K:=6) rfl rfl ?_ M
 as_aux_lemma=>kernel_rfl
theorem mN:vDg 2 idM.1∧vDg 2 idM.2.1∧vDg 2 idM.2.2∧vDg 2 v0:=by
 have z:dg 2 2 (0:Rat):=⟨by decide,by decide⟩
 have o:dg 2 2 (1:Rat):=⟨by decide,by decide⟩
 exact⟨⟨o,z,z⟩,⟨z,o,z⟩,⟨z,z,o⟩,z,z,z⟩
theorem Gw:afC idM v0:=⟨zU (mN.1.mono (by decide)),zU (mN.2.1.mono (by decide)),zU (mN.2.2.1.mono (by decide)),zU (mN.2.2.2.mono (by decide))⟩
set_option maxRecDepth 8192 in
set_option maxHeartbeats 3200000 in
theorem HI(M:Mem):ACallsTo Tryz.prog 84 [.agg (mC idM),vA v0] M (.tuple [afA idM v0,.int .i64 0]) M:=by
 have hG:aN Tryz.prog 84=some Tryz.f84:=by kernel_rfl
 have hO:OracleOk Tryz.prog (Oracle.or (ai (cG [(49,[afA idM v0],.int .i64 0)])) (ai xq)):=OracleOk.or (dL fun e he M=>by
  rw[List.mem_singleton] at he
  rw[he];exact jK Gw M) Ib
 refine aq hO (lv:=fun _=>[]) (K:=1) rfl rfl ?_ M
 clear hO
 obtain⟨o1,hops⟩:∃o1,aV Tryz.f84=[o1]:=⟨_,rfl⟩
 have hb1:=di hops (l:=[0,1,3,0,8,31,0,64,255,511,0,1535,4095,0,16383]) (by kernel_rfl)
 simp[aV,cc,Tryz.f84] at hops
 subst hops
 unfold idM v0
 obtain⟨z,hz⟩:∃z,z=aB 0:=⟨_,rfl⟩
 obtain⟨o,ho⟩:∃z,z=aB 1:=⟨_,rfl⟩
 simp[aa,hG,Tryz.f84,Oracle.or,cG,ai,xq,afA,mC,vL,vA,←hz,←ho,bx,aG,-aQ,bz hb1,cH,ea,eV,cM,cS,iL,bef,mR,Nat.testBit]
theorem jL(M:Mem):ACallsTo Tryz.prog 43 [] M (afA idM v0) M:=by
 have hG:aN Tryz.prog 43=some Tryz.f43:=by kernel_rfl
 have hO:OracleOk Tryz.prog (ai (cG [(85,[],.agg (mC idM)),(84,[.agg (mC idM),vA v0],.tuple [afA idM v0,.int .i64 0])])):=dL fun e he M=>by
  simp only[List.mem_cons,List.not_mem_nil,or_false] at he
  rcases he with rfl | rfl
  ·exact HJ M
  ·exact HI M
 have z:aB 0=[48]:=rfl
 refine aq hO (lv:=fun _=>[]) (K:=1) rfl rfl ?_ M
 simp[aa,hG,Tryz.f43,cG,ai,afA,mC,vL,vA,v0,z,bx]
def zAf:AV:=.agg [.str [],.str [],.str [],.str [],.str [],.str [],.str [],.str [],.str [],.str [],.str [],.str []]
section
variable {pv tv b u sv kn:AV}{c:Evc}{x:Int}{M:Mem}{us:List (List UInt8)}{ub:Nat}{o:Bool}
theorem xU{ev:List AV}(cp:pv.cellOk=true∧tv.cellOk=true) (hl:ev.length=32) (hck:∀x∈ev,x.cellOk=true) (hP:∀Z,ACallsTo Tryz.prog 42 [.agg [pv,tv],.agg ev,.int .i64 x] (M++Z) (.int .i64 10) (M++Z)):
  ACallsTo Tryz.prog 14 [.agg [pv,tv],.agg ev,.int .i64 x] M (.tuple [zAf,.int .i64 10]) M:=by
 have hG:aN Tryz.prog 14=some Tryz.f14:=by kernel_rfl
 obtain⟨c1,c2⟩:=cp
 have hO:OracleOk Tryz.prog (cJ 42 [.agg [pv,tv],.agg ev,.int .i64 x] (.int .i64 10) (fun N=>∃Z,N=M++Z)):=dT fun N ⟨Z,hZ⟩=>by subst hZ;exact hP Z
 clear hP
 have g1:(∀x:AV,x∈ev→x.cellOk=true)=True:=eq_true hck
 have t32:List.take 32 ev=ev:=List.take_of_length_le (by omega)
 have hcs:∀s,(AV.str s).cellOk=true:=fun _=>rfl
 have h:aa (aO Tryz.prog) (fun _=>[]) (aN Tryz.prog) (cJ 42 [.agg [pv,tv],.agg ev,.int .i64 x] (.int .i64 10) (fun N=>∃Z,N=M++Z)) 1 14 [.agg [pv,tv],.agg ev,.int .i64 x] M=some ⟨.tuple [zAf,.int .i64 10],none,[]⟩:=by
  clear hO
  simp[-AV.cellOk,hcs,aa,hG,Tryz.f14,cJ,hl,t32,zAf,bx]
 have:=(af ae (aw _) hO (ax _) h).1
 simpa [CallRes.mem] using this
theorem kh(cp:pv.cellOk=true∧tv.cellOk=true) (hk:(c.k=1∨c.k=4)∨(c.k=2∧x=0)) (hb:b.cellOk=true) (hu:u.cellOk=true) (hs:sv.cellOk=true) (hn:kn.cellOk=true) (hP:∀Z,ACallsTo Tryz.prog 42 [.agg [pv,tv],.agg (c.cells b u sv kn),.int .i64 x] (M++Z) (.int .i64 0) (M++Z)):
  ACallsTo Tryz.prog 14 [.agg [pv,tv],.agg (c.cells b u sv kn),.int .i64 x] M (.tuple [afA idM v0,.int .i64 0]) M:=by
 have hG:aN Tryz.prog 14=some Tryz.f14:=by kernel_rfl
 have hcs:∀s,(AV.str s).cellOk=true:=fun _=>rfl
 have hci:∀k n,(AV.int k n).cellOk=true:=fun _ _=>rfl
 obtain⟨c1,c2⟩:=cp
 have hO:OracleOk Tryz.prog (Oracle.or (cJ 42 [.agg [pv,tv],.agg (c.cells b u sv kn),.int .i64 x] (.int .i64 0) (fun N=>∃Z,N=M++Z)) (ai (cG [(43,[],afA idM v0),(49,[afA idM v0],.int .i64 0)]))):=OracleOk.or (dT fun N ⟨Z,hZ⟩=>by subst hZ;exact hP Z) (dL fun e he M=>by
  simp only[List.mem_cons,List.not_mem_nil,or_false] at he
  rcases he with rfl | rfl
  ·exact jL M
  ·exact jK Gw M)
 clear hP
 have h:aa (aO Tryz.prog) (fun _=>[]) (aN Tryz.prog) (Oracle.or (cJ 42 [.agg [pv,tv],.agg (c.cells b u sv kn),.int .i64 x] (.int .i64 0) (fun N=>∃Z,N=M++Z)) (ai (cG [(43,[],afA idM v0),(49,[afA idM v0],.int .i64 0)]))) 1 14 [.agg [pv,tv],.agg (c.cells b u sv kn),.int .i64 x] M=some ⟨.tuple [afA idM v0,.int .i64 0],none,[]⟩:=by
  clear hO
  unfold afA
  rcases hk with (hk | hk) | ⟨hk,rfl⟩
  ·simp[-AV.cellOk,hcs,aa,hG,Tryz.f14,Oracle.or,cJ,ai,cG,Evc.cells,mC,vL,hk]
  ·simp[-AV.cellOk,hcs,aa,hG,Tryz.f14,Oracle.or,cJ,ai,cG,Evc.cells,mC,vL,hk]
  ·simp[-AV.cellOk,hcs,aa,hG,Tryz.f14,Oracle.or,cJ,ai,cG,Evc.cells,mC,vL,hk]
 have:=(af ae (aw _) hO (ax _) h).1
 simpa [CallRes.mem] using this
end
end Go.Proofs
namespace Go.Proofs
open Go.Eng
def loK(k:Int):Int:=if k=1 then -2 else 0
def hiK(k:Int) (nu nk:Nat):Int:=if k=1 then (nu:Int)-1 else if k=2 then 1 else if k=3 then (nk:Int) else if k=4 then 2 else 0
section
variable {c:Evc}{b u sv kn:AV}{M:Mem}{ub kb nu nk:Nat}{n:Int}
theorem DQ(hb:b.cellOk=true) (hu:u=.slice ub 0 nu none) (hs:sv.cellOk=true) (hn:kn.cellOk=true) (hl:nu≤1000):ACallsTo Tryz.prog 160 [.agg (c.cells b u sv kn)] M (.int .i64 ((nu:Int)-1)) M:=by
 have hG:aN Tryz.prog 160=some Tryz.f160:=by kernel_rfl
 subst hu
 have w1:IntKind.i64.wrap ((nu:Int)-1)=(nu:Int)-1:=ag (by omega) (by omega)
 have h:aa (aO Tryz.prog) (fun _=>[]) (aN Tryz.prog) bt 1 160 [.agg (c.cells b (.slice ub 0 nu none) sv kn)] M=some ⟨.int .i64 ((nu:Int)-1),none,[]⟩:=by
  simp[-AV.cellOk,aa,hG,Tryz.f160,Evc.cells,w1]
 have:=(af ae (aw _) (ak _) (ax _) h).1
 simpa [CallRes.mem] using this
theorem DR(hb:b.cellOk=true) (hu:u.cellOk=true) (hs:sv.cellOk=true) (hn:kn.cellOk=true):ACallsTo Tryz.prog 165 [.agg (c.cells b u sv kn)] M (.int .i64 1) M:=by
 have hG:aN Tryz.prog 165=some Tryz.f165:=by kernel_rfl
 have h:aa (aO Tryz.prog) (fun _=>[]) (aN Tryz.prog) bt 1 165 [.agg (c.cells b u sv kn)] M=some ⟨.int .i64 1,none,[]⟩:=by
  simp[-AV.cellOk,aa,hG,Tryz.f165,Evc.cells]
 have:=(af ae (aw _) (ak _) (ax _) h).1
 simpa [CallRes.mem] using this
theorem DS(hb:b.cellOk=true) (hu:u.cellOk=true) (hs:sv.cellOk=true) (hn:kn=.slice kb 0 nk none):ACallsTo Tryz.prog 169 [.agg (c.cells b u sv kn)] M (.int .i64 (nk:Int)) M:=by
 have hG:aN Tryz.prog 169=some Tryz.f169:=by kernel_rfl
 subst hn
 have h:aa (aO Tryz.prog) (fun _=>[]) (aN Tryz.prog) bt 1 169 [.agg (c.cells b u sv (.slice kb 0 nk none))] M=some ⟨.int .i64 (nk:Int),none,[]⟩:=by
  simp[-AV.cellOk,aa,hG,Tryz.f169,Evc.cells]
 have:=(af ae (aw _) (ak _) (ax _) h).1
 simpa [CallRes.mem] using this
theorem DT(hb:b.cellOk=true) (hu:u.cellOk=true) (hs:sv.cellOk=true) (hn:kn.cellOk=true):ACallsTo Tryz.prog 174 [.agg (c.cells b u sv kn)] M (.int .i64 2) M:=by
 have hG:aN Tryz.prog 174=some Tryz.f174:=by kernel_rfl
 have h:aa (aO Tryz.prog) (fun _=>[]) (aN Tryz.prog) bt 1 174 [.agg (c.cells b u sv kn)] M=some ⟨.int .i64 2,none,[]⟩:=by
  simp[-AV.cellOk,aa,hG,Tryz.f174,Evc.cells]
 have:=(af ae (aw _) (ak _) (ax _) h).1
 simpa [CallRes.mem] using this
theorem DU(hb:b.cellOk=true) (hu:u.cellOk=true) (hs:sv.cellOk=true) (hn:kn.cellOk=true):ACallsTo Tryz.prog 179 [.agg (c.cells b u sv kn)] M (.int .i64 0) M:=by
 have hG:aN Tryz.prog 179=some Tryz.f179:=by kernel_rfl
 have h:aa (aO Tryz.prog) (fun _=>[]) (aN Tryz.prog) bt 1 179 [.agg (c.cells b u sv kn)] M=some ⟨.int .i64 0,none,[]⟩:=by
  simp[-AV.cellOk,aa,hG,Tryz.f179,Evc.cells]
 have:=(af ae (aw _) (ak _) (ax _) h).1
 simpa [CallRes.mem] using this
set_option maxHeartbeats 1600000 in
theorem kz(hk:c.k=1∨c.k=2∨c.k=3∨c.k=4∨c.k=5) (hb:b.cellOk=true) (hu:u.cellOk=true) (hs:sv.cellOk=true) (hn:kn.cellOk=true) (h1:c.k=1→u=.slice ub 0 nu none) (h3:c.k=3→kn=.slice kb 0 nk none) (hl:nu≤1000) (hub:c.k=1→ub<M.length):
  ACallsTo Tryz.prog 15 [.agg (c.cells b u sv kn),.int .i64 n] M (.bool (decide (loK c.k≤n∧n≤hiK c.k nu nk))) M:=by
 have hG:aN Tryz.prog 15=some Tryz.f15:=by kernel_rfl
 have w1:IntKind.i64.wrap ((nu:Int)-1)=(nu:Int)-1:=ag (by omega) (by omega)
 have w2:IntKind.i64.wrap (-2)= -2:=rfl
 obtain⟨os,hops⟩:∃os,aV Tryz.f15=[os]:=⟨_,rfl⟩
 have hbs:=di hops (l:=[0,1,3,7,15,0,63]) (by kernel_rfl)
 have hab:cU [0,1,3,7,15,0,63] 6=true:=by decide
 simp[aV,cc,Tryz.f15] at hops
 subst hops
 by_cases hk1:c.k=1
 ·obtain rfl:=h1 hk1
  have hu0:=hub hk1
  have hu1:ub<M.length+1:=by omega
  have e1:loK 1= -2:=rfl
  have e2:hiK 1 nu nk=(nu:Int)-1:=rfl
  rw[hk1,e1,e2]
  have hr:∃new,bT (aO Tryz.prog) (fun _=>[]) (aN Tryz.prog) bt 1 15 [.agg (c.cells b (.slice ub 0 nu none) sv kn),.int .i64 n] M=some (.bool (decide (-2≤n∧n≤(nu:Int)-1)),M++new):=by
   have key:decide (-2≤n∧n≤(nu:Int)-1)=(decide (-2≤n)&&decide (n≤(nu:Int)-1)):=by by_cases h: -2≤n<;>by_cases h' :n≤(nu:Int)-1<;>simp[h,h']
   rw[key]
   by_cases g: -2≤n<;>simp[-getElem?_pos,-AV.cellOk,-AV.known,-AV.cells,-fl,-List.all_eq_true,vS,rS,mS,bT,hG,Tryz.f15,Evc.cells,hk1,hu1,w1,g,-br,-bk,-aQ,-AV.refsOk,-Slot.refsOk,aA hbs,bN,bF,bL,hab]
  obtain⟨new,hr⟩:=hr
  exact ACallsTo.forget rfl (bQ ae (aw _) (ak _) (ax _) hr)
 have key:∀lo hi:Int,decide (lo≤n∧n≤hi)=(decide (lo≤n)&&decide (n≤hi)):=fun lo hi=>by by_cases h:lo≤n<;>by_cases h' :n≤hi<;>simp[h,h']
 have h:aa (aO Tryz.prog) (fun _=>[]) (aN Tryz.prog) bt 1 15 [.agg (c.cells b u sv kn),.int .i64 n] M=some ⟨.bool (decide (loK c.k≤n∧n≤hiK c.k nu nk)),none,[]⟩:=by
  rw[key]
  rcases hk with hk | hk | hk | hk | hk
  ·exact absurd hk hk1
  ·have e1:loK 2=0:=rfl
   have e2:hiK 2 nu nk=1:=rfl
   rw[hk,e1,e2]
   by_cases g:0≤n<;>simp[-AV.cellOk,aa,hG,Tryz.f15,Evc.cells,hk,g]
  ·obtain rfl:=h3 hk
   have e1:loK 3=0:=rfl
   have e2:hiK 3 nu nk=(nk:Int):=rfl
   rw[hk,e1,e2]
   by_cases g:0≤n<;>simp[-AV.cellOk,aa,hG,Tryz.f15,Evc.cells,hk,g]
  ·have e1:loK 4=0:=rfl
   have e2:hiK 4 nu nk=2:=rfl
   rw[hk,e1,e2]
   by_cases g:0≤n<;>simp[-AV.cellOk,aa,hG,Tryz.f15,Evc.cells,hk,g]
  ·have e1:loK 5=0:=rfl
   have e2:hiK 5 nu nk=0:=rfl
   rw[hk,e1,e2]
   by_cases g:0≤n<;>simp[-AV.cellOk,aa,hG,Tryz.f15,Evc.cells,hk,g]
 have:=(af ae (aw _) (ak _) (ax _) h).1
 simpa [CallRes.mem] using this
end
end Go.Proofs
namespace Go.Proofs
open Go.Eng
noncomputable def dX:Array Oper:=match Tryz.f146.body with
 |some (.seq _ (.seq _ (.seq _ (.seq _ (.seq (.region _ ops _) _)))))=>ops
 |_=> #[]
noncomputable def nY:List Oper:=(dX.toList.drop 0).take 33
noncomputable def nZ:List Oper:=(dX.toList.drop 33).take 33
noncomputable def n8:List Oper:=(dX.toList.drop 66).take 35
theorem Gc:dX.toList=nY++(nZ++n8):=by kernel_rfl
section
variable {O:Oracle}{m0:Nat}{ops:Array Oper}{env:Env}{mem:Mem}{d:Bool}{w x y z A B C D E F G H I J K1 K2 K3 K4 K5 K6 K7 K8 K9 S1 S4 S5 S6 S7 S8 S9 S10 S11 S12 S13:Int}{r1 r2 r3:V3}
set_option maxRecDepth 8192 in
set_option maxHeartbeats 3200000 in
theorem IK(h3:ab env 3=.int .i64 w) (h4:ab env 4=.int .i64 x) (h5:ab env 5=.int .i64 y) (h6:ab env 6=.int .i64 z) (h8:ab env 8=.func 214 [.ptr 2 0]) (pA:IntKind.i64.wrap (w*w)=A) (pB:IntKind.i64.wrap (x*x)=B) (pC:IntKind.i64.wrap (y*y)=C) (pD:IntKind.i64.wrap (z*z)=D) (pE:IntKind.i64.wrap (x*y)=E) (pF:IntKind.i64.wrap (w*z)=F) (pG:IntKind.i64.wrap (x*z)=G) (pH:IntKind.i64.wrap (w*y)=H) (u1:IntKind.i64.wrap (A+B)=S1) (u4:IntKind.i64.wrap (S1-C)=S4) (q1:IntKind.i64.wrap (S4-D)=K1) (u5:IntKind.i64.wrap (E-F)=S5) (q2:IntKind.i64.wrap (2*S5)=K2) (u6:IntKind.i64.wrap (G+H)=S6) (q3:IntKind.i64.wrap (2*S6)=K3) (hO:O (.fn 214) [.int .i64 K1,.int .i64 K2,.int .i64 K3,.ptr 2 0] mem=some ⟨vA r1,none,[]⟩):
  ∃env',cO (aO Tryz.prog) O 133 m0 ops nY ⟨env,mem,d⟩=some ⟨env',mem,d⟩∧ab env' 2=ab env 2∧ab env' 3=.int .i64 w∧ab env' 4=.int .i64 x∧ab env' 5=.int .i64 y∧ab env' 6=.int .i64 z∧ab env' 8=.func 214 [.ptr 2 0]∧ab env' 65=vA r1:=by
 unfold vA at*
 simp[nY,dX,Tryz.f146,h3,h4,h5,h6,h8,pA,pB,pC,pD,pE,pF,pG,pH,u1,u4,q1,u5,q2,u6,q3,hO]
set_option maxRecDepth 8192 in
set_option maxHeartbeats 3200000 in
theorem IL(h3:ab env 3=.int .i64 w) (h4:ab env 4=.int .i64 x) (h5:ab env 5=.int .i64 y) (h6:ab env 6=.int .i64 z) (h8:ab env 8=.func 214 [.ptr 2 0]) (k65:ab env 65=vA r1) (pA:IntKind.i64.wrap (w*w)=A) (pB:IntKind.i64.wrap (x*x)=B) (pC:IntKind.i64.wrap (y*y)=C) (pD:IntKind.i64.wrap (z*z)=D) (pE:IntKind.i64.wrap (x*y)=E) (pF:IntKind.i64.wrap (w*z)=F) (pI:IntKind.i64.wrap (y*z)=I) (pJ:IntKind.i64.wrap (w*x)=J) (u7:IntKind.i64.wrap (E+F)=S7) (q4:IntKind.i64.wrap (2*S7)=K4) (u8:IntKind.i64.wrap (A-B)=S8) (u9:IntKind.i64.wrap (S8+C)=S9) (q5:IntKind.i64.wrap (S9-D)=K5) (u10:IntKind.i64.wrap (I-J)=S10) (q6:IntKind.i64.wrap (2*S10)=K6) (hO:O (.fn 214) [.int .i64 K4,.int .i64 K5,.int .i64 K6,.ptr 2 0] mem=some ⟨vA r2,none,[]⟩):
  ∃env',cO (aO Tryz.prog) O 133 m0 ops nZ ⟨env,mem,d⟩=some ⟨env',mem,d⟩∧ab env' 2=ab env 2∧ab env' 3=.int .i64 w∧ab env' 4=.int .i64 x∧ab env' 5=.int .i64 y∧ab env' 6=.int .i64 z∧ab env' 8=.func 214 [.ptr 2 0]∧ab env' 65=vA r1∧ab env' 98=vA r2:=by
 unfold vA at*
 simp[nZ,dX,Tryz.f146,h3,h4,h5,h6,h8,k65,pA,pB,pC,pD,pE,pF,pI,pJ,u7,q4,u8,u9,q5,u10,q6,hO]
set_option maxRecDepth 8192 in
set_option maxHeartbeats 3200000 in
theorem IM(h3:ab env 3=.int .i64 w) (h4:ab env 4=.int .i64 x) (h5:ab env 5=.int .i64 y) (h6:ab env 6=.int .i64 z) (h8:ab env 8=.func 214 [.ptr 2 0]) (h2:ab env 2=.ptr 1 0) (k65:ab env 65=vA r1) (k98:ab env 98=vA r2) (pA:IntKind.i64.wrap (w*w)=A) (pB:IntKind.i64.wrap (x*x)=B) (pC:IntKind.i64.wrap (y*y)=C) (pD:IntKind.i64.wrap (z*z)=D) (pG:IntKind.i64.wrap (x*z)=G) (pH:IntKind.i64.wrap (w*y)=H) (pI:IntKind.i64.wrap (y*z)=I) (pJ:IntKind.i64.wrap (w*x)=J) (u11:IntKind.i64.wrap (G-H)=S11) (q7:IntKind.i64.wrap (2*S11)=K7) (u12:IntKind.i64.wrap (I+J)=S12) (q8:IntKind.i64.wrap (2*S12)=K8) (u8:IntKind.i64.wrap (A-B)=S8) (u13:IntKind.i64.wrap (S8-C)=S13) (q9:IntKind.i64.wrap (S13+D)=K9) (hO:O (.fn 214) [.int .i64 K7,.int .i64 K8,.int .i64 K9,.ptr 2 0] mem=some ⟨vA r3,none,[]⟩) (hm:∃X Y,mem=[X,.cells true 0 [.str [],.str [],.str [],.str [],.str [],.str [],.str [],.str [],.str []],Y]) (hm0:m0=0) (hd:d=false):
  ∃env',cO (aO Tryz.prog) O 133 m0 ops n8 ⟨env,mem,d⟩=some ⟨env',mem.set 1 (.cells true 0 (mC (r1,r2,r3))),d⟩∧ab env' 2=.ptr 1 0:=by
 obtain⟨X,Y,rfl⟩:=hm
 subst hm0 hd
 unfold vA at*
 simp[n8,dX,Tryz.f146,h3,h4,h5,h6,h8,h2,k65,k98,pA,pB,pC,pD,pG,pH,pI,pJ,u11,q7,u12,q8,u8,u13,q9,hO,mC,bx]
end
theorem gh{a b:Int}(ha:a.natAbs≤20) (hb:b.natAbs≤20): -400≤a*b∧a*b≤400:=by
 have:=Sp ha hb
 omega
noncomputable def fa(k:Nat):Array Oper:=match Tryz.f146.body with
 |some (.seq (.region _ a _) (.seq (.region _ b _) (.seq (.region _ c _) (.seq (.region _ e _) _))))=>if k=0 then a else if k=1 then b else if k=2 then c else e
 |_=> #[]
set_option maxRecDepth 8192 in
set_option maxHeartbeats 6400000 in
theorem H2{t:I4}(ht:tLe 20 t) (hz:¬zW t) (M:Mem):ACallsTo Tryz.prog 146 [tA t] M (.agg (mC (HH t))) M:=by
 have hG:aN Tryz.prog 146=some Tryz.f146:=by kernel_rfl
 have hpos:=Kf hz
 obtain⟨w,x,y,z⟩:=t
 obtain⟨h1,h2,h3,h4⟩:=ht
 simp only at h1 h2 h3 h4 hpos
 unfold HH Oq tA
 simp only
 obtain⟨lA,nA⟩:=gh h1 h1
 obtain⟨lB,nB⟩:=gh h2 h2
 obtain⟨lC,nC⟩:=gh h3 h3
 obtain⟨lD,nD⟩:=gh h4 h4
 obtain⟨lE,nE⟩:=gh h2 h3
 obtain⟨lF,nF⟩:=gh h1 h4
 obtain⟨lG,nG⟩:=gh h2 h4
 obtain⟨lH,nH⟩:=gh h1 h3
 obtain⟨lI,nI⟩:=gh h3 h4
 obtain⟨lJ,nJ⟩:=gh h1 h2
 obtain⟨A,hA⟩:∃A,A=w*w:=⟨_,rfl⟩
 obtain⟨B,hB⟩:∃A,A=x*x:=⟨_,rfl⟩
 obtain⟨C,hC⟩:∃A,A=y*y:=⟨_,rfl⟩
 obtain⟨D,hD⟩:∃A,A=z*z:=⟨_,rfl⟩
 obtain⟨E,hE⟩:∃A,A=x*y:=⟨_,rfl⟩
 obtain⟨F,hF⟩:∃A,A=w*z:=⟨_,rfl⟩
 obtain⟨G,hG'⟩:∃A,A=x*z:=⟨_,rfl⟩
 obtain⟨H,hH⟩:∃A,A=w*y:=⟨_,rfl⟩
 obtain⟨I,hI⟩:∃A,A=y*z:=⟨_,rfl⟩
 obtain⟨J,hJ⟩:∃A,A=w*x:=⟨_,rfl⟩
 rw[←hA] at lA nA hpos
 rw[←hB] at lB nB hpos
 rw[←hC] at lC nC hpos
 rw[←hD] at lD nD hpos
 rw[←hE] at lE nE
 rw[←hF] at lF nF
 rw[←hG'] at lG nG
 rw[←hH] at lH nH
 rw[←hI] at lI nI
 rw[←hJ] at lJ nJ
 rw[←hA,←hB,←hC,←hD,←hE,←hF,←hG',←hH,←hI,←hJ]
 clear h1 h2 h3 h4
 have wr:∀n:Int,-1000000≤n∧n≤1000000→IntKind.i64.wrap n=n:=fun n h=>ia h.1 h.2
 have pA:IntKind.i64.wrap (w*w)=A:=by rw[←hA];exact wr A (by omega)
 have pB:IntKind.i64.wrap (x*x)=B:=by rw[←hB];exact wr B (by omega)
 have pC:IntKind.i64.wrap (y*y)=C:=by rw[←hC];exact wr C (by omega)
 have pD:IntKind.i64.wrap (z*z)=D:=by rw[←hD];exact wr D (by omega)
 have pE:IntKind.i64.wrap (x*y)=E:=by rw[←hE];exact wr E (by omega)
 have pF:IntKind.i64.wrap (w*z)=F:=by rw[←hF];exact wr F (by omega)
 have pG:IntKind.i64.wrap (x*z)=G:=by rw[←hG'];exact wr G (by omega)
 have pH:IntKind.i64.wrap (w*y)=H:=by rw[←hH];exact wr H (by omega)
 have pI:IntKind.i64.wrap (y*z)=I:=by rw[←hI];exact wr I (by omega)
 have pJ:IntKind.i64.wrap (w*x)=J:=by rw[←hJ];exact wr J (by omega)
 clear hA hB hC hD hE hF hG' hH hI hJ
 obtain⟨S,hS⟩:∃S,S=A+B+C+D:=⟨_,rfl⟩
 have pS:0<S:=by omega
 have lS:S.natAbs≤1000000:=by omega
 have u1:=wr (A+B) (by omega)
 have u2:=wr (A+B+C) (by omega)
 have u3:IntKind.i64.wrap (A+B+C+D)=S:=by rw[←hS];exact wr S (by omega)
 rw[←hS]
 obtain⟨r1,e1⟩:∃r:V3,r=(mkRat (A+B-C-D) S.toNat,mkRat (2*(E-F)) S.toNat,mkRat (2*(G+H)) S.toNat):=⟨_,rfl⟩
 obtain⟨r2,e2⟩:∃r:V3,r=(mkRat (2*(E+F)) S.toNat,mkRat (A-B+C-D) S.toNat,mkRat (2*(I-J)) S.toNat):=⟨_,rfl⟩
 obtain⟨r3,e3⟩:∃r:V3,r=(mkRat (2*(G-H)) S.toNat,mkRat (2*(I+J)) S.toNat,mkRat (A-B-C+D) S.toNat):=⟨_,rfl⟩
 rw[←e1,←e2,←e3]
 obtain⟨m0,hm0⟩:∃m:Mem,m=[.cells true 0 [.int .i64 w,.int .i64 x,.int .i64 y,.int .i64 z],.cells true 0 [.str [],.str [],.str [],.str [],.str [],.str [],.str [],.str [],.str []],.cells true 0 [.int .i64 S]]:=⟨_,rfl⟩
 have hO:OracleOk Tryz.prog (AS fun c a N r=>∃p q v:Int,(c=.fn 214∧a=[.int .i64 p,.int .i64 q,.int .i64 v,.ptr 2 0]∧N=m0)∧(p.natAbs≤1000000∧q.natAbs≤1000000∧v.natAbs≤1000000)∧r=⟨vA (mkRat p S.toNat,mkRat q S.toNat,mkRat v S.toNat),none,[]⟩):=C9 fun c a N r ⟨p,q,v,⟨h1,h2,h3⟩,⟨g1,g2,g3⟩,h4⟩=>by
  subst h1 h2 h3 h4 hm0
  exact ah (by simpa [CallRes.mem] using H0 p q v S pS lS g1 g2 g3 _ _)
 have hq:∀p q v:Int,p.natAbs≤1000000→q.natAbs≤1000000→v.natAbs≤1000000→AS (fun c a N r=>∃p q v:Int,(c=.fn 214∧a=[.int .i64 p,.int .i64 q,.int .i64 v,.ptr 2 0]∧N=m0)∧(p.natAbs≤1000000∧q.natAbs≤1000000∧v.natAbs≤1000000)∧r=⟨vA (mkRat p S.toNat,mkRat q S.toNat,mkRat v S.toNat),none,[]⟩) (.fn 214) [.int .i64 p,.int .i64 q,.int .i64 v,.ptr 2 0] m0=some ⟨vA (mkRat p S.toNat,mkRat q S.toNat,mkRat v S.toNat),none,[]⟩:=fun p q v g1 g2 g3=>k9 ⟨p,q,v,⟨rfl,rfl,rfl⟩,⟨g1,g2,g3⟩,rfl⟩ fun r' ⟨p',q',v',⟨_,h2,_⟩,_,h4⟩=>by
  simp only[List.cons.injEq,AV.int.injEq,true_and,and_true] at h2
  obtain⟨rfl,rfl,rfl⟩:=h2
  exact h4
 obtain⟨O,hOO⟩:∃O,O=AS (fun c a N r=>∃p q v:Int,(c=.fn 214∧a=[.int .i64 p,.int .i64 q,.int .i64 v,.ptr 2 0]∧N=m0)∧(p.natAbs≤1000000∧q.natAbs≤1000000∧v.natAbs≤1000000)∧r=⟨vA (mkRat p S.toNat,mkRat q S.toNat,mkRat v S.toNat),none,[]⟩):=⟨_,rfl⟩
 rw[←hOO] at hO
 simp only[←hOO] at hq
 clear hOO
 have o1:=hq (A+B-C-D) (2*(E-F)) (2*(G+H)) (by omega) (by omega) (by omega)
 have o2:=hq (2*(E+F)) (A-B+C-D) (2*(I-J)) (by omega) (by omega) (by omega)
 have o3:=hq (2*(G-H)) (2*(I+J)) (A-B-C+D) (by omega) (by omega) (by omega)
 rw[←e1] at o1
 rw[←e2] at o2
 rw[←e3] at o3
 obtain⟨ops,hops⟩:∃o,o=dX:=⟨_,rfl⟩
 obtain⟨Fu,hFu⟩:=pd (p:=fun e (_:Bool)=>(ab e 2=.ptr 1 0∧ab e 3=.int .i64 w∧ab e 4=.int .i64 x∧ab e 5=.int .i64 y∧ab e 6=.int .i64 z∧ab e 8=.func 214 [.ptr 2 0])) (q:=fun env (_:Bool) env' =>cO (aO Tryz.prog) O 133 0 ops ops.toList ⟨env,m0,false⟩=some ⟨env',m0.set 1 (.cells true 0 (mC (r1,r2,r3))),false⟩∧ab env' 2=.ptr 1 0) (fun env _ h=>by
  obtain⟨h2,h3,h4,h5,h6,h8⟩:=h
  subst hops
  obtain⟨E0,R0,a2,a3,a4,a5,a6,a8,a65⟩:=IK (O:=O) (m0:=0) (ops:=dX) (mem:=m0) (d:=false) h3 h4 h5 h6 h8 pA pB pC pD pE pF pG pH u1 (wr (A+B-C) (by omega)) (wr (A+B-C-D) (by omega)) (wr (E-F) (by omega)) (wr (2*(E-F)) (by omega)) (wr (G+H) (by omega)) (wr (2*(G+H)) (by omega)) o1
  obtain⟨E1,R1,b2,b3,b4,b5,b6,b8,b65,b98⟩:=IL (O:=O) (m0:=0) (ops:=dX) (mem:=m0) (d:=false) a3 a4 a5 a6 a8 a65 pA pB pC pD pE pF pI pJ (wr (E+F) (by omega)) (wr (2*(E+F)) (by omega)) (wr (A-B) (by omega)) (wr (A-B+C) (by omega)) (wr (A-B+C-D) (by omega)) (wr (I-J) (by omega)) (wr (2*(I-J)) (by omega)) o2
  obtain⟨E2,R2,c2⟩:=IM (O:=O) (m0:=0) (ops:=dX) (mem:=m0) (d:=false) b3 b4 b5 b6 b8 (b2.trans (a2.trans h2)) b65 b98 pA pB pC pD pG pH pI pJ (wr (G-H) (by omega)) (wr (2*(G-H)) (by omega)) (wr (I+J) (by omega)) (wr (2*(I+J)) (by omega)) (wr (A-B) (by omega)) (wr (A-B-C) (by omega)) (wr (A-B-C+D) (by omega)) o3 ⟨_,_,hm0⟩ rfl rfl
  exact⟨E2,by rw[Gc];exact dh R0 (dh R1 R2),c2⟩)
 have hF1:=fun env h2 h3 h4 h5 h6 h8=>(hFu env false ⟨h2,h3,h4,h5,h6,h8⟩).1
 have hF2:=fun env h2 h3 h4 h5 h6 h8=>(hFu env false ⟨h2,h3,h4,h5,h6,h8⟩).2
 have hb:Tryz.f146.body=some (.seq (.region 0 (fa 0) false) (.seq (.region 1 (fa 1) true) (.seq (.region 2 (fa 2) false) (.seq (.region 3 (fa 3) false) (.seq (.region 4 ops false) .ret))))):=by rw[hops];kernel_rfl
 subst hm0
 refine aq hO (lv:=fun _=>[]) (K:=1) rfl rfl ?_ M
 clear hFu hO hq o1 o2 o3 e1 e2 e3
 obtain⟨o1,hop1⟩:∃o,o=fa 1:=⟨_,rfl⟩
 have hbs:ek o1.toList=[0,1,0,4,0,16,0,64,3,271,831,2047]:=by rw[hop1];kernel_rfl
 have hab:cU [0,1,0,4,0,16,0,64,3,271,831,2047] 11=true:=by decide
 have h1' :fa 1=o1:=hop1.symm
 unfold aa
 rw[hG]
 dsimp only
 rw[hb]
 dsimp only
 rw[h1']
 clear h1' hb
 simp[fa,Tryz.f146] at hop1
 subst hop1
 simp[-aQ,aA hbs,bN,bF,bL,hab,hF1,hF2,fa,Tryz.f146,pA,pB,pC,pD,u1,u2,u3,mC]
end Go.Proofs
