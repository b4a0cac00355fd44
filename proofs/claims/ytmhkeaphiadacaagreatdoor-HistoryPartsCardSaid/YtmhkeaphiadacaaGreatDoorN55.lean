/- See N58. -/
import Derived.Test.YtmhkeaphiadacaaGreatDoorN46
import Derived.Test.YtmhkeaphiadacaaGreatDoorN48
set_option linter.all false
namespace Go.Proofs
open Go.Eng
set_option maxRecDepth 16384 in
set_option maxHeartbeats 16000000 in
theorem F5(O:Oracle) (s:Sheet) (d:Deed) (w1:Slot) (ev:List AV) (x1 x2 x3 x4 x5:Slot) (hev:ev.length=32) (fev:∀x∈ev,x.cellOk=true) (rev:∀k,13≤k→AV.refsOkL (fun b=>decide (b<k)) ev=true) (ax1:bG x1=true) (ax2:bG x2=true) (ax3:bG x3=true) (ax4:bG x4=true) (ax5:bG x5=true) (qx:∀k,13≤k→x1.refsOk (fun b=>decide (b<k))=true∧x2.refsOk (fun b=>decide (b<k))=true∧x3.refsOk (fun b=>decide (b<k))=true∧x4.refsOk (fun b=>decide (b<k))=true∧x5.refsOk (fun b=>decide (b<k))=true)
  (hD0:O (.fn 9) [shB s 4 5,.agg d.cells,.int .i64 0] [.cells false 12 d.cells,w1,.cells true 0 [.int .u8 s.kind,.int .i8 s.sx,.int .i8 s.sy,.bool s.half,.slice 0 0 1 none],.cells true 0 [.nilslice,.nilslice,.str [],.nilslice],.cells true 2 (pC s.P),.cells true 3 (tC s.T),.cells true 0 [.slice 4 0 s.P.length none,.slice 5 0 s.T.length none,.str [98,97,115,101],.nilslice],.cells true 0 d.cells]=some ⟨.agg ev,none,[x1,x2,x3,x4,x5]⟩)
  (hMk:∀M,O (.fn 33) [.agg [.int .u8 s.kind,.int .i8 s.sx,.int .i8 s.sy,.bool s.half]] M=some ⟨shB s M.length (M.length+1),none,[.cells true 2 (pC s.P),.cells true 3 (tC s.T)]⟩)
  : aT (az Tryz.prog) fJ (aI Tryz.prog) O 5 8 [.agg [.int .u8 s.kind,.int .i8 s.sx,.int .i8 s.sy,.bool s.half,.slice 0 0 1 none]] [.cells false 12 d.cells,w1]=some (.agg [.slice 4 0 s.P.length none,.slice 5 0 s.T.length none,.str [98,97,115,101],.slice 14 0 1 none],[.cells false 12 d.cells,w1,.cells true 0 [.int .u8 s.kind,.int .i8 s.sx,.int .i8 s.sy,.bool s.half,.slice 0 0 1 none],.cells true 0 [.slice 4 0 s.P.length none,.slice 5 0 s.T.length none,.str [98,97,115,101],.slice 14 0 1 none],.cells true 2 (pC s.P),.cells true 3 (tC s.T),.cells true 0 [.slice 4 0 s.P.length none,.slice 5 0 s.T.length none,.str [98,97,115,101],.slice 14 0 1 none],.cells true 0 d.cells,x1,x2,x3,x4,x5,.cells true 32 ev,.cells true 32 (ev)]):=by
 have hG:aI Tryz.prog 8=some Tryz.f8:=by kernel_rfl
 obtain⟨os,hops⟩:∃os,aG Tryz.f8=os:=⟨_,rfl⟩
 have hbs:=aV hops (ls:=[[0,1,0,4,0,0,60,124,255,511,1023]]) (by kernel_rfl)
 simp only[aG,bC,Tryz.f8,List.nil_append,List.append_nil,List.cons_append] at hops
 subst hops
 simp only[List.map_cons,List.map_nil,List.cons.injEq,and_true] at hbs
 have k6:fc [0,1,0,4,0,0,60,124,255,511,1023] 11 6=true:=by decide
 have k7:fc [0,1,0,4,0,0,60,124,255,511,1023] 11 7=true:=by decide
 have k8:fc [0,1,0,4,0,0,60,124,255,511,1023] 11 8=true:=by decide
 have k10:fc [0,1,0,4,0,0,60,124,255,511,1023] 11 10=true:=by decide
 have j10:aS [0,1,0,4,0,0,60,124,255,511,1023] 10=true:=by decide
 have j8:aS [0,1,0,4,0,0,60,124,255,511,1023] 8=true:=by decide
 have sa:∀f,Slot.refsOk f Slot.absent=true:=fun _=>rfl
 have w1:IntKind.i64.wrap 1=1:=rfl
 have w2:IntKind.i64.wrap 2=2:=rfl
 have w3:IntKind.i64.wrap 3=3:=rfl
 have g0:(∀x:AV,x∈ev→x.cellOk=true)=True:=eq_true fev
 have t0:List.take 32 ev=ev:=List.take_of_length_le (by omega)
 obtain⟨kd0,⟨A10,A20,A30⟩,⟨B10,B20,B30⟩,N0,⟨K10,K20,K30,K40⟩⟩:=d
 simp[shB,Deed.cells] at hD0 hMk
 simp[-AV.cellOk,gW,qo,qi,kN,qj,qm,g0,t0,aT,hG,Tryz.f8,hMk,hD0,hev,rev,qx,dJ,eD,cW,-Slot.refsOk,ax1,ax2,ax3,ax4,ax5,Deed.cells,shB,bB,ar,-aF,eG hbs,fS,ky,ue,cf,k6,k7,k8,k10,j8,sa,j10,Nat.testBit,aC,dS,fJ,w1,w2,w3,dX,cC,cP,oZ,pW]
set_option maxRecDepth 16384 in
set_option maxHeartbeats 16000000 in
theorem F6(O:Oracle) (s:Sheet) (d e:Deed) (w1:Slot) (ev:List AV) (x1 x2 x3 x4 x5:Slot) (hev:ev.length=32) (fev:∀x∈ev,x.cellOk=true) (rev:∀k,13≤k→AV.refsOkL (fun b=>decide (b<k)) ev=true) (ax1:bG x1=true) (ax2:bG x2=true) (ax3:bG x3=true) (ax4:bG x4=true) (ax5:bG x5=true) (qx:∀k,13≤k→x1.refsOk (fun b=>decide (b<k))=true∧x2.refsOk (fun b=>decide (b<k))=true∧x3.refsOk (fun b=>decide (b<k))=true∧x4.refsOk (fun b=>decide (b<k))=true∧x5.refsOk (fun b=>decide (b<k))=true) (ew:List AV) (y1 y2 y3 y4 y5:Slot) (hew:ew.length=32) (few:∀x∈ew,x.cellOk=true) (rew:∀k,21≤k→AV.refsOkL (fun b=>decide (b<k)) ew=true) (ay1:bG y1=true) (ay2:bG y2=true) (ay3:bG y3=true) (ay4:bG y4=true) (ay5:bG y5=true) (qy:∀k,21≤k→y1.refsOk (fun b=>decide (b<k))=true∧y2.refsOk (fun b=>decide (b<k))=true∧y3.refsOk (fun b=>decide (b<k))=true∧y4.refsOk (fun b=>decide (b<k))=true∧y5.refsOk (fun b=>decide (b<k))=true)
  (hD0:O (.fn 9) [shB s 4 5,.agg d.cells,.int .i64 0] [.cells false 12 (d.cells++e.cells),w1,.cells true 0 [.int .u8 s.kind,.int .i8 s.sx,.int .i8 s.sy,.bool s.half,.slice 0 0 2 none],.cells true 0 [.nilslice,.nilslice,.str [],.nilslice],.cells true 2 (pC s.P),.cells true 3 (tC s.T),.cells true 0 [.slice 4 0 s.P.length none,.slice 5 0 s.T.length none,.str [98,97,115,101],.nilslice],.cells true 0 d.cells]=some ⟨.agg ev,none,[x1,x2,x3,x4,x5]⟩)
  (hD1:O (.fn 9) [shB s 4 5,.agg e.cells,.int .i64 1] [.cells false 12 (d.cells++e.cells),w1,.cells true 0 [.int .u8 s.kind,.int .i8 s.sx,.int .i8 s.sy,.bool s.half,.slice 0 0 2 none],.cells true 0 [.nilslice,.nilslice,.str [],.nilslice],.cells true 2 (pC s.P),.cells true 3 (tC s.T),.cells true 0 [.slice 4 0 s.P.length none,.slice 5 0 s.T.length none,.str [98,97,115,101],.slice 14 0 1 none],.cells true 0 d.cells,x1,x2,x3,x4,x5,.cells true 32 ev,.cells true 32 (ev),.cells true 0 e.cells]=some ⟨.agg ew,none,[y1,y2,y3,y4,y5]⟩)
  (hMk:∀M,O (.fn 33) [.agg [.int .u8 s.kind,.int .i8 s.sx,.int .i8 s.sy,.bool s.half]] M=some ⟨shB s M.length (M.length+1),none,[.cells true 2 (pC s.P),.cells true 3 (tC s.T)]⟩)
  : aT (az Tryz.prog) fJ (aI Tryz.prog) O 5 8 [.agg [.int .u8 s.kind,.int .i8 s.sx,.int .i8 s.sy,.bool s.half,.slice 0 0 2 none]] [.cells false 12 (d.cells++e.cells),w1]=some (.agg [.slice 4 0 s.P.length none,.slice 5 0 s.T.length none,.str [98,97,115,101],.slice 22 0 2 none],[.cells false 12 (d.cells++e.cells),w1,.cells true 0 [.int .u8 s.kind,.int .i8 s.sx,.int .i8 s.sy,.bool s.half,.slice 0 0 2 none],.cells true 0 [.slice 4 0 s.P.length none,.slice 5 0 s.T.length none,.str [98,97,115,101],.slice 22 0 2 none],.cells true 2 (pC s.P),.cells true 3 (tC s.T),.cells true 0 [.slice 4 0 s.P.length none,.slice 5 0 s.T.length none,.str [98,97,115,101],.slice 22 0 2 none],.cells true 0 d.cells,x1,x2,x3,x4,x5,.cells true 32 ev,.absent,.cells true 0 e.cells,y1,y2,y3,y4,y5,.cells true 32 ew,.cells true 32 (ev++ew)]):=by
 have hG:aI Tryz.prog 8=some Tryz.f8:=by kernel_rfl
 obtain⟨os,hops⟩:∃os,aG Tryz.f8=os:=⟨_,rfl⟩
 have hbs:=aV hops (ls:=[[0,1,0,4,0,0,60,124,255,511,1023]]) (by kernel_rfl)
 simp only[aG,bC,Tryz.f8,List.nil_append,List.append_nil,List.cons_append] at hops
 subst hops
 simp only[List.map_cons,List.map_nil,List.cons.injEq,and_true] at hbs
 have k6:fc [0,1,0,4,0,0,60,124,255,511,1023] 11 6=true:=by decide
 have k7:fc [0,1,0,4,0,0,60,124,255,511,1023] 11 7=true:=by decide
 have k8:fc [0,1,0,4,0,0,60,124,255,511,1023] 11 8=true:=by decide
 have k10:fc [0,1,0,4,0,0,60,124,255,511,1023] 11 10=true:=by decide
 have j10:aS [0,1,0,4,0,0,60,124,255,511,1023] 10=true:=by decide
 have j8:aS [0,1,0,4,0,0,60,124,255,511,1023] 8=true:=by decide
 have sa:∀f,Slot.refsOk f Slot.absent=true:=fun _=>rfl
 have w1:IntKind.i64.wrap 1=1:=rfl
 have w2:IntKind.i64.wrap 2=2:=rfl
 have w3:IntKind.i64.wrap 3=3:=rfl
 have g0:(∀x:AV,x∈ev→x.cellOk=true)=True:=eq_true fev
 have t0:List.take 32 ev=ev:=List.take_of_length_le (by omega)
 have g1:(∀x:AV,x∈ew→x.cellOk=true)=True:=eq_true few
 have t1:List.take 32 ew=ew:=List.take_of_length_le (by omega)
 obtain⟨kd0,⟨A10,A20,A30⟩,⟨B10,B20,B30⟩,N0,⟨K10,K20,K30,K40⟩⟩:=d
 obtain⟨kd1,⟨A11,A21,A31⟩,⟨B11,B21,B31⟩,N1,⟨K11,K21,K31,K41⟩⟩:=e
 simp[shB,Deed.cells] at hD0 hD1 hMk
 simp[-AV.cellOk,gW,qo,qi,kN,qj,qm,g0,t0,g1,t1,aT,hG,Tryz.f8,hMk,hD0,hD1,hev,hew,rev,rew,qx,qy,dJ,eD,cW,-Slot.refsOk,ax1,ax2,ax3,ax4,ax5,ay1,ay2,ay3,ay4,ay5,Deed.cells,shB,bB,ar,-aF,eG hbs,fS,ky,ue,cf,k6,k7,k8,k10,j8,sa,j10,Nat.testBit,aC,dS,fJ,w1,w2,w3,dX,cC,cP,oZ,pW]
set_option maxRecDepth 16384 in
set_option maxHeartbeats 16000000 in
theorem F7(O:Oracle) (s:Sheet) (d e f:Deed) (R:List AV) (k:Nat) (h3:3≤k) (hk:k≤1000000) (hR:R.length+36=k*12) (w1:Slot) (ev:List AV) (x1 x2 x3 x4 x5:Slot) (hev:ev.length=32) (fev:∀x∈ev,x.cellOk=true) (rev:∀k,13≤k→AV.refsOkL (fun b=>decide (b<k)) ev=true) (ax1:bG x1=true) (ax2:bG x2=true) (ax3:bG x3=true) (ax4:bG x4=true) (ax5:bG x5=true) (qx:∀k,13≤k→x1.refsOk (fun b=>decide (b<k))=true∧x2.refsOk (fun b=>decide (b<k))=true∧x3.refsOk (fun b=>decide (b<k))=true∧x4.refsOk (fun b=>decide (b<k))=true∧x5.refsOk (fun b=>decide (b<k))=true) (ew:List AV) (y1 y2 y3 y4 y5:Slot) (hew:ew.length=32) (few:∀x∈ew,x.cellOk=true) (rew:∀k,21≤k→AV.refsOkL (fun b=>decide (b<k)) ew=true) (ay1:bG y1=true) (ay2:bG y2=true) (ay3:bG y3=true) (ay4:bG y4=true) (ay5:bG y5=true) (qy:∀k,21≤k→y1.refsOk (fun b=>decide (b<k))=true∧y2.refsOk (fun b=>decide (b<k))=true∧y3.refsOk (fun b=>decide (b<k))=true∧y4.refsOk (fun b=>decide (b<k))=true∧y5.refsOk (fun b=>decide (b<k))=true) (eu:List AV) (z1 z2 z3 z4 z5:Slot) (heu:eu.length=32) (feu:∀x∈eu,x.cellOk=true) (reu:∀k,29≤k→AV.refsOkL (fun b=>decide (b<k)) eu=true) (az1:bG z1=true) (az2:bG z2=true) (az3:bG z3=true) (az4:bG z4=true) (az5:bG z5=true) (qz:∀k,29≤k→z1.refsOk (fun b=>decide (b<k))=true∧z2.refsOk (fun b=>decide (b<k))=true∧z3.refsOk (fun b=>decide (b<k))=true∧z4.refsOk (fun b=>decide (b<k))=true∧z5.refsOk (fun b=>decide (b<k))=true)
  (hD0:O (.fn 9) [shB s 4 5,.agg d.cells,.int .i64 0] [.cells false 12 (d.cells++(e.cells++(f.cells++R))),w1,.cells true 0 [.int .u8 s.kind,.int .i8 s.sx,.int .i8 s.sy,.bool s.half,.slice 0 0 k none],.cells true 0 [.nilslice,.nilslice,.str [],.nilslice],.cells true 2 (pC s.P),.cells true 3 (tC s.T),.cells true 0 [.slice 4 0 s.P.length none,.slice 5 0 s.T.length none,.str [98,97,115,101],.nilslice],.cells true 0 d.cells]=some ⟨.agg ev,none,[x1,x2,x3,x4,x5]⟩)
  (hD1:O (.fn 9) [shB s 4 5,.agg e.cells,.int .i64 1] [.cells false 12 (d.cells++(e.cells++(f.cells++R))),w1,.cells true 0 [.int .u8 s.kind,.int .i8 s.sx,.int .i8 s.sy,.bool s.half,.slice 0 0 k none],.cells true 0 [.nilslice,.nilslice,.str [],.nilslice],.cells true 2 (pC s.P),.cells true 3 (tC s.T),.cells true 0 [.slice 4 0 s.P.length none,.slice 5 0 s.T.length none,.str [98,97,115,101],.slice 14 0 1 none],.cells true 0 d.cells,x1,x2,x3,x4,x5,.cells true 32 ev,.cells true 32 (ev),.cells true 0 e.cells]=some ⟨.agg ew,none,[y1,y2,y3,y4,y5]⟩)
  (hD2:O (.fn 9) [shB s 4 5,.agg f.cells,.int .i64 2] [.cells false 12 (d.cells++(e.cells++(f.cells++R))),w1,.cells true 0 [.int .u8 s.kind,.int .i8 s.sx,.int .i8 s.sy,.bool s.half,.slice 0 0 k none],.cells true 0 [.nilslice,.nilslice,.str [],.nilslice],.cells true 2 (pC s.P),.cells true 3 (tC s.T),.cells true 0 [.slice 4 0 s.P.length none,.slice 5 0 s.T.length none,.str [98,97,115,101],.slice 22 0 2 none],.cells true 0 d.cells,x1,x2,x3,x4,x5,.cells true 32 ev,.absent,.cells true 0 e.cells,y1,y2,y3,y4,y5,.cells true 32 ew,.cells true 32 (ev++ew),.cells true 0 f.cells]=some ⟨.agg eu,none,[z1,z2,z3,z4,z5]⟩)
  (hMk:∀M,O (.fn 33) [.agg [.int .u8 s.kind,.int .i8 s.sx,.int .i8 s.sy,.bool s.half]] M=some ⟨shB s M.length (M.length+1),none,[.cells true 2 (pC s.P),.cells true 3 (tC s.T)]⟩)
  : aT (az Tryz.prog) fJ (aI Tryz.prog) O 5 8 [.agg [.int .u8 s.kind,.int .i8 s.sx,.int .i8 s.sy,.bool s.half,.slice 0 0 k none]] [.cells false 12 (d.cells++(e.cells++(f.cells++R))),w1]=some (.agg [.slice 4 0 s.P.length none,.slice 5 0 s.T.length none,.str [98,97,115,101],.slice 30 0 3 none],[.cells false 12 (d.cells++(e.cells++(f.cells++R))),w1,.cells true 0 [.int .u8 s.kind,.int .i8 s.sx,.int .i8 s.sy,.bool s.half,.slice 0 0 k none],.cells true 0 [.slice 4 0 s.P.length none,.slice 5 0 s.T.length none,.str [98,97,115,101],.slice 30 0 3 none],.cells true 2 (pC s.P),.cells true 3 (tC s.T),.cells true 0 [.slice 4 0 s.P.length none,.slice 5 0 s.T.length none,.str [98,97,115,101],.slice 30 0 3 none],.cells true 0 d.cells,x1,x2,x3,x4,x5,.cells true 32 ev,.absent,.cells true 0 e.cells,y1,y2,y3,y4,y5,.cells true 32 ew,.absent,.cells true 0 f.cells,z1,z2,z3,z4,z5,.cells true 32 eu,.cells true 32 (ev++ew++eu)]):=by
 have hG:aI Tryz.prog 8=some Tryz.f8:=by kernel_rfl
 obtain⟨os,hops⟩:∃os,aG Tryz.f8=os:=⟨_,rfl⟩
 have hbs:=aV hops (ls:=[[0,1,0,4,0,0,60,124,255,511,1023]]) (by kernel_rfl)
 simp only[aG,bC,Tryz.f8,List.nil_append,List.append_nil,List.cons_append] at hops
 subst hops
 simp only[List.map_cons,List.map_nil,List.cons.injEq,and_true] at hbs
 have k6:fc [0,1,0,4,0,0,60,124,255,511,1023] 11 6=true:=by decide
 have k7:fc [0,1,0,4,0,0,60,124,255,511,1023] 11 7=true:=by decide
 have k8:fc [0,1,0,4,0,0,60,124,255,511,1023] 11 8=true:=by decide
 have k10:fc [0,1,0,4,0,0,60,124,255,511,1023] 11 10=true:=by decide
 have j10:aS [0,1,0,4,0,0,60,124,255,511,1023] 10=true:=by decide
 have j8:aS [0,1,0,4,0,0,60,124,255,511,1023] 8=true:=by decide
 have sa:∀f,Slot.refsOk f Slot.absent=true:=fun _=>rfl
 have w1:IntKind.i64.wrap 1=1:=rfl
 have w2:IntKind.i64.wrap 2=2:=rfl
 have w3:IntKind.i64.wrap 3=3:=rfl
 have g0:(∀x:AV,x∈ev→x.cellOk=true)=True:=eq_true fev
 have t0:List.take 32 ev=ev:=List.take_of_length_le (by omega)
 have g1:(∀x:AV,x∈ew→x.cellOk=true)=True:=eq_true few
 have t1:List.take 32 ew=ew:=List.take_of_length_le (by omega)
 have g2:(∀x:AV,x∈eu→x.cellOk=true)=True:=eq_true feu
 have t2:List.take 32 eu=eu:=List.take_of_length_le (by omega)
 have i1:(3:Int)≤k:=by omega
 have i3:k*12≤R.length+36:=by omega
 have i6:0<k:=by omega
 have i7:(if (3:Int)<k then (3:Int) else k)=3:=by split<;>omega
 have r4:AV.refsOkL (fun b=>decide (b<31)) (ev++ew)=true:=by rw[dQ,rev 31 (by decide),rew 31 (by decide)];rfl
 have t4:List.take 64 (ev++ew)=ev++ew:=List.take_of_length_le (by rw[List.length_append];omega)
 obtain⟨kd0,⟨A10,A20,A30⟩,⟨B10,B20,B30⟩,N0,⟨K10,K20,K30,K40⟩⟩:=d
 obtain⟨kd1,⟨A11,A21,A31⟩,⟨B11,B21,B31⟩,N1,⟨K11,K21,K31,K41⟩⟩:=e
 obtain⟨kd2,⟨A12,A22,A32⟩,⟨B12,B22,B32⟩,N2,⟨K12,K22,K32,K42⟩⟩:=f
 simp[shB,Deed.cells] at hD0 hD1 hD2 hMk
 simp[-AV.cellOk,gW,qo,qi,kN,qj,qm,g0,t0,g1,t1,g2,t2,aT,hG,Tryz.f8,hMk,hD0,hD1,hD2,hev,hew,heu,rev,rew,reu,qx,qy,qz,dJ,eD,cW,-Slot.refsOk,ax1,ax2,ax3,ax4,ax5,ay1,ay2,ay3,ay4,ay5,az1,az2,az3,az4,az5,i1,i3,i6,i7,r4,t4,Deed.cells,shB,bB,ar,-aF,eG hbs,fS,ky,ue,cf,k6,k7,k8,k10,j8,sa,j10,Nat.testBit,aC,dS,fJ,w1,w2,w3,dX,cC,cP,oZ,pW]
theorem HW(s:Sheet) (hs:s.Ok) (x:Slot) (w1:Slot):∃p t q evs us new,ACallsTo Tryz.prog 8 [.agg [.int .u8 s.kind,.int .i8 s.sx,.int .i8 s.sy,.bool s.half,.nilslice]] [x,w1] (.agg (aq s p t q evs.length)) ([x,w1]++new)∧Tryz.HstAt s p t q evs us ([x,w1]++new)∧(ak::us.flatten).Nodup∧evs.length≤3:=by
 have hG:aI Tryz.prog 8=some Tryz.f8:=by kernel_rfl
 have w0:IntKind.i64.wrap 0=0:=rfl
 have hMk:=fun M=>jh s M
 simp only[shB] at hMk
 have h:aT (az Tryz.prog) fJ (aI Tryz.prog) (mY s) 5 8 [.agg [.int .u8 s.kind,.int .i8 s.sx,.int .i8 s.sy,.bool s.half,.nilslice]] [x,w1]=some (.agg [.slice 4 0 s.P.length none,.slice 5 0 s.T.length none,.str [98,97,115,101],.nilslice],[x,w1]++[.cells true 0 [.int .u8 s.kind,.int .i8 s.sx,.int .i8 s.sy,.bool s.half,.nilslice],.cells true 0 [.slice 4 0 s.P.length none,.slice 5 0 s.T.length none,.str [98,97,115,101],.nilslice],.cells true 2 (pC s.P),.cells true 3 (tC s.T),.cells true 0 [.slice 4 0 s.P.length none,.slice 5 0 s.T.length none,.str [98,97,115,101],.nilslice]]):=by
  simp[aT,hG,Tryz.f8,hMk,bB,ar,aC,dS,fJ,w0]
 refine⟨4,5,0,[],[],[.cells true 0 [.int .u8 s.kind,.int .i8 s.sx,.int .i8 s.sy,.bool s.half,.nilslice],.cells true 0 [.slice 4 0 s.P.length none,.slice 5 0 s.T.length none,.str [98,97,115,101],.nilslice],.cells true 2 (pC s.P),.cells true 3 (tC s.T),.cells true 0 [.slice 4 0 s.P.length none,.slice 5 0 s.T.length none,.str [98,97,115,101],.nilslice]],aP aa (ai _) (ji s hs) (aj _) h,?_⟩
 exact⟨{ hp:=⟨true,rfl⟩,ht:=⟨true,rfl⟩,hq:=fun h=>absurd rfl h,len:=rfl,small:=by simp,con:=by simp },by simp,by simp⟩
theorem H1(s:Sheet) (hs:s.Ok)  (w1:Slot):∃p t q evs us new,ACallsTo Tryz.prog 8 [.agg [.int .u8 s.kind,.int .i8 s.sx,.int .i8 s.sy,.bool s.half,.slice 0 0 0 none]] [.cells false 12 [],w1] (.agg (aq s p t q evs.length)) ([.cells false 12 [],w1]++new)∧Tryz.HstAt s p t q evs us ([.cells false 12 [],w1]++new)∧(ak::us.flatten).Nodup∧evs.length≤3:=by
 have hG:aI Tryz.prog 8=some Tryz.f8:=by kernel_rfl
 have w0:IntKind.i64.wrap 0=0:=rfl
 have hMk:=fun M=>jh s M
 simp only[shB] at hMk
 have h:aT (az Tryz.prog) fJ (aI Tryz.prog) (mY s) 5 8 [.agg [.int .u8 s.kind,.int .i8 s.sx,.int .i8 s.sy,.bool s.half,.slice 0 0 0 none]] [.cells false 12 [],w1]=some (.agg [.slice 4 0 s.P.length none,.slice 5 0 s.T.length none,.str [98,97,115,101],.nilslice],[.cells false 12 [],w1]++[.cells true 0 [.int .u8 s.kind,.int .i8 s.sx,.int .i8 s.sy,.bool s.half,.slice 0 0 0 none],.cells true 0 [.slice 4 0 s.P.length none,.slice 5 0 s.T.length none,.str [98,97,115,101],.nilslice],.cells true 2 (pC s.P),.cells true 3 (tC s.T),.cells true 0 [.slice 4 0 s.P.length none,.slice 5 0 s.T.length none,.str [98,97,115,101],.nilslice]]):=by
  simp[aT,hG,Tryz.f8,hMk,bB,ar,aC,dS,fJ,w0]
 refine⟨4,5,0,[],[],[.cells true 0 [.int .u8 s.kind,.int .i8 s.sx,.int .i8 s.sy,.bool s.half,.slice 0 0 0 none],.cells true 0 [.slice 4 0 s.P.length none,.slice 5 0 s.T.length none,.str [98,97,115,101],.nilslice],.cells true 2 (pC s.P),.cells true 3 (tC s.T),.cells true 0 [.slice 4 0 s.P.length none,.slice 5 0 s.T.length none,.str [98,97,115,101],.nilslice]],aP aa (ai _) (ji s hs) (aj _) h,?_⟩
 exact⟨{ hp:=⟨true,rfl⟩,ht:=⟨true,rfl⟩,hq:=fun h=>absurd rfl h,len:=rfl,small:=by simp,con:=by simp },by simp,by simp⟩
set_option maxHeartbeats 4000000 in
theorem HX(s:Sheet) (hs:s.Ok) (d:Deed) (od:d.Ok) (w1:Slot):∃p t q evs us new,ACallsTo Tryz.prog 8 [.agg [.int .u8 s.kind,.int .i8 s.sx,.int .i8 s.sy,.bool s.half,.slice 0 0 1 none]] [.cells false 12 d.cells,w1] (.agg (aq s p t q evs.length)) ([.cells false 12 d.cells,w1]++new)∧Tryz.HstAt s p t q evs us ([.cells false 12 d.cells,w1]++new)∧(ak::us.flatten).Nodup∧evs.length≤3:=by
 obtain⟨ev,x1,x2,x3,x4,x5,c01,c02,c03,⟨c04,c08⟩,c05,c06,⟨ax1,ax2,ax3,ax4,ax5⟩,c07⟩:=gG s d od 0 (by decide) [.cells false 12 d.cells,w1,.cells true 0 [.int .u8 s.kind,.int .i8 s.sx,.int .i8 s.sy,.bool s.half,.slice 0 0 1 none],.cells true 0 [.nilslice,.nilslice,.str [],.nilslice],.cells true 2 (pC s.P),.cells true 3 (tC s.T),.cells true 0 [.slice 4 0 s.P.length none,.slice 5 0 s.T.length none,.str [98,97,115,101],.nilslice],.cells true 0 d.cells] 4 5 true true rfl rfl
 have hF:OracleOk Tryz.prog (cg [(9,[shB s 4 5,.agg d.cells,.int .i64 0],[.cells false 12 d.cells,w1,.cells true 0 [.int .u8 s.kind,.int .i8 s.sx,.int .i8 s.sy,.bool s.half,.slice 0 0 1 none],.cells true 0 [.nilslice,.nilslice,.str [],.nilslice],.cells true 2 (pC s.P),.cells true 3 (tC s.T),.cells true 0 [.slice 4 0 s.P.length none,.slice 5 0 s.T.length none,.str [98,97,115,101],.nilslice],.cells true 0 d.cells],⟨.agg ev,none,[x1,x2,x3,x4,x5]⟩)]):=dn fun y hy=>by
  simp only[List.mem_cons,List.not_mem_nil,or_false] at hy
  subst hy
  exact⟨by simpa [CallRes.mem] using c01,by simp⟩
 obtain⟨FO,hFO⟩:∃FO,FO=cg [(9,[shB s 4 5,.agg d.cells,.int .i64 0],[.cells false 12 d.cells,w1,.cells true 0 [.int .u8 s.kind,.int .i8 s.sx,.int .i8 s.sy,.bool s.half,.slice 0 0 1 none],.cells true 0 [.nilslice,.nilslice,.str [],.nilslice],.cells true 2 (pC s.P),.cells true 3 (tC s.T),.cells true 0 [.slice 4 0 s.P.length none,.slice 5 0 s.T.length none,.str [98,97,115,101],.nilslice],.cells true 0 d.cells],⟨.agg ev,none,[x1,x2,x3,x4,x5]⟩)]:=⟨_,rfl⟩
 have g0:FO (.fn 9) [shB s 4 5,.agg d.cells,.int .i64 0] [.cells false 12 d.cells,w1,.cells true 0 [.int .u8 s.kind,.int .i8 s.sx,.int .i8 s.sy,.bool s.half,.slice 0 0 1 none],.cells true 0 [.nilslice,.nilslice,.str [],.nilslice],.cells true 2 (pC s.P),.cells true 3 (tC s.T),.cells true 0 [.slice 4 0 s.P.length none,.slice 5 0 s.T.length none,.str [98,97,115,101],.nilslice],.cells true 0 d.cells]=some ⟨.agg ev,none,[x1,x2,x3,x4,x5]⟩:=by
  rw[hFO];exact be
 have gM:∀a M,FO (.fn 33) a M=none:=fun a M=>by rw[hFO];simp[cg]
 rw[←hFO] at hF
 have hr:=aP aa (ai _) (OracleOk.or hF (ji s hs)) (aj _) (F5 (Oracle.or FO (mY s)) s d w1 ev x1 x2 x3 x4 x5 c04 c05 (fun k hk=>c06 k hk) ax1 ax2 ax3 ax4 ax5 (fun k hk=>c07 k hk) (ug g0) (fun M=>(Js (gM _ _)).trans (jh s M)))
 clear hF gM g0
 clear hFO
 refine⟨4,5,14,[ev],[bl d 0],[.cells true 0 [.int .u8 s.kind,.int .i8 s.sx,.int .i8 s.sy,.bool s.half,.slice 0 0 1 none],.cells true 0 [.slice 4 0 s.P.length none,.slice 5 0 s.T.length none,.str [98,97,115,101],.slice 14 0 1 none],.cells true 2 (pC s.P),.cells true 3 (tC s.T),.cells true 0 [.slice 4 0 s.P.length none,.slice 5 0 s.T.length none,.str [98,97,115,101],.slice 14 0 1 none],.cells true 0 d.cells,x1,x2,x3,x4,x5,.cells true 32 ev,.cells true 32 (ev)],hr,?_⟩
 exact⟨{
  hp:=⟨true,rfl⟩
  ht:=⟨true,rfl⟩
  hq:=fun _=>⟨true,by simp⟩
  len:=rfl
  small:=by simp
  con:=fun i e U h1 h2=>by
   match i,h1,h2 with
   |0,h1,h2=>simp at h1 h2;subst h1;subst h2;obtain⟨_,cc,ho,hu,hx⟩:=c02;exact⟨cc,ho,hu,fun Z=>hx _ (AN rfl rfl rfl rfl rfl)⟩
   |i+1,h1,h2=>simp at h1 },by simpa using Hz d,by simp⟩
set_option maxHeartbeats 4000000 in
theorem HY(s:Sheet) (hs:s.Ok) (d e:Deed) (od:d.Ok) (oe:e.Ok) (w1:Slot):∃p t q evs us new,ACallsTo Tryz.prog 8 [.agg [.int .u8 s.kind,.int .i8 s.sx,.int .i8 s.sy,.bool s.half,.slice 0 0 2 none]] [.cells false 12 (d.cells++e.cells),w1] (.agg (aq s p t q evs.length)) ([.cells false 12 (d.cells++e.cells),w1]++new)∧Tryz.HstAt s p t q evs us ([.cells false 12 (d.cells++e.cells),w1]++new)∧(ak::us.flatten).Nodup∧evs.length≤3:=by
 obtain⟨ev,x1,x2,x3,x4,x5,c01,c02,c03,⟨c04,c08⟩,c05,c06,⟨ax1,ax2,ax3,ax4,ax5⟩,c07⟩:=gG s d od 0 (by decide) [.cells false 12 (d.cells++e.cells),w1,.cells true 0 [.int .u8 s.kind,.int .i8 s.sx,.int .i8 s.sy,.bool s.half,.slice 0 0 2 none],.cells true 0 [.nilslice,.nilslice,.str [],.nilslice],.cells true 2 (pC s.P),.cells true 3 (tC s.T),.cells true 0 [.slice 4 0 s.P.length none,.slice 5 0 s.T.length none,.str [98,97,115,101],.nilslice],.cells true 0 d.cells] 4 5 true true rfl rfl
 obtain⟨ew,y1,y2,y3,y4,y5,c11,c12,c13,⟨c14,c18⟩,c15,c16,⟨ay1,ay2,ay3,ay4,ay5⟩,c17⟩:=gG s e oe 1 (by decide) [.cells false 12 (d.cells++e.cells),w1,.cells true 0 [.int .u8 s.kind,.int .i8 s.sx,.int .i8 s.sy,.bool s.half,.slice 0 0 2 none],.cells true 0 [.nilslice,.nilslice,.str [],.nilslice],.cells true 2 (pC s.P),.cells true 3 (tC s.T),.cells true 0 [.slice 4 0 s.P.length none,.slice 5 0 s.T.length none,.str [98,97,115,101],.slice 14 0 1 none],.cells true 0 d.cells,x1,x2,x3,x4,x5,.cells true 32 ev,.cells true 32 (ev),.cells true 0 e.cells] 4 5 true true rfl rfl
 have hF:OracleOk Tryz.prog (cg [(9,[shB s 4 5,.agg d.cells,.int .i64 0],[.cells false 12 (d.cells++e.cells),w1,.cells true 0 [.int .u8 s.kind,.int .i8 s.sx,.int .i8 s.sy,.bool s.half,.slice 0 0 2 none],.cells true 0 [.nilslice,.nilslice,.str [],.nilslice],.cells true 2 (pC s.P),.cells true 3 (tC s.T),.cells true 0 [.slice 4 0 s.P.length none,.slice 5 0 s.T.length none,.str [98,97,115,101],.nilslice],.cells true 0 d.cells],⟨.agg ev,none,[x1,x2,x3,x4,x5]⟩),(9,[shB s 4 5,.agg e.cells,.int .i64 1],[.cells false 12 (d.cells++e.cells),w1,.cells true 0 [.int .u8 s.kind,.int .i8 s.sx,.int .i8 s.sy,.bool s.half,.slice 0 0 2 none],.cells true 0 [.nilslice,.nilslice,.str [],.nilslice],.cells true 2 (pC s.P),.cells true 3 (tC s.T),.cells true 0 [.slice 4 0 s.P.length none,.slice 5 0 s.T.length none,.str [98,97,115,101],.slice 14 0 1 none],.cells true 0 d.cells,x1,x2,x3,x4,x5,.cells true 32 ev,.cells true 32 (ev),.cells true 0 e.cells],⟨.agg ew,none,[y1,y2,y3,y4,y5]⟩)]):=dn fun y hy=>by
  simp only[List.mem_cons,List.not_mem_nil,or_false] at hy
  rcases hy with rfl | rfl
  ·exact⟨by simpa [CallRes.mem] using c01,by simp⟩
  ·exact⟨by simpa [CallRes.mem] using c11,by simp⟩
 obtain⟨FO,hFO⟩:∃FO,FO=cg [(9,[shB s 4 5,.agg d.cells,.int .i64 0],[.cells false 12 (d.cells++e.cells),w1,.cells true 0 [.int .u8 s.kind,.int .i8 s.sx,.int .i8 s.sy,.bool s.half,.slice 0 0 2 none],.cells true 0 [.nilslice,.nilslice,.str [],.nilslice],.cells true 2 (pC s.P),.cells true 3 (tC s.T),.cells true 0 [.slice 4 0 s.P.length none,.slice 5 0 s.T.length none,.str [98,97,115,101],.nilslice],.cells true 0 d.cells],⟨.agg ev,none,[x1,x2,x3,x4,x5]⟩),(9,[shB s 4 5,.agg e.cells,.int .i64 1],[.cells false 12 (d.cells++e.cells),w1,.cells true 0 [.int .u8 s.kind,.int .i8 s.sx,.int .i8 s.sy,.bool s.half,.slice 0 0 2 none],.cells true 0 [.nilslice,.nilslice,.str [],.nilslice],.cells true 2 (pC s.P),.cells true 3 (tC s.T),.cells true 0 [.slice 4 0 s.P.length none,.slice 5 0 s.T.length none,.str [98,97,115,101],.slice 14 0 1 none],.cells true 0 d.cells,x1,x2,x3,x4,x5,.cells true 32 ev,.cells true 32 (ev),.cells true 0 e.cells],⟨.agg ew,none,[y1,y2,y3,y4,y5]⟩)]:=⟨_,rfl⟩
 have g0:FO (.fn 9) [shB s 4 5,.agg d.cells,.int .i64 0] [.cells false 12 (d.cells++e.cells),w1,.cells true 0 [.int .u8 s.kind,.int .i8 s.sx,.int .i8 s.sy,.bool s.half,.slice 0 0 2 none],.cells true 0 [.nilslice,.nilslice,.str [],.nilslice],.cells true 2 (pC s.P),.cells true 3 (tC s.T),.cells true 0 [.slice 4 0 s.P.length none,.slice 5 0 s.T.length none,.str [98,97,115,101],.nilslice],.cells true 0 d.cells]=some ⟨.agg ev,none,[x1,x2,x3,x4,x5]⟩:=by
  rw[hFO];exact be
 have g1:FO (.fn 9) [shB s 4 5,.agg e.cells,.int .i64 1] [.cells false 12 (d.cells++e.cells),w1,.cells true 0 [.int .u8 s.kind,.int .i8 s.sx,.int .i8 s.sy,.bool s.half,.slice 0 0 2 none],.cells true 0 [.nilslice,.nilslice,.str [],.nilslice],.cells true 2 (pC s.P),.cells true 3 (tC s.T),.cells true 0 [.slice 4 0 s.P.length none,.slice 5 0 s.T.length none,.str [98,97,115,101],.slice 14 0 1 none],.cells true 0 d.cells,x1,x2,x3,x4,x5,.cells true 32 ev,.cells true 32 (ev),.cells true 0 e.cells]=some ⟨.agg ew,none,[y1,y2,y3,y4,y5]⟩:=by
  rw[hFO];rw[wD (by intro e;simp at e)];exact be
 have gM:∀a M,FO (.fn 33) a M=none:=fun a M=>by rw[hFO];simp[cg]
 rw[←hFO] at hF
 have hr:=aP aa (ai _) (OracleOk.or hF (ji s hs)) (aj _) (F6 (Oracle.or FO (mY s)) s d e w1 ev x1 x2 x3 x4 x5 c04 c05 (fun k hk=>c06 k hk) ax1 ax2 ax3 ax4 ax5 (fun k hk=>c07 k hk) ew y1 y2 y3 y4 y5 c14 c15 (fun k hk=>c16 k hk) ay1 ay2 ay3 ay4 ay5 (fun k hk=>c17 k hk) (ug g0) (ug g1) (fun M=>(Js (gM _ _)).trans (jh s M)))
 clear hF gM g0 g1
 clear hFO
 refine⟨4,5,22,[ev,ew],[bl d 0,bl e 1],[.cells true 0 [.int .u8 s.kind,.int .i8 s.sx,.int .i8 s.sy,.bool s.half,.slice 0 0 2 none],.cells true 0 [.slice 4 0 s.P.length none,.slice 5 0 s.T.length none,.str [98,97,115,101],.slice 22 0 2 none],.cells true 2 (pC s.P),.cells true 3 (tC s.T),.cells true 0 [.slice 4 0 s.P.length none,.slice 5 0 s.T.length none,.str [98,97,115,101],.slice 22 0 2 none],.cells true 0 d.cells,x1,x2,x3,x4,x5,.cells true 32 ev,.absent,.cells true 0 e.cells,y1,y2,y3,y4,y5,.cells true 32 ew,.cells true 32 (ev++ew)],hr,?_⟩
 exact⟨{
  hp:=⟨true,rfl⟩
  ht:=⟨true,rfl⟩
  hq:=fun _=>⟨true,by simp⟩
  len:=rfl
  small:=by simp
  con:=fun i e U h1 h2=>by
   match i,h1,h2 with
   |0,h1,h2=>simp at h1 h2;subst h1;subst h2;obtain⟨_,cc,ho,hu,hx⟩:=c02;exact⟨cc,ho,hu,fun Z=>hx _ (AN rfl rfl rfl rfl rfl)⟩
   |1,h1,h2=>simp at h1 h2;subst h1;subst h2;obtain⟨_,cc,ho,hu,hx⟩:=c12;exact⟨cc,ho,hu,fun Z=>hx _ (AN rfl rfl rfl rfl rfl)⟩
   |i+2,h1,h2=>simp at h1 },by simpa using HC d e,by simp⟩
set_option maxHeartbeats 4000000 in
theorem HZ(s:Sheet) (hs:s.Ok) (d e f:Deed) (od:d.Ok) (oe:e.Ok) (of:f.Ok) (w1:Slot):∃p t q evs us new,ACallsTo Tryz.prog 8 [.agg [.int .u8 s.kind,.int .i8 s.sx,.int .i8 s.sy,.bool s.half,.slice 0 0 3 none]] [.cells false 12 (d.cells++(e.cells++(f.cells++[]))),w1] (.agg (aq s p t q evs.length)) ([.cells false 12 (d.cells++(e.cells++(f.cells++[]))),w1]++new)∧Tryz.HstAt s p t q evs us ([.cells false 12 (d.cells++(e.cells++(f.cells++[]))),w1]++new)∧(ak::us.flatten).Nodup∧evs.length≤3:=by
 obtain⟨ev,x1,x2,x3,x4,x5,c01,c02,c03,⟨c04,c08⟩,c05,c06,⟨ax1,ax2,ax3,ax4,ax5⟩,c07⟩:=gG s d od 0 (by decide) [.cells false 12 (d.cells++(e.cells++(f.cells++[]))),w1,.cells true 0 [.int .u8 s.kind,.int .i8 s.sx,.int .i8 s.sy,.bool s.half,.slice 0 0 3 none],.cells true 0 [.nilslice,.nilslice,.str [],.nilslice],.cells true 2 (pC s.P),.cells true 3 (tC s.T),.cells true 0 [.slice 4 0 s.P.length none,.slice 5 0 s.T.length none,.str [98,97,115,101],.nilslice],.cells true 0 d.cells] 4 5 true true rfl rfl
 obtain⟨ew,y1,y2,y3,y4,y5,c11,c12,c13,⟨c14,c18⟩,c15,c16,⟨ay1,ay2,ay3,ay4,ay5⟩,c17⟩:=gG s e oe 1 (by decide) [.cells false 12 (d.cells++(e.cells++(f.cells++[]))),w1,.cells true 0 [.int .u8 s.kind,.int .i8 s.sx,.int .i8 s.sy,.bool s.half,.slice 0 0 3 none],.cells true 0 [.nilslice,.nilslice,.str [],.nilslice],.cells true 2 (pC s.P),.cells true 3 (tC s.T),.cells true 0 [.slice 4 0 s.P.length none,.slice 5 0 s.T.length none,.str [98,97,115,101],.slice 14 0 1 none],.cells true 0 d.cells,x1,x2,x3,x4,x5,.cells true 32 ev,.cells true 32 (ev),.cells true 0 e.cells] 4 5 true true rfl rfl
 obtain⟨eu,z1,z2,z3,z4,z5,c21,c22,c23,⟨c24,c28⟩,c25,c26,⟨az1,az2,az3,az4,az5⟩,c27⟩:=gG s f of 2 (by decide) [.cells false 12 (d.cells++(e.cells++(f.cells++[]))),w1,.cells true 0 [.int .u8 s.kind,.int .i8 s.sx,.int .i8 s.sy,.bool s.half,.slice 0 0 3 none],.cells true 0 [.nilslice,.nilslice,.str [],.nilslice],.cells true 2 (pC s.P),.cells true 3 (tC s.T),.cells true 0 [.slice 4 0 s.P.length none,.slice 5 0 s.T.length none,.str [98,97,115,101],.slice 22 0 2 none],.cells true 0 d.cells,x1,x2,x3,x4,x5,.cells true 32 ev,.absent,.cells true 0 e.cells,y1,y2,y3,y4,y5,.cells true 32 ew,.cells true 32 (ev++ew),.cells true 0 f.cells] 4 5 true true rfl rfl
 have hF:OracleOk Tryz.prog (cg [(9,[shB s 4 5,.agg d.cells,.int .i64 0],[.cells false 12 (d.cells++(e.cells++(f.cells++[]))),w1,.cells true 0 [.int .u8 s.kind,.int .i8 s.sx,.int .i8 s.sy,.bool s.half,.slice 0 0 3 none],.cells true 0 [.nilslice,.nilslice,.str [],.nilslice],.cells true 2 (pC s.P),.cells true 3 (tC s.T),.cells true 0 [.slice 4 0 s.P.length none,.slice 5 0 s.T.length none,.str [98,97,115,101],.nilslice],.cells true 0 d.cells],⟨.agg ev,none,[x1,x2,x3,x4,x5]⟩),(9,[shB s 4 5,.agg e.cells,.int .i64 1],[.cells false 12 (d.cells++(e.cells++(f.cells++[]))),w1,.cells true 0 [.int .u8 s.kind,.int .i8 s.sx,.int .i8 s.sy,.bool s.half,.slice 0 0 3 none],.cells true 0 [.nilslice,.nilslice,.str [],.nilslice],.cells true 2 (pC s.P),.cells true 3 (tC s.T),.cells true 0 [.slice 4 0 s.P.length none,.slice 5 0 s.T.length none,.str [98,97,115,101],.slice 14 0 1 none],.cells true 0 d.cells,x1,x2,x3,x4,x5,.cells true 32 ev,.cells true 32 (ev),.cells true 0 e.cells],⟨.agg ew,none,[y1,y2,y3,y4,y5]⟩),(9,[shB s 4 5,.agg f.cells,.int .i64 2],[.cells false 12 (d.cells++(e.cells++(f.cells++[]))),w1,.cells true 0 [.int .u8 s.kind,.int .i8 s.sx,.int .i8 s.sy,.bool s.half,.slice 0 0 3 none],.cells true 0 [.nilslice,.nilslice,.str [],.nilslice],.cells true 2 (pC s.P),.cells true 3 (tC s.T),.cells true 0 [.slice 4 0 s.P.length none,.slice 5 0 s.T.length none,.str [98,97,115,101],.slice 22 0 2 none],.cells true 0 d.cells,x1,x2,x3,x4,x5,.cells true 32 ev,.absent,.cells true 0 e.cells,y1,y2,y3,y4,y5,.cells true 32 ew,.cells true 32 (ev++ew),.cells true 0 f.cells],⟨.agg eu,none,[z1,z2,z3,z4,z5]⟩)]):=dn fun y hy=>by
  simp only[List.mem_cons,List.not_mem_nil,or_false] at hy
  rcases hy with rfl | rfl | rfl
  ·exact⟨by simpa [CallRes.mem] using c01,by simp⟩
  ·exact⟨by simpa [CallRes.mem] using c11,by simp⟩
  ·exact⟨by simpa [CallRes.mem] using c21,by simp⟩
 obtain⟨FO,hFO⟩:∃FO,FO=cg [(9,[shB s 4 5,.agg d.cells,.int .i64 0],[.cells false 12 (d.cells++(e.cells++(f.cells++[]))),w1,.cells true 0 [.int .u8 s.kind,.int .i8 s.sx,.int .i8 s.sy,.bool s.half,.slice 0 0 3 none],.cells true 0 [.nilslice,.nilslice,.str [],.nilslice],.cells true 2 (pC s.P),.cells true 3 (tC s.T),.cells true 0 [.slice 4 0 s.P.length none,.slice 5 0 s.T.length none,.str [98,97,115,101],.nilslice],.cells true 0 d.cells],⟨.agg ev,none,[x1,x2,x3,x4,x5]⟩),(9,[shB s 4 5,.agg e.cells,.int .i64 1],[.cells false 12 (d.cells++(e.cells++(f.cells++[]))),w1,.cells true 0 [.int .u8 s.kind,.int .i8 s.sx,.int .i8 s.sy,.bool s.half,.slice 0 0 3 none],.cells true 0 [.nilslice,.nilslice,.str [],.nilslice],.cells true 2 (pC s.P),.cells true 3 (tC s.T),.cells true 0 [.slice 4 0 s.P.length none,.slice 5 0 s.T.length none,.str [98,97,115,101],.slice 14 0 1 none],.cells true 0 d.cells,x1,x2,x3,x4,x5,.cells true 32 ev,.cells true 32 (ev),.cells true 0 e.cells],⟨.agg ew,none,[y1,y2,y3,y4,y5]⟩),(9,[shB s 4 5,.agg f.cells,.int .i64 2],[.cells false 12 (d.cells++(e.cells++(f.cells++[]))),w1,.cells true 0 [.int .u8 s.kind,.int .i8 s.sx,.int .i8 s.sy,.bool s.half,.slice 0 0 3 none],.cells true 0 [.nilslice,.nilslice,.str [],.nilslice],.cells true 2 (pC s.P),.cells true 3 (tC s.T),.cells true 0 [.slice 4 0 s.P.length none,.slice 5 0 s.T.length none,.str [98,97,115,101],.slice 22 0 2 none],.cells true 0 d.cells,x1,x2,x3,x4,x5,.cells true 32 ev,.absent,.cells true 0 e.cells,y1,y2,y3,y4,y5,.cells true 32 ew,.cells true 32 (ev++ew),.cells true 0 f.cells],⟨.agg eu,none,[z1,z2,z3,z4,z5]⟩)]:=⟨_,rfl⟩
 have g0:FO (.fn 9) [shB s 4 5,.agg d.cells,.int .i64 0] [.cells false 12 (d.cells++(e.cells++(f.cells++[]))),w1,.cells true 0 [.int .u8 s.kind,.int .i8 s.sx,.int .i8 s.sy,.bool s.half,.slice 0 0 3 none],.cells true 0 [.nilslice,.nilslice,.str [],.nilslice],.cells true 2 (pC s.P),.cells true 3 (tC s.T),.cells true 0 [.slice 4 0 s.P.length none,.slice 5 0 s.T.length none,.str [98,97,115,101],.nilslice],.cells true 0 d.cells]=some ⟨.agg ev,none,[x1,x2,x3,x4,x5]⟩:=by
  rw[hFO];exact be
 have g1:FO (.fn 9) [shB s 4 5,.agg e.cells,.int .i64 1] [.cells false 12 (d.cells++(e.cells++(f.cells++[]))),w1,.cells true 0 [.int .u8 s.kind,.int .i8 s.sx,.int .i8 s.sy,.bool s.half,.slice 0 0 3 none],.cells true 0 [.nilslice,.nilslice,.str [],.nilslice],.cells true 2 (pC s.P),.cells true 3 (tC s.T),.cells true 0 [.slice 4 0 s.P.length none,.slice 5 0 s.T.length none,.str [98,97,115,101],.slice 14 0 1 none],.cells true 0 d.cells,x1,x2,x3,x4,x5,.cells true 32 ev,.cells true 32 (ev),.cells true 0 e.cells]=some ⟨.agg ew,none,[y1,y2,y3,y4,y5]⟩:=by
  rw[hFO];rw[wD (by intro e;simp at e)];exact be
 have g2:FO (.fn 9) [shB s 4 5,.agg f.cells,.int .i64 2] [.cells false 12 (d.cells++(e.cells++(f.cells++[]))),w1,.cells true 0 [.int .u8 s.kind,.int .i8 s.sx,.int .i8 s.sy,.bool s.half,.slice 0 0 3 none],.cells true 0 [.nilslice,.nilslice,.str [],.nilslice],.cells true 2 (pC s.P),.cells true 3 (tC s.T),.cells true 0 [.slice 4 0 s.P.length none,.slice 5 0 s.T.length none,.str [98,97,115,101],.slice 22 0 2 none],.cells true 0 d.cells,x1,x2,x3,x4,x5,.cells true 32 ev,.absent,.cells true 0 e.cells,y1,y2,y3,y4,y5,.cells true 32 ew,.cells true 32 (ev++ew),.cells true 0 f.cells]=some ⟨.agg eu,none,[z1,z2,z3,z4,z5]⟩:=by
  rw[hFO];rw[wD (by intro e;simp at e)];rw[wD (by intro e;simp at e)];exact be
 have gM:∀a M,FO (.fn 33) a M=none:=fun a M=>by rw[hFO];simp[cg]
 rw[←hFO] at hF
 have hr:=aP aa (ai _) (OracleOk.or hF (ji s hs)) (aj _) (F7 (Oracle.or FO (mY s)) s d e f [] 3 (by decide) (by decide) (by simp) w1 ev x1 x2 x3 x4 x5 c04 c05 (fun k hk=>c06 k hk) ax1 ax2 ax3 ax4 ax5 (fun k hk=>c07 k hk) ew y1 y2 y3 y4 y5 c14 c15 (fun k hk=>c16 k hk) ay1 ay2 ay3 ay4 ay5 (fun k hk=>c17 k hk) eu z1 z2 z3 z4 z5 c24 c25 (fun k hk=>c26 k hk) az1 az2 az3 az4 az5 (fun k hk=>c27 k hk) (ug g0) (ug g1) (ug g2) (fun M=>(Js (gM _ _)).trans (jh s M)))
 clear hF gM g0 g1 g2
 clear hFO
 refine⟨4,5,30,[ev,ew,eu],[bl d 0,bl e 1,bl f 2],[.cells true 0 [.int .u8 s.kind,.int .i8 s.sx,.int .i8 s.sy,.bool s.half,.slice 0 0 3 none],.cells true 0 [.slice 4 0 s.P.length none,.slice 5 0 s.T.length none,.str [98,97,115,101],.slice 30 0 3 none],.cells true 2 (pC s.P),.cells true 3 (tC s.T),.cells true 0 [.slice 4 0 s.P.length none,.slice 5 0 s.T.length none,.str [98,97,115,101],.slice 30 0 3 none],.cells true 0 d.cells,x1,x2,x3,x4,x5,.cells true 32 ev,.absent,.cells true 0 e.cells,y1,y2,y3,y4,y5,.cells true 32 ew,.absent,.cells true 0 f.cells,z1,z2,z3,z4,z5,.cells true 32 eu,.cells true 32 (ev++ew++eu)],hr,?_⟩
 exact⟨{
  hp:=⟨true,rfl⟩
  ht:=⟨true,rfl⟩
  hq:=fun _=>⟨true,by simp⟩
  len:=rfl
  small:=by simp
  con:=fun i e U h1 h2=>by
   match i,h1,h2 with
   |0,h1,h2=>simp at h1 h2;subst h1;subst h2;obtain⟨_,cc,ho,hu,hx⟩:=c02;exact⟨cc,ho,hu,fun Z=>hx _ (AN rfl rfl rfl rfl rfl)⟩
   |1,h1,h2=>simp at h1 h2;subst h1;subst h2;obtain⟨_,cc,ho,hu,hx⟩:=c12;exact⟨cc,ho,hu,fun Z=>hx _ (AN rfl rfl rfl rfl rfl)⟩
   |2,h1,h2=>simp at h1 h2;subst h1;subst h2;obtain⟨_,cc,ho,hu,hx⟩:=c22;exact⟨cc,ho,hu,fun Z=>hx _ (AN rfl rfl rfl rfl rfl)⟩
   |i+3,h1,h2=>simp at h1 },by simpa using HD d e f,by simp⟩
theorem C8(s:Sheet) (hs:s.Ok) (ds:List Deed) (hd:∀d∈ds,d.Ok) (h3:ds.length≤3) (x:Slot) (a:AV) (w1:Slot) (hx:PN ds x a):∃p t q evs us new,ACallsTo Tryz.prog 8 [.agg [.int .u8 s.kind,.int .i8 s.sx,.int .i8 s.sy,.bool s.half,a]] [x,w1] (.agg (aq s p t q evs.length)) ([x,w1]++new)∧Tryz.HstAt s p t q evs us ([x,w1]++new)∧(ak::us.flatten).Nodup∧evs.length≤3:=by
 rcases hx with⟨rfl,rfl⟩ | ⟨rfl,rfl⟩
 ·exact HW s hs x w1
 ·match ds,hd,h3 with
  | [],_,_=>exact H1 s hs w1
  | [d],hd,_=>have:=HX s hs d (hd d (by simp)) w1;simpa [kw] using this
  | [d,e],hd,_=>have:=HY s hs d e (hd d (by simp)) (hd e (by simp)) w1;simpa [kw] using this
  | [d,e,f],hd,_=>have:=HZ s hs d e f (hd d (by simp)) (hd e (by simp)) (hd f (by simp)) w1;simpa [kw] using this
  |_::_::_::_::_,_,h3=>simp at h3
end Go.Proofs
