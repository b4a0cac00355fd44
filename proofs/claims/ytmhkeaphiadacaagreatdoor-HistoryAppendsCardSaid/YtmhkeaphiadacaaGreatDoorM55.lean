/- See M58. -/
import Derived.Test.YtmhkeaphiadacaaGreatDoorM46
import Derived.Test.YtmhkeaphiadacaaGreatDoorM48
set_option linter.all false
namespace Go.Proofs
open Go.Eng
set_option maxRecDepth 16384 in
set_option maxHeartbeats 16000000 in
theorem Dn(O:Oracle) (s:Sheet) (d:Deed) (w1 w2:Slot) (ev:List AV) (x1 x2 x3 x4 x5:Slot) (hev:ev.length=32) (fev:∀x∈ev,x.cellOk=true) (rev:∀k,14≤k→AV.refsOkL (fun b=>decide (b<k)) ev=true) (ax1:br x1=true) (ax2:br x2=true) (ax3:br x3=true) (ax4:br x4=true) (ax5:br x5=true) (qx:∀k,14≤k→x1.refsOk (fun b=>decide (b<k))=true∧x2.refsOk (fun b=>decide (b<k))=true∧x3.refsOk (fun b=>decide (b<k))=true∧x4.refsOk (fun b=>decide (b<k))=true∧x5.refsOk (fun b=>decide (b<k))=true)
  (hD0:O (.fn 9) [shB s 5 6,.agg d.cells,.int .i64 0] [.cells false 12 d.cells,w1,w2,.cells true 0 [.int .u8 s.kind,.int .i8 s.sx,.int .i8 s.sy,.bool s.half,.slice 0 0 1 none],.cells true 0 [.nilslice,.nilslice,.str [],.nilslice],.cells true 2 (pC s.P),.cells true 3 (tC s.T),.cells true 0 [.slice 5 0 s.P.length none,.slice 6 0 s.T.length none,.str [98,97,115,101],.nilslice],.cells true 0 d.cells]=some ⟨.agg ev,none,[x1,x2,x3,x4,x5]⟩)
  (hMk:∀M,O (.fn 33) [.agg [.int .u8 s.kind,.int .i8 s.sx,.int .i8 s.sy,.bool s.half]] M=some ⟨shB s M.length (M.length+1),none,[.cells true 2 (pC s.P),.cells true 3 (tC s.T)]⟩)
  : aT (aA Tryz.prog) fN (aF Tryz.prog) O 5 8 [.agg [.int .u8 s.kind,.int .i8 s.sx,.int .i8 s.sy,.bool s.half,.slice 0 0 1 none]] [.cells false 12 d.cells,w1,w2]=some (.agg [.slice 5 0 s.P.length none,.slice 6 0 s.T.length none,.str [98,97,115,101],.slice 15 0 1 none],[.cells false 12 d.cells,w1,w2,.cells true 0 [.int .u8 s.kind,.int .i8 s.sx,.int .i8 s.sy,.bool s.half,.slice 0 0 1 none],.cells true 0 [.slice 5 0 s.P.length none,.slice 6 0 s.T.length none,.str [98,97,115,101],.slice 15 0 1 none],.cells true 2 (pC s.P),.cells true 3 (tC s.T),.cells true 0 [.slice 5 0 s.P.length none,.slice 6 0 s.T.length none,.str [98,97,115,101],.slice 15 0 1 none],.cells true 0 d.cells,x1,x2,x3,x4,x5,.cells true 32 ev,.cells true 32 (ev)]):=by
 have hG:aF Tryz.prog 8=some Tryz.f8:=by kernel_rfl
 obtain⟨os,hops⟩:∃os,aE Tryz.f8=os:=⟨_,rfl⟩
 have hbs:=aS hops (ls:=[[0,1,0,4,0,0,60,124,255,511,1023]]) (by kernel_rfl)
 simp only[aE,bw,Tryz.f8,List.nil_append,List.append_nil,List.cons_append] at hops
 subst hops
 simp only[List.map_cons,List.map_nil,List.cons.injEq,and_true] at hbs
 have k6:eY [0,1,0,4,0,0,60,124,255,511,1023] 11 6=true:=by decide
 have k7:eY [0,1,0,4,0,0,60,124,255,511,1023] 11 7=true:=by decide
 have k8:eY [0,1,0,4,0,0,60,124,255,511,1023] 11 8=true:=by decide
 have k10:eY [0,1,0,4,0,0,60,124,255,511,1023] 11 10=true:=by decide
 have j10:aN [0,1,0,4,0,0,60,124,255,511,1023] 10=true:=by decide
 have j8:aN [0,1,0,4,0,0,60,124,255,511,1023] 8=true:=by decide
 have sa:∀f,Slot.refsOk f Slot.absent=true:=fun _=>rfl
 have w1:IntKind.i64.wrap 1=1:=rfl
 have w2:IntKind.i64.wrap 2=2:=rfl
 have w3:IntKind.i64.wrap 3=3:=rfl
 have g0:(∀x:AV,x∈ev→x.cellOk=true)=True:=eq_true fev
 have t0:List.take 32 ev=ev:=List.take_of_length_le (by omega)
 obtain⟨kd0,⟨A10,A20,A30⟩,⟨B10,B20,B30⟩,N0,⟨K10,K20,K30,K40⟩⟩:=d
 simp[shB,Deed.cells] at hD0 hMk
 simp[-AV.cellOk,rW,FA,DC,wK,Gx,GW,g0,t0,aT,hG,Tryz.f8,hMk,hD0,hev,rev,qx,dl,dC,cA,-Slot.refsOk,ax1,ax2,ax3,ax4,ax5,Deed.cells,shB,bH,ax,-aC,eg hbs,fP,kx,sq,bV,k6,k7,k8,k10,j8,sa,j10,Nat.testBit,ay,dN,fN,w1,w2,w3,dT,cu,cJ,nO,pw]
set_option maxRecDepth 16384 in
set_option maxHeartbeats 16000000 in
theorem F0(O:Oracle) (s:Sheet) (d e:Deed) (w1 w2:Slot) (ev:List AV) (x1 x2 x3 x4 x5:Slot) (hev:ev.length=32) (fev:∀x∈ev,x.cellOk=true) (rev:∀k,14≤k→AV.refsOkL (fun b=>decide (b<k)) ev=true) (ax1:br x1=true) (ax2:br x2=true) (ax3:br x3=true) (ax4:br x4=true) (ax5:br x5=true) (qx:∀k,14≤k→x1.refsOk (fun b=>decide (b<k))=true∧x2.refsOk (fun b=>decide (b<k))=true∧x3.refsOk (fun b=>decide (b<k))=true∧x4.refsOk (fun b=>decide (b<k))=true∧x5.refsOk (fun b=>decide (b<k))=true) (ew:List AV) (y1 y2 y3 y4 y5:Slot) (hew:ew.length=32) (few:∀x∈ew,x.cellOk=true) (rew:∀k,22≤k→AV.refsOkL (fun b=>decide (b<k)) ew=true) (ay1:br y1=true) (ay2:br y2=true) (ay3:br y3=true) (ay4:br y4=true) (ay5:br y5=true) (qy:∀k,22≤k→y1.refsOk (fun b=>decide (b<k))=true∧y2.refsOk (fun b=>decide (b<k))=true∧y3.refsOk (fun b=>decide (b<k))=true∧y4.refsOk (fun b=>decide (b<k))=true∧y5.refsOk (fun b=>decide (b<k))=true)
  (hD0:O (.fn 9) [shB s 5 6,.agg d.cells,.int .i64 0] [.cells false 12 (d.cells++e.cells),w1,w2,.cells true 0 [.int .u8 s.kind,.int .i8 s.sx,.int .i8 s.sy,.bool s.half,.slice 0 0 2 none],.cells true 0 [.nilslice,.nilslice,.str [],.nilslice],.cells true 2 (pC s.P),.cells true 3 (tC s.T),.cells true 0 [.slice 5 0 s.P.length none,.slice 6 0 s.T.length none,.str [98,97,115,101],.nilslice],.cells true 0 d.cells]=some ⟨.agg ev,none,[x1,x2,x3,x4,x5]⟩)
  (hD1:O (.fn 9) [shB s 5 6,.agg e.cells,.int .i64 1] [.cells false 12 (d.cells++e.cells),w1,w2,.cells true 0 [.int .u8 s.kind,.int .i8 s.sx,.int .i8 s.sy,.bool s.half,.slice 0 0 2 none],.cells true 0 [.nilslice,.nilslice,.str [],.nilslice],.cells true 2 (pC s.P),.cells true 3 (tC s.T),.cells true 0 [.slice 5 0 s.P.length none,.slice 6 0 s.T.length none,.str [98,97,115,101],.slice 15 0 1 none],.cells true 0 d.cells,x1,x2,x3,x4,x5,.cells true 32 ev,.cells true 32 (ev),.cells true 0 e.cells]=some ⟨.agg ew,none,[y1,y2,y3,y4,y5]⟩)
  (hMk:∀M,O (.fn 33) [.agg [.int .u8 s.kind,.int .i8 s.sx,.int .i8 s.sy,.bool s.half]] M=some ⟨shB s M.length (M.length+1),none,[.cells true 2 (pC s.P),.cells true 3 (tC s.T)]⟩)
  : aT (aA Tryz.prog) fN (aF Tryz.prog) O 5 8 [.agg [.int .u8 s.kind,.int .i8 s.sx,.int .i8 s.sy,.bool s.half,.slice 0 0 2 none]] [.cells false 12 (d.cells++e.cells),w1,w2]=some (.agg [.slice 5 0 s.P.length none,.slice 6 0 s.T.length none,.str [98,97,115,101],.slice 23 0 2 none],[.cells false 12 (d.cells++e.cells),w1,w2,.cells true 0 [.int .u8 s.kind,.int .i8 s.sx,.int .i8 s.sy,.bool s.half,.slice 0 0 2 none],.cells true 0 [.slice 5 0 s.P.length none,.slice 6 0 s.T.length none,.str [98,97,115,101],.slice 23 0 2 none],.cells true 2 (pC s.P),.cells true 3 (tC s.T),.cells true 0 [.slice 5 0 s.P.length none,.slice 6 0 s.T.length none,.str [98,97,115,101],.slice 23 0 2 none],.cells true 0 d.cells,x1,x2,x3,x4,x5,.cells true 32 ev,.absent,.cells true 0 e.cells,y1,y2,y3,y4,y5,.cells true 32 ew,.cells true 32 (ev++ew)]):=by
 have hG:aF Tryz.prog 8=some Tryz.f8:=by kernel_rfl
 obtain⟨os,hops⟩:∃os,aE Tryz.f8=os:=⟨_,rfl⟩
 have hbs:=aS hops (ls:=[[0,1,0,4,0,0,60,124,255,511,1023]]) (by kernel_rfl)
 simp only[aE,bw,Tryz.f8,List.nil_append,List.append_nil,List.cons_append] at hops
 subst hops
 simp only[List.map_cons,List.map_nil,List.cons.injEq,and_true] at hbs
 have k6:eY [0,1,0,4,0,0,60,124,255,511,1023] 11 6=true:=by decide
 have k7:eY [0,1,0,4,0,0,60,124,255,511,1023] 11 7=true:=by decide
 have k8:eY [0,1,0,4,0,0,60,124,255,511,1023] 11 8=true:=by decide
 have k10:eY [0,1,0,4,0,0,60,124,255,511,1023] 11 10=true:=by decide
 have j10:aN [0,1,0,4,0,0,60,124,255,511,1023] 10=true:=by decide
 have j8:aN [0,1,0,4,0,0,60,124,255,511,1023] 8=true:=by decide
 have sa:∀f,Slot.refsOk f Slot.absent=true:=fun _=>rfl
 have w1:IntKind.i64.wrap 1=1:=rfl
 have w2:IntKind.i64.wrap 2=2:=rfl
 have w3:IntKind.i64.wrap 3=3:=rfl
 have g0:(∀x:AV,x∈ev→x.cellOk=true)=True:=eq_true fev
 have t0:List.take 32 ev=ev:=List.take_of_length_le (by omega)
 have g1:(∀x:AV,x∈ew→x.cellOk=true)=True:=eq_true few
 have t1:List.take 32 ew=ew:=List.take_of_length_le (by omega)
 obtain⟨kd0,⟨A10,A20,A30⟩,⟨B10,B20,B30⟩,N0,⟨K10,K20,K30,K40⟩⟩:=d
 obtain⟨kd1,⟨A11,A21,A31⟩,⟨B11,B21,B31⟩,N1,⟨K11,K21,K31,K41⟩⟩:=e
 simp[shB,Deed.cells] at hD0 hD1 hMk
 simp[-AV.cellOk,rW,FA,DC,wK,Gx,GW,g0,t0,g1,t1,aT,hG,Tryz.f8,hMk,hD0,hD1,hev,hew,rev,rew,qx,qy,dl,dC,cA,-Slot.refsOk,ax1,ax2,ax3,ax4,ax5,ay1,ay2,ay3,ay4,ay5,Deed.cells,shB,bH,ax,-aC,eg hbs,fP,kx,sq,bV,k6,k7,k8,k10,j8,sa,j10,Nat.testBit,ay,dN,fN,w1,w2,w3,dT,cu,cJ,nO,pw]
set_option maxRecDepth 16384 in
set_option maxHeartbeats 16000000 in
theorem F1(O:Oracle) (s:Sheet) (d e f:Deed) (R:List AV) (k:Nat) (h3:3≤k) (hk:k≤1000000) (hR:R.length+36=k*12) (w1 w2:Slot) (ev:List AV) (x1 x2 x3 x4 x5:Slot) (hev:ev.length=32) (fev:∀x∈ev,x.cellOk=true) (rev:∀k,14≤k→AV.refsOkL (fun b=>decide (b<k)) ev=true) (ax1:br x1=true) (ax2:br x2=true) (ax3:br x3=true) (ax4:br x4=true) (ax5:br x5=true) (qx:∀k,14≤k→x1.refsOk (fun b=>decide (b<k))=true∧x2.refsOk (fun b=>decide (b<k))=true∧x3.refsOk (fun b=>decide (b<k))=true∧x4.refsOk (fun b=>decide (b<k))=true∧x5.refsOk (fun b=>decide (b<k))=true) (ew:List AV) (y1 y2 y3 y4 y5:Slot) (hew:ew.length=32) (few:∀x∈ew,x.cellOk=true) (rew:∀k,22≤k→AV.refsOkL (fun b=>decide (b<k)) ew=true) (ay1:br y1=true) (ay2:br y2=true) (ay3:br y3=true) (ay4:br y4=true) (ay5:br y5=true) (qy:∀k,22≤k→y1.refsOk (fun b=>decide (b<k))=true∧y2.refsOk (fun b=>decide (b<k))=true∧y3.refsOk (fun b=>decide (b<k))=true∧y4.refsOk (fun b=>decide (b<k))=true∧y5.refsOk (fun b=>decide (b<k))=true) (eu:List AV) (z1 z2 z3 z4 z5:Slot) (heu:eu.length=32) (feu:∀x∈eu,x.cellOk=true) (reu:∀k,30≤k→AV.refsOkL (fun b=>decide (b<k)) eu=true) (az1:br z1=true) (az2:br z2=true) (az3:br z3=true) (az4:br z4=true) (az5:br z5=true) (qz:∀k,30≤k→z1.refsOk (fun b=>decide (b<k))=true∧z2.refsOk (fun b=>decide (b<k))=true∧z3.refsOk (fun b=>decide (b<k))=true∧z4.refsOk (fun b=>decide (b<k))=true∧z5.refsOk (fun b=>decide (b<k))=true)
  (hD0:O (.fn 9) [shB s 5 6,.agg d.cells,.int .i64 0] [.cells false 12 (d.cells++(e.cells++(f.cells++R))),w1,w2,.cells true 0 [.int .u8 s.kind,.int .i8 s.sx,.int .i8 s.sy,.bool s.half,.slice 0 0 k none],.cells true 0 [.nilslice,.nilslice,.str [],.nilslice],.cells true 2 (pC s.P),.cells true 3 (tC s.T),.cells true 0 [.slice 5 0 s.P.length none,.slice 6 0 s.T.length none,.str [98,97,115,101],.nilslice],.cells true 0 d.cells]=some ⟨.agg ev,none,[x1,x2,x3,x4,x5]⟩)
  (hD1:O (.fn 9) [shB s 5 6,.agg e.cells,.int .i64 1] [.cells false 12 (d.cells++(e.cells++(f.cells++R))),w1,w2,.cells true 0 [.int .u8 s.kind,.int .i8 s.sx,.int .i8 s.sy,.bool s.half,.slice 0 0 k none],.cells true 0 [.nilslice,.nilslice,.str [],.nilslice],.cells true 2 (pC s.P),.cells true 3 (tC s.T),.cells true 0 [.slice 5 0 s.P.length none,.slice 6 0 s.T.length none,.str [98,97,115,101],.slice 15 0 1 none],.cells true 0 d.cells,x1,x2,x3,x4,x5,.cells true 32 ev,.cells true 32 (ev),.cells true 0 e.cells]=some ⟨.agg ew,none,[y1,y2,y3,y4,y5]⟩)
  (hD2:O (.fn 9) [shB s 5 6,.agg f.cells,.int .i64 2] [.cells false 12 (d.cells++(e.cells++(f.cells++R))),w1,w2,.cells true 0 [.int .u8 s.kind,.int .i8 s.sx,.int .i8 s.sy,.bool s.half,.slice 0 0 k none],.cells true 0 [.nilslice,.nilslice,.str [],.nilslice],.cells true 2 (pC s.P),.cells true 3 (tC s.T),.cells true 0 [.slice 5 0 s.P.length none,.slice 6 0 s.T.length none,.str [98,97,115,101],.slice 23 0 2 none],.cells true 0 d.cells,x1,x2,x3,x4,x5,.cells true 32 ev,.absent,.cells true 0 e.cells,y1,y2,y3,y4,y5,.cells true 32 ew,.cells true 32 (ev++ew),.cells true 0 f.cells]=some ⟨.agg eu,none,[z1,z2,z3,z4,z5]⟩)
  (hMk:∀M,O (.fn 33) [.agg [.int .u8 s.kind,.int .i8 s.sx,.int .i8 s.sy,.bool s.half]] M=some ⟨shB s M.length (M.length+1),none,[.cells true 2 (pC s.P),.cells true 3 (tC s.T)]⟩)
  : aT (aA Tryz.prog) fN (aF Tryz.prog) O 5 8 [.agg [.int .u8 s.kind,.int .i8 s.sx,.int .i8 s.sy,.bool s.half,.slice 0 0 k none]] [.cells false 12 (d.cells++(e.cells++(f.cells++R))),w1,w2]=some (.agg [.slice 5 0 s.P.length none,.slice 6 0 s.T.length none,.str [98,97,115,101],.slice 31 0 3 none],[.cells false 12 (d.cells++(e.cells++(f.cells++R))),w1,w2,.cells true 0 [.int .u8 s.kind,.int .i8 s.sx,.int .i8 s.sy,.bool s.half,.slice 0 0 k none],.cells true 0 [.slice 5 0 s.P.length none,.slice 6 0 s.T.length none,.str [98,97,115,101],.slice 31 0 3 none],.cells true 2 (pC s.P),.cells true 3 (tC s.T),.cells true 0 [.slice 5 0 s.P.length none,.slice 6 0 s.T.length none,.str [98,97,115,101],.slice 31 0 3 none],.cells true 0 d.cells,x1,x2,x3,x4,x5,.cells true 32 ev,.absent,.cells true 0 e.cells,y1,y2,y3,y4,y5,.cells true 32 ew,.absent,.cells true 0 f.cells,z1,z2,z3,z4,z5,.cells true 32 eu,.cells true 32 (ev++ew++eu)]):=by
 have hG:aF Tryz.prog 8=some Tryz.f8:=by kernel_rfl
 obtain⟨os,hops⟩:∃os,aE Tryz.f8=os:=⟨_,rfl⟩
 have hbs:=aS hops (ls:=[[0,1,0,4,0,0,60,124,255,511,1023]]) (by kernel_rfl)
 simp only[aE,bw,Tryz.f8,List.nil_append,List.append_nil,List.cons_append] at hops
 subst hops
 simp only[List.map_cons,List.map_nil,List.cons.injEq,and_true] at hbs
 have k6:eY [0,1,0,4,0,0,60,124,255,511,1023] 11 6=true:=by decide
 have k7:eY [0,1,0,4,0,0,60,124,255,511,1023] 11 7=true:=by decide
 have k8:eY [0,1,0,4,0,0,60,124,255,511,1023] 11 8=true:=by decide
 have k10:eY [0,1,0,4,0,0,60,124,255,511,1023] 11 10=true:=by decide
 have j10:aN [0,1,0,4,0,0,60,124,255,511,1023] 10=true:=by decide
 have j8:aN [0,1,0,4,0,0,60,124,255,511,1023] 8=true:=by decide
 have sa:∀f,Slot.refsOk f Slot.absent=true:=fun _=>rfl
 have w1:IntKind.i64.wrap 1=1:=rfl
 have w2:IntKind.i64.wrap 2=2:=rfl
 have w3:IntKind.i64.wrap 3=3:=rfl
 have g0:(∀x:AV,x∈ev→x.cellOk=true)=True:=eq_true fev
 have t0:List.take 32 ev=ev:=List.take_of_length_le (by omega)
 have g1:(∀x:AV,x∈ew→x.cellOk=true)=True:=eq_true few
 have t1:List.take 32 ew=ew:=List.take_of_length_le (by omega)
 have g2:(∀x:AV,x∈eu→x.cellOk=true)=True:=eq_true feu
 have t2:List.take 32 eu=eu:=List.take_of_length_le (by omega)
 have i1:(3:Int)≤k:=by omega
 have i3:k*12≤R.length+36:=by omega
 have i6:0<k:=by omega
 have i7:(if (3:Int)<k then (3:Int) else k)=3:=by split<;>omega
 have r4:AV.refsOkL (fun b=>decide (b<32)) (ev++ew)=true:=by rw[dI,rev 32 (by decide),rew 32 (by decide)];rfl
 have t4:List.take 64 (ev++ew)=ev++ew:=List.take_of_length_le (by rw[List.length_append];omega)
 obtain⟨kd0,⟨A10,A20,A30⟩,⟨B10,B20,B30⟩,N0,⟨K10,K20,K30,K40⟩⟩:=d
 obtain⟨kd1,⟨A11,A21,A31⟩,⟨B11,B21,B31⟩,N1,⟨K11,K21,K31,K41⟩⟩:=e
 obtain⟨kd2,⟨A12,A22,A32⟩,⟨B12,B22,B32⟩,N2,⟨K12,K22,K32,K42⟩⟩:=f
 simp[shB,Deed.cells] at hD0 hD1 hD2 hMk
 simp[-AV.cellOk,rW,FA,DC,wK,Gx,GW,g0,t0,g1,t1,g2,t2,aT,hG,Tryz.f8,hMk,hD0,hD1,hD2,hev,hew,heu,rev,rew,reu,qx,qy,qz,dl,dC,cA,-Slot.refsOk,ax1,ax2,ax3,ax4,ax5,ay1,ay2,ay3,ay4,ay5,az1,az2,az3,az4,az5,i1,i3,i6,i7,r4,t4,Deed.cells,shB,bH,ax,-aC,eg hbs,fP,kx,sq,bV,k6,k7,k8,k10,j8,sa,j10,Nat.testBit,ay,dN,fN,w1,w2,w3,dT,cu,cJ,nO,pw]
theorem In(s:Sheet) (hs:s.Ok) (x:Slot) (w1 w2:Slot):∃p t q evs us new,ACallsTo Tryz.prog 8 [.agg [.int .u8 s.kind,.int .i8 s.sx,.int .i8 s.sy,.bool s.half,.nilslice]] [x,w1,w2] (.agg (aG s p t q evs.length)) ([x,w1,w2]++new)∧Tryz.HstAt s p t q evs us ([x,w1,w2]++new)∧(ak::us.flatten).Nodup∧evs.length≤3:=by
 have hG:aF Tryz.prog 8=some Tryz.f8:=by kernel_rfl
 have w0:IntKind.i64.wrap 0=0:=rfl
 have hMk:=fun M=>jf s M
 simp only[shB] at hMk
 have h:aT (aA Tryz.prog) fN (aF Tryz.prog) (mY s) 5 8 [.agg [.int .u8 s.kind,.int .i8 s.sx,.int .i8 s.sy,.bool s.half,.nilslice]] [x,w1,w2]=some (.agg [.slice 5 0 s.P.length none,.slice 6 0 s.T.length none,.str [98,97,115,101],.nilslice],[x,w1,w2]++[.cells true 0 [.int .u8 s.kind,.int .i8 s.sx,.int .i8 s.sy,.bool s.half,.nilslice],.cells true 0 [.slice 5 0 s.P.length none,.slice 6 0 s.T.length none,.str [98,97,115,101],.nilslice],.cells true 2 (pC s.P),.cells true 3 (tC s.T),.cells true 0 [.slice 5 0 s.P.length none,.slice 6 0 s.T.length none,.str [98,97,115,101],.nilslice]]):=by
  simp[aT,hG,Tryz.f8,hMk,bH,ax,ay,dN,fN,w0]
 refine⟨5,6,0,[],[],[.cells true 0 [.int .u8 s.kind,.int .i8 s.sx,.int .i8 s.sy,.bool s.half,.nilslice],.cells true 0 [.slice 5 0 s.P.length none,.slice 6 0 s.T.length none,.str [98,97,115,101],.nilslice],.cells true 2 (pC s.P),.cells true 3 (tC s.T),.cells true 0 [.slice 5 0 s.P.length none,.slice 6 0 s.T.length none,.str [98,97,115,101],.nilslice]],aP aa (aj _) (ja s hs) (al _) h,?_⟩
 exact⟨{ hp:=⟨true,rfl⟩,ht:=⟨true,rfl⟩,hq:=fun h=>absurd rfl h,len:=rfl,small:=by simp,con:=by simp },by simp,by simp⟩
theorem Ho(s:Sheet) (hs:s.Ok)  (w1 w2:Slot):∃p t q evs us new,ACallsTo Tryz.prog 8 [.agg [.int .u8 s.kind,.int .i8 s.sx,.int .i8 s.sy,.bool s.half,.slice 0 0 0 none]] [.cells false 12 [],w1,w2] (.agg (aG s p t q evs.length)) ([.cells false 12 [],w1,w2]++new)∧Tryz.HstAt s p t q evs us ([.cells false 12 [],w1,w2]++new)∧(ak::us.flatten).Nodup∧evs.length≤3:=by
 have hG:aF Tryz.prog 8=some Tryz.f8:=by kernel_rfl
 have w0:IntKind.i64.wrap 0=0:=rfl
 have hMk:=fun M=>jf s M
 simp only[shB] at hMk
 have h:aT (aA Tryz.prog) fN (aF Tryz.prog) (mY s) 5 8 [.agg [.int .u8 s.kind,.int .i8 s.sx,.int .i8 s.sy,.bool s.half,.slice 0 0 0 none]] [.cells false 12 [],w1,w2]=some (.agg [.slice 5 0 s.P.length none,.slice 6 0 s.T.length none,.str [98,97,115,101],.nilslice],[.cells false 12 [],w1,w2]++[.cells true 0 [.int .u8 s.kind,.int .i8 s.sx,.int .i8 s.sy,.bool s.half,.slice 0 0 0 none],.cells true 0 [.slice 5 0 s.P.length none,.slice 6 0 s.T.length none,.str [98,97,115,101],.nilslice],.cells true 2 (pC s.P),.cells true 3 (tC s.T),.cells true 0 [.slice 5 0 s.P.length none,.slice 6 0 s.T.length none,.str [98,97,115,101],.nilslice]]):=by
  simp[aT,hG,Tryz.f8,hMk,bH,ax,ay,dN,fN,w0]
 refine⟨5,6,0,[],[],[.cells true 0 [.int .u8 s.kind,.int .i8 s.sx,.int .i8 s.sy,.bool s.half,.slice 0 0 0 none],.cells true 0 [.slice 5 0 s.P.length none,.slice 6 0 s.T.length none,.str [98,97,115,101],.nilslice],.cells true 2 (pC s.P),.cells true 3 (tC s.T),.cells true 0 [.slice 5 0 s.P.length none,.slice 6 0 s.T.length none,.str [98,97,115,101],.nilslice]],aP aa (aj _) (ja s hs) (al _) h,?_⟩
 exact⟨{ hp:=⟨true,rfl⟩,ht:=⟨true,rfl⟩,hq:=fun h=>absurd rfl h,len:=rfl,small:=by simp,con:=by simp },by simp,by simp⟩
set_option maxHeartbeats 4000000 in
theorem ID(s:Sheet) (hs:s.Ok) (d:Deed) (od:d.Ok) (w1 w2:Slot):∃p t q evs us new,ACallsTo Tryz.prog 8 [.agg [.int .u8 s.kind,.int .i8 s.sx,.int .i8 s.sy,.bool s.half,.slice 0 0 1 none]] [.cells false 12 d.cells,w1,w2] (.agg (aG s p t q evs.length)) ([.cells false 12 d.cells,w1,w2]++new)∧Tryz.HstAt s p t q evs us ([.cells false 12 d.cells,w1,w2]++new)∧(ak::us.flatten).Nodup∧evs.length≤3:=by
 obtain⟨ev,x1,x2,x3,x4,x5,c01,c02,c03,⟨c04,c08⟩,c05,c06,⟨ax1,ax2,ax3,ax4,ax5⟩,c07⟩:=fY s d od 0 (by decide) [.cells false 12 d.cells,w1,w2,.cells true 0 [.int .u8 s.kind,.int .i8 s.sx,.int .i8 s.sy,.bool s.half,.slice 0 0 1 none],.cells true 0 [.nilslice,.nilslice,.str [],.nilslice],.cells true 2 (pC s.P),.cells true 3 (tC s.T),.cells true 0 [.slice 5 0 s.P.length none,.slice 6 0 s.T.length none,.str [98,97,115,101],.nilslice],.cells true 0 d.cells] 5 6 true true rfl rfl
 have hF:OracleOk Tryz.prog (cd [(9,[shB s 5 6,.agg d.cells,.int .i64 0],[.cells false 12 d.cells,w1,w2,.cells true 0 [.int .u8 s.kind,.int .i8 s.sx,.int .i8 s.sy,.bool s.half,.slice 0 0 1 none],.cells true 0 [.nilslice,.nilslice,.str [],.nilslice],.cells true 2 (pC s.P),.cells true 3 (tC s.T),.cells true 0 [.slice 5 0 s.P.length none,.slice 6 0 s.T.length none,.str [98,97,115,101],.nilslice],.cells true 0 d.cells],⟨.agg ev,none,[x1,x2,x3,x4,x5]⟩)]):=du fun y hy=>by
  simp only[List.mem_cons,List.not_mem_nil,or_false] at hy
  subst hy
  exact⟨by simpa [CallRes.mem] using c01,by simp⟩
 obtain⟨FO,hFO⟩:∃FO,FO=cd [(9,[shB s 5 6,.agg d.cells,.int .i64 0],[.cells false 12 d.cells,w1,w2,.cells true 0 [.int .u8 s.kind,.int .i8 s.sx,.int .i8 s.sy,.bool s.half,.slice 0 0 1 none],.cells true 0 [.nilslice,.nilslice,.str [],.nilslice],.cells true 2 (pC s.P),.cells true 3 (tC s.T),.cells true 0 [.slice 5 0 s.P.length none,.slice 6 0 s.T.length none,.str [98,97,115,101],.nilslice],.cells true 0 d.cells],⟨.agg ev,none,[x1,x2,x3,x4,x5]⟩)]:=⟨_,rfl⟩
 have g0:FO (.fn 9) [shB s 5 6,.agg d.cells,.int .i64 0] [.cells false 12 d.cells,w1,w2,.cells true 0 [.int .u8 s.kind,.int .i8 s.sx,.int .i8 s.sy,.bool s.half,.slice 0 0 1 none],.cells true 0 [.nilslice,.nilslice,.str [],.nilslice],.cells true 2 (pC s.P),.cells true 3 (tC s.T),.cells true 0 [.slice 5 0 s.P.length none,.slice 6 0 s.T.length none,.str [98,97,115,101],.nilslice],.cells true 0 d.cells]=some ⟨.agg ev,none,[x1,x2,x3,x4,x5]⟩:=by
  rw[hFO];exact bm
 have gM:∀a M,FO (.fn 33) a M=none:=fun a M=>by rw[hFO];simp[cd]
 rw[←hFO] at hF
 have hr:=aP aa (aj _) (OracleOk.or hF (ja s hs)) (al _) (Dn (Oracle.or FO (mY s)) s d w1 w2 ev x1 x2 x3 x4 x5 c04 c05 (fun k hk=>c06 k hk) ax1 ax2 ax3 ax4 ax5 (fun k hk=>c07 k hk) (ss g0) (fun M=>(IJ (gM _ _)).trans (jf s M)))
 clear hF gM g0
 clear hFO
 refine⟨5,6,15,[ev],[bd d 0],[.cells true 0 [.int .u8 s.kind,.int .i8 s.sx,.int .i8 s.sy,.bool s.half,.slice 0 0 1 none],.cells true 0 [.slice 5 0 s.P.length none,.slice 6 0 s.T.length none,.str [98,97,115,101],.slice 15 0 1 none],.cells true 2 (pC s.P),.cells true 3 (tC s.T),.cells true 0 [.slice 5 0 s.P.length none,.slice 6 0 s.T.length none,.str [98,97,115,101],.slice 15 0 1 none],.cells true 0 d.cells,x1,x2,x3,x4,x5,.cells true 32 ev,.cells true 32 (ev)],hr,?_⟩
 exact⟨{
  hp:=⟨true,rfl⟩
  ht:=⟨true,rfl⟩
  hq:=fun _=>⟨true,by simp⟩
  len:=rfl
  small:=by simp
  con:=fun i e U h1 h2=>by
   match i,h1,h2 with
   |0,h1,h2=>simp at h1 h2;subst h1;subst h2;obtain⟨_,cc,ho,hu,hx⟩:=c02;exact⟨cc,ho,hu,fun Z=>hx _ (wP rfl rfl rfl rfl rfl)⟩
   |i+1,h1,h2=>simp at h1 },by simpa using Fk d,by simp⟩
set_option maxHeartbeats 4000000 in
theorem Iq(s:Sheet) (hs:s.Ok) (d e:Deed) (od:d.Ok) (oe:e.Ok) (w1 w2:Slot):∃p t q evs us new,ACallsTo Tryz.prog 8 [.agg [.int .u8 s.kind,.int .i8 s.sx,.int .i8 s.sy,.bool s.half,.slice 0 0 2 none]] [.cells false 12 (d.cells++e.cells),w1,w2] (.agg (aG s p t q evs.length)) ([.cells false 12 (d.cells++e.cells),w1,w2]++new)∧Tryz.HstAt s p t q evs us ([.cells false 12 (d.cells++e.cells),w1,w2]++new)∧(ak::us.flatten).Nodup∧evs.length≤3:=by
 obtain⟨ev,x1,x2,x3,x4,x5,c01,c02,c03,⟨c04,c08⟩,c05,c06,⟨ax1,ax2,ax3,ax4,ax5⟩,c07⟩:=fY s d od 0 (by decide) [.cells false 12 (d.cells++e.cells),w1,w2,.cells true 0 [.int .u8 s.kind,.int .i8 s.sx,.int .i8 s.sy,.bool s.half,.slice 0 0 2 none],.cells true 0 [.nilslice,.nilslice,.str [],.nilslice],.cells true 2 (pC s.P),.cells true 3 (tC s.T),.cells true 0 [.slice 5 0 s.P.length none,.slice 6 0 s.T.length none,.str [98,97,115,101],.nilslice],.cells true 0 d.cells] 5 6 true true rfl rfl
 obtain⟨ew,y1,y2,y3,y4,y5,c11,c12,c13,⟨c14,c18⟩,c15,c16,⟨ay1,ay2,ay3,ay4,ay5⟩,c17⟩:=fY s e oe 1 (by decide) [.cells false 12 (d.cells++e.cells),w1,w2,.cells true 0 [.int .u8 s.kind,.int .i8 s.sx,.int .i8 s.sy,.bool s.half,.slice 0 0 2 none],.cells true 0 [.nilslice,.nilslice,.str [],.nilslice],.cells true 2 (pC s.P),.cells true 3 (tC s.T),.cells true 0 [.slice 5 0 s.P.length none,.slice 6 0 s.T.length none,.str [98,97,115,101],.slice 15 0 1 none],.cells true 0 d.cells,x1,x2,x3,x4,x5,.cells true 32 ev,.cells true 32 (ev),.cells true 0 e.cells] 5 6 true true rfl rfl
 have hF:OracleOk Tryz.prog (cd [(9,[shB s 5 6,.agg d.cells,.int .i64 0],[.cells false 12 (d.cells++e.cells),w1,w2,.cells true 0 [.int .u8 s.kind,.int .i8 s.sx,.int .i8 s.sy,.bool s.half,.slice 0 0 2 none],.cells true 0 [.nilslice,.nilslice,.str [],.nilslice],.cells true 2 (pC s.P),.cells true 3 (tC s.T),.cells true 0 [.slice 5 0 s.P.length none,.slice 6 0 s.T.length none,.str [98,97,115,101],.nilslice],.cells true 0 d.cells],⟨.agg ev,none,[x1,x2,x3,x4,x5]⟩),(9,[shB s 5 6,.agg e.cells,.int .i64 1],[.cells false 12 (d.cells++e.cells),w1,w2,.cells true 0 [.int .u8 s.kind,.int .i8 s.sx,.int .i8 s.sy,.bool s.half,.slice 0 0 2 none],.cells true 0 [.nilslice,.nilslice,.str [],.nilslice],.cells true 2 (pC s.P),.cells true 3 (tC s.T),.cells true 0 [.slice 5 0 s.P.length none,.slice 6 0 s.T.length none,.str [98,97,115,101],.slice 15 0 1 none],.cells true 0 d.cells,x1,x2,x3,x4,x5,.cells true 32 ev,.cells true 32 (ev),.cells true 0 e.cells],⟨.agg ew,none,[y1,y2,y3,y4,y5]⟩)]):=du fun y hy=>by
  simp only[List.mem_cons,List.not_mem_nil,or_false] at hy
  rcases hy with rfl | rfl
  ·exact⟨by simpa [CallRes.mem] using c01,by simp⟩
  ·exact⟨by simpa [CallRes.mem] using c11,by simp⟩
 obtain⟨FO,hFO⟩:∃FO,FO=cd [(9,[shB s 5 6,.agg d.cells,.int .i64 0],[.cells false 12 (d.cells++e.cells),w1,w2,.cells true 0 [.int .u8 s.kind,.int .i8 s.sx,.int .i8 s.sy,.bool s.half,.slice 0 0 2 none],.cells true 0 [.nilslice,.nilslice,.str [],.nilslice],.cells true 2 (pC s.P),.cells true 3 (tC s.T),.cells true 0 [.slice 5 0 s.P.length none,.slice 6 0 s.T.length none,.str [98,97,115,101],.nilslice],.cells true 0 d.cells],⟨.agg ev,none,[x1,x2,x3,x4,x5]⟩),(9,[shB s 5 6,.agg e.cells,.int .i64 1],[.cells false 12 (d.cells++e.cells),w1,w2,.cells true 0 [.int .u8 s.kind,.int .i8 s.sx,.int .i8 s.sy,.bool s.half,.slice 0 0 2 none],.cells true 0 [.nilslice,.nilslice,.str [],.nilslice],.cells true 2 (pC s.P),.cells true 3 (tC s.T),.cells true 0 [.slice 5 0 s.P.length none,.slice 6 0 s.T.length none,.str [98,97,115,101],.slice 15 0 1 none],.cells true 0 d.cells,x1,x2,x3,x4,x5,.cells true 32 ev,.cells true 32 (ev),.cells true 0 e.cells],⟨.agg ew,none,[y1,y2,y3,y4,y5]⟩)]:=⟨_,rfl⟩
 have g0:FO (.fn 9) [shB s 5 6,.agg d.cells,.int .i64 0] [.cells false 12 (d.cells++e.cells),w1,w2,.cells true 0 [.int .u8 s.kind,.int .i8 s.sx,.int .i8 s.sy,.bool s.half,.slice 0 0 2 none],.cells true 0 [.nilslice,.nilslice,.str [],.nilslice],.cells true 2 (pC s.P),.cells true 3 (tC s.T),.cells true 0 [.slice 5 0 s.P.length none,.slice 6 0 s.T.length none,.str [98,97,115,101],.nilslice],.cells true 0 d.cells]=some ⟨.agg ev,none,[x1,x2,x3,x4,x5]⟩:=by
  rw[hFO];exact bm
 have g1:FO (.fn 9) [shB s 5 6,.agg e.cells,.int .i64 1] [.cells false 12 (d.cells++e.cells),w1,w2,.cells true 0 [.int .u8 s.kind,.int .i8 s.sx,.int .i8 s.sy,.bool s.half,.slice 0 0 2 none],.cells true 0 [.nilslice,.nilslice,.str [],.nilslice],.cells true 2 (pC s.P),.cells true 3 (tC s.T),.cells true 0 [.slice 5 0 s.P.length none,.slice 6 0 s.T.length none,.str [98,97,115,101],.slice 15 0 1 none],.cells true 0 d.cells,x1,x2,x3,x4,x5,.cells true 32 ev,.cells true 32 (ev),.cells true 0 e.cells]=some ⟨.agg ew,none,[y1,y2,y3,y4,y5]⟩:=by
  rw[hFO];rw[vU (by intro e;simp at e)];exact bm
 have gM:∀a M,FO (.fn 33) a M=none:=fun a M=>by rw[hFO];simp[cd]
 rw[←hFO] at hF
 have hr:=aP aa (aj _) (OracleOk.or hF (ja s hs)) (al _) (F0 (Oracle.or FO (mY s)) s d e w1 w2 ev x1 x2 x3 x4 x5 c04 c05 (fun k hk=>c06 k hk) ax1 ax2 ax3 ax4 ax5 (fun k hk=>c07 k hk) ew y1 y2 y3 y4 y5 c14 c15 (fun k hk=>c16 k hk) ay1 ay2 ay3 ay4 ay5 (fun k hk=>c17 k hk) (ss g0) (ss g1) (fun M=>(IJ (gM _ _)).trans (jf s M)))
 clear hF gM g0 g1
 clear hFO
 refine⟨5,6,23,[ev,ew],[bd d 0,bd e 1],[.cells true 0 [.int .u8 s.kind,.int .i8 s.sx,.int .i8 s.sy,.bool s.half,.slice 0 0 2 none],.cells true 0 [.slice 5 0 s.P.length none,.slice 6 0 s.T.length none,.str [98,97,115,101],.slice 23 0 2 none],.cells true 2 (pC s.P),.cells true 3 (tC s.T),.cells true 0 [.slice 5 0 s.P.length none,.slice 6 0 s.T.length none,.str [98,97,115,101],.slice 23 0 2 none],.cells true 0 d.cells,x1,x2,x3,x4,x5,.cells true 32 ev,.absent,.cells true 0 e.cells,y1,y2,y3,y4,y5,.cells true 32 ew,.cells true 32 (ev++ew)],hr,?_⟩
 exact⟨{
  hp:=⟨true,rfl⟩
  ht:=⟨true,rfl⟩
  hq:=fun _=>⟨true,by simp⟩
  len:=rfl
  small:=by simp
  con:=fun i e U h1 h2=>by
   match i,h1,h2 with
   |0,h1,h2=>simp at h1 h2;subst h1;subst h2;obtain⟨_,cc,ho,hu,hx⟩:=c02;exact⟨cc,ho,hu,fun Z=>hx _ (wP rfl rfl rfl rfl rfl)⟩
   |1,h1,h2=>simp at h1 h2;subst h1;subst h2;obtain⟨_,cc,ho,hu,hx⟩:=c12;exact⟨cc,ho,hu,fun Z=>hx _ (wP rfl rfl rfl rfl rfl)⟩
   |i+2,h1,h2=>simp at h1 },by simpa using DP d e,by simp⟩
set_option maxHeartbeats 4000000 in
theorem Io(s:Sheet) (hs:s.Ok) (d e f:Deed) (od:d.Ok) (oe:e.Ok) (of:f.Ok) (w1 w2:Slot):∃p t q evs us new,ACallsTo Tryz.prog 8 [.agg [.int .u8 s.kind,.int .i8 s.sx,.int .i8 s.sy,.bool s.half,.slice 0 0 3 none]] [.cells false 12 (d.cells++(e.cells++(f.cells++[]))),w1,w2] (.agg (aG s p t q evs.length)) ([.cells false 12 (d.cells++(e.cells++(f.cells++[]))),w1,w2]++new)∧Tryz.HstAt s p t q evs us ([.cells false 12 (d.cells++(e.cells++(f.cells++[]))),w1,w2]++new)∧(ak::us.flatten).Nodup∧evs.length≤3:=by
 obtain⟨ev,x1,x2,x3,x4,x5,c01,c02,c03,⟨c04,c08⟩,c05,c06,⟨ax1,ax2,ax3,ax4,ax5⟩,c07⟩:=fY s d od 0 (by decide) [.cells false 12 (d.cells++(e.cells++(f.cells++[]))),w1,w2,.cells true 0 [.int .u8 s.kind,.int .i8 s.sx,.int .i8 s.sy,.bool s.half,.slice 0 0 3 none],.cells true 0 [.nilslice,.nilslice,.str [],.nilslice],.cells true 2 (pC s.P),.cells true 3 (tC s.T),.cells true 0 [.slice 5 0 s.P.length none,.slice 6 0 s.T.length none,.str [98,97,115,101],.nilslice],.cells true 0 d.cells] 5 6 true true rfl rfl
 obtain⟨ew,y1,y2,y3,y4,y5,c11,c12,c13,⟨c14,c18⟩,c15,c16,⟨ay1,ay2,ay3,ay4,ay5⟩,c17⟩:=fY s e oe 1 (by decide) [.cells false 12 (d.cells++(e.cells++(f.cells++[]))),w1,w2,.cells true 0 [.int .u8 s.kind,.int .i8 s.sx,.int .i8 s.sy,.bool s.half,.slice 0 0 3 none],.cells true 0 [.nilslice,.nilslice,.str [],.nilslice],.cells true 2 (pC s.P),.cells true 3 (tC s.T),.cells true 0 [.slice 5 0 s.P.length none,.slice 6 0 s.T.length none,.str [98,97,115,101],.slice 15 0 1 none],.cells true 0 d.cells,x1,x2,x3,x4,x5,.cells true 32 ev,.cells true 32 (ev),.cells true 0 e.cells] 5 6 true true rfl rfl
 obtain⟨eu,z1,z2,z3,z4,z5,c21,c22,c23,⟨c24,c28⟩,c25,c26,⟨az1,az2,az3,az4,az5⟩,c27⟩:=fY s f of 2 (by decide) [.cells false 12 (d.cells++(e.cells++(f.cells++[]))),w1,w2,.cells true 0 [.int .u8 s.kind,.int .i8 s.sx,.int .i8 s.sy,.bool s.half,.slice 0 0 3 none],.cells true 0 [.nilslice,.nilslice,.str [],.nilslice],.cells true 2 (pC s.P),.cells true 3 (tC s.T),.cells true 0 [.slice 5 0 s.P.length none,.slice 6 0 s.T.length none,.str [98,97,115,101],.slice 23 0 2 none],.cells true 0 d.cells,x1,x2,x3,x4,x5,.cells true 32 ev,.absent,.cells true 0 e.cells,y1,y2,y3,y4,y5,.cells true 32 ew,.cells true 32 (ev++ew),.cells true 0 f.cells] 5 6 true true rfl rfl
 have hF:OracleOk Tryz.prog (cd [(9,[shB s 5 6,.agg d.cells,.int .i64 0],[.cells false 12 (d.cells++(e.cells++(f.cells++[]))),w1,w2,.cells true 0 [.int .u8 s.kind,.int .i8 s.sx,.int .i8 s.sy,.bool s.half,.slice 0 0 3 none],.cells true 0 [.nilslice,.nilslice,.str [],.nilslice],.cells true 2 (pC s.P),.cells true 3 (tC s.T),.cells true 0 [.slice 5 0 s.P.length none,.slice 6 0 s.T.length none,.str [98,97,115,101],.nilslice],.cells true 0 d.cells],⟨.agg ev,none,[x1,x2,x3,x4,x5]⟩),(9,[shB s 5 6,.agg e.cells,.int .i64 1],[.cells false 12 (d.cells++(e.cells++(f.cells++[]))),w1,w2,.cells true 0 [.int .u8 s.kind,.int .i8 s.sx,.int .i8 s.sy,.bool s.half,.slice 0 0 3 none],.cells true 0 [.nilslice,.nilslice,.str [],.nilslice],.cells true 2 (pC s.P),.cells true 3 (tC s.T),.cells true 0 [.slice 5 0 s.P.length none,.slice 6 0 s.T.length none,.str [98,97,115,101],.slice 15 0 1 none],.cells true 0 d.cells,x1,x2,x3,x4,x5,.cells true 32 ev,.cells true 32 (ev),.cells true 0 e.cells],⟨.agg ew,none,[y1,y2,y3,y4,y5]⟩),(9,[shB s 5 6,.agg f.cells,.int .i64 2],[.cells false 12 (d.cells++(e.cells++(f.cells++[]))),w1,w2,.cells true 0 [.int .u8 s.kind,.int .i8 s.sx,.int .i8 s.sy,.bool s.half,.slice 0 0 3 none],.cells true 0 [.nilslice,.nilslice,.str [],.nilslice],.cells true 2 (pC s.P),.cells true 3 (tC s.T),.cells true 0 [.slice 5 0 s.P.length none,.slice 6 0 s.T.length none,.str [98,97,115,101],.slice 23 0 2 none],.cells true 0 d.cells,x1,x2,x3,x4,x5,.cells true 32 ev,.absent,.cells true 0 e.cells,y1,y2,y3,y4,y5,.cells true 32 ew,.cells true 32 (ev++ew),.cells true 0 f.cells],⟨.agg eu,none,[z1,z2,z3,z4,z5]⟩)]):=du fun y hy=>by
  simp only[List.mem_cons,List.not_mem_nil,or_false] at hy
  rcases hy with rfl | rfl | rfl
  ·exact⟨by simpa [CallRes.mem] using c01,by simp⟩
  ·exact⟨by simpa [CallRes.mem] using c11,by simp⟩
  ·exact⟨by simpa [CallRes.mem] using c21,by simp⟩
 obtain⟨FO,hFO⟩:∃FO,FO=cd [(9,[shB s 5 6,.agg d.cells,.int .i64 0],[.cells false 12 (d.cells++(e.cells++(f.cells++[]))),w1,w2,.cells true 0 [.int .u8 s.kind,.int .i8 s.sx,.int .i8 s.sy,.bool s.half,.slice 0 0 3 none],.cells true 0 [.nilslice,.nilslice,.str [],.nilslice],.cells true 2 (pC s.P),.cells true 3 (tC s.T),.cells true 0 [.slice 5 0 s.P.length none,.slice 6 0 s.T.length none,.str [98,97,115,101],.nilslice],.cells true 0 d.cells],⟨.agg ev,none,[x1,x2,x3,x4,x5]⟩),(9,[shB s 5 6,.agg e.cells,.int .i64 1],[.cells false 12 (d.cells++(e.cells++(f.cells++[]))),w1,w2,.cells true 0 [.int .u8 s.kind,.int .i8 s.sx,.int .i8 s.sy,.bool s.half,.slice 0 0 3 none],.cells true 0 [.nilslice,.nilslice,.str [],.nilslice],.cells true 2 (pC s.P),.cells true 3 (tC s.T),.cells true 0 [.slice 5 0 s.P.length none,.slice 6 0 s.T.length none,.str [98,97,115,101],.slice 15 0 1 none],.cells true 0 d.cells,x1,x2,x3,x4,x5,.cells true 32 ev,.cells true 32 (ev),.cells true 0 e.cells],⟨.agg ew,none,[y1,y2,y3,y4,y5]⟩),(9,[shB s 5 6,.agg f.cells,.int .i64 2],[.cells false 12 (d.cells++(e.cells++(f.cells++[]))),w1,w2,.cells true 0 [.int .u8 s.kind,.int .i8 s.sx,.int .i8 s.sy,.bool s.half,.slice 0 0 3 none],.cells true 0 [.nilslice,.nilslice,.str [],.nilslice],.cells true 2 (pC s.P),.cells true 3 (tC s.T),.cells true 0 [.slice 5 0 s.P.length none,.slice 6 0 s.T.length none,.str [98,97,115,101],.slice 23 0 2 none],.cells true 0 d.cells,x1,x2,x3,x4,x5,.cells true 32 ev,.absent,.cells true 0 e.cells,y1,y2,y3,y4,y5,.cells true 32 ew,.cells true 32 (ev++ew),.cells true 0 f.cells],⟨.agg eu,none,[z1,z2,z3,z4,z5]⟩)]:=⟨_,rfl⟩
 have g0:FO (.fn 9) [shB s 5 6,.agg d.cells,.int .i64 0] [.cells false 12 (d.cells++(e.cells++(f.cells++[]))),w1,w2,.cells true 0 [.int .u8 s.kind,.int .i8 s.sx,.int .i8 s.sy,.bool s.half,.slice 0 0 3 none],.cells true 0 [.nilslice,.nilslice,.str [],.nilslice],.cells true 2 (pC s.P),.cells true 3 (tC s.T),.cells true 0 [.slice 5 0 s.P.length none,.slice 6 0 s.T.length none,.str [98,97,115,101],.nilslice],.cells true 0 d.cells]=some ⟨.agg ev,none,[x1,x2,x3,x4,x5]⟩:=by
  rw[hFO];exact bm
 have g1:FO (.fn 9) [shB s 5 6,.agg e.cells,.int .i64 1] [.cells false 12 (d.cells++(e.cells++(f.cells++[]))),w1,w2,.cells true 0 [.int .u8 s.kind,.int .i8 s.sx,.int .i8 s.sy,.bool s.half,.slice 0 0 3 none],.cells true 0 [.nilslice,.nilslice,.str [],.nilslice],.cells true 2 (pC s.P),.cells true 3 (tC s.T),.cells true 0 [.slice 5 0 s.P.length none,.slice 6 0 s.T.length none,.str [98,97,115,101],.slice 15 0 1 none],.cells true 0 d.cells,x1,x2,x3,x4,x5,.cells true 32 ev,.cells true 32 (ev),.cells true 0 e.cells]=some ⟨.agg ew,none,[y1,y2,y3,y4,y5]⟩:=by
  rw[hFO];rw[vU (by intro e;simp at e)];exact bm
 have g2:FO (.fn 9) [shB s 5 6,.agg f.cells,.int .i64 2] [.cells false 12 (d.cells++(e.cells++(f.cells++[]))),w1,w2,.cells true 0 [.int .u8 s.kind,.int .i8 s.sx,.int .i8 s.sy,.bool s.half,.slice 0 0 3 none],.cells true 0 [.nilslice,.nilslice,.str [],.nilslice],.cells true 2 (pC s.P),.cells true 3 (tC s.T),.cells true 0 [.slice 5 0 s.P.length none,.slice 6 0 s.T.length none,.str [98,97,115,101],.slice 23 0 2 none],.cells true 0 d.cells,x1,x2,x3,x4,x5,.cells true 32 ev,.absent,.cells true 0 e.cells,y1,y2,y3,y4,y5,.cells true 32 ew,.cells true 32 (ev++ew),.cells true 0 f.cells]=some ⟨.agg eu,none,[z1,z2,z3,z4,z5]⟩:=by
  rw[hFO];rw[vU (by intro e;simp at e)];rw[vU (by intro e;simp at e)];exact bm
 have gM:∀a M,FO (.fn 33) a M=none:=fun a M=>by rw[hFO];simp[cd]
 rw[←hFO] at hF
 have hr:=aP aa (aj _) (OracleOk.or hF (ja s hs)) (al _) (F1 (Oracle.or FO (mY s)) s d e f [] 3 (by decide) (by decide) (by simp) w1 w2 ev x1 x2 x3 x4 x5 c04 c05 (fun k hk=>c06 k hk) ax1 ax2 ax3 ax4 ax5 (fun k hk=>c07 k hk) ew y1 y2 y3 y4 y5 c14 c15 (fun k hk=>c16 k hk) ay1 ay2 ay3 ay4 ay5 (fun k hk=>c17 k hk) eu z1 z2 z3 z4 z5 c24 c25 (fun k hk=>c26 k hk) az1 az2 az3 az4 az5 (fun k hk=>c27 k hk) (ss g0) (ss g1) (ss g2) (fun M=>(IJ (gM _ _)).trans (jf s M)))
 clear hF gM g0 g1 g2
 clear hFO
 refine⟨5,6,31,[ev,ew,eu],[bd d 0,bd e 1,bd f 2],[.cells true 0 [.int .u8 s.kind,.int .i8 s.sx,.int .i8 s.sy,.bool s.half,.slice 0 0 3 none],.cells true 0 [.slice 5 0 s.P.length none,.slice 6 0 s.T.length none,.str [98,97,115,101],.slice 31 0 3 none],.cells true 2 (pC s.P),.cells true 3 (tC s.T),.cells true 0 [.slice 5 0 s.P.length none,.slice 6 0 s.T.length none,.str [98,97,115,101],.slice 31 0 3 none],.cells true 0 d.cells,x1,x2,x3,x4,x5,.cells true 32 ev,.absent,.cells true 0 e.cells,y1,y2,y3,y4,y5,.cells true 32 ew,.absent,.cells true 0 f.cells,z1,z2,z3,z4,z5,.cells true 32 eu,.cells true 32 (ev++ew++eu)],hr,?_⟩
 exact⟨{
  hp:=⟨true,rfl⟩
  ht:=⟨true,rfl⟩
  hq:=fun _=>⟨true,by simp⟩
  len:=rfl
  small:=by simp
  con:=fun i e U h1 h2=>by
   match i,h1,h2 with
   |0,h1,h2=>simp at h1 h2;subst h1;subst h2;obtain⟨_,cc,ho,hu,hx⟩:=c02;exact⟨cc,ho,hu,fun Z=>hx _ (wP rfl rfl rfl rfl rfl)⟩
   |1,h1,h2=>simp at h1 h2;subst h1;subst h2;obtain⟨_,cc,ho,hu,hx⟩:=c12;exact⟨cc,ho,hu,fun Z=>hx _ (wP rfl rfl rfl rfl rfl)⟩
   |2,h1,h2=>simp at h1 h2;subst h1;subst h2;obtain⟨_,cc,ho,hu,hx⟩:=c22;exact⟨cc,ho,hu,fun Z=>hx _ (wP rfl rfl rfl rfl rfl)⟩
   |i+3,h1,h2=>simp at h1 },by simpa using Fy d e f,by simp⟩
theorem EL(s:Sheet) (hs:s.Ok) (ds:List Deed) (hd:∀d∈ds,d.Ok) (h3:ds.length≤3) (x:Slot) (a:AV) (w1 w2:Slot) (hx:Pn ds x a):∃p t q evs us new,ACallsTo Tryz.prog 8 [.agg [.int .u8 s.kind,.int .i8 s.sx,.int .i8 s.sy,.bool s.half,a]] [x,w1,w2] (.agg (aG s p t q evs.length)) ([x,w1,w2]++new)∧Tryz.HstAt s p t q evs us ([x,w1,w2]++new)∧(ak::us.flatten).Nodup∧evs.length≤3:=by
 rcases hx with⟨rfl,rfl⟩ | ⟨rfl,rfl⟩
 ·exact In s hs x w1 w2
 ·match ds,hd,h3 with
  | [],_,_=>exact Ho s hs w1 w2
  | [d],hd,_=>have:=ID s hs d (hd d (by simp)) w1 w2;simpa [pS] using this
  | [d,e],hd,_=>have:=Iq s hs d e (hd d (by simp)) (hd e (by simp)) w1 w2;simpa [pS] using this
  | [d,e,f],hd,_=>have:=Io s hs d e f (hd d (by simp)) (hd e (by simp)) (hd f (by simp)) w1 w2;simpa [pS] using this
  |_::_::_::_::_,_,h3=>simp at h3
end Go.Proofs
