/- See N58. -/
import Derived.Test.YtmhkeaphiadacaaGreatDoorN53
set_option linter.all false
namespace Go.Proofs
open Go.Eng
set_option maxRecDepth 16384 in
set_option maxHeartbeats 8000000 in
theorem Gl{O:Oracle}{M:Mem}{pv tv ev pv' tv' ev' :AV}{new2:Mem}{n i q:Nat}{o:Bool}{D C:List AV}
  (cp:pv.cellOk=true) (ct:tv.cellOk=true) (ce:ev.cellOk=true) (rp:RefT M.length [pv,tv,.str ak,ev]) (hlen:∀N,gI (az Tryz.prog) 39 N ev=some (.int .i64 n)) (hev:ev=.slice q 0 n none) (hq:M[q]? =some (.cells o 32 D)) (hD:D.length=n*32) (hn:n≤1000) (hi:i+1<n) (rC:RefT (M.length+3) C)
  (cpq:pv'.cellOk=true) (ctq:tv'.cellOk=true) (ceq:ev'.cellOk=true) (kq:pv'.known=true∧tv'.known=true∧ev'.known=true) (rq:RefT (M.length+(new2.length+6)) [pv',tv',.str ak,ev']) (ok2:OkN (M.length+(new2.length+6)) new2)
  (e1:O (.fn 20) [.agg [pv,tv,.str ak,ev]] (M++[.cells true 0 [pv,tv,.str ak,ev],.cells true 0 [.nilslice,.nilslice,.str [],.nilslice]])=some ⟨.int .i64 0,none,[]⟩)
  (e2:O (.fn 40) [.slice (M.length+2) 0 2 none] (M++[.cells true 0 [pv,tv,.str ak,ev],.cells true 0 [.nilslice,.nilslice,.str [],.nilslice],.cells true 1 [.slice q 0 i none,.slice q ((i+1)*32) (n-(i+1)) none]])=some ⟨.slice (M.length+5) 0 (n-1) none,none,[.absent,.absent,.cells true 32 C]⟩)
  (e3:O (.fn 39) [.agg [pv,tv,.str ak,ev],.slice (M.length+5) 0 (n-1) none] (M++[.cells true 0 [pv,tv,.str ak,ev],.cells true 0 [.nilslice,.nilslice,.str [],.nilslice],.cells true 1 [.slice q 0 i none,.slice q ((i+1)*32) (n-(i+1)) none],.absent,.absent,.cells true 32 C])=some ⟨.agg [pv',tv',.str ak,ev'],none,new2⟩):
  aT (az Tryz.prog) (fun _=>[]) (aI Tryz.prog) O 1 15 [.agg [pv,tv,.str ak,ev],.int .i64 i] M=some (.tuple [.agg [pv',tv',.str ak,ev'],.int .i64 0],M++(.cells true 0 [pv,tv,.str ak,ev]::.cells true 0 [pv',tv',.str ak,ev']::.cells true 1 [.slice q 0 i none,.slice q ((i+1)*32) (n-(i+1)) none]::.absent::.absent::.cells true 32 C::new2)):=by
 have hG:aI Tryz.prog 15=some Tryz.f15:=by kernel_rfl
 obtain⟨os',hops⟩:∃os',aG Tryz.f15=os' :=⟨_,rfl⟩
 have hbs' :=aV hops (ls:=[[0,0,2,0,14,0,32,0,128,480,1022,2046,4095,8191,16383]]) (by kernel_rfl)
 simp only[aG,bC,Tryz.f15,List.nil_append,List.append_nil,List.cons_append] at hops
 subst hops
 simp only[List.map_cons,List.map_nil,List.cons.injEq,and_true] at hbs'
 have w0:IntKind.i64.wrap 0=0:=rfl
 have hjl:∀j,(M.length+j<M.length)=False:=fun j=>fm _ _
 obtain⟨kp,kt,ke⟩:=kq
 have r_2:=rp (fun b=>decide (b<M.length+2)) (by intro b hb;simp only[decide_eq_true_eq];omega)
 have r_3:=rp (fun b=>decide (b<M.length+3)) (by intro b hb;simp only[decide_eq_true_eq];omega)
 have r_4:=rp (fun b=>decide (b<M.length+4)) (by intro b hb;simp only[decide_eq_true_eq];omega)
 have r_5:=rp (fun b=>decide (b<M.length+5)) (by intro b hb;simp only[decide_eq_true_eq];omega)
 have r_6:=rp (fun b=>decide (b<M.length+6)) (by intro b hb;simp only[decide_eq_true_eq];omega)
 have q_8:=rq (fun b=>decide (b<M.length+(new2.length+6))) (by intro b hb;simp only[decide_eq_true_eq];exact hb)
 have o_8:=ok2 (fun b=>decide (b<M.length+(new2.length+6))) (by intro b hb;simp only[decide_eq_true_eq];exact hb)
 simp only[AV.refsOkL,Bool.and_eq_true] at r_2 r_3 r_4 r_5 r_6 q_8
 obtain⟨r21,r22,_,r23,_⟩:=r_2
 obtain⟨r31,r32,_,r33,_⟩:=r_3
 obtain⟨r41,r42,_,r43,_⟩:=r_4
 obtain⟨r51,r52,_,r53,_⟩:=r_5
 obtain⟨r61,r62,_,r63,_⟩:=r_6
 obtain⟨q81,q82,_,q83,_⟩:=q_8
 clear rp rq ok2
 have lq:=(List.getElem?_eq_some_iff.1 hq).1
 have hq' :∀Z,(M++Z)[q]? =some (.cells o 32 D):=fun Z=>by rw[List.getElem?_append_left lq];exact hq
 have hq2:∀j,(q<M.length+j)=True:=fun j=>by rw[eq_iff_iff,iff_true];omega
 have hq3:(q<M.length)=True:=by rw[eq_iff_iff,iff_true];exact lq
 have hq4:∀j,(M.length+j≤q)=False:=fun j=>by rw[eq_iff_iff,iff_false];omega
 have hq5:∀j,(q=M.length+j)=False:=fun j=>by rw[eq_iff_iff,iff_false];omega
 have w1:IntKind.i64.wrap ((i:Int)+1)=((i+1:Nat):Int):=by rw[al (by omega) (by omega)];omega
 have hlt:(i:Int)<(n:Int):=by omega
 have hlt' :¬(n:Int)≤(i:Int):=by omega
 have hle:(i:Int)≤(n:Int):=by omega
 have hi0:¬(i:Int)<0:=by omega
 have hD1:n*32≤D.length:=by omega
 have h1:(i:Int)+1≤(n:Int):=by omega
 have h2:(i:Int)+1<(n:Int):=by omega
 have h3:(0:Int)≤(i:Int)+1:=by omega
 subst hev
 have C_6:=rC (fun b=>decide (b<M.length+6)) (by intro b hb;simp only[decide_eq_true_eq];omega)
 simp[-getElem?_pos,-AV.cellOk,-AV.known,-AV.cells,-cX,-bc,-aU,-aF,-AV.refsOk,-Slot.refsOk,-List.all_eq_true,vS,rS,mS,cM,cu hbs',dT,cL,gC,dO,cf,nL,bef,Nat.testBit,bB,ar,aT,-gI,hlen,hG,Tryz.f15,e1,e2,e3,cp,ct,ce,cpq,ctq,ceq,kp,kt,ke,r21,r22,r23,r31,r32,r33,r41,r42,r43,r51,r52,r53,r61,r62,r63,q81,q82,q83,o_8,hjl,w0,hq',hq2,hq3,hq4,hq5,w1,hlt,hlt',hle,hi0,hD1,h1,h2,h3,C_6]
 done
set_option maxRecDepth 16384 in
set_option maxHeartbeats 8000000 in
theorem Gm{O:Oracle}{M:Mem}{pv tv ev pv' tv' ev' :AV}{new2:Mem}{n i q:Nat}{o:Bool}{D C:List AV}
  (cp:pv.cellOk=true) (ct:tv.cellOk=true) (ce:ev.cellOk=true) (rp:RefT M.length [pv,tv,.str ak,ev]) (hlen:∀N,gI (az Tryz.prog) 39 N ev=some (.int .i64 n)) (hev:ev=.slice q 0 n none) (hq:M[q]? =some (.cells o 32 D)) (hD:D.length=n*32) (hn:n≤1000) (hi:i+1=n) (rC:RefT (M.length+4) C)
  (cpq:pv'.cellOk=true) (ctq:tv'.cellOk=true) (ceq:ev'.cellOk=true) (kq:pv'.known=true∧tv'.known=true∧ev'.known=true) (rq:RefT (M.length+(new2.length+7)) [pv',tv',.str ak,ev']) (ok2:OkN (M.length+(new2.length+7)) new2)
  (e1:O (.fn 20) [.agg [pv,tv,.str ak,ev]] (M++[.cells true 0 [pv,tv,.str ak,ev],.cells true 0 [.nilslice,.nilslice,.str [],.nilslice]])=some ⟨.int .i64 0,none,[]⟩)
  (e2:O (.fn 40) [.slice (M.length+3) 0 2 none] (M++[.cells true 0 [pv,tv,.str ak,ev],.cells true 0 [.nilslice,.nilslice,.str [],.nilslice],.absent,.cells true 1 [.slice q 0 i none,.slice (M.length+2) 0 0 none]])=some ⟨.slice (M.length+6) 0 i none,none,[.absent,.absent,.cells true 32 C]⟩)
  (e3:O (.fn 39) [.agg [pv,tv,.str ak,ev],.slice (M.length+6) 0 i none] (M++[.cells true 0 [pv,tv,.str ak,ev],.cells true 0 [.nilslice,.nilslice,.str [],.nilslice],.absent,.cells true 1 [.slice q 0 i none,.slice (M.length+2) 0 0 none],.absent,.absent,.cells true 32 C])=some ⟨.agg [pv',tv',.str ak,ev'],none,new2⟩):
  aT (az Tryz.prog) (fun _=>[]) (aI Tryz.prog) O 1 15 [.agg [pv,tv,.str ak,ev],.int .i64 i] M=some (.tuple [.agg [pv',tv',.str ak,ev'],.int .i64 0],M++(.cells true 0 [pv,tv,.str ak,ev]::.cells true 0 [pv',tv',.str ak,ev']::.absent::.cells true 1 [.slice q 0 i none,.slice (M.length+2) 0 0 none]::.absent::.absent::.cells true 32 C::new2)):=by
 have hG:aI Tryz.prog 15=some Tryz.f15:=by kernel_rfl
 obtain⟨os',hops⟩:∃os',aG Tryz.f15=os' :=⟨_,rfl⟩
 have hbs' :=aV hops (ls:=[[0,0,2,0,14,0,32,0,128,480,1022,2046,4095,8191,16383]]) (by kernel_rfl)
 simp only[aG,bC,Tryz.f15,List.nil_append,List.append_nil,List.cons_append] at hops
 subst hops
 simp only[List.map_cons,List.map_nil,List.cons.injEq,and_true] at hbs'
 have w0:IntKind.i64.wrap 0=0:=rfl
 have hjl:∀j,(M.length+j<M.length)=False:=fun j=>fm _ _
 obtain⟨kp,kt,ke⟩:=kq
 have r_2:=rp (fun b=>decide (b<M.length+2)) (by intro b hb;simp only[decide_eq_true_eq];omega)
 have r_3:=rp (fun b=>decide (b<M.length+3)) (by intro b hb;simp only[decide_eq_true_eq];omega)
 have r_4:=rp (fun b=>decide (b<M.length+4)) (by intro b hb;simp only[decide_eq_true_eq];omega)
 have r_5:=rp (fun b=>decide (b<M.length+5)) (by intro b hb;simp only[decide_eq_true_eq];omega)
 have r_6:=rp (fun b=>decide (b<M.length+6)) (by intro b hb;simp only[decide_eq_true_eq];omega)
 have r_7:=rp (fun b=>decide (b<M.length+7)) (by intro b hb;simp only[decide_eq_true_eq];omega)
 have q_8:=rq (fun b=>decide (b<M.length+(new2.length+7))) (by intro b hb;simp only[decide_eq_true_eq];exact hb)
 have o_8:=ok2 (fun b=>decide (b<M.length+(new2.length+7))) (by intro b hb;simp only[decide_eq_true_eq];exact hb)
 simp only[AV.refsOkL,Bool.and_eq_true] at r_2 r_3 r_4 r_5 r_6 r_7 q_8
 obtain⟨r21,r22,_,r23,_⟩:=r_2
 obtain⟨r31,r32,_,r33,_⟩:=r_3
 obtain⟨r41,r42,_,r43,_⟩:=r_4
 obtain⟨r51,r52,_,r53,_⟩:=r_5
 obtain⟨r61,r62,_,r63,_⟩:=r_6
 obtain⟨r71,r72,_,r73,_⟩:=r_7
 obtain⟨q81,q82,_,q83,_⟩:=q_8
 clear rp rq ok2
 have lq:=(List.getElem?_eq_some_iff.1 hq).1
 have hq' :∀Z,(M++Z)[q]? =some (.cells o 32 D):=fun Z=>by rw[List.getElem?_append_left lq];exact hq
 have hq2:∀j,(q<M.length+j)=True:=fun j=>by rw[eq_iff_iff,iff_true];omega
 have hq3:(q<M.length)=True:=by rw[eq_iff_iff,iff_true];exact lq
 have hq4:∀j,(M.length+j≤q)=False:=fun j=>by rw[eq_iff_iff,iff_false];omega
 have hq5:∀j,(q=M.length+j)=False:=fun j=>by rw[eq_iff_iff,iff_false];omega
 have w1:IntKind.i64.wrap ((i:Int)+1)=((i+1:Nat):Int):=by rw[al (by omega) (by omega)];omega
 have hlt:(i:Int)<(n:Int):=by omega
 have hlt' :¬(n:Int)≤(i:Int):=by omega
 have hle:(i:Int)≤(n:Int):=by omega
 have hi0:¬(i:Int)<0:=by omega
 have hD1:n*32≤D.length:=by omega
 have h1:(i:Int)+1=(n:Int):=by omega
 have h2:¬n=0:=by omega
 have h4:IntKind.i64.wrap (n:Int)=(n:Int):=al (by omega) (by omega)
 have h3:0<n:=by omega
 subst hev
 have C_7:=rC (fun b=>decide (b<M.length+7)) (by intro b hb;simp only[decide_eq_true_eq];omega)
 simp[-getElem?_pos,-AV.cellOk,-AV.known,-AV.cells,-cX,-bc,-aU,-aF,-AV.refsOk,-Slot.refsOk,-List.all_eq_true,vS,rS,mS,cM,cu hbs',dT,cL,gC,dO,cf,nL,bef,Nat.testBit,bB,ar,aT,-gI,hlen,hG,Tryz.f15,e1,e2,e3,cp,ct,ce,cpq,ctq,ceq,kp,kt,ke,r21,r22,r23,r31,r32,r33,r41,r42,r43,r51,r52,r53,r61,r62,r63,r71,r72,r73,q81,q82,q83,o_8,hjl,w0,hq',hq2,hq3,hq4,hq5,w1,hlt,hlt',hle,hi0,hD1,h1,h2,h3,h4,C_7]
 done
set_option maxRecDepth 16384 in
set_option maxHeartbeats 8000000 in
theorem Gn{O:Oracle}{M:Mem}{pv tv ev pv' tv' ev' :AV}{new2:Mem}{n i q:Nat}{o:Bool}{D:List AV}
  (cp:pv.cellOk=true) (ct:tv.cellOk=true) (ce:ev.cellOk=true) (rp:RefT M.length [pv,tv,.str ak,ev]) (hlen:∀N,gI (az Tryz.prog) 39 N ev=some (.int .i64 n)) (hev:ev=.slice q 0 n none) (hq:M[q]? =some (.cells o 32 D)) (hD:D.length=n*32) (hn:n≤1000) (hi:i+1=n)
  (cpq:pv'.cellOk=true) (ctq:tv'.cellOk=true) (ceq:ev'.cellOk=true) (kq:pv'.known=true∧tv'.known=true∧ev'.known=true) (rq:RefT (M.length+(new2.length+4)) [pv',tv',.str ak,ev']) (ok2:OkN (M.length+(new2.length+4)) new2)
  (e1:O (.fn 20) [.agg [pv,tv,.str ak,ev]] (M++[.cells true 0 [pv,tv,.str ak,ev],.cells true 0 [.nilslice,.nilslice,.str [],.nilslice]])=some ⟨.int .i64 0,none,[]⟩)
  (e2:O (.fn 40) [.slice (M.length+3) 0 2 none] (M++[.cells true 0 [pv,tv,.str ak,ev],.cells true 0 [.nilslice,.nilslice,.str [],.nilslice],.absent,.cells true 1 [.slice q 0 i none,.slice (M.length+2) 0 0 none]])=some ⟨.nilslice,none,[]⟩)
  (e3:O (.fn 39) [.agg [pv,tv,.str ak,ev],.nilslice] (M++[.cells true 0 [pv,tv,.str ak,ev],.cells true 0 [.nilslice,.nilslice,.str [],.nilslice],.absent,.cells true 1 [.slice q 0 i none,.slice (M.length+2) 0 0 none]])=some ⟨.agg [pv',tv',.str ak,ev'],none,new2⟩):
  aT (az Tryz.prog) (fun _=>[]) (aI Tryz.prog) O 1 15 [.agg [pv,tv,.str ak,ev],.int .i64 i] M=some (.tuple [.agg [pv',tv',.str ak,ev'],.int .i64 0],M++(.cells true 0 [pv,tv,.str ak,ev]::.cells true 0 [pv',tv',.str ak,ev']::.absent::.cells true 1 [.slice q 0 i none,.slice (M.length+2) 0 0 none]::new2)):=by
 have hG:aI Tryz.prog 15=some Tryz.f15:=by kernel_rfl
 obtain⟨os',hops⟩:∃os',aG Tryz.f15=os' :=⟨_,rfl⟩
 have hbs' :=aV hops (ls:=[[0,0,2,0,14,0,32,0,128,480,1022,2046,4095,8191,16383]]) (by kernel_rfl)
 simp only[aG,bC,Tryz.f15,List.nil_append,List.append_nil,List.cons_append] at hops
 subst hops
 simp only[List.map_cons,List.map_nil,List.cons.injEq,and_true] at hbs'
 have w0:IntKind.i64.wrap 0=0:=rfl
 have hjl:∀j,(M.length+j<M.length)=False:=fun j=>fm _ _
 obtain⟨kp,kt,ke⟩:=kq
 have r_2:=rp (fun b=>decide (b<M.length+2)) (by intro b hb;simp only[decide_eq_true_eq];omega)
 have r_3:=rp (fun b=>decide (b<M.length+3)) (by intro b hb;simp only[decide_eq_true_eq];omega)
 have r_4:=rp (fun b=>decide (b<M.length+4)) (by intro b hb;simp only[decide_eq_true_eq];omega)
 have q_8:=rq (fun b=>decide (b<M.length+(new2.length+4))) (by intro b hb;simp only[decide_eq_true_eq];exact hb)
 have o_8:=ok2 (fun b=>decide (b<M.length+(new2.length+4))) (by intro b hb;simp only[decide_eq_true_eq];exact hb)
 simp only[AV.refsOkL,Bool.and_eq_true] at r_2 r_3 r_4 q_8
 obtain⟨r21,r22,_,r23,_⟩:=r_2
 obtain⟨r31,r32,_,r33,_⟩:=r_3
 obtain⟨r41,r42,_,r43,_⟩:=r_4
 obtain⟨q81,q82,_,q83,_⟩:=q_8
 clear rp rq ok2
 have lq:=(List.getElem?_eq_some_iff.1 hq).1
 have hq' :∀Z,(M++Z)[q]? =some (.cells o 32 D):=fun Z=>by rw[List.getElem?_append_left lq];exact hq
 have hq2:∀j,(q<M.length+j)=True:=fun j=>by rw[eq_iff_iff,iff_true];omega
 have hq3:(q<M.length)=True:=by rw[eq_iff_iff,iff_true];exact lq
 have hq4:∀j,(M.length+j≤q)=False:=fun j=>by rw[eq_iff_iff,iff_false];omega
 have hq5:∀j,(q=M.length+j)=False:=fun j=>by rw[eq_iff_iff,iff_false];omega
 have w1:IntKind.i64.wrap ((i:Int)+1)=((i+1:Nat):Int):=by rw[al (by omega) (by omega)];omega
 have hlt:(i:Int)<(n:Int):=by omega
 have hlt' :¬(n:Int)≤(i:Int):=by omega
 have hle:(i:Int)≤(n:Int):=by omega
 have hi0:¬(i:Int)<0:=by omega
 have hD1:n*32≤D.length:=by omega
 have h1:(i:Int)+1=(n:Int):=by omega
 have h2:¬n=0:=by omega
 have h4:IntKind.i64.wrap (n:Int)=(n:Int):=al (by omega) (by omega)
 have h3:0<n:=by omega
 subst hev
 simp[-getElem?_pos,-AV.cellOk,-AV.known,-AV.cells,-cX,-bc,-aU,-aF,-AV.refsOk,-Slot.refsOk,-List.all_eq_true,vS,rS,mS,cM,cu hbs',dT,cL,gC,dO,cf,nL,bef,Nat.testBit,bB,ar,aT,-gI,hlen,hG,Tryz.f15,e1,e2,e3,cp,ct,ce,cpq,ctq,ceq,kp,kt,ke,r21,r22,r23,r31,r32,r33,r41,r42,r43,q81,q82,q83,o_8,hjl,w0,hq',hq2,hq3,hq4,hq5,w1,hlt,hlt',hle,hi0,hD1,h1,h2,h3,h4]
 done
set_option maxRecDepth 16384 in
set_option maxHeartbeats 8000000 in
theorem Dj{O:Oracle}{M:Mem}{pv tv ev pv' tv' ev' :AV}{new2:Mem}{n i q:Nat}{o:Bool}{D:List AV}
  (cp:pv.cellOk=true) (ct:tv.cellOk=true) (ce:ev.cellOk=true) (rp:RefT M.length [pv,tv,.str ak,ev]) (hlen:∀N,gI (az Tryz.prog) 39 N ev=some (.int .i64 n)) (hev:ev=.slice q 0 n none) (hq:M[q]? =some (.cells o 32 D)) (hD:D.length=n*32) (hn:n≤1000) (hi:i≤n)
  (cpq:pv'.cellOk=true) (ctq:tv'.cellOk=true) (ceq:ev'.cellOk=true) (kq:pv'.known=true∧tv'.known=true∧ev'.known=true) (rq:RefT (M.length+(new2.length+2)) [pv',tv',.str ak,ev']) (ok2:OkN (M.length+(new2.length+2)) new2)
  (e1:O (.fn 20) [.agg [pv,tv,.str ak,ev]] (M++[.cells true 0 [pv,tv,.str ak,ev],.cells true 0 [.nilslice,.nilslice,.str [],.nilslice]])=some ⟨.int .i64 0,none,[]⟩)
  (e3:O (.fn 39) [.agg [pv,tv,.str ak,ev],.slice q 0 i none] (M++[.cells true 0 [pv,tv,.str ak,ev],.cells true 0 [.nilslice,.nilslice,.str [],.nilslice]])=some ⟨.agg [pv',tv',.str ak,ev'],none,new2⟩):
  aT (az Tryz.prog) (fun _=>[]) (aI Tryz.prog) O 1 16 [.agg [pv,tv,.str ak,ev],.int .i64 i] M=some (.tuple [.agg [pv',tv',.str ak,ev'],.int .i64 0],M++(.cells true 0 [pv,tv,.str ak,ev]::.cells true 0 [pv',tv',.str ak,ev']::new2)):=by
 have hG:aI Tryz.prog 16=some Tryz.f16:=by kernel_rfl
 obtain⟨os',hops⟩:∃os',aG Tryz.f16=os' :=⟨_,rfl⟩
 have hbs' :=aV hops (ls:=[[0,0,2,0,14,31,63,127]]) (by kernel_rfl)
 simp only[aG,bC,Tryz.f16,List.nil_append,List.append_nil,List.cons_append] at hops
 subst hops
 simp only[List.map_cons,List.map_nil,List.cons.injEq,and_true] at hbs'
 have w0:IntKind.i64.wrap 0=0:=rfl
 have hjl:∀j,(M.length+j<M.length)=False:=fun j=>fm _ _
 obtain⟨kp,kt,ke⟩:=kq
 have r_2:=rp (fun b=>decide (b<M.length+2)) (by intro b hb;simp only[decide_eq_true_eq];omega)
 have q_8:=rq (fun b=>decide (b<M.length+(new2.length+2))) (by intro b hb;simp only[decide_eq_true_eq];exact hb)
 have o_8:=ok2 (fun b=>decide (b<M.length+(new2.length+2))) (by intro b hb;simp only[decide_eq_true_eq];exact hb)
 simp only[AV.refsOkL,Bool.and_eq_true] at r_2 q_8
 obtain⟨r21,r22,_,r23,_⟩:=r_2
 obtain⟨q81,q82,_,q83,_⟩:=q_8
 clear rp rq ok2
 have lq:=(List.getElem?_eq_some_iff.1 hq).1
 have hq' :∀Z,(M++Z)[q]? =some (.cells o 32 D):=fun Z=>by rw[List.getElem?_append_left lq];exact hq
 have hq2:∀j,(q<M.length+j)=True:=fun j=>by rw[eq_iff_iff,iff_true];omega
 have hq3:(q<M.length)=True:=by rw[eq_iff_iff,iff_true];exact lq
 have hq4:∀j,(M.length+j≤q)=False:=fun j=>by rw[eq_iff_iff,iff_false];omega
 have hq5:∀j,(q=M.length+j)=False:=fun j=>by rw[eq_iff_iff,iff_false];omega
 have hlt' :¬(n:Int)<(i:Int):=by omega
 have hle:(i:Int)≤(n:Int):=by omega
 have hi0:¬(i:Int)<0:=by omega
 have hD1:n*32≤D.length:=by omega
 subst hev
 simp[-getElem?_pos,-AV.cellOk,-AV.known,-AV.cells,-cX,-bc,-aU,-aF,-AV.refsOk,-Slot.refsOk,-List.all_eq_true,vS,rS,mS,cM,cu hbs',dT,cL,gC,dO,cf,nL,bef,Nat.testBit,bB,ar,aT,-gI,hlen,hG,Tryz.f16,e1,e3,cp,ct,ce,cpq,ctq,ceq,kp,kt,ke,r21,r22,r23,q81,q82,q83,o_8,hjl,w0,hq',hq2,hq3,hq4,hq5,hlt',hle,hi0,hD1]
 done
set_option maxRecDepth 16384 in
set_option maxHeartbeats 8000000 in
theorem Di{O:Oracle}{M:Mem}{pv tv ev pv' tv' ev' :AV}{new2:Mem}{n i:Nat}
  (cp:pv.cellOk=true) (ct:tv.cellOk=true) (ce:ev.cellOk=true) (rp:RefT M.length [pv,tv,.str ak,ev]) (hlen:∀N,gI (az Tryz.prog) 39 N ev=some (.int .i64 n)) (hev:ev=.nilslice) (hn:n=0) (hi:i=0)
  (cpq:pv'.cellOk=true) (ctq:tv'.cellOk=true) (ceq:ev'.cellOk=true) (kq:pv'.known=true∧tv'.known=true∧ev'.known=true) (rq:RefT (M.length+(new2.length+2)) [pv',tv',.str ak,ev']) (ok2:OkN (M.length+(new2.length+2)) new2)
  (e1:O (.fn 20) [.agg [pv,tv,.str ak,ev]] (M++[.cells true 0 [pv,tv,.str ak,ev],.cells true 0 [.nilslice,.nilslice,.str [],.nilslice]])=some ⟨.int .i64 0,none,[]⟩)
  (e3:O (.fn 39) [.agg [pv,tv,.str ak,ev],.nilslice] (M++[.cells true 0 [pv,tv,.str ak,ev],.cells true 0 [.nilslice,.nilslice,.str [],.nilslice]])=some ⟨.agg [pv',tv',.str ak,ev'],none,new2⟩):
  aT (az Tryz.prog) (fun _=>[]) (aI Tryz.prog) O 1 16 [.agg [pv,tv,.str ak,ev],.int .i64 i] M=some (.tuple [.agg [pv',tv',.str ak,ev'],.int .i64 0],M++(.cells true 0 [pv,tv,.str ak,ev]::.cells true 0 [pv',tv',.str ak,ev']::new2)):=by
 have hG:aI Tryz.prog 16=some Tryz.f16:=by kernel_rfl
 obtain⟨os',hops⟩:∃os',aG Tryz.f16=os' :=⟨_,rfl⟩
 have hbs' :=aV hops (ls:=[[0,0,2,0,14,31,63,127]]) (by kernel_rfl)
 simp only[aG,bC,Tryz.f16,List.nil_append,List.append_nil,List.cons_append] at hops
 subst hops
 simp only[List.map_cons,List.map_nil,List.cons.injEq,and_true] at hbs'
 have w0:IntKind.i64.wrap 0=0:=rfl
 have hjl:∀j,(M.length+j<M.length)=False:=fun j=>fm _ _
 obtain⟨kp,kt,ke⟩:=kq
 have r_2:=rp (fun b=>decide (b<M.length+2)) (by intro b hb;simp only[decide_eq_true_eq];omega)
 have q_8:=rq (fun b=>decide (b<M.length+(new2.length+2))) (by intro b hb;simp only[decide_eq_true_eq];exact hb)
 have o_8:=ok2 (fun b=>decide (b<M.length+(new2.length+2))) (by intro b hb;simp only[decide_eq_true_eq];exact hb)
 simp only[AV.refsOkL,Bool.and_eq_true] at r_2 q_8
 obtain⟨r21,r22,_,r23,_⟩:=r_2
 obtain⟨q81,q82,_,q83,_⟩:=q_8
 clear rp rq ok2
 subst hev
 subst hn
 subst hi
 simp[-getElem?_pos,-AV.cellOk,-AV.known,-AV.cells,-cX,-bc,-aU,-aF,-AV.refsOk,-Slot.refsOk,-List.all_eq_true,vS,rS,mS,cM,cu hbs',dT,cL,gC,dO,cf,nL,bef,Nat.testBit,bB,ar,aT,-gI,hlen,hG,Tryz.f16,e1,e3,cp,ct,ce,cpq,ctq,ceq,kp,kt,ke,r21,r22,r23,q81,q82,q83,o_8,hjl,w0]
 done
set_option maxRecDepth 16384 in
set_option maxHeartbeats 4000000 in
theorem I3{O:Oracle}{M:Mem}{pv tv ev:AV}{n:Nat}{i:Int}(hi:i<0∨(n:Int)≤i)
  (cp:pv.cellOk=true) (ct:tv.cellOk=true) (ce:ev.cellOk=true) (hlen:∀N,gI (az Tryz.prog) 39 N ev=some (.int .i64 n))
  (e1:O (.fn 20) [.agg [pv,tv,.str ak,ev]] (M++[.cells true 0 [pv,tv,.str ak,ev],.cells true 0 [.nilslice,.nilslice,.str [],.nilslice]])=some ⟨.int .i64 0,none,[]⟩):
  ab (az Tryz.prog) (fun _=>[]) (aI Tryz.prog) O 1 15 [.agg [pv,tv,.str ak,ev],.int .i64 i] M=some ⟨.tuple [.agg dM,.int .i64 3],none,[]⟩:=by
 have hG:aI Tryz.prog 15=some Tryz.f15:=by kernel_rfl
 have w0:IntKind.i64.wrap 0=0:=rfl
 have w3:IntKind.i64.wrap 3=3:=rfl
 unfold dM
 by_cases h0:i<0
 ·simp[-AV.cellOk,gW,qo,qi,kN,qj,qm,bB,ar,ab,hG,Tryz.f15,-gI,hlen,e1,cp,ct,ce,h0,w0,w3]
 ·have h1:(n:Int)≤i:=hi.resolve_left h0
  simp[-AV.cellOk,gW,qo,qi,kN,qj,qm,bB,ar,ab,hG,Tryz.f15,-gI,hlen,e1,cp,ct,ce,h0,h1,w0,w3]
set_option maxRecDepth 16384 in
set_option maxHeartbeats 4000000 in
theorem Id{O:Oracle}{M:Mem}{pv tv ev:AV}{n:Nat}{i:Int}(hi:i<0∨(n:Int)<i)
  (cp:pv.cellOk=true) (ct:tv.cellOk=true) (ce:ev.cellOk=true) (hlen:∀N,gI (az Tryz.prog) 39 N ev=some (.int .i64 n))
  (e1:O (.fn 20) [.agg [pv,tv,.str ak,ev]] (M++[.cells true 0 [pv,tv,.str ak,ev],.cells true 0 [.nilslice,.nilslice,.str [],.nilslice]])=some ⟨.int .i64 0,none,[]⟩):
  ab (az Tryz.prog) (fun _=>[]) (aI Tryz.prog) O 1 16 [.agg [pv,tv,.str ak,ev],.int .i64 i] M=some ⟨.tuple [.agg dM,.int .i64 3],none,[]⟩:=by
 have hG:aI Tryz.prog 16=some Tryz.f16:=by kernel_rfl
 have w0:IntKind.i64.wrap 0=0:=rfl
 have w3:IntKind.i64.wrap 3=3:=rfl
 unfold dM
 by_cases h0:i<0
 ·simp[-AV.cellOk,gW,qo,qi,kN,qj,qm,bB,ar,ab,hG,Tryz.f16,-gI,hlen,e1,cp,ct,ce,h0,w0,w3]
 ·have h1:(n:Int)<i:=hi.resolve_left h0
  simp[-AV.cellOk,gW,qo,qi,kN,qj,qm,bB,ar,ab,hG,Tryz.f16,-gI,hlen,e1,cp,ct,ce,h0,h1,w0,w3]
theorem yw:∀{evs:List (List AV)}(k:Nat),(∀e∈evs,e.length=32)→evs.flatten.take (k*32)=(evs.take k).flatten
 | [],k,_=>by simp
 |e::l,0,_=>by simp
 |e::l,k+1,h=>by
  have h1:=h e (by simp)
  rw[List.flatten_cons,List.take_succ_cons,List.flatten_cons,←yw k (fun x hx=>h x (by simp[hx])),List.take_append,List.take_of_length_le (by omega),show(k+1)*32-e.length=k*32 by omega]
theorem yv:∀{evs:List (List AV)}(k:Nat),(∀e∈evs,e.length=32)→evs.flatten.drop (k*32)=(evs.drop k).flatten
 | [],k,_=>by simp
 |e::l,0,_=>by simp
 |e::l,k+1,h=>by
  have h1:=h e (by simp)
  rw[List.flatten_cons,List.drop_succ_cons,←yv k (fun x hx=>h x (by simp[hx])),List.drop_append,List.drop_of_length_le (by omega),List.nil_append,show(k+1)*32-e.length=k*32 by omega]
section
variable {s:Sheet}{p t q:Nat}{evs:List (List AV)}{cs:List Evc}{M:Mem}
theorem Tryz.HstC.fin2{slots new2:Mem}{b0:Slot}(H:Tryz.HstC s p t q evs cs ((M++(b0::.cells true 0 dM::slots))++new2)) (h:List AV):Tryz.HstC s p t q evs cs (M++(b0::.cells true 0 h::(slots++new2))):=by
 have hz:((M++(b0::.cells true 0 dM::slots))++new2)[M.length+1]? =some (.cells true 0 dM):=by rw[List.append_assoc,fQ];rfl
 have:=H.set0 hz (.cells true 0 h)
 rw[List.append_assoc,yK] at this
 exact this
theorem Ka{slots new2:Mem}{h0 h:List AV}{k:Nat}(hk:slots.length=k) (r0:RefT M.length h0) (r:RefT (M.length+(new2.length+(k+2))) h) (ok:OkN (M.length+(k+2)) slots) (ok2:OkN (M.length+(new2.length+(k+2))) new2):
  OkN (M.length+(Slot.cells true 0 h0::.cells true 0 h::(slots++new2)).length) (Slot.cells true 0 h0::.cells true 0 h::(slots++new2)):=by
 intro f hf
 have hf' :∀b,b<M.length+(new2.length+(k+2))→f b=true:=fun b hb=>hf b (by simp only[List.length_cons,List.length_append];omega)
 have a1:=r0 f fun b hb=>hf' b (by omega)
 have a2:=r f hf'
 have a3:=ok f fun b hb=>hf' b (by omega)
 have a4:=ok2 f hf'
 simp only[List.all_cons,List.all_append,dJ,cW,a1,a2,a3,a4,Bool.and_self]
theorem Tryz.HstC.evs0(H:Tryz.HstC s p t q evs cs M) (h:cs.length=0):cs=[]∧evs=[]:=⟨List.eq_nil_of_length_eq_zero h,List.eq_nil_of_length_eq_zero (by rw[H.len];exact h)⟩
theorem Tryz.HstC.rowTake(H:Tryz.HstC s p t q evs cs M) (i:Nat) (hi:i≤cs.length) (h0:0<cs.length):EvRow M (.slice q 0 i none) i (evs.take i).flatten:=by
 by_cases hz:i=0
 ·subst hz
  exact .inl ⟨rfl,by simp,.inr ⟨q,rfl⟩⟩
 ·obtain⟨o,h⟩:=H.hq (by rintro rfl;have:=H.len;simp at this;omega)
  exact .inr ⟨q,o,evs.flatten,rfl,by omega,h,yw i H.l32⟩
theorem Tryz.HstC.takeCon(H:Tryz.HstC s p t q evs cs M) (k:Nat):∀(i:Nat) e c,(evs.take k)[i]? =some e→(cs.take k)[i]? =some c→EvAt M e c:=fun i e c h1 h2=>by
 rw[List.getElem?_take] at h1 h2
 split at h1
 ·rename_i hlt
  rw[if_pos hlt] at h2
  exact H.con i e c h1 h2
 ·cases h1
theorem Tryz.HstC.dropCon(H:Tryz.HstC s p t q evs cs M) (k:Nat):∀(i:Nat) e c,(evs.drop k)[i]? =some e→(cs.drop k)[i]? =some c→EvAt M e c:=fun i e c h1 h2=>by
 rw[List.getElem?_drop] at h1 h2
 exact H.con _ e c h1 h2
theorem zx(H:Tryz.HstC s p t q evs cs M) (hd:AE [ak] (cs.map unE)=false) (i:Int) (hi:i<0∨(cs.length:Int)<i):
  ACallsTo Tryz.prog 16 [.agg (aq s p t q cs.length),.int .i64 i] M (.tuple [.agg dM,.int .i64 3]) M:=by
 have f1:=(H.more [.cells true 0 (aq s p t q cs.length),.cells true 0 dM]).chk
 rw[hd] at f1
 have hO:=mZ (new:=[]) (by rw[List.append_nil];exact f1)
 have hr:=Id (O:=cg [(20,[.agg (aq s p t q cs.length)],M++[.cells true 0 (aq s p t q cs.length),.cells true 0 dM],⟨.int .i64 0,none,[]⟩)]) hi rfl rfl (dz q cs.length) (cq q cs.length) be
 have:=(ae aa (ai _) hO (aj _) hr).1
 simpa [CallRes.mem,aq] using this
theorem nX(H:Tryz.HstC s p t q evs cs M) (hd:AE [ak] (cs.map unE)=false) (i:Int) (hi:i<0∨(cs.length:Int)≤i):
  ACallsTo Tryz.prog 15 [.agg (aq s p t q cs.length),.int .i64 i] M (.tuple [.agg dM,.int .i64 3]) M:=by
 have f1:=(H.more [.cells true 0 (aq s p t q cs.length),.cells true 0 dM]).chk
 rw[hd] at f1
 have hO:=mZ (new:=[]) (by rw[List.append_nil];exact f1)
 have hr:=I3 (O:=cg [(20,[.agg (aq s p t q cs.length)],M++[.cells true 0 (aq s p t q cs.length),.cells true 0 dM],⟨.int .i64 0,none,[]⟩)]) hi rfl rfl (dz q cs.length) (cq q cs.length) be
 have:=(ae aa (ai _) hO (aj _) hr).1
 simpa [CallRes.mem,aq] using this
set_option maxRecDepth 8192 in
theorem rk(H:Tryz.HstC s p t q evs cs M) (hd:AE [ak] (cs.map unE)=false) (i:Nat) (hi:i≤cs.length):
  ∃p' t' q' evs' new,ACallsTo Tryz.prog 16 [.agg (aq s p t q cs.length),.int .i64 i] M (.tuple [.agg (aq s p' t' q' i),.int .i64 0]) (M++new)∧Tryz.HstC s p' t' q' evs' (cs.take i) (M++new)∧OkN (M.length+new.length) new:=by
 have f1:=(H.more [.cells true 0 (aq s p t q cs.length),.cells true 0 dM]).chk
 rw[hd] at f1
 have small:=H.small
 obtain⟨sl,hsl,hE⟩:∃sl,((cs.length=0∧sl=.nilslice)∨(0<cs.length∧sl=.slice q 0 i none))∧EvsAt (M++[.cells true 0 (aq s p t q cs.length),.cells true 0 dM]) sl (cs.take i):=by
  by_cases h0:cs.length=0
  ·obtain⟨rfl,rfl⟩:=H.evs0 h0
   exact⟨_,.inl ⟨rfl,rfl⟩,[],by simp,.inl ⟨by simp,rfl,.inl rfl⟩,fun i e c h=>by simp at h⟩
  ·refine⟨_,.inr ⟨by omega,rfl⟩,evs.take i,by rw[List.length_take,List.length_take,H.len],?_,(H.more _).takeCon i⟩
   have:=(H.rowTake i hi (by omega)).more [.cells true 0 (aq s p t q cs.length),.cells true 0 dM]
   rwa [List.length_take,Nat.min_eq_left hi]
 have H2:=H.more [.cells true 0 (aq s p t q cs.length),.cells true 0 dM]
 obtain⟨q',evs',new2,f3,H3,ok2⟩:=uu H2.hp H2.ht (dz q cs.length) (H.refE _ (fun b hb=>by simp only[decide_eq_true_eq,List.length_append];omega)) hE (fun d hd=>H.good d (List.mem_of_mem_take hd)) (by rw[List.length_take];omega)
 have hA2:(M++[Slot.cells true 0 (aq s p t q cs.length),.cells true 0 dM]).length=M.length+2:=by simp
 have hl1:(cs.take i).length=i:=by rw[List.length_take];omega
 rw[hA2] at f3 H3 ok2
 rw[hl1] at f3
 have eN:M.length+2+new2.length=M.length+(new2.length+2):=by omega
 rw[eN] at ok2
 have rq:RefT (M.length+(new2.length+2)) (aq s (M.length+2+4) (M.length+2+6) q' i):=by
  have:=H3.refs
  rw[hl1,List.length_append,hA2,eN] at this
  exact this
 have f3' :ACallsTo Tryz.prog 39 [.agg (aq s p t q cs.length),sl] (M++[.cells true 0 (aq s p t q cs.length),.cells true 0 dM]) (.agg (aq s (M.length+2+4) (M.length+2+6) q' i)) (M++[.cells true 0 (aq s p t q cs.length),.cells true 0 dM]++new2):=f3
 obtain⟨A,hA⟩:∃A,A=M++[Slot.cells true 0 (aq s p t q cs.length),.cells true 0 dM]:=⟨_,rfl⟩
 rw[←hA] at f1 f3'
 have hO:OracleOk Tryz.prog (cg [(20,[.agg (aq s p t q cs.length)],A,⟨.int .i64 0,none,[]⟩),(39,[.agg (aq s p t q cs.length),sl],A,⟨.agg (aq s (M.length+2+4) (M.length+2+6) q' i),none,new2⟩)]):=dn fun y hy=>by
  simp only[List.mem_cons,List.not_mem_nil,or_false] at hy
  rcases hy with rfl | rfl
  ·exact⟨by simpa [CallRes.mem] using f1,by simp⟩
  ·exact⟨by simpa [CallRes.mem] using f3',by simp⟩
 obtain⟨O,hOe⟩:∃O,O=cg [(20,[.agg (aq s p t q cs.length)],A,⟨.int .i64 0,none,[]⟩),(39,[.agg (aq s p t q cs.length),sl],A,⟨.agg (aq s (M.length+2+4) (M.length+2+6) q' i),none,new2⟩)]:=⟨_,rfl⟩
 have e1:O (.fn 20) [.agg (aq s p t q cs.length)] A=some ⟨.int .i64 0,none,[]⟩:=by rw[hOe];exact be
 have e3:O (.fn 39) [.agg (aq s p t q cs.length),sl] A=some ⟨.agg (aq s (M.length+2+4) (M.length+2+6) q' i),none,new2⟩:=by rw[hOe,ag (by decide)];exact be
 rw[←hOe] at hO
 clear hOe f1 f3 f3'
 subst hA
 have hr:aT (az Tryz.prog) (fun _=>[]) (aI Tryz.prog) O 1 16 [.agg (aq s p t q cs.length),.int .i64 i] M=some (.tuple [.agg (aq s (M.length+2+4) (M.length+2+6) q' i),.int .i64 0],M++(.cells true 0 (aq s p t q cs.length)::.cells true 0 (aq s (M.length+2+4) (M.length+2+6) q' i)::([]++new2))):=by
  rcases hsl with⟨h0,rfl⟩ | ⟨h0,rfl⟩
  ·exact Di rfl rfl (dz q cs.length) H.refs (cq q cs.length) (by unfold evV;rw[if_pos h0]) h0 (by omega) rfl rfl (dz q' i) ⟨rfl,rfl,gq _ _⟩ rq ok2 e1 e3
  ·obtain⟨o,hq⟩:=H.hq (by rintro rfl;have:=H.len;simp at this;omega)
   exact Dj rfl rfl (dz q cs.length) H.refs (cq q cs.length) (by unfold evV;rw[if_neg (by omega)]) hq H.flat (by omega) hi rfl rfl (dz q' i) ⟨rfl,rfl,gq _ _⟩ rq ok2 e1 e3
 have hs:=aP aa (ai _) hO (aj _) hr
 exact⟨M.length+2+4,M.length+2+6,q',evs',_,hs,H3.fin2 _,Ka (k:=0) rfl H.refs rq (fun f _=>rfl) ok2⟩
set_option maxRecDepth 8192 in
theorem zy(H:Tryz.HstC s p t q evs cs M) (hd:AE [ak] (cs.map unE)=false) (i:Nat) (hi:i<cs.length):
  ∃p' t' q' evs' new,ACallsTo Tryz.prog 15 [.agg (aq s p t q cs.length),.int .i64 i] M (.tuple [.agg (aq s p' t' q' (cs.length-1)),.int .i64 0]) (M++new)∧Tryz.HstC s p' t' q' evs' (cs.take i++cs.drop (i+1)) (M++new)∧OkN (M.length+new.length) new:=by
 have small:=H.small
 obtain⟨b0,hb0⟩:∃b0,b0=Slot.cells true 0 (aq s p t q cs.length):=⟨_,rfl⟩
 obtain⟨z,hz⟩:∃z,z=Slot.cells true 0 dM:=⟨_,rfl⟩
 have f1:=(H.more [b0,z]).chk
 rw[hd] at f1
 obtain⟨o,hq⟩:=H.hq (by rintro rfl;have:=H.len;simp at this;omega)
 have hev:evV q cs.length=.slice q 0 cs.length none:=by unfold evV;rw[if_neg (by omega)]
 have l1:(evs.take i).length=i:=by rw[List.length_take,H.len];omega
 have l2:(evs.drop (i+1)).length=cs.length-(i+1):=by rw[List.length_drop,H.len]
 have lt1:(cs.take i).length=i:=by rw[List.length_take];omega
 have ld1:(cs.drop (i+1)).length=cs.length-(i+1):=by rw[List.length_drop]
 have S1:Tryz.SrcEv M (.slice q 0 i none) (evs.take i):=.of (H.rowTake i (by omega) (by omega)) l1 (fun e he=>H.l32 e (List.mem_of_mem_take he))
 have hgood:∀d∈cs.take i++cs.drop (i+1),Tryz.Good s d:=fun d hd=>by
  rcases List.mem_append.1 hd with h | h
  ·exact H.good d (List.mem_of_mem_take h)
  ·exact H.good d (List.mem_of_mem_drop h)
 have hl1:(cs.take i++cs.drop (i+1)).length=cs.length-1:=by rw[List.length_append,lt1,ld1];omega
 obtain⟨sl,s2,hsl,S2⟩:∃(sl:Mem) (s2:AV),((i+1<cs.length∧sl=[]∧s2=.slice q ((i+1)*32) (cs.length-(i+1)) none)∨(i+1=cs.length∧sl=[.absent]∧s2=.slice (M.length+2) 0 0 none))∧∀Y,Tryz.SrcEv (M++Y) s2 (evs.drop (i+1)):=by
  by_cases h:i+1<cs.length
  ·refine⟨[],_,.inl ⟨h,rfl,rfl⟩,fun Y=>⟨fun Z=>?_,fun N=>?_⟩⟩
   ·have hq' :(M++Y++Z)[q]? =some (.cells o 32 evs.flatten):=by
     rw[List.append_assoc,List.getElem?_append_left (List.getElem?_eq_some_iff.1 hq).1];exact hq
    have hle:(i+1)*32+(cs.length-(i+1))*32≤evs.flatten.length:=by rw[H.flat];omega
    have ht:(evs.flatten.drop ((i+1)*32)).take ((cs.length-(i+1))*32)=(evs.drop (i+1)).flatten:=by
     rw[yv _ H.l32]
     exact List.take_of_length_le (by rw[uN fun e he=>H.l32 e (List.mem_of_mem_drop he),l2];exact Nat.le_refl _)
    unfold cw
    simp only
    rw[hq']
    simp only
    rw[if_pos hle,ht,l2]
   ·rw[l2];simp
  ·have h' :i+1=cs.length:=by omega
   have e0:evs.drop (i+1)=[]:=List.eq_nil_of_length_eq_zero (by rw[l2];omega)
   refine⟨[.absent],_,.inr ⟨h',rfl,rfl⟩,fun Y=>?_⟩
   rw[e0]
   exact .of (n:=0) (.inl ⟨rfl,rfl,.inr ⟨_,rfl⟩⟩) rfl (by simp)
 have hsl1:sl.length≤1:=by rcases hsl with⟨_,rfl,_⟩ | ⟨_,rfl,_⟩<;>simp
 have rs2:AV.refsOk (fun b=>decide (b<M.length+(sl.length+2))) s2=true:=by
  rcases hsl with⟨_,rfl,rfl⟩ | ⟨_,rfl,rfl⟩
  ·have:=(List.getElem?_eq_some_iff.1 hq).1
   simp only[AV.refsOk,decide_eq_true_eq];omega
  ·simp[AV.refsOk]
 obtain⟨rs,hrs⟩:∃r,r=Slot.cells true 1 [.slice q 0 i none,s2]:=⟨_,rfl⟩
 have hA1:(M++(b0::z::(sl++[rs]))).length=M.length+(sl.length+3):=by simp
 have hrow:(M++(b0::z::(sl++[rs])))[M.length+(sl.length+2)]? =some (.cells true 1 [.slice q 0 i none,s2]):=by
  rw[fQ,hrs]
  rcases hsl with⟨_,rfl,_⟩ | ⟨_,rfl,_⟩<;>rfl
 obtain⟨v,nw,f2,hE,hnw⟩:=zj hrow (S1.more _) (S2 _) (by rw[l1,lt1]) (by rw[l2,ld1]) ((H.more _).takeCon i) ((H.more _).dropCon (i+1)) (by rw[lt1,ld1];omega)
 rw[lt1,ld1,hA1] at hnw
 have H2:Tryz.HstC s p t q evs cs ((M++(b0::z::(sl++[rs])))++nw):=(H.more _).more _
 obtain⟨q',evs',new2,f3,H3,ok2⟩:=uu H2.hp H2.ht (dz q cs.length) (H.refE _ (fun b hb=>by simp only[decide_eq_true_eq,List.length_append];omega)) hE hgood (by rw[hl1];omega)
 rw[hl1] at f3
 have hnl:nw.length=0∨nw.length=3:=by rcases hnw with⟨_,_,rfl⟩ | ⟨_,_,C,rfl,_⟩<;>simp
 obtain⟨k,hk⟩:∃k,k=sl.length+1+nw.length:=⟨_,rfl⟩
 have hA2:((M++(b0::z::(sl++[rs])))++nw).length=M.length+(k+2):=by rw[List.length_append,hA1,hk];omega
 rw[hA2] at f3 H3 ok2
 obtain⟨P',hP'⟩:∃x,x=M.length+(k+2)+4:=⟨_,rfl⟩
 obtain⟨T',hT'⟩:∃x,x=M.length+(k+2)+6:=⟨_,rfl⟩
 rw[←hP',←hT'] at f3 H3
 have eN:M.length+(k+2)+new2.length=M.length+(new2.length+(k+2)):=by omega
 rw[eN] at ok2
 have rq:RefT (M.length+(new2.length+(k+2))) (aq s P' T' q' (cs.length-1)):=by
  have:=H3.refs
  rw[hl1,List.length_append,hA2,eN] at this
  exact this
 have f3' :ACallsTo Tryz.prog 39 [.agg (aq s p t q cs.length),v] ((M++(b0::z::(sl++[rs])))++nw) (.agg (aq s P' T' q' (cs.length-1))) ((M++(b0::z::(sl++[rs])))++nw++new2):=f3
 obtain⟨A0,hA0⟩:∃A,A=M++[b0,z]:=⟨_,rfl⟩
 obtain⟨A1,hA1'⟩:∃A,A=M++(b0::z::(sl++[rs])):=⟨_,rfl⟩
 obtain⟨A2,hA2'⟩:∃A,A=A1++nw:=⟨_,rfl⟩
 rw[←hA0] at f1
 rw[←hA1'] at f2 f3'
 rw[←hA2'] at f3'
 have hO:OracleOk Tryz.prog (cg [(20,[.agg (aq s p t q cs.length)],A0,⟨.int .i64 0,none,[]⟩),(40,[.slice (M.length+(sl.length+2)) 0 2 none],A1,⟨v,none,nw⟩),(39,[.agg (aq s p t q cs.length),v],A2,⟨.agg (aq s P' T' q' (cs.length-1)),none,new2⟩)]):=dn fun y hy=>by
  simp only[List.mem_cons,List.not_mem_nil,or_false] at hy
  rcases hy with rfl | rfl | rfl
  ·exact⟨by simpa [CallRes.mem] using f1,by simp⟩
  ·exact⟨by simpa [CallRes.mem] using f2,by simp⟩
  ·exact⟨by simpa [CallRes.mem] using f3',by simp⟩
 obtain⟨O,hOe⟩:∃O,O=cg [(20,[.agg (aq s p t q cs.length)],A0,⟨.int .i64 0,none,[]⟩),(40,[.slice (M.length+(sl.length+2)) 0 2 none],A1,⟨v,none,nw⟩),(39,[.agg (aq s p t q cs.length),v],A2,⟨.agg (aq s P' T' q' (cs.length-1)),none,new2⟩)]:=⟨_,rfl⟩
 have e1:O (.fn 20) [.agg (aq s p t q cs.length)] A0=some ⟨.int .i64 0,none,[]⟩:=by rw[hOe];exact be
 have e2:O (.fn 40) [.slice (M.length+(sl.length+2)) 0 2 none] A1=some ⟨v,none,nw⟩:=by rw[hOe,ag (by decide)];exact be
 have e3:O (.fn 39) [.agg (aq s p t q cs.length),v] A2=some ⟨.agg (aq s P' T' q' (cs.length-1)),none,new2⟩:=by rw[hOe,ag (by decide),ag (by decide)];exact be
 rw[←hOe] at hO
 clear hOe f1 f2 f3 f3'
 subst hA2' hA1' hA0 hb0 hz hrs
 have rC1:∀C,RefT (M.length+(sl.length+3)) C→RefT (M.length+(sl.length+3)) C:=fun _ h=>h
 have hr:aT (az Tryz.prog) (fun _=>[]) (aI Tryz.prog) O 1 15 [.agg (aq s p t q cs.length),.int .i64 i] M=some (.tuple [.agg (aq s P' T' q' (cs.length-1)),.int .i64 0],M++(.cells true 0 (aq s p t q cs.length)::.cells true 0 (aq s P' T' q' (cs.length-1))::((sl++[Slot.cells true 1 [.slice q 0 i none,s2]]++nw)++new2))):=by
  rcases hsl with⟨h,rfl,rfl⟩ | ⟨h,rfl,rfl⟩
  ·rcases hnw with⟨h0,_⟩ | ⟨h0,rfl,C,rfl,rC⟩
   ·omega
   ·have en:i+(cs.length-(i+1))=cs.length-1:=by omega
    rw[en] at e2 e3
    obtain rfl:k=4:=by rw[hk];rfl
    exact Gl rfl rfl (dz q cs.length) H.refs (cq q cs.length) hev hq H.flat (by omega) h rC rfl rfl (dz q' (cs.length-1)) ⟨rfl,rfl,gq _ _⟩ rq ok2 e1 e2 (by rw[List.append_assoc] at e3;exact e3)
  ·rcases hnw with⟨h0,rfl,rfl⟩ | ⟨h0,rfl,C,rfl,rC⟩
   ·obtain rfl:k=2:=by rw[hk];rfl
    exact Gn rfl rfl (dz q cs.length) H.refs (cq q cs.length) hev hq H.flat (by omega) h rfl rfl (dz q' (cs.length-1)) ⟨rfl,rfl,gq _ _⟩ rq ok2 e1 e2 (by rw[List.append_assoc] at e3;exact e3)
   ·have en:i+(cs.length-(i+1))=i:=by omega
    rw[en] at e2 e3
    obtain rfl:k=5:=by rw[hk];rfl
    exact Gm rfl rfl (dz q cs.length) H.refs (cq q cs.length) hev hq H.flat (by omega) h rC rfl rfl (dz q' (cs.length-1)) ⟨rfl,rfl,gq _ _⟩ rq ok2 e1 e2 (by rw[List.append_assoc] at e3;exact e3)
 have hs:=aP aa (ai _) hO (aj _) hr
 refine⟨P',T',q',evs',_,hs,?_,Ka (k:=k) (by simp only[List.length_append,List.length_cons,List.length_nil];omega) H.refs rq ?_ ok2⟩
 ·refine Tryz.HstC.fin2 (slots:=sl++[Slot.cells true 1 [.slice q 0 i none,s2]]++nw) ?_ _
  simpa using H3
 ·intro f hf
  have b1:(AV.slice q 0 i none).refsOk f=true:=by
   have:=(List.getElem?_eq_some_iff.1 hq).1
   exact hf q (by omega)
  have b2:s2.refsOk f=true:=AV.refsOk_mono (fun b hb=>hf b (by simp only[decide_eq_true_eq] at hb;omega)) s2 rs2
  have b3:sl.all (fun x=>bG x&&x.refsOk f)=true:=by rcases hsl with⟨_,rfl,_⟩ | ⟨_,rfl,_⟩<;>rfl
  have b4:nw.all (fun x=>bG x&&x.refsOk f)=true:=by
   rcases hnw with⟨_,_,rfl⟩ | ⟨_,_,C,rfl,rC⟩
   ·rfl
   ·have:=rC f fun b hb=>hf b (by omega)
    simp only[List.all_cons,List.all_nil,dJ,eD,cW,pO,this,Bool.and_self]
  simp only[List.all_append,List.all_cons,List.all_nil,dJ,cW,AV.refsOkL,b1,b2,b3,b4,Bool.and_self]
end
end Go.Proofs
namespace Go.Proofs
open Go.Eng
theorem P5{M:Mem}{v:AV}{n:Nat}{C:List AV}(h:RowAt M v 32 n C) (hl:C.length=n*32) (hn:n≤1000) (hall:C.all AV.cellOk=true):
  ACallsTo Tryz.prog 11 [v] M (clV M.length n) (M++[.absent,clX 32 n C]):=by
 have hG:aI Tryz.prog 11=some Tryz.f11:=by kernel_rfl
 rcases h with⟨rfl,rfl,rfl⟩ | ⟨b,o,rfl,hp,hb⟩
 ·have h:aT (az Tryz.prog) (fun _=>[]) (aI Tryz.prog) aE 1 11 [.nilslice] M=some (.nilslice,M):=by
   simp[aT,hG,Tryz.f11,zf]
  have:=aP aa (ai _) (af _) (aj _) h
  simpa [clV,clX] using dG 2 this
 ·have lb:=(List.getElem?_eq_some_iff.1 hb).1
  have hb' :∀Z,(M++Z)[b]? =some (.cells o 32 C):=fun Z=>by rw[List.getElem?_append_left lb];exact hb
  have ht:C.take (n*32)=C:=List.take_of_length_le (by omega)
  have hle:n*32≤C.length:=by omega
  have q1:n*504≤140737488355328:=by omega
  have q2:n≤140737488355328:=by omega
  have h:aT (az Tryz.prog) (fun _=>[]) (aI Tryz.prog) aE 1 11 [.slice b 0 n none] M=some (.slice (M.length+1) 0 n none,M++[.absent,.cells true 32 C]):=by
   simp[-List.all_eq_true,-AV.cellOk,aT,hG,Tryz.f11,zf,hb',ht,hle,q1,q2,hall]
   done
  have:=aP aa (ai _) (af _) (aj _) h
  unfold clV clX
  rw[if_neg (by omega),if_neg (by omega)]
  exact this
def eF(s:Sheet) (a:AV):AV:=.agg [.int .u8 s.kind,.int .i8 s.sx,.int .i8 s.sy,.bool s.half,a]
theorem Ky(s:Sheet) (a:AV) (n:Nat) (ha:a=.nilslice∧n=0∨a=.slice 0 0 n none) (M:Mem):ACallsTo Tryz.prog 7 [eF s a] M (.bool (decide (n≤3))) M:=by
 have hG:aI Tryz.prog 7=some Tryz.f7:=by kernel_rfl
 have h:ab (az Tryz.prog) (fun _=>[]) (aI Tryz.prog) aE 1 7 [eF s a] M=some ⟨.bool (decide (n≤3)),none,[]⟩:=by
  rcases ha with⟨rfl,rfl⟩ | rfl
  ·simp[ab,hG,Tryz.f7,eF]
  ·simp[ab,hG,Tryz.f7,eF]
   omega
 have:=(ae aa (ai _) (af _) (aj _) h).1
 simpa [CallRes.mem] using this
def y8:Nat→Code→Code
 |0,c=>c
 |n+1,.seq _ c=>y8 n c
 |_+1,c=>c
def gm:Nat→Code→Code
 |0,.seq a _=>a
 |n+1,.seq _ c=>gm n c
 |_,c=>c
theorem Tryz.HstC.rowE{s:Sheet}{p t q:Nat}{evs:List (List AV)}{cs:List Evc}{M:Mem}(H:Tryz.HstC s p t q evs cs M):RowAt M (evV q cs.length) 32 cs.length evs.flatten:=by
 by_cases h0:cs.length=0
 ·obtain⟨rfl,rfl⟩:=H.evs0 h0
  exact .inl ⟨rfl,rfl,rfl⟩
 ·obtain⟨o,h⟩:=H.hq (by rintro rfl;have:=H.len;simp at this;omega)
  exact .inr ⟨q,o,by unfold evV;rw[if_neg h0],by omega,h⟩
end Go.Proofs
