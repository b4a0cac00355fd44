/- See M58. -/
import Derived.Test.YtmhkeaphiadacaaGreatDoorM54
import Derived.Test.YtmhkeaphiadacaaGreatDoorM55
import Derived.Test.YtmhkeaphiadacaaGreatDoorM49
set_option linter.all false
namespace Go.Proofs
open Go.Eng
noncomputable def bn:Code:=match Tryz.f3.body with
 |some c=>c
 |none=>.skip
noncomputable def qU:Code:=xB 3 bn
noncomputable def ov:Code:=xB 5 bn
noncomputable def lC:Code:=xB 8 bn
noncomputable def kY:Code:=xB 10 bn
theorem MQ:qU=.seq (fE 3 bn) (.seq (fE 4 bn) (ov)):=by kernel_rfl
theorem MD:ov=.seq (fE 5 bn) (.seq (fE 6 bn) (.seq (fE 7 bn) (lC))):=by kernel_rfl
theorem MN:lC=.seq (fE 8 bn) (.seq (fE 9 bn) (kY)):=by kernel_rfl
theorem LL:kY=.seq (fE 10 bn) (.seq (fE 11 bn) (.ret)):=by kernel_rfl
theorem LH:Tryz.f3.body=some (.seq (fE 0 bn) (.seq (fE 1 bn) (.seq (fE 2 bn) qU))):=by kernel_rfl
set_option maxRecDepth 16384 in
set_option maxHeartbeats 8000000 in
theorem Kw{O:Oracle}{N:Mem}{a7 m0 K n q:Nat}{o7 oq:Bool}{pv tv ev b1 b2 b4 c1 c2 c4:AV}{D x:List AV}{newC:Mem}(hm:m0≤N.length)
  (cp:pv.cellOk=true) (ct:tv.cellOk=true) (ce:ev.cellOk=true) (d1:b1.cellOk=true) (d2:b2.cellOk=true) (d4:b4.cellOk=true) (g1:c1.cellOk=true) (g2:c2.cellOk=true) (g4:c4.cellOk=true) (kk:c1.known=true∧c2.known=true∧c4.known=true)
  (h7:N[a7]? =some (.cells o7 0 [pv,tv,.str ak,ev])) (hev:ev=.slice q 0 n none) (hn:0<n) (hn2:n≤1000) (hq:N[q]? =some (.cells oq 32 D)) (hD:(D.drop ((n-1)*32)).take 32=x) (hD2:(n-1)*32+32≤D.length) (lx:x.length=32) (cx:x.all AV.cellOk=true)
  (rb:RefT N.length [b1,b2,.str ak,b4]) (rx:RefT N.length x) (rc:RefT (N.length+(newC.length+1)) [c1,c2,.str ak,c4]) (okC:OkN (N.length+(newC.length+1)) newC) (rh:RefT N.length [pv,tv,.str ak,ev])
  (eA:O (.fn 10) [.agg [b1,b2,.str ak,b4],.agg x] (N++[.cells true 0 [b1,b2,.str ak,b4]])=some ⟨.tuple [.agg [c1,c2,.str ak,c4],.int .i64 0],none,newC⟩)
  (eS:O (.fn 14) [.agg [c1,c2,.str ak,c4],.agg [pv,tv,.str ak,ev]] (N++(.cells true 0 [b1,b2,.str ak,b4]::(newC++[.cells true 0 [c1,c2,.str ak,c4]])))=some ⟨.bool true,none,[]⟩):
  ∀(env:Env) (d:Bool),(ac env 7=.ptr a7 0∧ac env 13=.ptr N.length 0∧ac env 14=.int .i64 0)→
   ∃r:Env×Mem,aH (aA Tryz.prog) (fun _=>[]) O K 105 m0 true kY ⟨env,N++[.cells true 0 [b1,b2,.str ak,b4]],d⟩=some (.ret,⟨r.1,r.2,d⟩)∧ac r.1 6=.bool true:=by
 rintro env d ⟨l7,l13,l14⟩
 obtain⟨os',hops⟩:∃os',aE Tryz.f3=os' :=⟨_,rfl⟩
 have hbs' :=aS hops (ls:=[[0,1,3,0,8,31,63,127],[0,0,2,0,8,24,56,126,254,511,1023,2047,2047,0,12287,32767]]) (by kernel_rfl)
 simp only[aE,bw,Tryz.f3,List.nil_append,List.append_nil,List.cons_append] at hops
 subst hops
 simp only[List.map_cons,List.map_nil,List.cons.injEq,and_true] at hbs'
 obtain⟨hb0,hb1⟩:=hbs'
 have w0:IntKind.i64.wrap 0=0:=rfl
 have w1:IntKind.i64.wrap 1=1:=rfl
 have w9:IntKind.i64.wrap 9=9:=rfl
 have hjl:∀j,(N.length+j<m0)=False:=fun j=>by rw[eq_iff_iff,iff_false];omega
 have hjl0:(N.length<m0)=False:=by rw[eq_iff_iff,iff_false];omega
 have la:=(List.getElem?_eq_some_iff.1 h7).1
 have lq:=(List.getElem?_eq_some_iff.1 hq).1
 have h7' :∀Z,(N++Z)[a7]? =some (.cells o7 0 [pv,tv,.str ak,ev]):=fun Z=>by rw[List.getElem?_append_left la];exact h7
 have hq' :∀Z,(N++Z)[q]? =some (.cells oq 32 D):=fun Z=>by rw[List.getElem?_append_left lq];exact hq
 have a2:∀j,(a7<N.length+j)=True:=fun j=>by rw[eq_iff_iff,iff_true];omega
 have a3:∀j,(a7=N.length+j)=False:=fun j=>by rw[eq_iff_iff,iff_false];omega
 have a4:(a7=N.length)=False:=by rw[eq_iff_iff,iff_false];omega
 have a5:∀j,(N.length+j≤a7)=False:=fun j=>by rw[eq_iff_iff,iff_false];omega
 have q2:∀j,(q<N.length+j)=True:=fun j=>by rw[eq_iff_iff,iff_true];omega
 have q3:∀j,(q=N.length+j)=False:=fun j=>by rw[eq_iff_iff,iff_false];omega
 have q4:(q=N.length)=False:=by rw[eq_iff_iff,iff_false];omega
 have q5:∀j,(N.length+j≤q)=False:=fun j=>by rw[eq_iff_iff,iff_false];omega
 have t32:x.take 32=x:=List.take_of_length_le (by omega)
 have gx:(∀y:AV,y∈x→y.cellOk=true)=True:=eq_true (List.all_eq_true.1 cx)
 have wn:IntKind.i64.wrap ((n:Int)-1)=((n-1:Nat):Int):=by rw[ai (by omega) (by omega)];omega
 have ln:((n-1:Nat):Int)<(n:Int):=by omega
 have ln2:n-1<n:=by omega
 obtain⟨k1,k2,k4⟩:=kk
 have b_1:=rb (fun b=>decide (b<N.length+1)) (by intro b hb;simp only[decide_eq_true_eq];omega)
 have h_1:=rh (fun b=>decide (b<N.length+1)) (by intro b hb;simp only[decide_eq_true_eq];omega)
 have x_1:=rx (fun b=>decide (b<N.length+1)) (by intro b hb;simp only[decide_eq_true_eq];omega)
 have c_1:=rc (fun b=>decide (b<N.length+(newC.length+1))) (by intro b hb;simp only[decide_eq_true_eq];exact hb)
 have c_2:=rc (fun b=>decide (b<N.length+(newC.length+2))) (by intro b hb;simp only[decide_eq_true_eq];omega)
 have o_1:=okC (fun b=>decide (b<N.length+(newC.length+1))) (by intro b hb;simp only[decide_eq_true_eq];exact hb)
 simp only[AV.refsOkL,Bool.and_eq_true] at b_1 h_1 c_1 c_2
 obtain⟨b11,b12,_,b13,_⟩:=b_1
 obtain⟨h11,h12,_,h13,_⟩:=h_1
 obtain⟨c11,c12,_,c13,_⟩:=c_1
 obtain⟨c21,c22,_,c23,_⟩:=c_2
 clear rb rx rc okC rh h7 hq
 rw[LL]
 subst hev
 have h:∃e',aH (aA Tryz.prog) (fun _=>[]) O K 105 m0 true (.seq (fE 10 bn) (.seq (fE 11 bn) .ret)) ⟨env,N++[.cells true 0 [b1,b2,.str ak,b4]],d⟩=some (.ret,e')∧e'.dirty=d∧ac e'.env 6=.bool true:=by
  simp[-getElem?_pos,-AV.cellOk,-AV.known,-AV.cells,-cX,-aW,-aR,-aC,-AV.refsOk,-Slot.refsOk,-List.all_eq_true,vS,rS,mS,cL,cm hb1,dM,cK,gB,dK,bV,nu,bef,Nat.testBit,bH,ax,bn,Tryz.f3,fE,l7,l13,l14,h7',hq',a2,a3,a4,a5,q2,q3,q4,q5,hD,hD2,lx,cx,t32,gx,wn,ln,ln2,eA,eS,cp,ct,ce,d1,d2,d4,g1,g2,g4,k1,k2,k4,b11,b12,b13,h11,h12,h13,x_1,c11,c12,c13,c21,c22,c23,o_1,hjl,hjl0,w0,w1]
  done
 obtain⟨⟨e1,e2,e3⟩,k1,rfl,k3⟩:=h
 exact⟨(e1,e2),k1,k3⟩
set_option maxRecDepth 16384 in
set_option maxHeartbeats 8000000 in
theorem Ao{O:Oracle}{N:Mem}{a7 m0 K n:Nat}{o7:Bool}{pv tv ev b1 b2 b4:AV}{newB:Mem}(hm:m0≤N.length) (hn2:n≤1000)
  (cp:pv.cellOk=true) (ct:tv.cellOk=true) (ce:ev.cellOk=true) (d1:b1.cellOk=true) (d2:b2.cellOk=true) (d4:b4.cellOk=true) (kk:b1.known=true∧b2.known=true∧b4.known=true)
  (h7:N[a7]? =some (.cells o7 0 [pv,tv,.str ak,ev])) (hlen:∀N,nl (aA Tryz.prog) 39 N ev=some (.int .i64 n))
  (eW:0<n→O (.fn 15) [.agg [pv,tv,.str ak,ev],.int .i64 ((n-1:Nat):Int)] N=some ⟨.tuple [.agg [b1,b2,.str ak,b4],.int .i64 0],none,newB⟩)
  (hT:0<n→∀(env:Env) (d:Bool),(ac env 7=.ptr a7 0∧ac env 13=.ptr (N.length+newB.length) 0∧ac env 14=.int .i64 0)→∃r:Env×Mem,aH (aA Tryz.prog) (fun _=>[]) O K 105 m0 true kY ⟨env,N++(newB++[.cells true 0 [b1,b2,.str ak,b4]]),d⟩=some (.ret,⟨r.1,r.2,d⟩)∧ac r.1 6=.bool true):
  ∀(env:Env) (d:Bool),ac env 7=.ptr a7 0→∃r:Env×Mem,aH (aA Tryz.prog) (fun _=>[]) O K 105 m0 true lC ⟨env,N,d⟩=some (.ret,⟨r.1,r.2,d⟩)∧ac r.1 6=.bool true:=by
 rintro env d l7
 have w0:IntKind.i64.wrap 0=0:=rfl
 have w1:IntKind.i64.wrap 1=1:=rfl
 have w9:IntKind.i64.wrap 9=9:=rfl
 have hjl:∀j,(N.length+j<m0)=False:=fun j=>by rw[eq_iff_iff,iff_false];omega
 obtain⟨k1,k2,k4⟩:=kk
 rw[MN]
 by_cases h0:n=0
 ·subst h0
  have h:∃e',aH (aA Tryz.prog) (fun _=>[]) O K 105 m0 true (.seq (fE 8 bn) (.seq (fE 9 bn) kY)) ⟨env,N,d⟩=some (.ret,e')∧e'.dirty=d∧ac e'.env 6=.bool true:=by
   simp[-AV.cellOk,-nl,hlen,bn,Tryz.f3,fE,l7,h7,ce,w0]
  obtain⟨⟨e1,e2,e3⟩,k1,rfl,k3⟩:=h
  exact⟨(e1,e2),k1,k3⟩
 ·obtain⟨F,hF⟩:=sm (β:=Env×Mem) (hT (by omega))
  have hF1:=fun env d h=>(hF env d h).1
  have hF2:=fun env d h=>(hF env d h).2
  clear hF hT
  have eW:=eW (by omega)
  have wn:IntKind.i64.wrap ((n:Int)-1)=((n-1:Nat):Int):=by rw[ai (by omega) (by omega)];omega
  have hn0:¬(n:Int)=0:=by omega
  obtain⟨T4,hT4⟩:∃T,T=kY:=⟨_,rfl⟩
  rw[←hT4]
  simp only[←hT4] at hF1
  have h:∃e',aH (aA Tryz.prog) (fun _=>[]) O K 105 m0 true (.seq (fE 8 bn) (.seq (fE 9 bn) T4)) ⟨env,N,d⟩=some (.ret,e')∧e'.dirty=d∧ac e'.env 6=.bool true:=by
   clear hT4
   simp[-AV.cellOk,-AV.known,-AV.cells,vS,-nl,hlen,bn,Tryz.f3,fE,l7,h7,ce,cp,ct,d1,d2,d4,k1,k2,k4,eW,wn,hn0,h0,hF1,hF2,hjl,w0,w1]
   done
  obtain⟨⟨e1,e2,e3⟩,k1,rfl,k3⟩:=h
  exact⟨(e1,e2),k1,k3⟩
set_option maxRecDepth 16384 in
set_option maxHeartbeats 8000000 in
theorem J9{O:Oracle}{N:Mem}{a7 a8 m0 K n q:Nat}{o7 o8 oq B:Bool}{pv tv ev g1 g2 g4:AV}{D x hA:List AV}{e:Int}(hm:m0≤N.length) (hn2:n≤4) (he:e=bif B then 9 else 0) (hhA:hA=bif B then iy else [g1,g2,.str ak,g4])
  (cp:pv.cellOk=true) (ct:tv.cellOk=true) (ce:ev.cellOk=true) (d1:g1.cellOk=true) (d2:g2.cellOk=true) (d4:g4.cellOk=true) (kk:pv.known=true∧tv.known=true∧ev.known=true)
  (h7:N[a7]? =some (.cells o7 0 [pv,tv,.str ak,ev])) (h8:N[a8]? =some (.cells o8 0 x)) (hev:(n=0∧D=[]∧ev=.nilslice)∨(0<n∧ev=.slice q 0 n none∧N[q]? =some (.cells oq 32 D))) (hD:D.length=n*32) (cD:D.all AV.cellOk=true) (lx:x.length=32) (cx:x.all AV.cellOk=true) (rD:RefT N.length D) (rx:RefT N.length x) (rh:RefT N.length [pv,tv,.str ak,ev])
  (eK:O (.fn 11) [ev] (N++[.cells true 0 hA,.cells true 0 [pv,tv,.str ak,ev]])=some ⟨clV (N.length+2) n,none,[.absent,clX 32 n D]⟩)
  (eC:O (.fn 12) [.agg [pv,tv,.str ak,.slice (N.length+5) 0 (n+1) none]] (N++[.cells true 0 hA,.cells true 0 [pv,tv,.str ak,.slice (N.length+5) 0 (n+1) none],.absent,.absent,.cells true 32 x,.cells true 32 (D++x)])=some ⟨.int .i64 e,none,[]⟩)
  (eM:B=true→O (.fn 13) [.agg iy] (N++[.cells true 0 hA,.cells true 0 [pv,tv,.str ak,.slice (N.length+5) 0 (n+1) none],.absent,.absent,.cells true 32 x,.cells true 32 (D++x)])=some ⟨.bool true,none,[]⟩)
  (eS:B=false→O (.fn 14) [.agg [g1,g2,.str ak,g4],.agg [pv,tv,.str ak,.slice (N.length+5) 0 (n+1) none]] (N++[.cells true 0 hA,.cells true 0 [pv,tv,.str ak,.slice (N.length+5) 0 (n+1) none],.absent,.absent,.cells true 32 x,.cells true 32 (D++x)])=some ⟨.bool true,none,[]⟩)
  (hT:∀(env:Env) (d:Bool),ac env 7=.ptr a7 0→∃r:Env×Mem,aH (aA Tryz.prog) (fun _=>[]) O K 105 m0 true lC ⟨env,N++[.cells true 0 hA,.cells true 0 [pv,tv,.str ak,.slice (N.length+5) 0 (n+1) none],.absent,.absent,.cells true 32 x,.cells true 32 (D++x)],d⟩=some (.ret,⟨r.1,r.2,d⟩)∧ac r.1 6=.bool true):
  ∀(env:Env) (d:Bool),(ac env 7=.ptr a7 0∧ac env 8=.ptr a8 0∧ac env 9=.ptr N.length 0∧ac env 10=.int .i64 e)→∃r:Env×Mem,aH (aA Tryz.prog) (fun _=>[]) O K 105 m0 true ov ⟨env,N++[.cells true 0 hA],d⟩=some (.ret,⟨r.1,r.2,d⟩)∧ac r.1 6=.bool true:=by
 rintro env d ⟨l7,l8,l9,l10⟩
 obtain⟨os',hops⟩:∃os',aE Tryz.f3=os' :=⟨_,rfl⟩
 have hbs' :=aS hops (ls:=[[0,1,3,0,8,31,63,127],[0,0,2,0,8,24,56,126,254,511,1023,2047,2047,0,12287,32767]]) (by kernel_rfl)
 simp only[aE,bw,Tryz.f3,List.nil_append,List.append_nil,List.cons_append] at hops
 subst hops
 simp only[List.map_cons,List.map_nil,List.cons.injEq,and_true] at hbs'
 obtain⟨hb0,hb1⟩:=hbs'
 have w0:IntKind.i64.wrap 0=0:=rfl
 have w1:IntKind.i64.wrap 1=1:=rfl
 have w9:IntKind.i64.wrap 9=9:=rfl
 have hjl:∀j,(N.length+j<m0)=False:=fun j=>by rw[eq_iff_iff,iff_false];omega
 have hjl0:(N.length<m0)=False:=by rw[eq_iff_iff,iff_false];omega
 have la:=(List.getElem?_eq_some_iff.1 h7).1
 have lb:=(List.getElem?_eq_some_iff.1 h8).1
 have h7' :∀Z,(N++Z)[a7]? =some (.cells o7 0 [pv,tv,.str ak,ev]):=fun Z=>by rw[List.getElem?_append_left la];exact h7
 have h8' :∀Z,(N++Z)[a8]? =some (.cells o8 0 x):=fun Z=>by rw[List.getElem?_append_left lb];exact h8
 have a2:∀j,(a7<N.length+j)=True:=fun j=>by rw[eq_iff_iff,iff_true];omega
 have a3:∀j,(a7=N.length+j)=False:=fun j=>by rw[eq_iff_iff,iff_false];omega
 have a5:∀j,(N.length+j≤a7)=False:=fun j=>by rw[eq_iff_iff,iff_false];omega
 have b2:∀j,(a8<N.length+j)=True:=fun j=>by rw[eq_iff_iff,iff_true];omega
 have b3:∀j,(a8=N.length+j)=False:=fun j=>by rw[eq_iff_iff,iff_false];omega
 have b5:∀j,(N.length+j≤a8)=False:=fun j=>by rw[eq_iff_iff,iff_false];omega
 have t32:x.take 32=x:=List.take_of_length_le (by omega)
 have gx:(∀y:AV,y∈x→y.cellOk=true)=True:=eq_true (List.all_eq_true.1 cx)
 have tD:D.take (n*32)=D:=List.take_of_length_le (by omega)
 have lD:n*32≤D.length:=by omega
 have n1:(n+1)*504≤140737488355328:=by omega
 have n2:n+1≤140737488355328:=by omega
 obtain⟨k1,k2,k4⟩:=kk
 have h_2:=rh (fun b=>decide (b<N.length+2)) (by intro b hb;simp only[decide_eq_true_eq];omega)
 have x_4:=rx (fun b=>decide (b<N.length+4)) (by intro b hb;simp only[decide_eq_true_eq];omega)
 have x_5:=rx (fun b=>decide (b<N.length+5)) (by intro b hb;simp only[decide_eq_true_eq];omega)
 have x_6:=rx (fun b=>decide (b<N.length+6)) (by intro b hb;simp only[decide_eq_true_eq];omega)
 have x_n:AV.refsOkL (fun b=> !decide (N.length+2≤b)|| !decide (b<N.length+4)) x=true:=rx _ (by
  intro b hb
  have:¬N.length+2≤b:=by omega
  simp[this])
 have D_4:=rD (fun b=>decide (b<N.length+4)) (by intro b hb;simp only[decide_eq_true_eq];omega)
 have D_6:=rD (fun b=>decide (b<N.length+6)) (by intro b hb;simp only[decide_eq_true_eq];omega)
 have h_6:=rh (fun b=>decide (b<N.length+6)) (by intro b hb;simp only[decide_eq_true_eq];omega)
 have h_4:=rh (fun b=>decide (b<N.length+4)) (by intro b hb;simp only[decide_eq_true_eq];omega)
 simp only[AV.refsOkL,Bool.and_eq_true] at h_2 h_4 h_6
 obtain⟨h21,h22,_,h23,_⟩:=h_2
 obtain⟨h41,h42,_,h43,_⟩:=h_4
 obtain⟨h61,h62,_,h63,_⟩:=h_6
 obtain⟨F,hF⟩:=sm (β:=Env×Mem) hT
 have hF1:=fun env d h=>(hF env d h).1
 have hF2:=fun env d h=>(hF env d h).2
 clear hF hT rh rx rD h7 h8
 obtain⟨T3,hT3⟩:∃T,T=lC:=⟨_,rfl⟩
 rw[MD,←hT3]
 simp only[←hT3] at hF1
 have h:∃e',aH (aA Tryz.prog) (fun _=>[]) O K 105 m0 true (.seq (fE 5 bn) (.seq (fE 6 bn) (.seq (fE 7 bn) T3))) ⟨env,N++[.cells true 0 hA],d⟩=some (.ret,e')∧e'.dirty=d∧ac e'.env 6=.bool true:=by
  clear hT3
  have hzH:iy=[.nilslice,.nilslice,.str [],.nilslice]:=rfl
  rcases hev with⟨rfl,rfl,rfl⟩ | ⟨h0,rfl,hq⟩
  ·simp only[clV,clX,if_pos] at eK
   simp only[Nat.zero_add,List.nil_append] at eC eM eS hF1
   cases B with
   |true=>
    have eM:=eM rfl
    clear eS
    simp only[cond_true,hzH] at he hhA eM
    subst he hhA
    simp[-getElem?_pos,-AV.cellOk,-AV.known,-AV.cells,-cX,-aW,-aR,-aC,-AV.refsOk,-Slot.refsOk,-List.all_eq_true,vS,rS,mS,cL,cm hb0,dM,cK,gB,dK,bV,nu,bef,Nat.testBit,bH,ax,bn,Tryz.f3,fE,l7,l8,l9,l10,h7',h8',a2,a3,a5,b2,b3,b5,lx,cx,t32,gx,eK,eC,eM,cp,ct,k1,k2,h21,h22,h41,h42,h61,h62,x_4,x_5,x_6,x_n,hF1,hF2,hjl,hjl0,w0,w1,w9]
    done
   |false=>
    have eS:=eS rfl
    clear eM
    simp only[cond_false] at he hhA
    subst he hhA
    simp[-getElem?_pos,-AV.cellOk,-AV.known,-AV.cells,-cX,-aW,-aR,-aC,-AV.refsOk,-Slot.refsOk,-List.all_eq_true,vS,rS,mS,cL,cm hb0,dM,cK,gB,dK,bV,nu,bef,Nat.testBit,bH,ax,bn,Tryz.f3,fE,l7,l8,l9,l10,h7',h8',a2,a3,a5,b2,b3,b5,lx,cx,t32,gx,eK,eC,eS,cp,ct,d1,d2,d4,k1,k2,h21,h22,h41,h42,h61,h62,x_4,x_5,x_6,x_n,hF1,hF2,hjl,hjl0,w0,w1,w9]
    done
  ·have hq' :∀Z,(N++Z)[q]? =some (.cells oq 32 D):=fun Z=>by rw[List.getElem?_append_left (List.getElem?_eq_some_iff.1 hq).1];exact hq
   have hn0:¬n=0:=by omega
   simp only[clV,clX,if_neg hn0] at eK
   rw[show N.length+2+1=N.length+3 from rfl] at eK
   cases B with
   |true=>
    have eM:=eM rfl
    clear eS
    simp only[cond_true,hzH] at he hhA eM
    subst he hhA
    simp[-getElem?_pos,-AV.cellOk,-AV.known,-AV.cells,-cX,-aW,-aR,-aC,-AV.refsOk,-Slot.refsOk,-List.all_eq_true,vS,rS,mS,cL,cm hb0,dM,cK,gB,dK,bV,nu,bef,Nat.testBit,bH,ax,bn,Tryz.f3,fE,l7,l8,l9,l10,h7',h8',hq',a2,a3,a5,b2,b3,b5,lx,cx,t32,gx,tD,lD,cD,n1,n2,hn0,eK,eC,eM,cp,ct,k1,k2,k4,h21,h22,h23,h41,h42,h43,h61,h62,h63,x_4,x_5,x_6,x_n,D_4,D_6,hF1,hF2,hjl,hjl0,w0,w1,w9]
    done
   |false=>
    have eS:=eS rfl
    clear eM
    simp only[cond_false] at he hhA
    subst he hhA
    simp[-getElem?_pos,-AV.cellOk,-AV.known,-AV.cells,-cX,-aW,-aR,-aC,-AV.refsOk,-Slot.refsOk,-List.all_eq_true,vS,rS,mS,cL,cm hb0,dM,cK,gB,dK,bV,nu,bef,Nat.testBit,bH,ax,bn,Tryz.f3,fE,l7,l8,l9,l10,h7',h8',hq',a2,a3,a5,b2,b3,b5,lx,cx,t32,gx,tD,lD,cD,n1,n2,hn0,eK,eC,eS,cp,ct,d1,d2,d4,k1,k2,k4,h21,h22,h23,h41,h42,h43,h61,h62,h63,x_4,x_5,x_6,x_n,D_4,D_6,hF1,hF2,hjl,hjl0,w0,w1,w9]
    done
 obtain⟨⟨e1,e2,e3⟩,k1,rfl,k3⟩:=h
 exact⟨(e1,e2),k1,k3⟩
set_option maxRecDepth 16384 in
set_option maxHeartbeats 8000000 in
theorem Kq{O:Oracle}{M:Mem}{a4 m0 K i:Nat}{o4:Bool}{pv tv ev u1 u2 u4:AV}{u3:List UInt8}{dc x:List AV}{y1 y2 y3 y4 y5:Slot}{newA:Mem}{e:Int}(hm:m0≤M.length)
  (cp:pv.cellOk=true) (ct:tv.cellOk=true) (ce:ev.cellOk=true) (d1:u1.cellOk=true) (d2:u2.cellOk=true) (d4:u4.cellOk=true) (kk:u1.known=true∧u2.known=true∧u4.known=true)
  (h4:M[a4]? =some (.cells o4 0 dc)) (ldc:dc.length=12) (cdc:dc.all AV.cellOk=true) (lx:x.length=32) (cx:x.all AV.cellOk=true)
  (eD:O (.fn 9) [.agg [pv,tv],.agg dc,.int .i64 ((i%5:Nat):Int)] (M++[.cells true 0 [pv,tv,.str ak,ev]])=some ⟨.agg x,none,[y1,y2,y3,y4,y5]⟩)
  (eA:O (.fn 10) [.agg [pv,tv,.str ak,ev],.agg x] (M++[.cells true 0 [pv,tv,.str ak,ev],y1,y2,y3,y4,y5,.cells true 0 x])=some ⟨.tuple [.agg [u1,u2,.str u3,u4],.int .i64 e],none,newA⟩)
  (hT:∀(env:Env) (d:Bool),(ac env 7=.ptr M.length 0∧ac env 8=.ptr (M.length+6) 0∧ac env 9=.ptr (M.length+(newA.length+7)) 0∧ac env 10=.int .i64 e)→∃r:Env×Mem,aH (aA Tryz.prog) (fun _=>[]) O K 105 m0 true ov ⟨env,M++(.cells true 0 [pv,tv,.str ak,ev]::y1::y2::y3::y4::y5::.cells true 0 x::(newA++[.cells true 0 [u1,u2,.str u3,u4]])),d⟩=some (.ret,⟨r.1,r.2,d⟩)∧ac r.1 6=.bool true):
  ∀(env:Env) (d:Bool),(ac env 2=.int .u8 i∧ac env 4=.ptr a4 0∧ac env 7=.ptr M.length 0)→∃r:Env×Mem,aH (aA Tryz.prog) (fun _=>[]) O K 105 m0 true qU ⟨env,M++[.cells true 0 [pv,tv,.str ak,ev]],d⟩=some (.ret,⟨r.1,r.2,d⟩)∧ac r.1 6=.bool true:=by
 rintro env d ⟨l2,l4,l7⟩
 have w0:IntKind.i64.wrap 0=0:=rfl
 have w1:IntKind.i64.wrap 1=1:=rfl
 have w9:IntKind.i64.wrap 9=9:=rfl
 have hjl:∀j,(M.length+j<m0)=False:=fun j=>by rw[eq_iff_iff,iff_false];omega
 have hjl0:(M.length<m0)=False:=by rw[eq_iff_iff,iff_false];omega
 have la:=(List.getElem?_eq_some_iff.1 h4).1
 have h4' :∀Z,(M++Z)[a4]? =some (.cells o4 0 dc):=fun Z=>by rw[List.getElem?_append_left la];exact h4
 have t32:x.take 32=x:=List.take_of_length_le (by omega)
 have gx:(∀y:AV,y∈x→y.cellOk=true)=True:=eq_true (List.all_eq_true.1 cx)
 have t12:dc.take 12=dc:=List.take_of_length_le (by omega)
 have gd:(∀y:AV,y∈dc→y.cellOk=true)=True:=eq_true (List.all_eq_true.1 cdc)
 have hr:(i:Int).tmod 5=((i%5:Nat):Int):=rfl
 have hw1:IntKind.u8.wrap ((i%5:Nat):Int)=((i%5:Nat):Int):=xf (by omega) (by omega)
 have hw2:IntKind.i64.wrap ((i%5:Nat):Int)=((i%5:Nat):Int):=ai (by omega) (by omega)
 obtain⟨j,hj⟩:∃j,j=i%5:=⟨_,rfl⟩
 rw[←hj] at hr hw1 hw2 eD
 obtain⟨k1,k2,k4⟩:=kk
 obtain⟨F,hF⟩:=sm (β:=Env×Mem) hT
 have hF1:=fun env d h=>(hF env d h).1
 have hF2:=fun env d h=>(hF env d h).2
 clear hF hT h4
 obtain⟨T2,hT2⟩:∃T,T=ov:=⟨_,rfl⟩
 rw[MQ,←hT2]
 simp only[←hT2] at hF1
 have h:∃e',aH (aA Tryz.prog) (fun _=>[]) O K 105 m0 true (.seq (fE 3 bn) (.seq (fE 4 bn) T2)) ⟨env,M++[.cells true 0 [pv,tv,.str ak,ev]],d⟩=some (.ret,e')∧e'.dirty=d∧ac e'.env 6=.bool true:=by
  clear hT2 hj
  simp[-getElem?_pos,-AV.cellOk,-AV.known,-AV.cells,vS,mS,-List.all_eq_true,bn,Tryz.f3,fE,l2,l4,l7,h4',ldc,t12,cdc,gd,lx,cx,t32,gx,hr,hw1,hw2,eD,eA,cp,ct,ce,d1,d2,d4,k1,k2,k4,hF1,hF2,hjl,hjl0,w0]
  done
 obtain⟨⟨e1,e2,e3⟩,k1,rfl,k3⟩:=h
 exact⟨(e1,e2),k1,k3⟩
theorem M5{us:List (List (List UInt8))}{L:List (List UInt8)}(h:(L++us.flatten).Nodup) (k:Nat):tf L (us.take k)=false:=by
 refine tJ (h.sublist ?_)
 refine List.Sublist.append (List.Sublist.refl _) ?_
 have:us.flatten=(us.take k).flatten++(us.drop k).flatten:=by rw[←List.flatten_append,List.take_append_drop]
 rw[this]
 exact List.sublist_append_left _ _
set_option maxRecDepth 16384 in
set_option maxHeartbeats 8000000 in
theorem xH{O:Oracle}(hO:OracleOk Tryz.prog O) {s:Sheet}{a:AV}{dc:List AV}{X:Slot}{new:Mem}{i n p t q:Nat}{oq B:Bool}{x D hA:List AV}{g1 g2 g4 b1 b2 b4 c1 c2 c4:AV}{y1 y2 y3 y4 y5:Slot}{newA newB newC:Mem}{xl:List AV}{M N N3:Mem}
  (hack:a.cellOk=true) (hakn:a.known=true) (ldc:dc.length=12) (cdc:dc.all AV.cellOk=true) (hn4:n≤3)
  (hM:M=[X,.cells true 0 [.int .u8 s.kind,.int .i8 s.sx,.int .i8 s.sy,.bool s.half,a],.cells true 0 dc]++new)
  (hhA:hA=bif B then iy else [g1,g2,.str ak,g4]) (gA:g1.cellOk=true∧g2.cellOk=true∧g4.cellOk=true∧g1.known=true∧g2.known=true∧g4.known=true)
  (hN:N=M++(.cells true 0 (aG s p t q n)::y1::y2::y3::y4::y5::.cells true 0 x::newA))
  (lx:x.length=32) (cx:x.all AV.cellOk=true) (lD:D.length=n*32) (cD:D.all AV.cellOk=true)
  (hq:0<n→M[q]? =some (.cells oq 32 D)) (rD:RefT N.length D) (rx:RefT N.length x) (rh:RefT M.length (aG s p t q n))
  (hN3:N3=N++[.cells true 0 hA,.cells true 0 (aG s p t (N.length+5) (n+1)),.absent,.absent,.cells true 32 x,.cells true 32 (D++x)])
  (e1:O (.fn 6) [] [X,.cells true 0 [.int .u8 s.kind,.int .i8 s.sx,.int .i8 s.sy,.bool s.half,a],.cells true 0 dc]=some ⟨.bool true,none,[]⟩)
  (e2:O (.fn 7) [fT s a] [X,.cells true 0 [.int .u8 s.kind,.int .i8 s.sx,.int .i8 s.sy,.bool s.half,a],.cells true 0 dc]=some ⟨.bool true,none,[]⟩)
  (e3:O (.fn 8) [fT s a] [X,.cells true 0 [.int .u8 s.kind,.int .i8 s.sx,.int .i8 s.sy,.bool s.half,a],.cells true 0 dc]=some ⟨.agg (aG s p t q n),none,new⟩)
  (eD:O (.fn 9) [shB s p t,.agg dc,.int .i64 ((i%5:Nat):Int)] (M++[.cells true 0 (aG s p t q n)])=some ⟨.agg x,none,[y1,y2,y3,y4,y5]⟩)
  (eA:O (.fn 10) [.agg (aG s p t q n),.agg x] (M++[.cells true 0 (aG s p t q n),y1,y2,y3,y4,y5,.cells true 0 x])=some ⟨.tuple [.agg hA,.int .i64 (bif B then 9 else 0)],none,newA⟩)
  (eK:O (.fn 11) [evV q n] (N++[.cells true 0 hA,.cells true 0 (aG s p t q n)])=some ⟨clV (N.length+2) n,none,[.absent,clX 32 n D]⟩)
  (eC:O (.fn 12) [.agg (aG s p t (N.length+5) (n+1))] N3=some ⟨.int .i64 (bif B then 9 else 0),none,[]⟩)
  (eM:O (.fn 13) [.agg iy] N3=some ⟨.bool true,none,[]⟩)
  (eS:B=false→O (.fn 14) [.agg [g1,g2,.str ak,g4],.agg (aG s p t (N.length+5) (n+1))] N3=some ⟨.bool true,none,[]⟩)
  (hB4:0<n→O (.fn 15) [.agg (aG s p t q n),.int .i64 ((n-1:Nat):Int)] N3=some ⟨.tuple [.agg [b1,b2,.str ak,b4],.int .i64 0],none,newB⟩∧
   (b1.cellOk=true∧b2.cellOk=true∧b4.cellOk=true∧b1.known=true∧b2.known=true∧b4.known=true)∧(c1.cellOk=true∧c2.cellOk=true∧c4.cellOk=true∧c1.known=true∧c2.known=true∧c4.known=true)∧RefT (N3++newB).length [b1,b2,.str ak,b4]∧
   ((D.drop ((n-1)*32)).take 32=xl∧(n-1)*32+32≤D.length∧xl.length=32∧xl.all AV.cellOk=true∧RefT (N3++newB).length xl)∧
   O (.fn 10) [.agg [b1,b2,.str ak,b4],.agg xl] ((N3++newB)++[.cells true 0 [b1,b2,.str ak,b4]])=some ⟨.tuple [.agg [c1,c2,.str ak,c4],.int .i64 0],none,newC⟩∧
   RefT ((N3++newB).length+(newC.length+1)) [c1,c2,.str ak,c4]∧OkN ((N3++newB).length+(newC.length+1)) newC∧
   O (.fn 14) [.agg [c1,c2,.str ak,c4],.agg (aG s p t q n)] ((N3++newB)++(.cells true 0 [b1,b2,.str ak,b4]::(newC++[.cells true 0 [c1,c2,.str ak,c4]])))=some ⟨.bool true,none,[]⟩):
  ACallsTo Tryz.prog 3 [fT s a,.agg dc,.int .u8 i] [X] (.bool true) [X]:=by
 have hG:aF Tryz.prog 3=some Tryz.f3:=by kernel_rfl
 have lM:M.length=new.length+3:=by rw[hM];simp
 have lN:N.length=M.length+(newA.length+7):=by rw[hN];simp
 have lN3:N3.length=N.length+6:=by rw[hN3];simp
 have h7:N[M.length]? =some (.cells true 0 (aG s p t q n)):=by rw[hN,yE];rfl
 have h8:N[M.length+6]? =some (.cells true 0 x):=by rw[hN,dx];rfl
 have h73:N3[M.length]? =some (.cells true 0 (aG s p t q n)):=by rw[hN3,List.getElem?_append_left (by omega)];exact h7
 have qN:0<n→N[q]? =some (.cells oq 32 D):=fun h=>by
  have:=hq h
  rw[hN,List.getElem?_append_left (List.getElem?_eq_some_iff.1 this).1];exact this
 have qN3:0<n→N3[q]? =some (.cells oq 32 D):=fun h=>by
  have:=qN h
  rw[hN3,List.getElem?_append_left (List.getElem?_eq_some_iff.1 this).1];exact this
 have rhN:∀T,M.length≤T→RefT T (aG s p t q n):=fun T hT f hf=>rh f fun b hb=>hf b (by omega)
 have hev:0<n→evV q n=.slice q 0 n none:=fun h=>by unfold evV;rw[if_neg (by omega)]
 have hW:aG s p t (N.length+5) (n+1)=[.slice p 0 s.P.length none,.slice t 0 s.T.length none,.str ak,.slice (N.length+5) 0 (n+1) none]:=by unfold aG evV;rw[if_neg (by omega)]
 obtain⟨ga1,ga2,ga4,gk1,gk2,gk4⟩:=gA
 have t3' :∀(env:Env) (d:Bool),ac env 7=.ptr M.length 0→∃r:Env×Mem,aH (aA Tryz.prog) (fun _=>[]) O 1 105 1 true lC ⟨env,N3,d⟩=some (.ret,⟨r.1,r.2,d⟩)∧ac r.1 6=.bool true:=by
  by_cases h0:0<n
  ·obtain⟨w1,⟨w2,w3,w4,w5,w6,w7⟩,⟨w8,w9,w10,w11,w12,w13⟩,w14,⟨w15,w16,w17,w18,w19⟩,w20,w21,w22,w23⟩:=hB4 h0
   have t4:=Kw (O:=O) (N:=N3++newB) (a7:=M.length) (m0:=1) (K:=1) (by rw[List.length_append];omega) (rfl:(AV.slice p 0 s.P.length none).cellOk=true) (rfl:(AV.slice t 0 s.T.length none).cellOk=true) (gk q n) w2 w3 w4 w8 w9 w10 ⟨w11,w12,w13⟩ (by rw[List.getElem?_append_left (List.getElem?_eq_some_iff.1 h73).1];exact h73) (hev h0) h0 (by omega) (by rw[List.getElem?_append_left (List.getElem?_eq_some_iff.1 (qN3 h0)).1];exact qN3 h0) w15 w16 w17 w18 w14 w19 w21 w22 (rhN _ (by rw[List.length_append];omega)) w20 w23
   exact Ao (O:=O) (N:=N3) (a7:=M.length) (m0:=1) (K:=1) (n:=n) (b1:=b1) (b2:=b2) (b4:=b4) (newB:=newB) (by omega) (by omega) (rfl:(AV.slice p 0 s.P.length none).cellOk=true) (rfl:(AV.slice t 0 s.T.length none).cellOk=true) (gk q n) w2 w3 w4 ⟨w5,w6,w7⟩ h73 (fm q n) (fun _=>w1) (fun _=>by rw[List.length_append,List.append_assoc] at t4;exact t4)
  ·intro env d l7
   have t3z:=Ao (O:=O) (N:=N3) (a7:=M.length) (m0:=1) (K:=1) (n:=n) (b1:=.nilslice) (b2:=.nilslice) (b4:=.nilslice) (newB:=newB) (by omega) (by omega) (rfl:(AV.slice p 0 s.P.length none).cellOk=true) (rfl:(AV.slice t 0 s.T.length none).cellOk=true) (gk q n) rfl rfl rfl ⟨rfl,rfl,rfl⟩ h73 (fm q n) (fun h=>absurd h h0) (fun h=>absurd h h0)
   exact t3z env d l7
 have t2:=J9 (O:=O) (N:=N) (a7:=M.length) (a8:=M.length+6) (m0:=1) (K:=1) (n:=n) (q:=q) (oq:=oq) (B:=B) (by omega) (by omega) rfl hhA (rfl:(AV.slice p 0 s.P.length none).cellOk=true) (rfl:(AV.slice t 0 s.T.length none).cellOk=true) (gk q n) ga1 ga2 ga4 ⟨rfl,rfl,pL q n⟩ h7 h8 (by
   by_cases h0:0<n
   ·exact .inr ⟨h0,hev h0,qN h0⟩
   ·have hz:n=0:=by omega
    exact .inl ⟨hz,List.eq_nil_of_length_eq_zero (by omega),by unfold evV;rw[if_pos hz]⟩) lD cD lx cx rD rx (rhN _ (by omega)) eK (by rw[←hW,←hN3];exact eC) (fun _=>by rw[←hW,←hN3];exact eM) (fun h=>by rw[←hW,←hN3];exact eS h) (by rw[←hW,←hN3];exact t3')
 rw[hW] at hN3
 have hAe:∃(u1 u2 u4:AV) (u3:List UInt8),hA=[u1,u2,.str u3,u4]∧u1.cellOk=true∧u2.cellOk=true∧u4.cellOk=true∧u1.known=true∧u2.known=true∧u4.known=true:=by
  rw[hhA]
  cases B
  ·exact⟨_,_,_,_,rfl,ga1,ga2,ga4,gk1,gk2,gk4⟩
  ·exact⟨_,_,_,_,rfl,rfl,rfl,rfl,rfl,rfl,rfl⟩
 obtain⟨u1,u2,u4,u3,hAe,v1,v2,v4,v5,v6,v7⟩:=hAe
 rw[hAe] at eA t2
 have h4:M[2]? =some (.cells true 0 dc):=by rw[hM];rfl
 have t1:=Kq (O:=O) (M:=M) (a4:=2) (m0:=1) (K:=1) (i:=i) (by omega) (rfl:(AV.slice p 0 s.P.length none).cellOk=true) (rfl:(AV.slice t 0 s.T.length none).cellOk=true) (gk q n) v1 v2 v4 ⟨v5,v6,v7⟩ h4 ldc cdc lx cx eD eA (by
  intro env d ⟨l7,l8,l9,l10⟩
  obtain⟨r,k1,k2⟩:=t2 env d ⟨l7,l8,by rw[lN];exact l9,l10⟩
  refine⟨r,?_,k2⟩
  rw[hN,List.append_assoc] at k1
  exact k1)
 obtain⟨F,hF⟩:=sm (β:=Env×Mem) t1
 have hF1:=fun env d h=>(hF env d h).1
 have hF2:=fun env d h=>(hF env d h).2
 clear hF t1 t2 t3' hB4 eD eA eK eC eM eS hN hN3 hhA hAe qN qN3 hq rD rx rh rhN h7 h8 h73 h4 hev hW
 subst hM
 simp only[List.cons_append,List.nil_append,List.length_cons] at hF1 hF2
 obtain⟨T1,hT1⟩:∃T,T=qU:=⟨_,rfl⟩
 simp only[←hT1] at hF1
 have t12:dc.take 12=dc:=List.take_of_length_le (by omega)
 have gd:(∀y:AV,y∈dc→y.cellOk=true)=True:=eq_true (List.all_eq_true.1 cdc)
 have cev:=gk q n
 have h:ad (aA Tryz.prog) (fun _=>[]) (aF Tryz.prog) O 1 3 [fT s a,.agg dc,.int .u8 i] [X]=some ⟨.bool true,none,[]⟩:=by
  have hb:=LH
  rw[←hT1] at hb
  unfold ad
  rw[hG]
  dsimp only
  rw[hb]
  dsimp only
  clear hT1 hb hO
  simp only[fT,aG] at e2 e3 hF1
  simp[-AV.cellOk,-AV.known,-AV.cells,vS,-List.all_eq_true,bn,Tryz.f3,fE,fT,aG,e1,e2,e3,hack,hakn,ldc,t12,cdc,gd,cev,hF1,hF2]
  done
 have:=(ae aa (aj _) hO (al _) h).1
 simpa [CallRes.mem] using this
set_option maxRecDepth 16384 in
set_option maxHeartbeats 8000000 in
theorem iC(s:Sheet) (hs:s.Ok) (ds:List Deed) (hd:∀d∈ds,d.Ok) (X:Slot) (a:AV) (hx:Pn ds X a) (d:Deed) (od:d.Ok) (i:Nat) (hi:i<256):
  ACallsTo Tryz.prog 3 [fT s a,.agg d.cells,.int .u8 i] [X] (.bool true) [X]:=by
 have hG:aF Tryz.prog 3=some Tryz.f3:=by kernel_rfl
 have hfit:=fun N=>KC s a ds.length (by rcases hx with⟨rfl,rfl⟩ | ⟨_,rfl⟩;exact .inl ⟨rfl,rfl⟩;exact .inr rfl) N
 have hack:a.cellOk=true:=by rcases hx with⟨_,rfl⟩ | ⟨_,rfl⟩<;>rfl
 have hakn:a.known=true:=by rcases hx with⟨_,rfl⟩ | ⟨_,rfl⟩<;>rfl
 obtain⟨dc,hdc⟩:∃dc,dc=d.cells:=⟨_,rfl⟩
 have ldc:dc.length=12:=by rw[hdc];rfl
 have cdc:dc.all AV.cellOk=true:=by rw[hdc];rfl
 have tdc:dc.take 12=dc:=List.take_of_length_le (by omega)
 have gdc:(∀y:AV,y∈dc→y.cellOk=true)=True:=eq_true (List.all_eq_true.1 cdc)
 obtain⟨Wp,hWp⟩:∃W:Slot,W=.cells true 0 [.int .u8 s.kind,.int .i8 s.sx,.int .i8 s.sy,.bool s.half,a]:=⟨_,rfl⟩
 obtain⟨Wd,hWd⟩:∃W:Slot,W=.cells true 0 dc:=⟨_,rfl⟩
 by_cases h3:ds.length≤3
 rotate_left
 ·have hO:OracleOk Tryz.prog (ao (bU [(6,[],.bool true),(7,[fT s a],.bool false)])):=ee fun y hy M=>by
   simp only[List.mem_cons,List.not_mem_nil,or_false] at hy
   rcases hy with rfl | rfl
   ·exact mg M
   ·have:=hfit M;rwa [decide_eq_false h3] at this
  have h:ad (aA Tryz.prog) (fun _=>[]) (aF Tryz.prog) (ao (bU [(6,[],.bool true),(7,[fT s a],.bool false)])) 1 3 [fT s a,.agg dc,.int .u8 i] [X]=some ⟨.bool true,none,[]⟩:=by
   clear hO hfit hdc hWd hWp
   simp[-AV.cellOk,rW,FA,DC,wK,Gx,GW,-List.all_eq_true,ad,hG,Tryz.f3,ao,bU,fT,hack,hakn,ldc,cdc,tdc,gdc]
   done
  have:=(ae aa (aj _) hO (al _) h).1
  rw[←hdc]
  simpa [CallRes.mem] using this
 have hfit' :∀N,ACallsTo Tryz.prog 7 [fT s a] N (.bool true) N:=fun N=>by have:=hfit N;rwa [decide_eq_true h3] at this
 obtain⟨p,t,q,evs,us,new,hK,H0,hnd,hl3⟩:=EL s hs ds hd h3 X a Wp Wd hx
 obtain⟨cs,rfl,H⟩:=H0.toC
 obtain⟨M,hM⟩:∃M,M=[X,Wp,Wd]++new:=⟨_,rfl⟩
 rw[←hM] at H
 have hlen:=H.len
 rw[hlen] at hK hl3
 have hd0:tf [ak] (cs.map unE)=false:=tJ (by simpa using hnd)
 obtain⟨n,hn⟩:∃n,n=cs.length:=⟨_,rfl⟩
 obtain⟨h,hh⟩:∃h,h=aG s p t q n:=⟨_,rfl⟩
 obtain⟨c7,hc7⟩:∃c:Slot,c=.cells true 0 h:=⟨_,rfl⟩
 obtain⟨o1,hp⟩:=(H.more [c7]).hp
 obtain⟨o2,ht⟩:=(H.more [c7]).ht
 obtain⟨x,y1,y2,y3,y4,y5,fD,⟨_,c,gc,uc,hxc⟩,_,⟨lx,_⟩,cx,_⟩:=fY s d od (i%5) (by omega) (M++[c7]) p t o1 o2 hp ht
 have cx' :x.all AV.cellOk=true:=List.all_eq_true.2 cx
 obtain⟨c8,hc8⟩:∃c:Slot,c=.cells true 0 x:=⟨_,rfl⟩
 have hxE:∀Z,EvAt (M++[c7,y1,y2,y3,y4,y5,c8]++Z) x c:=fun Z=>(hxc (M++[c7,y1,y2,y3,y4,y5,c8]) (by
  have hl:(M++[c7]).length=M.length+1:=by simp
  rw[hl]
  exact wP (by rw[dx];rfl) (by rw[show M.length+1+1=M.length+2 from rfl,dx];rfl) (by rw[show M.length+1+2=M.length+3 from rfl,dx];rfl) (by rw[show M.length+1+3=M.length+4 from rfl,dx];rfl) (by rw[show M.length+1+4=M.length+5 from rfl,dx];rfl))).more Z
 obtain⟨B,hB⟩:∃B,tf [ak] ((cs++[c]).map unE)=B:=⟨_,rfl⟩
 have H1:=H.more [c7,y1,y2,y3,y4,y5,c8]
 obtain⟨p',t',q',evs',newA,fA,HA,okA⟩:=qY H1 (by have:=hxE [];simpa using this) gc (by omega) hd0 B hB
 rw[←hn,←hh] at fA
 obtain⟨hA,hhA⟩:∃hA,hA=bif B then iy else aG s p' t' q' (n+1):=⟨_,rfl⟩
 rw[←hhA] at fA
 obtain⟨N,hN⟩:∃N,N=M++(c7::y1::y2::y3::y4::y5::c8::newA):=⟨_,rfl⟩
 have HAN:Tryz.HstC s p' t' q' evs' (cs++[c]) N:=by rw[hN];simpa using HA
 have HN:Tryz.HstC s p t q evs cs N:=by rw[hN];exact H.more _
 have xN:EvAt N x c:=by have:=hxE newA;rw[hN];simpa using this
 have lN:N.length=M.length+(newA.length+7):=by rw[hN];simp
 have h7:N[M.length]? =some (.cells true 0 h):=by rw[hN,yE,hc7];rfl
 have h8:N[M.length+6]? =some (.cells true 0 x):=by rw[hN,dx,hc8];rfl
 obtain⟨D,hDf⟩:∃D,D=evs.flatten:=⟨_,rfl⟩
 have lD:D.length=n*32:=by rw[hDf,H.flat,hn]
 have cD:D.all AV.cellOk=true:=by rw[hDf];exact IA H.cok
 obtain⟨c9,hc9⟩:∃c:Slot,c=.cells true 0 hA:=⟨_,rfl⟩
 have fK:=PZ ((HN.more [c9,c7]).rowE) (by rw[←hDf,lD,hn]) (by omega) (by rw[←hDf];exact cD)
 have l2:(N++[c9,c7]).length=N.length+2:=by simp
 rw[l2,←hn,←hDf] at fK
 obtain⟨W,hW⟩:∃W,W=aG s p t (N.length+5) (n+1):=⟨_,rfl⟩
 have hW4:W=[.slice p 0 s.P.length none,.slice t 0 s.T.length none,.str ak,.slice (N.length+5) 0 (n+1) none]:=by rw[hW];unfold aG evV;rw[if_neg (by omega)]
 obtain⟨N3,hN3⟩:∃N3,N3=N++[c9,.cells true 0 W,.absent,.absent,.cells true 32 x,.cells true 32 (D++x)]:=⟨_,rfl⟩
 have lN3:N3.length=N.length+6:=by rw[hN3];simp
 have H3:Tryz.HstC s p t q evs cs N3:=by rw[hN3];exact HN.more _
 have HA3:Tryz.HstC s p' t' q' evs' (cs++[c]) N3:=by rw[hN3];exact HAN.more _
 have HW:Tryz.HstC s p t (N.length+5) (evs++[x]) (cs++[c]) N3:=by
  refine⟨H3.hp,H3.ht,fun _=>⟨true,?_⟩,by simp[hlen],by rw[List.length_append];simp;omega,fun e he=>?_,fun j e f h1 h2=>?_⟩
  ·rw[hN3,dx,List.flatten_append,←hDf];simp
  ·rcases List.mem_append.1 he with h | h
   ·exact H.good e h
   ·simp at h;subst h;exact gc
  ·by_cases hj:j<evs.length
   ·rw[List.getElem?_append_left hj] at h1
    rw[List.getElem?_append_left (by omega)] at h2
    exact H3.con j e f h1 h2
   ·rw[List.getElem?_append_right (by omega)] at h1
    rw[List.getElem?_append_right (by omega),←hlen] at h2
    match hk:j-evs.length,h1,h2 with
    |0,h1,h2=>simp at h1 h2;subst h1 h2;rw[hN3];exact xN.more _
    |k+1,h1,_=>simp at h1
 have hcl:(cs++[c]).length=n+1:=by simp[hn]
 have fC:=HW.lchk
 rw[hB,hcl,←hW] at fC
 have fM:ACallsTo Tryz.prog 13 [.agg iy] N3 (.bool true) N3:=CQ N3
 have hokA:∀e∈cs++[c],e.Ok:=fun e he=>(HW.good e he).ok
 have hB4:∃(b1 b2 b4 c1 c2 c4:AV) (newB newC:Mem) (xl:List AV),0<n→(ACallsTo Tryz.prog 15 [.agg h,.int .i64 ((n-1:Nat):Int)] N3 (.tuple [.agg [b1,b2,.str ak,b4],.int .i64 0]) (N3++newB)∧
   (b1.cellOk=true∧b2.cellOk=true∧b4.cellOk=true∧b1.known=true∧b2.known=true∧b4.known=true)∧(c1.cellOk=true∧c2.cellOk=true∧c4.cellOk=true∧c1.known=true∧c2.known=true∧c4.known=true)∧RefT (N3++newB).length [b1,b2,.str ak,b4]∧
   ((D.drop ((n-1)*32)).take 32=xl∧(n-1)*32+32≤D.length∧xl.length=32∧xl.all AV.cellOk=true∧RefT (N3++newB).length xl)∧
   ACallsTo Tryz.prog 10 [.agg [b1,b2,.str ak,b4],.agg xl] ((N3++newB)++[.cells true 0 [b1,b2,.str ak,b4]]) (.tuple [.agg [c1,c2,.str ak,c4],.int .i64 0]) (((N3++newB)++[.cells true 0 [b1,b2,.str ak,b4]])++newC)∧
   RefT ((N3++newB).length+(newC.length+1)) [c1,c2,.str ak,c4]∧OkN ((N3++newB).length+(newC.length+1)) newC∧
   ACallsTo Tryz.prog 14 [.agg [c1,c2,.str ak,c4],.agg h] ((N3++newB)++(.cells true 0 [b1,b2,.str ak,b4]::(newC++[.cells true 0 [c1,c2,.str ak,c4]]))) (.bool true) ((N3++newB)++(.cells true 0 [b1,b2,.str ak,b4]::(newC++[.cells true 0 [c1,c2,.str ak,c4]])))):=by
  by_cases h0:0<n
  ·obtain⟨pB,tB,qB,evB,newB,f1,HB,okB⟩:=yZ H3 hd0 (n-1) (by omega)
   have ed:cs.drop (n-1+1)=[]:=List.drop_of_length_le (by omega)
   rw[ed,List.append_nil] at HB
   rw[←hn,←hh] at f1
   have lB:(cs.take (n-1)).length=n-1:=by rw[List.length_take];omega
   obtain⟨xl,hxl⟩:∃xl,evs[n-1]? =some xl:=⟨_,List.getElem?_eq_getElem (by omega)⟩
   obtain⟨cl,hcl2⟩:∃cl,cs[n-1]? =some cl:=⟨_,List.getElem?_eq_getElem (by omega)⟩
   have ecs:cs.take (n-1)++[cl]=cs:=by
    have h1:cs.take (n-1+1)=cs.take (n-1)++[cl]:=by rw[List.take_add_one,hcl2];rfl
    rw[←h1]
    exact List.take_of_length_le (by omega)
   obtain⟨hb,hhb⟩:∃hb,hb=aG s pB tB qB (n-1):=⟨_,rfl⟩
   have HBc:=HB.more [.cells true 0 hb]
   obtain⟨r1,r2⟩:=Mc H.l32 hxl
   rw[←hDf] at r1 r2
   have hxl3:=H3.con _ _ _ hxl hcl2
   obtain⟨pC',tC',qC',evC,newC,f2,HC,okC⟩:=qY HBc ((hxl3.more newB).more [.cells true 0 hb]) (H.good cl (List.mem_of_getElem? hcl2)) (by omega) (by rw[List.map_take];exact M5 (by simpa using hnd) _) false (by rw[ecs];exact hd0)
   rw[ecs] at HC
   rw[lB] at f2
   rw[show n-1+1=n by omega,←hhb] at f2
   have eL:((N3++newB)++[Slot.cells true 0 hb]).length+newC.length=(N3++newB).length+(newC.length+1):=by simp only[List.length_append,List.length_cons,List.length_nil];omega
   have rC:RefT ((N3++newB).length+(newC.length+1)) (aG s pC' tC' qC' n):=by
    have:=HC.refs
    rw[←hn,List.length_append,eL] at this
    exact this
   have rB:RefT (N3++newB).length (aG s pB tB qB (n-1)):=by
    have:=HB.refs
    rwa [lB] at this
   rw[eL] at okC
   rw[←hhb] at f1 rB
   have a1:=(HC.more [.cells true 0 (aG s pC' tC' qC' n)]).hc
   have a2:=(H3.more (newB++(.cells true 0 hb::(newC++[.cells true 0 (aG s pC' tC' qC' n)])))).hc
   rw[←hn] at a1 a2
   have f3:=xi a1 (by simpa using a2) (fun e he=>(H.good e he).ok) (by omega) true (.inl ⟨rfl,rfl⟩)
   rw[←hh] at f3
   rw[hhb] at f1 f2 f3 rB
   refine⟨_,_,evV qB (n-1),_,_,evV qC' n,newB,newC,xl,fun _=>⟨f1,⟨rfl,rfl,gk _ _,rfl,rfl,pL _ _⟩,⟨rfl,rfl,gk _ _,rfl,rfl,pL _ _⟩,rB,⟨r1,r2,H.l32 _ (List.mem_of_getElem? hxl),List.all_eq_true.2 (H.cok _ (List.mem_of_getElem? hxl)),.of (by simpa using (hxl3.more newB).refs 0)⟩,f2,rC,okC,?_⟩⟩
   simpa [aG] using f3
  ·exact⟨.undef,.undef,.undef,.undef,.undef,.undef,[],[],[],fun h=>absurd h h0⟩
 have fK0:ACallsTo Tryz.prog 8 [fT s a] [X,Wp,Wd] (.agg h) (CallRes.mem ⟨.agg h,none,new⟩ [X,Wp,Wd]):=by rw[hh,hn];exact hK
 have fS:=(by
  have a1:=HA3.hc
  have a2:=HW.hc
  rw[hcl] at a1 a2
  rw[hW]
  exact xi a1 a2 hokA (by omega) true (.inl ⟨rfl,rfl⟩):ACallsTo Tryz.prog 14 [.agg (aG s p' t' q' (n+1)),.agg W] N3 (.bool true) N3)
 have rDM:RefT M.length D:=.of (by
  rw[hDf]
  refine io fun e he=>?_
  obtain⟨j,hj⟩:=List.getElem?_of_mem he
  have hl:=(List.getElem?_eq_some_iff.1 hj).1
  simpa using (H.con j e _ hj (List.getElem?_eq_getElem (by omega))).refs 0)
 have rDN:RefT N.length D:=fun f hf=>rDM f fun b hb=>hf b (by omega)
 have rxN:RefT N.length x:=.of (by simpa using xN.refs 0)
 have rhM:RefT M.length (aG s p t q n):=by rw[hn];exact H.refs
 obtain⟨oq,hqD⟩:∃oq,0<n→M[q]? =some (.cells oq 32 D):=by
  by_cases h0:0<n
  ·obtain⟨o,ho⟩:=H.hq (by rintro rfl;simp at hlen;omega)
   exact⟨o,fun _=>by rw[hDf];exact ho⟩
  ·exact⟨true,fun h=>absurd h h0⟩
 obtain⟨b1,b2,b4,g1,g2,g4,newB,newC,xl,hB4⟩:=hB4
 rw[←hdc] at fD ⊢
 clear HA HAN HN HA3 H3 HW H1 hxE hxc hfit gc uc hB hd0 hnd H0 hp ht
 by_cases h0:0<n
 ·obtain⟨w1,w2,w3,w14,w15,w20,w21,w22,w23⟩:=hB4 h0
  have hO:OracleOk Tryz.prog (cd [(6,[],[X,Wp,Wd],⟨.bool true,none,[]⟩),(7,[fT s a],[X,Wp,Wd],⟨.bool true,none,[]⟩),(8,[fT s a],[X,Wp,Wd],⟨.agg h,none,new⟩),(9,[shB s p t,.agg dc,.int .i64 ((i%5:Nat):Int)],M++[c7],⟨.agg x,none,[y1,y2,y3,y4,y5]⟩),(10,[.agg h,.agg x],M++[c7,y1,y2,y3,y4,y5,c8],⟨.tuple [.agg hA,.int .i64 (bif B then 9 else 0)],none,newA⟩),(11,[evV q n],N++[c9,c7],⟨clV (N.length+2) n,none,[.absent,clX 32 n D]⟩),(12,[.agg W],N3,⟨.int .i64 (bif B then 9 else 0),none,[]⟩),(13,[.agg iy],N3,⟨.bool true,none,[]⟩),(14,[.agg (aG s p' t' q' (n+1)),.agg W],N3,⟨.bool true,none,[]⟩),(15,[.agg h,.int .i64 ((n-1:Nat):Int)],N3,⟨.tuple [.agg [b1,b2,.str ak,b4],.int .i64 0],none,newB⟩),(10,[.agg [b1,b2,.str ak,b4],.agg xl],(N3++newB)++[.cells true 0 [b1,b2,.str ak,b4]],⟨.tuple [.agg [g1,g2,.str ak,g4],.int .i64 0],none,newC⟩),(14,[.agg [g1,g2,.str ak,g4],.agg h],(N3++newB)++(.cells true 0 [b1,b2,.str ak,b4]::(newC++[.cells true 0 [g1,g2,.str ak,g4]])),⟨.bool true,none,[]⟩)]):=du fun y hy=>by
   simp only[List.mem_cons,List.not_mem_nil,or_false] at hy
   rcases hy with rfl | rfl | rfl | rfl | rfl | rfl | rfl | rfl | rfl | rfl | rfl | rfl
   ·exact⟨by simpa [CallRes.mem] using mg [X,Wp,Wd],by simp⟩
   ·exact⟨by simpa [CallRes.mem] using hfit' [X,Wp,Wd],by simp⟩
   ·exact⟨fK0,by simp⟩
   ·exact⟨by simpa [CallRes.mem] using fD,by simp⟩
   ·exact⟨by simpa [CallRes.mem] using fA,by simp⟩
   ·exact⟨by simpa [CallRes.mem] using fK,by simp⟩
   ·exact⟨by simpa [CallRes.mem] using fC,by simp⟩
   ·exact⟨by simpa [CallRes.mem] using fM,by simp⟩
   ·exact⟨by simpa [CallRes.mem] using fS,by simp⟩
   ·exact⟨by simpa [CallRes.mem] using w1,by simp⟩
   ·exact⟨by simpa [CallRes.mem] using w20,by simp⟩
   ·exact⟨by simpa [CallRes.mem] using w23,by simp⟩
  obtain⟨O,hOe⟩:∃O,O=cd [(6,[],[X,Wp,Wd],⟨.bool true,none,[]⟩),(7,[fT s a],[X,Wp,Wd],⟨.bool true,none,[]⟩),(8,[fT s a],[X,Wp,Wd],⟨.agg h,none,new⟩),(9,[shB s p t,.agg dc,.int .i64 ((i%5:Nat):Int)],M++[c7],⟨.agg x,none,[y1,y2,y3,y4,y5]⟩),(10,[.agg h,.agg x],M++[c7,y1,y2,y3,y4,y5,c8],⟨.tuple [.agg hA,.int .i64 (bif B then 9 else 0)],none,newA⟩),(11,[evV q n],N++[c9,c7],⟨clV (N.length+2) n,none,[.absent,clX 32 n D]⟩),(12,[.agg W],N3,⟨.int .i64 (bif B then 9 else 0),none,[]⟩),(13,[.agg iy],N3,⟨.bool true,none,[]⟩),(14,[.agg (aG s p' t' q' (n+1)),.agg W],N3,⟨.bool true,none,[]⟩),(15,[.agg h,.int .i64 ((n-1:Nat):Int)],N3,⟨.tuple [.agg [b1,b2,.str ak,b4],.int .i64 0],none,newB⟩),(10,[.agg [b1,b2,.str ak,b4],.agg xl],(N3++newB)++[.cells true 0 [b1,b2,.str ak,b4]],⟨.tuple [.agg [g1,g2,.str ak,g4],.int .i64 0],none,newC⟩),(14,[.agg [g1,g2,.str ak,g4],.agg h],(N3++newB)++(.cells true 0 [b1,b2,.str ak,b4]::(newC++[.cells true 0 [g1,g2,.str ak,g4]])),⟨.bool true,none,[]⟩)]:=⟨_,rfl⟩
  have e1:O (.fn 6) [] ([X,Wp,Wd])=some ⟨.bool true,none,[]⟩:=by rw[hOe];exact bm
  have e2:O (.fn 7) [fT s a] ([X,Wp,Wd])=some ⟨.bool true,none,[]⟩:=by rw[hOe,ag (by decide)];exact bm
  have e3:O (.fn 8) [fT s a] ([X,Wp,Wd])=some ⟨.agg h,none,new⟩:=by rw[hOe,ag (by decide),ag (by decide)];exact bm
  have e4:O (.fn 9) [shB s p t,.agg dc,.int .i64 ((i%5:Nat):Int)] (M++[c7])=some ⟨.agg x,none,[y1,y2,y3,y4,y5]⟩:=by rw[hOe,ag (by decide),ag (by decide),ag (by decide)];exact bm
  have e5:O (.fn 10) [.agg h,.agg x] (M++[c7,y1,y2,y3,y4,y5,c8])=some ⟨.tuple [.agg hA,.int .i64 (bif B then 9 else 0)],none,newA⟩:=by rw[hOe,ag (by decide),ag (by decide),ag (by decide),ag (by decide)];exact bm
  have e6:O (.fn 11) [evV q n] (N++[c9,c7])=some ⟨clV (N.length+2) n,none,[.absent,clX 32 n D]⟩:=by rw[hOe,ag (by decide),ag (by decide),ag (by decide),ag (by decide),ag (by decide)];exact bm
  have e7:O (.fn 12) [.agg W] (N3)=some ⟨.int .i64 (bif B then 9 else 0),none,[]⟩:=by rw[hOe,ag (by decide),ag (by decide),ag (by decide),ag (by decide),ag (by decide),ag (by decide)];exact bm
  have e8:O (.fn 13) [.agg iy] (N3)=some ⟨.bool true,none,[]⟩:=by rw[hOe,ag (by decide),ag (by decide),ag (by decide),ag (by decide),ag (by decide),ag (by decide),ag (by decide)];exact bm
  have e9:O (.fn 14) [.agg (aG s p' t' q' (n+1)),.agg W] (N3)=some ⟨.bool true,none,[]⟩:=by rw[hOe,ag (by decide),ag (by decide),ag (by decide),ag (by decide),ag (by decide),ag (by decide),ag (by decide),ag (by decide)];exact bm
  have e10:O (.fn 15) [.agg h,.int .i64 ((n-1:Nat):Int)] (N3)=some ⟨.tuple [.agg [b1,b2,.str ak,b4],.int .i64 0],none,newB⟩:=by rw[hOe,ag (by decide),ag (by decide),ag (by decide),ag (by decide),ag (by decide),ag (by decide),ag (by decide),ag (by decide),ag (by decide)];exact bm
  have e11:O (.fn 10) [.agg [b1,b2,.str ak,b4],.agg xl] ((N3++newB)++[.cells true 0 [b1,b2,.str ak,b4]])=some ⟨.tuple [.agg [g1,g2,.str ak,g4],.int .i64 0],none,newC⟩:=by rw[hOe,ag (by decide),ag (by decide),ag (by decide),ag (by decide),ip (by simp only[List.length_append,List.length_cons,List.length_nil];omega),ag (by decide),ag (by decide),ag (by decide),ag (by decide),ag (by decide)];exact bm
  have e12:O (.fn 14) [.agg [g1,g2,.str ak,g4],.agg h] ((N3++newB)++(.cells true 0 [b1,b2,.str ak,b4]::(newC++[.cells true 0 [g1,g2,.str ak,g4]])))=some ⟨.bool true,none,[]⟩:=by rw[hOe,ag (by decide),ag (by decide),ag (by decide),ag (by decide),ag (by decide),ag (by decide),ag (by decide),ag (by decide),ip (by simp only[List.length_append,List.length_cons,List.length_nil];omega),ag (by decide),ag (by decide)];exact bm
  rw[←hOe] at hO
  clear hOe
  subst hc7 hc8 hc9 hh hW hWp hWd
  exact xH (O:=O) hO (s:=s) (a:=a) (dc:=dc) (X:=X) (new:=new) (i:=i) (n:=n) (p:=p) (t:=t) (q:=q) (oq:=oq) (B:=B) (x:=x) (D:=D) (hA:=hA) (newA:=newA) (newB:=newB) (newC:=newC) (xl:=xl) (M:=M) (N:=N) (N3:=N3) hack hakn ldc cdc (by omega) hM hhA ⟨rfl,rfl,gk q' (n+1),rfl,rfl,pL q' (n+1)⟩ hN lx cx' lD cD hqD rDN rxN rhM hN3 e1 e2 e3 e4 e5 e6 e7 e8 (fun _=>e9) (fun _=>⟨e10,w2,w3,w14,w15,e11,w21,w22,e12⟩)
 ·have hO:OracleOk Tryz.prog (cd [(6,[],[X,Wp,Wd],⟨.bool true,none,[]⟩),(7,[fT s a],[X,Wp,Wd],⟨.bool true,none,[]⟩),(8,[fT s a],[X,Wp,Wd],⟨.agg h,none,new⟩),(9,[shB s p t,.agg dc,.int .i64 ((i%5:Nat):Int)],M++[c7],⟨.agg x,none,[y1,y2,y3,y4,y5]⟩),(10,[.agg h,.agg x],M++[c7,y1,y2,y3,y4,y5,c8],⟨.tuple [.agg hA,.int .i64 (bif B then 9 else 0)],none,newA⟩),(11,[evV q n],N++[c9,c7],⟨clV (N.length+2) n,none,[.absent,clX 32 n D]⟩),(12,[.agg W],N3,⟨.int .i64 (bif B then 9 else 0),none,[]⟩),(13,[.agg iy],N3,⟨.bool true,none,[]⟩),(14,[.agg (aG s p' t' q' (n+1)),.agg W],N3,⟨.bool true,none,[]⟩)]):=du fun y hy=>by
   simp only[List.mem_cons,List.not_mem_nil,or_false] at hy
   rcases hy with rfl | rfl | rfl | rfl | rfl | rfl | rfl | rfl | rfl
   ·exact⟨by simpa [CallRes.mem] using mg [X,Wp,Wd],by simp⟩
   ·exact⟨by simpa [CallRes.mem] using hfit' [X,Wp,Wd],by simp⟩
   ·exact⟨fK0,by simp⟩
   ·exact⟨by simpa [CallRes.mem] using fD,by simp⟩
   ·exact⟨by simpa [CallRes.mem] using fA,by simp⟩
   ·exact⟨by simpa [CallRes.mem] using fK,by simp⟩
   ·exact⟨by simpa [CallRes.mem] using fC,by simp⟩
   ·exact⟨by simpa [CallRes.mem] using fM,by simp⟩
   ·exact⟨by simpa [CallRes.mem] using fS,by simp⟩
  obtain⟨O,hOe⟩:∃O,O=cd [(6,[],[X,Wp,Wd],⟨.bool true,none,[]⟩),(7,[fT s a],[X,Wp,Wd],⟨.bool true,none,[]⟩),(8,[fT s a],[X,Wp,Wd],⟨.agg h,none,new⟩),(9,[shB s p t,.agg dc,.int .i64 ((i%5:Nat):Int)],M++[c7],⟨.agg x,none,[y1,y2,y3,y4,y5]⟩),(10,[.agg h,.agg x],M++[c7,y1,y2,y3,y4,y5,c8],⟨.tuple [.agg hA,.int .i64 (bif B then 9 else 0)],none,newA⟩),(11,[evV q n],N++[c9,c7],⟨clV (N.length+2) n,none,[.absent,clX 32 n D]⟩),(12,[.agg W],N3,⟨.int .i64 (bif B then 9 else 0),none,[]⟩),(13,[.agg iy],N3,⟨.bool true,none,[]⟩),(14,[.agg (aG s p' t' q' (n+1)),.agg W],N3,⟨.bool true,none,[]⟩)]:=⟨_,rfl⟩
  have e1:O (.fn 6) [] ([X,Wp,Wd])=some ⟨.bool true,none,[]⟩:=by rw[hOe];exact bm
  have e2:O (.fn 7) [fT s a] ([X,Wp,Wd])=some ⟨.bool true,none,[]⟩:=by rw[hOe,ag (by decide)];exact bm
  have e3:O (.fn 8) [fT s a] ([X,Wp,Wd])=some ⟨.agg h,none,new⟩:=by rw[hOe,ag (by decide),ag (by decide)];exact bm
  have e4:O (.fn 9) [shB s p t,.agg dc,.int .i64 ((i%5:Nat):Int)] (M++[c7])=some ⟨.agg x,none,[y1,y2,y3,y4,y5]⟩:=by rw[hOe,ag (by decide),ag (by decide),ag (by decide)];exact bm
  have e5:O (.fn 10) [.agg h,.agg x] (M++[c7,y1,y2,y3,y4,y5,c8])=some ⟨.tuple [.agg hA,.int .i64 (bif B then 9 else 0)],none,newA⟩:=by rw[hOe,ag (by decide),ag (by decide),ag (by decide),ag (by decide)];exact bm
  have e6:O (.fn 11) [evV q n] (N++[c9,c7])=some ⟨clV (N.length+2) n,none,[.absent,clX 32 n D]⟩:=by rw[hOe,ag (by decide),ag (by decide),ag (by decide),ag (by decide),ag (by decide)];exact bm
  have e7:O (.fn 12) [.agg W] (N3)=some ⟨.int .i64 (bif B then 9 else 0),none,[]⟩:=by rw[hOe,ag (by decide),ag (by decide),ag (by decide),ag (by decide),ag (by decide),ag (by decide)];exact bm
  have e8:O (.fn 13) [.agg iy] (N3)=some ⟨.bool true,none,[]⟩:=by rw[hOe,ag (by decide),ag (by decide),ag (by decide),ag (by decide),ag (by decide),ag (by decide),ag (by decide)];exact bm
  have e9:O (.fn 14) [.agg (aG s p' t' q' (n+1)),.agg W] (N3)=some ⟨.bool true,none,[]⟩:=by rw[hOe,ag (by decide),ag (by decide),ag (by decide),ag (by decide),ag (by decide),ag (by decide),ag (by decide),ag (by decide)];exact bm
  rw[←hOe] at hO
  clear hOe
  subst hc7 hc8 hc9 hh hW hWp hWd
  exact xH (O:=O) hO (s:=s) (a:=a) (dc:=dc) (X:=X) (new:=new) (i:=i) (n:=n) (p:=p) (t:=t) (q:=q) (oq:=oq) (B:=B) (x:=x) (D:=D) (hA:=hA) (newA:=newA) (newB:=newB) (newC:=newC) (xl:=xl) (M:=M) (N:=N) (N3:=N3) hack hakn ldc cdc (by omega) hM hhA ⟨rfl,rfl,gk q' (n+1),rfl,rfl,pL q' (n+1)⟩ hN lx cx' lD cD hqD rDN rxN rhM hN3 e1 e2 e3 e4 e5 e6 e7 e8 (fun _=>e9) (b1:=.nilslice) (b2:=.nilslice) (b4:=.nilslice) (c1:=.nilslice) (c2:=.nilslice) (c4:=.nilslice) (fun h=>absurd h h0)
end Go.Proofs
