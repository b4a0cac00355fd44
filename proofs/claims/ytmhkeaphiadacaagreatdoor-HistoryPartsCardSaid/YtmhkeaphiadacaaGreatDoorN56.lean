/- See N58. -/
import Derived.Test.YtmhkeaphiadacaaGreatDoorN54
import Derived.Test.YtmhkeaphiadacaaGreatDoorN55
import Derived.Test.YtmhkeaphiadacaaGreatDoorN49
set_option linter.all false
namespace Go.Eng
theorem AW{mem:Mem}{b es:Nat}{own:Bool}{A Z:List AV}(hb:b<mem.length) (x:Nat) (h:dv (mem.set b (.cells own es A)) x):dv (mem.set b (.cells own es (A++Z))) x:=by
 obtain⟨s,h1,h2⟩:=h
 by_cases hx:x=b
 ·subst hx
  rw[List.getElem?_set_self hb] at h1;cases h1
  exact⟨_,List.getElem?_set_self hb,h2⟩
 ·rw[List.getElem?_set_ne (Ne.symm hx)] at h1
  exact⟨s,by rw[List.getElem?_set_ne (Ne.symm hx)];exact h1,h2⟩
theorem HRel.less{base:Nat}{μ:Nat→Place}{mem:Mem}{w:World}{b es:Nat}{own:Bool}{A Z:List AV}(hb:b<mem.length) (hH:HRel base μ (mem.set b (.cells own es (A++Z))) w):HRel base μ (mem.set b (.cells own es A)) w:=by
 have low:∀x t,(mem.set b (.cells own es A))[x]? =some t→x≠b→(mem.set b (.cells own es (A++Z)))[x]? =some t:=fun x t h hx=>by
  rw[List.getElem?_set_ne (Ne.symm hx)] at h ⊢;exact h
 have hs:∀C,(mem.set b (Slot.cells own es C))[b]? =some (.cells own es C):=fun C=>List.getElem?_set_self hb
 have ow:=AW (es:=es) (own:=own) (A:=A) (Z:=Z) hb
 refine⟨hH.base_le,fun x t ht=>?_,fun x x' t hx hx' hne hxx=>?_⟩
 ·rw[List.length_set]
  by_cases hx:x=b
  ·subst hx
   rw[hs] at ht;cases ht
   have:=hH.slot x _ (hs _)
   rw[List.length_set] at this
   simp only[SRel] at this ⊢
   obtain⟨cur,e,fr,h1,h2,h3,h4,h5⟩:=this
   refine⟨cur,e,fr,h1,h2,by rw[List.length_append] at h3;omega,fun j v hv=>h4 j v ?_,h5⟩
   rw[List.getElem?_append_left (List.getElem?_eq_some_iff.1 hv).1];exact hv
  ·have:=hH.slot x t (low x t ht hx)
   rwa [List.length_set] at this
 ·by_cases hx2:x' =b
  ·subst hx2
   exact hH.sep x x' _ (ow x hx) (hs _) (by intro h;cases h) hxx
  ·exact hH.sep x x' t (ow x hx) (low x' t hx' hx2) hne hxx
theorem Step.less{m0:Nat}{μ μ' :Nat→Place}{M mem:Mem}{w w' :World}{b es:Nat}{own:Bool}{A Z:List AV}(hb:b<mem.length) (h:Step m0 μ M w μ' (mem.set b (.cells own es (A++Z))) w'):Step m0 μ M w μ' (mem.set b (.cells own es A)) w' :=by
 obtain⟨a1,a2,a3,a4,a5,a6,a7,a8,a9⟩:=h
 exact⟨by simpa using a1,a2,a3,a4,a5,a6,a7,fun x hx hm=>a8 x (AW hb x hx) hm,a9⟩
theorem ACallsTo.room{P:Program}{f:FuncId}{b es n n' :Nat}{own:Bool}{cs A:List AV}{Z:Nat→List AV}{args:List AV}{M:Mem}(h0:0<es) (h1:es<1000) (hb:M[b]? =some (.cells own es cs)) (hl:n*es≤cs.length)
  (h:∀c,n≤c→ACallsTo P f (.slice b 0 n (some c)::args) M (.slice b 0 n' (some c)) (M.set b (.cells own es (A++Z c)))):ACallsTo P f (.slice b 0 n none::args) M (.slice b 0 n' none) (M.set b (.cells own es A)):=by
 have lb:=(List.getElem?_eq_some_iff.1 hb).1
 refine⟨(h n (Nat.le_refl _)).1,fun base μ w Vs hG hH hV=>?_⟩
 have hs:=hH.slot b _ hb
 simp only[SRel] at hs
 obtain⟨cur,el,fr,hs1,hs2,hs3,_,_⟩:=hs
 have hs2:=hs2.es h1
 have hcap:n≤fY (μ b) 0 none:=by
  simp only[fY]
  rw[hs2,Nat.le_div_iff_mul_le h0,Nat.sub_zero]
  omega
 have hV' :VRels μ M.length (.slice b 0 n (some (fY (μ b) 0 none))::args) Vs:=by
  cases Vs with
  |nil=>exact hV
  |cons V Vs=>
   simp only[VRels,VRel] at hV ⊢
   exact hV
 refine((h _ hcap).2 base μ w Vs hG hH hV').mono ?_
 rintro e w' ⟨V,v,m,μ',e1,hv,hH',hst,rfl,rfl⟩
 refine⟨V,_,_,μ',e1,?_,hH'.less lb,hst.less lb,rfl,rfl⟩
 simp only[VRel,List.length_set] at hv ⊢
 refine⟨hv.1,hv.2.trans ?_⟩
 simp only[fY,hst.agree b lb]
end Go.Eng
namespace Go.Proofs
open Go.Eng
theorem Ju{f:Nat→Bool}{A C:List AV}(h:∀y∈A,y∈C) (hC:AV.refsOkL f C=true):AV.refsOkL f A=true:=by
 have key:∀L:List AV,AV.refsOkL f L=true↔∀y∈L,AV.refsOk f y=true:=fun L=>by
  induction L with
  |nil=>simp[AV.refsOkL]
  |cons x L ih=>simp[AV.refsOkL,ih]
 exact(key A).2 fun y hy=>(key C).1 hC y (h y hy)
set_option maxRecDepth 16384 in
set_option maxHeartbeats 8000000 in
theorem Mu{M:Mem}{b n i k r c:Nat}{C D:List AV}(hb:M[b]? =some (.cells true 32 C)) (hl:C.length=n*32) (hk:k=i+1) (hr:n=k+r) (hn:n≤1000) (hc:n≤c) (hall:C.all AV.cellOk=true) (hrf:AV.refsOkL (fun a=>decide (a<M.length)) C=true) (hD:D=C.take (i*32)++C.drop (k*32)):
  ∃Z,ACallsTo Tryz.prog 18 [.slice b 0 n (some c),.int .i64 i,.int .i64 k] M (.slice b 0 (i+r) (some c)) (M.set b (.cells true 32 (D++Z))):=by
 have hG:aI Tryz.prog 18=some Tryz.f18:=by kernel_rfl
 have lb:=(List.getElem?_eq_some_iff.1 hb).1
 obtain⟨os',hops⟩:∃os',aG Tryz.f18=os' :=⟨_,rfl⟩
 have hbs' :=aV hops (ls:=[[0,0,3,0,0,24,63,127]]) (by kernel_rfl)
 simp only[aG,bC,Tryz.f18,List.nil_append,List.append_nil,List.cons_append] at hops
 subst hops
 simp only[List.map_cons,List.map_nil,List.cons.injEq,and_true] at hbs'
 have t1:(C.drop (k*32)).take (r*32)=C.drop (k*32):=List.take_of_length_le (by rw[List.length_drop];omega)
 have lD:D.length=(i+r)*32:=by rw[hD,List.length_append,List.length_take,List.length_drop];omega
 obtain⟨E,hE⟩:∃E,E=C.drop ((i+r)*32):=⟨_,rfl⟩
 have lE:E.length=32:=by rw[hE,List.length_drop];omega
 have hki:((i:Int)=(k:Int))=False:=by rw[eq_iff_iff,iff_false];omega
 have hik:(i:Int)≤(k:Int):=by omega
 have hkn:(k:Int)≤(n:Int):=by omega
 have hnc:(n:Int)≤(c:Int):=by omega
 have hic:(i:Int)≤(c:Int):=by omega
 have hrn:((i+r:Nat):Int)≤(n:Int):=by omega
 have e1:n-k=r:=by omega
 have e2:n-(i+r)=1:=by omega
 have h1:(i+r)*32≤C.length:=by rw[hl];exact Nat.mul_le_mul_right _ (by omega)
 have h2:k*32+r*32≤C.length:=by rw[hl,hr];omega
 have h3:i+r≤c:=by omega
 have p1:(i=k)=False:=by rw[eq_iff_iff,iff_false];omega
 have p2:i≤k:=by omega
 have p3:k≤n:=by omega
 have p4:i≤c:=by omega
 have p5:i+r≤n:=by omega
 have p6:¬((n:Int)=(i:Int)):=by omega
 have p7:¬n=i:=by omega
 have p8:¬c=i+r:=by omega
 have p9:¬((c:Int)=(i:Int)+(r:Int)):=by omega
 have p10:(i:Int)+(r:Int)≤(n:Int):=by omega
 have cD:D.all AV.cellOk=true:=by
  rw[List.all_eq_true] at hall ⊢
  intro y hy
  rw[hD,List.mem_append] at hy
  rcases hy with hy | hy
  ·exact hall y (List.mem_of_mem_take hy)
  ·exact hall y (List.mem_of_mem_drop hy)
 have cN:(C.drop (k*32)).all AV.cellOk=true:=by
  rw[List.all_eq_true] at hall ⊢
  exact fun y hy=>hall y (List.mem_of_mem_drop hy)
 have refs_sub:∀A:List AV,(∀y∈A,y∈C)→AV.refsOkL (fun a=>decide (a<M.length)) A=true:=fun A hA=>Ju hA hrf
 have rD:=refs_sub D (fun y hy=>by
  rw[hD,List.mem_append] at hy
  rcases hy with hy | hy
  ·exact List.mem_of_mem_take hy
  ·exact List.mem_of_mem_drop hy)
 have rE:=refs_sub E (fun y hy=>by rw[hE] at hy;exact List.mem_of_mem_drop hy)
 have tDE:(D++E).take ((i+r)*32)=D:=by rw[←lD,List.take_left'];rfl
 have hS:∀X,(M.set b X)[b]? =some X:=fun X=>List.getElem?_set_self lb
 have hdS:∀X,(M.set b X).drop M.length=[]:=fun X=>List.drop_of_length_le (by rw[List.length_set];exact Nat.le_refl _)
 have hcl:∃R,∀x,uG (az Tryz.prog) (M.set b (.cells true 32 (D++E))) 39 (.slice b ((i+r)*32) 1 x)=some (M.set b (.cells true 32 (D++R))):=by
  have h:∃R,uG (az Tryz.prog) (M.set b (.cells true 32 (D++E))) 39 (.slice b ((i+r)*32) 1 none)=some (M.set b (.cells true 32 (D++R))):=by
   simp[-List.all_eq_true,-AV.cellOk,vS,uG,hS,lD,lE,tDE,List.set_set,ef]
   exact⟨_,rfl⟩
  obtain⟨R,h⟩:=h
  exact⟨R,fun x=>h⟩
 obtain⟨R,hcl⟩:=hcl
 have tn:((i:Int)+(r:Int)).toNat=i+r:=by omega
 have tn0:0≤(i:Int)+(r:Int):=by omega
 have h:∃R,aT (az Tryz.prog) (fun _=>[]) (aI Tryz.prog) aE 1 18 [.slice b 0 n (some c),.int .i64 i,.int .i64 k] M=some R∧R.1=.slice b 0 (i+r) (some c)∧∃Z,R.2=M.set b (.cells true 32 (D++Z)):=by
  by_cases hck:c=k
  ·obtain rfl:n=k:=by omega
   obtain rfl:c=n:=hck
   obtain rfl:r=0:=by omega
   have d0:C.drop (c*32)=[]:=List.drop_of_length_le (by omega)
   rw[d0,List.append_nil] at hD
   have hDE:∀X,C.take (i*32)++X=D++X:=fun X=>by rw[hD]
   have hE' :C.drop (i*32)=E:=by rw[hE,Nat.add_zero]
   have tDE' :(D++E).take (i*32)=D:=by rw[Nat.add_zero] at tDE;exact tDE
   have lD' :D.length=i*32:=by rw[lD,Nat.add_zero]
   have h1' :i*32≤C.length:=by rw[Nat.add_zero] at h1;exact h1
   rw[Nat.add_zero] at hcl
   have hcl' :=hcl
   have e3:c-i=1:=by omega
   have h3' :i≤c:=by omega
   have p12:¬((c:Int)=(i:Int)):=by omega
   have p13:¬c=i:=by omega
   simp[-getElem?_pos,-AV.cellOk,-AV.known,-AV.cells,-cX,-bc,-aU,-aF,-AV.refsOk,-Slot.refsOk,-List.all_eq_true,vS,rS,mS,cM,cu hbs',dT,cL,gC,dO,cf,nL,bef,Nat.testBit,bB,ar,aT,hG,Tryz.f18,hb,hki,hik,hic,e2,h3,cD,hS,p1,p2,lD,lE,hDE,hE',rD,rE,tDE',lb,hdS,hS,List.set_set,hcl',e3,lD',h1',p12,p13,h3']
   exact⟨_,rfl⟩
  ·have hDE:∀X,C.take (i*32)++(C.drop (k*32)++X)=D++X:=fun X=>by rw[hD,List.append_assoc]
   simp[-getElem?_pos,-AV.cellOk,-AV.known,-AV.cells,-cX,-bc,-aU,-aF,-AV.refsOk,-Slot.refsOk,-List.all_eq_true,vS,rS,mS,cM,cu hbs',dT,cL,gC,dO,cf,nL,bef,Nat.testBit,bB,ar,aT,hG,Tryz.f18,hb,hki,hik,hkn,hnc,hic,hrn,e1,e2,h1,h2,h3,t1,cN,hS,hc,p1,p2,p3,p4,p5,p6,p7,p8,p9,p10,hck,show¬((c:Int)=(k:Int)) by omega,lD,lE,hDE,←hE,rD,rE,tDE,lb,hdS,List.set_set,hcl,tn,tn0]
   exact⟨_,rfl⟩
 obtain⟨⟨v,m⟩,g1,g2,Z,g3⟩:=h
 subst g2;subst g3
 exact⟨Z,aP aa (ai _) (af _) (aj _) g1⟩
noncomputable def bw:Code:=match Tryz.f4.body with
 |some c=>c
 |none=>.skip
noncomputable def iw:Code:=y8 5 bw
noncomputable def ix:Code:=y8 6 bw
noncomputable def lk:Code:=y8 7 bw
theorem FD:iw=.seq (gm 5 bw) ix:=by kernel_rfl
theorem FE:ix=.seq (gm 6 bw) lk:=by kernel_rfl
theorem Mw:lk=.seq (gm 7 bw) (.seq (gm 8 bw) (.seq (gm 9 bw) .ret)):=by kernel_rfl
def dw(O:Oracle) (K:Nat) (T:Code) (N:Mem) (env:Env):Prop:=
 ∀d:Bool,∃r:Env×Mem×Bool,aO (az Tryz.prog) (fun _=>[]) O K 112 1 true T ⟨env,N,d⟩=some (.ret,⟨r.1,r.2.1,r.2.2⟩)∧ac r.1 4=.bool true∧r.2.1.take 1=N.take 1
set_option maxRecDepth 16384 in
set_option maxHeartbeats 8000000 in
theorem KV{O:Oracle}{N:Mem}{a5 a8 K n i q:Nat}{o5 o8:Bool}{pv tv ev b1 b2 b4:AV}{b3:List UInt8}{D D' :List AV}(hm:1≤N.length) (hn:n≤1000) (hi:i<n)
  (cp:pv.cellOk=true) (ct:tv.cellOk=true) (ce:ev.cellOk=true) (kk:pv.known=true∧tv.known=true∧ev.known=true)
  (d1:b1.cellOk=true) (d2:b2.cellOk=true) (d4:b4.cellOk=true) (kb:b1.known=true∧b2.known=true∧b4.known=true)
  (h5:N[a5]? =some (.cells o5 0 [pv,tv,.str ak,ev])) (h8:N[a8]? =some (.cells o8 0 [b1,b2,.str b3,b4])) (hev:ev=.slice q 0 n none)
  (eK:O (.fn 11) [.slice q 0 n none] (N++[.cells true 0 [pv,tv,.str ak,ev]])=some ⟨.slice (N.length+2) 0 n none,none,[.absent,.cells true 32 D]⟩)
  (eX:O (.fn 18) [.slice (N.length+2) 0 n none,.int .i64 i,.int .i64 ((i+1:Nat):Int)] (N++[.cells true 0 [pv,tv,.str ak,ev],.absent,.cells true 32 D])=some ⟨.slice (N.length+2) 0 (n-1) none,some (N++[.cells true 0 [pv,tv,.str ak,ev],.absent,.cells true 32 D']),[]⟩)
  (eS:O (.fn 14) [.agg [b1,b2,.str b3,b4],.agg [pv,tv,.str ak,.slice (N.length+2) 0 (n-1) none]] (N++[.cells true 0 [pv,tv,.str ak,.slice (N.length+2) 0 (n-1) none],.absent,.cells true 32 D'])=some ⟨.bool true,none,[]⟩)
  (eQ:O (.fn 17) [.agg [b1,b2,.str b3,b4],.agg [pv,tv,.str ak,ev]] (N++[.cells true 0 [pv,tv,.str ak,.slice (N.length+2) 0 (n-1) none],.absent,.cells true 32 D'])=some ⟨.bool false,none,[]⟩)
  {env:Env}(l1:ac env 1=.int .i64 i) (l5:ac env 5=.ptr a5 0) (l8:ac env 8=.ptr a8 0) (l9:ac env 9=.int .i64 0):
  dw O K lk N env:=by
 intro d
 have w0:IntKind.i64.wrap 0=0:=rfl
 have w1:IntKind.i64.wrap 1=1:=rfl
 have w3:IntKind.i64.wrap 3=3:=rfl
 have hjl:∀j,(N.length+j<1)=False:=fun j=>by rw[eq_iff_iff,iff_false];omega
 have hjl0:(N.length<1)=False:=by rw[eq_iff_iff,iff_false];omega
 have tk:∀Z:Mem,(N++Z).take 1=N.take 1:=fun Z=>List.take_append_of_le_length (by omega)
 have wi:IntKind.i64.wrap ((i:Int)+1)=((i+1:Nat):Int):=by rw[al (by omega) (by omega)];omega
 obtain⟨k1,k2,k4⟩:=kk
 obtain⟨kb1,kb2,kb4⟩:=kb
 have l5a:=(List.getElem?_eq_some_iff.1 h5).1
 have l8a:=(List.getElem?_eq_some_iff.1 h8).1
 have h5' :∀Z,(N++Z)[a5]? =some (.cells o5 0 [pv,tv,.str ak,ev]):=fun Z=>by rw[List.getElem?_append_left l5a];exact h5
 have h8' :∀Z,(N++Z)[a8]? =some (.cells o8 0 [b1,b2,.str b3,b4]):=fun Z=>by rw[List.getElem?_append_left l8a];exact h8
 rw[Mw]
 obtain⟨j,hj⟩:∃j:Nat,j=i+1:=⟨_,rfl⟩
 rw[←hj] at wi eX
 subst hev
 have h:∃e',aO (az Tryz.prog) (fun _=>[]) O K 112 1 true (.seq (gm 7 bw) (.seq (gm 8 bw) (.seq (gm 9 bw) .ret))) ⟨env,N,d⟩=some (.ret,e')∧ac e'.env 4=.bool true∧e'.mem.take 1=N.take 1:=by
  clear hj
  simp[-AV.cellOk,-AV.known,-AV.cells,vS,-gI,-List.all_eq_true,bw,Tryz.f4,gm,mS,l1,l5,l8,l9,h5,h5',h8',cp,ct,d1,d2,d4,k1,k2,kb1,kb2,kb4,eK,eX,eS,eQ,wi,hjl,hjl0,tk,w0,w1]
  done
 obtain⟨⟨e1,e2,e3⟩,k1,k2,k3⟩:=h
 exact⟨(e1,e2,e3),k1,k2,k3⟩
set_option maxRecDepth 16384 in
set_option maxHeartbeats 8000000 in
theorem xG{O:Oracle}{N:Mem}{a5 a8 K n:Nat}{i:Int}{o5 o8:Bool}{pv tv ev b1 b2 b4:AV}{b3:List UInt8}(hm:1≤N.length) (hi:i<0∨(n:Int)≤i)
  (cp:pv.cellOk=true) (ct:tv.cellOk=true) (ce:ev.cellOk=true) (kk:pv.known=true∧tv.known=true∧ev.known=true)
  (d1:b1.cellOk=true) (d2:b2.cellOk=true) (d4:b4.cellOk=true) (kb:b1.known=true∧b2.known=true∧b4.known=true)
  (h5:N[a5]? =some (.cells o5 0 [pv,tv,.str ak,ev])) (h8:N[a8]? =some (.cells o8 0 [b1,b2,.str b3,b4])) (hlen:∀N,gI (az Tryz.prog) 39 N ev=some (.int .i64 n))
  (eE:O (.fn 13) [.agg [b1,b2,.str b3,b4]] N=some ⟨.bool true,none,[]⟩)
  {env:Env}(l1:ac env 1=.int .i64 i) (l5:ac env 5=.ptr a5 0) (l8:ac env 8=.ptr a8 0) (l9:ac env 9=.int .i64 3):
  dw O K ix N env:=by
 intro d
 have w0:IntKind.i64.wrap 0=0:=rfl
 have w1:IntKind.i64.wrap 1=1:=rfl
 have w3:IntKind.i64.wrap 3=3:=rfl
 have hjl:∀j,(N.length+j<1)=False:=fun j=>by rw[eq_iff_iff,iff_false];omega
 have hjl0:(N.length<1)=False:=by rw[eq_iff_iff,iff_false];omega
 obtain⟨kb1,kb2,kb4⟩:=kb
 rw[FE]
 obtain⟨T,hT⟩:∃T,T=lk:=⟨_,rfl⟩
 rw[←hT]
 have h:∃e',aO (az Tryz.prog) (fun _=>[]) O K 112 1 true (.seq (gm 6 bw) T) ⟨env,N,d⟩=some (.ret,e')∧ac e'.env 4=.bool true∧e'.mem.take 1=N.take 1:=by
  clear hT
  by_cases hz:i<0
  ·simp[-AV.cellOk,-AV.known,-AV.cells,vS,-gI,-List.all_eq_true,bw,Tryz.f4,gm,l1,l5,l8,l9,h5,h8,hlen,ce,d1,d2,d4,kb1,kb2,kb4,eE,hz,w0,w3]
   done
  ·have hn:(n:Int)≤i:=by omega
   simp[-AV.cellOk,-AV.known,-AV.cells,vS,-gI,-List.all_eq_true,bw,Tryz.f4,gm,l1,l5,l8,l9,h5,h8,hlen,ce,d1,d2,d4,kb1,kb2,kb4,eE,hz,hn,w0,w3]
   done
 obtain⟨⟨e1,e2,e3⟩,k1,k2,k3⟩:=h
 exact⟨(e1,e2,e3),k1,k2,k3⟩
set_option maxRecDepth 16384 in
set_option maxHeartbeats 8000000 in
theorem IH{O:Oracle}{N:Mem}{a5 a8 K n:Nat}{i:Int}{e9:AV}{o5:Bool}{pv tv ev:AV}(hm:1≤N.length) (hi0:0≤i) (hi:i<(n:Int))
  (ce:ev.cellOk=true) (h5:N[a5]? =some (.cells o5 0 [pv,tv,.str ak,ev])) (hlen:∀N,gI (az Tryz.prog) 39 N ev=some (.int .i64 n))
  {env:Env}(l1:ac env 1=.int .i64 i) (l5:ac env 5=.ptr a5 0) (l8:ac env 8=.ptr a8 0) (l9:ac env 9=e9)
  (hT:∀env:Env,(ac env 1=.int .i64 i∧ac env 5=.ptr a5 0∧ac env 8=.ptr a8 0∧ac env 9=e9)→dw O K lk N env):
  dw O K ix N env:=by
 intro d
 have w0:IntKind.i64.wrap 0=0:=rfl
 have w1:IntKind.i64.wrap 1=1:=rfl
 have w3:IntKind.i64.wrap 3=3:=rfl
 have hjl:∀j,(N.length+j<1)=False:=fun j=>by rw[eq_iff_iff,iff_false];omega
 have hjl0:(N.length<1)=False:=by rw[eq_iff_iff,iff_false];omega
 rw[FE]
 have z1:¬i<0:=by omega
 have z2:¬(n:Int)≤i:=by omega
 obtain⟨F,hF⟩:=q9 (β:=Env×Mem×Bool) (fun env d h=>hT env h d)
 have hF1:=fun env d h=>(hF env d h).1
 have hF2:=fun env d h=>(hF env d h).2.1
 have hF3:=fun env d h=>(hF env d h).2.2
 clear hF hT
 obtain⟨T,hTe⟩:∃T,T=lk:=⟨_,rfl⟩
 rw[←hTe]
 simp only[←hTe] at hF1
 have h:∃e',aO (az Tryz.prog) (fun _=>[]) O K 112 1 true (.seq (gm 6 bw) T) ⟨env,N,d⟩=some (.ret,e')∧ac e'.env 4=.bool true∧e'.mem.take 1=N.take 1:=by
  clear hTe
  simp[-AV.cellOk,-AV.known,-AV.cells,vS,-gI,-List.all_eq_true,bw,Tryz.f4,gm,l1,l5,l8,l9,h5,hlen,ce,z1,z2,w0,w3,hF1,hF2,hF3]
  done
 obtain⟨⟨e1,e2,e3⟩,k1,k2,k3⟩:=h
 exact⟨(e1,e2,e3),k1,k2,k3⟩
set_option maxRecDepth 16384 in
set_option maxHeartbeats 8000000 in
theorem IG{O:Oracle}{N:Mem}{a5 a6 a8 K n:Nat}{i:Int}{e9:AV}{o5 o6:Bool}{pv tv ev u1 u2 u4:AV}{u3:List UInt8}(hm:1≤N.length) (hi:i<0∨(n:Int)<i)
  (ce:ev.cellOk=true) (v1:u1.cellOk=true) (v2:u2.cellOk=true) (v4:u4.cellOk=true) (ku:u1.known=true∧u2.known=true∧u4.known=true)
  (h5:N[a5]? =some (.cells o5 0 [pv,tv,.str ak,ev])) (h6:N[a6]? =some (.cells o6 0 [u1,u2,.str u3,u4])) (hlen:∀N,gI (az Tryz.prog) 39 N ev=some (.int .i64 n))
  (eE:O (.fn 13) [.agg [u1,u2,.str u3,u4]] N=some ⟨.bool true,none,[]⟩)
  {env:Env}(l1:ac env 1=.int .i64 i) (l5:ac env 5=.ptr a5 0) (l6:ac env 6=.ptr a6 0) (l7:ac env 7=.int .i64 3) (l8:ac env 8=.ptr a8 0) (l9:ac env 9=e9)
  (hT:∀env:Env,(ac env 1=.int .i64 i∧ac env 5=.ptr a5 0∧ac env 8=.ptr a8 0∧ac env 9=e9)→dw O K ix N env):
  dw O K iw N env:=by
 intro d
 have w0:IntKind.i64.wrap 0=0:=rfl
 have w1:IntKind.i64.wrap 1=1:=rfl
 have w3:IntKind.i64.wrap 3=3:=rfl
 have hjl:∀j,(N.length+j<1)=False:=fun j=>by rw[eq_iff_iff,iff_false];omega
 have hjl0:(N.length<1)=False:=by rw[eq_iff_iff,iff_false];omega
 obtain⟨k1,k2,k4⟩:=ku
 rw[FD]
 obtain⟨F,hF⟩:=q9 (β:=Env×Mem×Bool) (fun env d h=>hT env h d)
 have hF1:=fun env d h=>(hF env d h).1
 have hF2:=fun env d h=>(hF env d h).2.1
 have hF3:=fun env d h=>(hF env d h).2.2
 clear hF hT
 obtain⟨T,hTe⟩:∃T,T=ix:=⟨_,rfl⟩
 rw[←hTe]
 simp only[←hTe] at hF1
 have h:∃e',aO (az Tryz.prog) (fun _=>[]) O K 112 1 true (.seq (gm 5 bw) T) ⟨env,N,d⟩=some (.ret,e')∧ac e'.env 4=.bool true∧e'.mem.take 1=N.take 1:=by
  clear hTe
  by_cases hz:i<0
  ·simp[-AV.cellOk,-AV.known,-AV.cells,vS,-gI,-List.all_eq_true,bw,Tryz.f4,gm,l1,l5,l6,l7,l8,l9,h5,h6,hlen,ce,v1,v2,v4,k1,k2,k4,eE,hz,w0,w3,hF1,hF2,hF3]
   done
  ·have hn:(n:Int)<i:=by omega
   simp[-AV.cellOk,-AV.known,-AV.cells,vS,-gI,-List.all_eq_true,bw,Tryz.f4,gm,l1,l5,l6,l7,l8,l9,h5,h6,hlen,ce,v1,v2,v4,k1,k2,k4,eE,hz,hn,w0,w3,hF1,hF2,hF3]
   done
 obtain⟨⟨e1,e2,e3⟩,k1,k2,k3⟩:=h
 exact⟨(e1,e2,e3),k1,k2,k3⟩
set_option maxRecDepth 16384 in
set_option maxHeartbeats 8000000 in
theorem xF{O:Oracle}{N:Mem}{a5 a6 a8 K n i:Nat}{e9 sv:AV}{o5 o6:Bool}{pv tv ev u1 u2 u4:AV}{u3:List UInt8}(hm:1≤N.length) (hi:i≤n)
  (cp:pv.cellOk=true) (ct:tv.cellOk=true) (ce:ev.cellOk=true) (kk:pv.known=true∧tv.known=true∧ev.known=true) (cs:sv.cellOk=true) (ks:sv.known=true) (kc:sv.cells=[sv]) (v1:u1.cellOk=true) (v2:u2.cellOk=true) (v4:u4.cellOk=true) (ku:u1.known=true∧u2.known=true∧u4.known=true)
  (h5:N[a5]? =some (.cells o5 0 [pv,tv,.str ak,ev])) (h6:N[a6]? =some (.cells o6 0 [u1,u2,.str u3,u4])) (hlen:∀N,gI (az Tryz.prog) 39 N ev=some (.int .i64 n))
  (hsl:∀Z,nE (az Tryz.prog) (N++Z) 39 ev none (some (.int .i64 i))=some sv)
  (eS:O (.fn 14) [.agg [u1,u2,.str u3,u4],.agg [pv,tv,.str ak,sv]] (N++[.cells true 0 [pv,tv,.str ak,sv]])=some ⟨.bool true,none,[]⟩)
  (eQ:O (.fn 17) [.agg [u1,u2,.str u3,u4],.agg [pv,tv,.str ak,ev]] (N++[.cells true 0 [pv,tv,.str ak,sv]])=some ⟨.bool (decide (i=n)),none,[]⟩)
  {env:Env}(l1:ac env 1=.int .i64 i) (l5:ac env 5=.ptr a5 0) (l6:ac env 6=.ptr a6 0) (l7:ac env 7=.int .i64 0) (l8:ac env 8=.ptr a8 0) (l9:ac env 9=e9)
  (r5:RefT N.length [pv,tv,.str ak,ev]) (r6:RefT N.length [u1,u2,.str u3,u4]) (rW:RefT N.length [pv,tv,.str ak,sv])
  (hT:∀env:Env,(ac env 1=.int .i64 i∧ac env 5=.ptr a5 0∧ac env 8=.ptr a8 0∧ac env 9=e9)→dw O K ix (N++[.cells true 0 [pv,tv,.str ak,sv]]) env):
  dw O K iw N env:=by
 intro d
 have w0:IntKind.i64.wrap 0=0:=rfl
 have w1:IntKind.i64.wrap 1=1:=rfl
 have w3:IntKind.i64.wrap 3=3:=rfl
 have hjl:∀j,(N.length+j<1)=False:=fun j=>by rw[eq_iff_iff,iff_false];omega
 have hjl0:(N.length<1)=False:=by rw[eq_iff_iff,iff_false];omega
 have tk:∀Z:Mem,(N++Z).take 1=N.take 1:=fun Z=>List.take_append_of_le_length (by omega)
 obtain⟨k1,k2,k4⟩:=kk
 obtain⟨ku1,ku2,ku4⟩:=ku
 obtain⟨os',hops⟩:∃os',aG Tryz.f4=os' :=⟨_,rfl⟩
 have hbs' :=aV hops (ls:=[[0,1,3,7,7,31,63,127,255,511,511,2047,511,511,8703,25087,61951,131071,262143]]) (by kernel_rfl)
 simp only[aG,bC,Tryz.f4,List.nil_append,List.append_nil,List.cons_append] at hops
 subst hops
 simp only[List.map_cons,List.map_nil,List.cons.injEq,and_true] at hbs'
 have l5a:=(List.getElem?_eq_some_iff.1 h5).1
 have l6a:=(List.getElem?_eq_some_iff.1 h6).1
 have h5' :∀Z,(N++Z)[a5]? =some (.cells o5 0 [pv,tv,.str ak,ev]):=fun Z=>by rw[List.getElem?_append_left l5a];exact h5
 have h6' :∀Z,(N++Z)[a6]? =some (.cells o6 0 [u1,u2,.str u3,u4]):=fun Z=>by rw[List.getElem?_append_left l6a];exact h6
 have hsl0:=hsl []
 rw[List.append_nil] at hsl0
 have z1:¬(i:Int)<0:=by omega
 have z2:¬(n:Int)<(i:Int):=by omega
 have z3:¬n<i:=by omega
 have e5:=r5 (fun b=>decide (b<N.length+1)) (by intro b hb;simp only[decide_eq_true_eq];omega)
 have e6:=r6 (fun b=>decide (b<N.length+1)) (by intro b hb;simp only[decide_eq_true_eq];omega)
 have eW:=rW (fun b=>decide (b<N.length+1)) (by intro b hb;simp only[decide_eq_true_eq];omega)
 simp only[AV.refsOkL,Bool.and_eq_true] at e5 e6 eW
 obtain⟨x1,x2,_,x3,_⟩:=e5
 obtain⟨y1,y2,_,y3,_⟩:=e6
 obtain⟨_,_,_,z4,_⟩:=eW
 have hN0:¬N=[]:=by rintro rfl;simp at hm
 have a52:∀j,(a5<N.length+j)=True:=fun j=>by rw[eq_iff_iff,iff_true];omega
 have a62:∀j,(a6<N.length+j)=True:=fun j=>by rw[eq_iff_iff,iff_true];omega
 have a53:(a5=N.length)=False:=by rw[eq_iff_iff,iff_false];omega
 have a63:(a6=N.length)=False:=by rw[eq_iff_iff,iff_false];omega
 rw[FD]
 obtain⟨F,hF⟩:=q9 (β:=Env×Mem×Bool) (fun env d h=>hT env h d)
 have hF1:=fun env d h=>(hF env d h).1
 have hF2:=fun env d h=>(hF env d h).2.1
 have hF3:=fun env d h=>(hF env d h).2.2
 clear hF hT
 obtain⟨T,hTe⟩:∃T,T=ix:=⟨_,rfl⟩
 rw[←hTe]
 simp only[←hTe] at hF1
 simp only[tk] at hF3
 have h:∃e',aO (az Tryz.prog) (fun _=>[]) O K 112 1 true (.seq (gm 5 bw) T) ⟨env,N,d⟩=some (.ret,e')∧ac e'.env 4=.bool true∧e'.mem.take 1=N.take 1:=by
  clear hTe
  by_cases hin:i=n
  ·subst hin
   simp[-getElem?_pos,-AV.cellOk,-AV.known,-AV.cells,-cX,-bc,-aU,-aF,-AV.refsOk,-Slot.refsOk,-List.all_eq_true,vS,rS,mS,cM,cu hbs',dT,cL,gC,dO,cf,nL,bef,Nat.testBit,bB,ar,-gI,-nE,bw,Tryz.f4,gm,l1,l5,l6,l7,l8,l9,h5,h5',h6',hlen,hsl0,hsl,ce,cp,ct,cs,ks,kc,hN0,v1,v2,v4,k1,k2,k4,ku1,ku2,ku4,eS,eQ,z1,w0,x1,x2,x3,y1,y2,y3,z4,a52,a62,a53,a63,hjl,hjl0,hF1,hF2,hF3]
   done
  ·have hin2:¬(i:Int)=(n:Int):=by omega
   simp[-getElem?_pos,-AV.cellOk,-AV.known,-AV.cells,-cX,-bc,-aU,-aF,-AV.refsOk,-Slot.refsOk,-List.all_eq_true,vS,rS,mS,cM,cu hbs',dT,cL,gC,dO,cf,nL,bef,Nat.testBit,bB,ar,-gI,-nE,bw,Tryz.f4,gm,l1,l5,l6,l7,l8,l9,h5,h5',h6',hlen,hsl0,hsl,ce,cp,ct,cs,ks,kc,hN0,v1,v2,v4,k1,k2,k4,ku1,ku2,ku4,eS,eQ,z1,z2,z3,hin,hin2,w0,x1,x2,x3,y1,y2,y3,z4,a52,a62,a53,a63,hjl,hjl0,hF1,hF2,hF3]
   done
 obtain⟨⟨e1,e2,e3⟩,k1,k2,k3⟩:=h
 exact⟨(e1,e2,e3),k1,k2,k3⟩
noncomputable def ol:Code:=y8 3 bw
theorem KU:ol=.seq (gm 3 bw) (.seq (gm 4 bw) iw):=by kernel_rfl
theorem KT:Tryz.f4.body=some (.seq (gm 0 bw) (.seq (gm 1 bw) (.seq (gm 2 bw) ol))):=by kernel_rfl
set_option maxRecDepth 16384 in
set_option maxHeartbeats 8000000 in
theorem tF{O:Oracle}{M:Mem}{K:Nat}{i eA eB:Int}{pv tv ev u1 u2 u4 b1 b2 b4:AV}{u3 b3:List UInt8}{newA newB:Mem}(hm:1≤M.length)
  (cp:pv.cellOk=true) (ct:tv.cellOk=true) (ce:ev.cellOk=true) (kk:pv.known=true∧tv.known=true∧ev.known=true) (v1:u1.cellOk=true) (v2:u2.cellOk=true) (v4:u4.cellOk=true) (ku:u1.known=true∧u2.known=true∧u4.known=true)
  (d1:b1.cellOk=true) (d2:b2.cellOk=true) (d4:b4.cellOk=true) (kb:b1.known=true∧b2.known=true∧b4.known=true)
  (fA:O (.fn 16) [.agg [pv,tv,.str ak,ev],.int .i64 i] (M++[.cells true 0 [pv,tv,.str ak,ev]])=some ⟨.tuple [.agg [u1,u2,.str u3,u4],.int .i64 eA],none,newA⟩)
  (fB:O (.fn 15) [.agg [pv,tv,.str ak,ev],.int .i64 i] (M++(.cells true 0 [pv,tv,.str ak,ev]::(newA++[.cells true 0 [u1,u2,.str u3,u4]])))=some ⟨.tuple [.agg [b1,b2,.str b3,b4],.int .i64 eB],none,newB⟩)
  (hT:∀env:Env,(ac env 1=.int .i64 i∧ac env 5=.ptr M.length 0∧ac env 6=.ptr (M.length+(newA.length+1)) 0∧ac env 7=.int .i64 eA∧ac env 8=.ptr (M.length+(newA.length+(newB.length+1)+1)) 0∧ac env 9=.int .i64 eB)→dw O K iw (M++(.cells true 0 [pv,tv,.str ak,ev]::(newA++(.cells true 0 [u1,u2,.str u3,u4]::(newB++[.cells true 0 [b1,b2,.str b3,b4]]))))) env):
  ∀env:Env,(ac env 1=.int .i64 i∧ac env 5=.ptr M.length 0)→dw O K ol (M++[.cells true 0 [pv,tv,.str ak,ev]]) env:=by
 rintro env ⟨l1,l5⟩ d
 have w0:IntKind.i64.wrap 0=0:=rfl
 have hjl:∀j,(M.length+j<1)=False:=fun j=>by rw[eq_iff_iff,iff_false];omega
 have hjl0:(M.length<1)=False:=by rw[eq_iff_iff,iff_false];omega
 have hN0:¬M=[]:=by rintro rfl;simp at hm
 have tk:∀Z:Mem,(M++Z).take 1=M.take 1:=fun Z=>List.take_append_of_le_length (by omega)
 obtain⟨k1,k2,k4⟩:=kk
 obtain⟨ku1,ku2,ku4⟩:=ku
 obtain⟨kb1,kb2,kb4⟩:=kb
 rw[KU]
 obtain⟨F,hF⟩:=q9 (β:=Env×Mem×Bool) (fun env d h=>hT env h d)
 have hF1:=fun env d h=>(hF env d h).1
 have hF2:=fun env d h=>(hF env d h).2.1
 have hF3:=fun env d h=>(hF env d h).2.2
 clear hF hT
 obtain⟨T,hTe⟩:∃T,T=iw:=⟨_,rfl⟩
 rw[←hTe]
 simp only[←hTe] at hF1
 simp only[tk] at hF3
 have h:∃e',aO (az Tryz.prog) (fun _=>[]) O K 112 1 true (.seq (gm 3 bw) (.seq (gm 4 bw) T)) ⟨env,M++[.cells true 0 [pv,tv,.str ak,ev]],d⟩=some (.ret,e')∧ac e'.env 4=.bool true∧e'.mem.take 1=(M++[Slot.cells true 0 [pv,tv,.str ak,ev]]).take 1:=by
  clear hTe
  simp[-AV.cellOk,-AV.known,-AV.cells,vS,-gI,-List.all_eq_true,bw,Tryz.f4,gm,mS,l1,l5,cp,ct,ce,v1,v2,v4,d1,d2,d4,k1,k2,k4,ku1,ku2,ku4,kb1,kb2,kb4,fA,fB,hjl,hjl0,hN0,tk,hF1,hF2,hF3,w0]
  done
 obtain⟨⟨e1,e2,e3⟩,k1,k2,k3⟩:=h
 exact⟨(e1,e2,e3),k1,k2,k3⟩
theorem Jb(ds:List Deed):AV.refsL 1 (kw ds)=[]:=by
 induction ds with
 |nil=>rfl
 |cons d l ih=>exact ih
theorem Co(ds:List Deed):AV.closeds (kw ds)=true:=by
 induction ds with
 |nil=>rfl
 |cons d l ih=>exact ih
theorem o9{ds:List Deed}{X:Slot}(h:X=.absent∨X=.cells false 12 (kw ds)):Slot.refs 1 X=[]∧∀f,Slot.ren f X=X:=by
 rcases h with rfl | rfl
 ·exact⟨rfl,fun _=>rfl⟩
 ·exact⟨Jb ds,fun f=>congrArg (Slot.cells false 12) (bu (Co ds))⟩
set_option maxRecDepth 16384 in
set_option maxHeartbeats 8000000 in
theorem qA{O:Oracle}(hO:OracleOk Tryz.prog O) {s:Sheet}{a:AV}{X:Slot}{new:Mem}{n p t q:Nat}{i:Int}{M:Mem}
  (hack:a.cellOk=true) (hakn:a.known=true) (hX:Slot.refs 1 X=[]∧∀f,Slot.ren f X=X)
  (hM:M=[X,.cells true 0 [.int .u8 s.kind,.int .i8 s.sx,.int .i8 s.sy,.bool s.half,a]]++new)
  (e1:O (.fn 6) [] [X,.cells true 0 [.int .u8 s.kind,.int .i8 s.sx,.int .i8 s.sy,.bool s.half,a]]=some ⟨.bool true,none,[]⟩)
  (e2:O (.fn 7) [eF s a] [X,.cells true 0 [.int .u8 s.kind,.int .i8 s.sx,.int .i8 s.sy,.bool s.half,a]]=some ⟨.bool true,none,[]⟩)
  (e3:O (.fn 8) [eF s a] [X,.cells true 0 [.int .u8 s.kind,.int .i8 s.sx,.int .i8 s.sy,.bool s.half,a]]=some ⟨.agg (aq s p t q n),none,new⟩)
  (hT:∀env:Env,(ac env 1=.int .i64 i∧ac env 5=.ptr M.length 0)→dw O 1 ol (M++[.cells true 0 (aq s p t q n)]) env):
  ACallsTo Tryz.prog 4 [eF s a,.int .i64 i] [X] (.bool true) [X]:=by
 have hG:aI Tryz.prog 4=some Tryz.f4:=by kernel_rfl
 have cev:=dz q n
 obtain⟨x1,x2⟩:=hX
 subst hM
 have hb:=KT
 obtain⟨F,hF⟩:=q9 (β:=Env×Mem×Bool) (fun env d h=>hT env h d)
 have hF1:=fun env d h=>(hF env d h).1
 have hF2:=fun env d h=>(hF env d h).2.1
 have hF3:=fun env d h=>(hF env d h).2.2
 clear hF hT
 obtain⟨T,hTe⟩:∃T,T=ol:=⟨_,rfl⟩
 simp only[←hTe] at hF1
 rw[←hTe] at hb
 simp only[List.cons_append,List.nil_append,List.length_cons,List.take_succ_cons,List.take_zero] at hF1 hF2 hF3
 have h:∃r,ab (az Tryz.prog) (fun _=>[]) (aI Tryz.prog) O 1 4 [eF s a,.int .i64 i] [X]=some r∧r.v=.bool true∧r.mem [X]=[X]:=by
  unfold ab
  rw[hG]
  dsimp only
  rw[hb]
  dsimp only
  clear hTe hb hO
  simp only[eF,aq] at e2 e3 hF1 hF2 hF3
  simp[-AV.cellOk,-AV.known,-AV.cells,vS,-gI,-List.all_eq_true,bw,Tryz.f4,gm,-Slot.ren,-Slot.refs,mS,eF,aq,e1,e2,e3,hack,hakn,cev,hF1,hF2,hF3,x1,x2]
  split<;>simp[-Slot.ren,-Slot.refs,x1,x2]
 obtain⟨r,h1,h2,h3⟩:=h
 have:=(ae aa (ai _) hO (aj _) h1).1
 rwa [h2,h3] at this
theorem CL{P:Program}{f:FuncId}{args:List AV}{M M' :Mem}{v:AV}(h:ACallsTo P f args M v M'):ACallsTo P f args M v (M' ++[]):=by rwa [List.append_nil]
theorem lens:(∀A B:Mem,(A++B).length=A.length+B.length)∧(∀(x:Slot) (A:Mem),(x::A).length=A.length+1)∧([]:Mem).length=0:=⟨fun _ _=>List.length_append,fun _ _=>rfl,rfl⟩
theorem at6(M A Z:Mem) (x y:Slot):(M++(x::(A++(y::Z))))[M.length+(A.length+1)]? =some y:=by
 rw[fQ,List.getElem?_cons_succ,List.getElem?_append_right (Nat.le_refl _),Nat.sub_self];rfl
theorem at8(M A B:Mem) (x y z:Slot):(M++(x::(A++(y::(B++[z])))))[M.length+(A.length+(B.length+1)+1)]? =some z:=by
 rw[fQ,List.getElem?_cons_succ,List.getElem?_append_right (by omega),Nat.add_sub_cancel_left,List.getElem?_cons_succ,List.getElem?_append_right (Nat.le_refl _),Nat.sub_self];rfl
theorem Kr{M:Mem}{b n i:Nat}{C:List AV}(hb:M[b]? =some (.cells true 32 C)) (hl:C.length=n*32) (hi:i<n) (hn:n≤1000) (hall:C.all AV.cellOk=true) (hrf:AV.refsOkL (fun a=>decide (a<M.length)) C=true):
  ACallsTo Tryz.prog 18 [.slice b 0 n none,.int .i64 ((i:Nat):Int),.int .i64 ((i+1:Nat):Int)] M (.slice b 0 (n-1) none) (M.set b (.cells true 32 (C.take (i*32)++C.drop ((i+1)*32)))):=by
 obtain⟨Z,hZ⟩:=Classical.axiomOfChoice (r:=fun(c:Nat) (Z:List AV)=>n≤c→ACallsTo Tryz.prog 18 [.slice b 0 n (some c),.int .i64 ((i:Nat):Int),.int .i64 ((i+1:Nat):Int)] M (.slice b 0 (n-1) (some c)) (M.set b (.cells true 32 ((C.take (i*32)++C.drop ((i+1)*32))++Z)))) (fun c=>by
  by_cases hc:n≤c
  ·obtain⟨Z,h⟩:=Mu (c:=c) hb hl (rfl:i+1=i+1) (r:=n-(i+1)) (by omega) hn hc hall hrf rfl
   rw[show i+(n-(i+1))=n-1 by omega] at h
   exact⟨Z,fun _=>h⟩
  ·exact⟨[],fun h=>absurd h hc⟩)
 exact ACallsTo.room (Z:=Z) (by decide) (by decide) hb (by omega) hZ
theorem Dm{s:Sheet}{p t q:Nat}{evs:List (List AV)}{cs:List Evc}{M:Mem}(H:Tryz.HstC s p t q evs cs M) (i:Nat) (hi:i≤cs.length):
  ∃sv:AV,sv.cellOk=true∧sv.known=true∧sv.cells=[sv]∧(∀Z,EvsAt (M++Z) sv (cs.take i))∧(∀Z,nE (az Tryz.prog) (M++Z) 39 (evV q cs.length) none (some (.int .i64 i))=some sv)∧sv.refsOk (fun b=>decide (b<M.length))=true:=by
 have small:=H.small
 by_cases h0:cs.length=0
 ·obtain⟨rfl,rfl⟩:=H.evs0 h0
  have hi0:i=0:=by simpa using hi
  subst hi0
  exact⟨.nilslice,rfl,rfl,rfl,fun Z=>⟨[],rfl,.inl ⟨rfl,rfl,.inl rfl⟩,fun i e c h=>by simp at h⟩,fun Z=>by simp[nE,evV],rfl⟩
 ·obtain⟨o,hq⟩:=H.hq (by rintro rfl;have:=H.len;simp at this;omega)
  have lq:=(List.getElem?_eq_some_iff.1 hq).1
  refine⟨.slice q 0 i none,rfl,rfl,rfl,fun Z=>⟨evs.take i,by rw[List.length_take,List.length_take,H.len],?_,(H.more Z).takeCon i⟩,fun Z=>?_,by simp only[AV.refsOk,decide_eq_true_eq];exact lq⟩
  ·have:=(H.rowTake i hi (by omega)).more Z
   rwa [List.length_take,Nat.min_eq_left hi]
  ·have hq' :(M++Z)[q]? =some (.cells o 32 evs.flatten):=by rw[List.getElem?_append_left lq];exact hq
   have hf:=H.flat
   have e:evV q cs.length=.slice q 0 cs.length none:=by unfold evV;rw[if_neg h0]
   rw[e]
   simp[nE,hq',hf,hi]
set_option maxRecDepth 16384 in
set_option maxHeartbeats 4000000 in
theorem My{s:Sheet}{a:AV}{X:Slot}{new:Mem}{p t q:Nat}{evs:List (List AV)}{cs:List Evc}{M:Mem}
  (hack:a.cellOk=true) (hakn:a.known=true) (hX:Slot.refs 1 X=[]∧∀f,Slot.ren f X=X) (hM:M=[X,.cells true 0 [.int .u8 s.kind,.int .i8 s.sx,.int .i8 s.sy,.bool s.half,a]]++new) (H:Tryz.HstC s p t q evs cs M) (hd0:AE [ak] (cs.map unE)=false) (hl3:cs.length≤3)
  (fK:ACallsTo Tryz.prog 6 [] [X,.cells true 0 [.int .u8 s.kind,.int .i8 s.sx,.int .i8 s.sy,.bool s.half,a]] (.bool true) [X,.cells true 0 [.int .u8 s.kind,.int .i8 s.sx,.int .i8 s.sy,.bool s.half,a]]) (fF:ACallsTo Tryz.prog 7 [eF s a] [X,.cells true 0 [.int .u8 s.kind,.int .i8 s.sx,.int .i8 s.sy,.bool s.half,a]] (.bool true) [X,.cells true 0 [.int .u8 s.kind,.int .i8 s.sx,.int .i8 s.sy,.bool s.half,a]])
  (fM:ACallsTo Tryz.prog 8 [eF s a] [X,.cells true 0 [.int .u8 s.kind,.int .i8 s.sx,.int .i8 s.sy,.bool s.half,a]] (.agg (aq s p t q cs.length)) ([X,.cells true 0 [.int .u8 s.kind,.int .i8 s.sx,.int .i8 s.sy,.bool s.half,a]]++new)) (i:Int) (hi:i<0∨(cs.length:Int)<i):
  ACallsTo Tryz.prog 4 [eF s a,.int .i64 i] [X] (.bool true) [X]:=by
 have gA:=zx (H.more [.cells true 0 (aq s p t q cs.length)]) hd0 i hi
 have gB:=nX (H.more (.cells true 0 (aq s p t q cs.length)::([]++[.cells true 0 dM]))) hd0 i (by omega)
 obtain⟨O,hO,e1,e2,e3,e4,e5,e6⟩:∃O,OracleOk Tryz.prog O∧O (.fn 6) [] ([X,.cells true 0 [.int .u8 s.kind,.int .i8 s.sx,.int .i8 s.sy,.bool s.half,a]])=some ⟨.bool true,none,[]⟩∧O (.fn 7) [eF s a] ([X,.cells true 0 [.int .u8 s.kind,.int .i8 s.sx,.int .i8 s.sy,.bool s.half,a]])=some ⟨.bool true,none,[]⟩∧O (.fn 8) [eF s a] ([X,.cells true 0 [.int .u8 s.kind,.int .i8 s.sx,.int .i8 s.sy,.bool s.half,a]])=some ⟨.agg (aq s p t q cs.length),none,new⟩∧O (.fn 16) [.agg (aq s p t q cs.length),.int .i64 i] (M++[.cells true 0 (aq s p t q cs.length)])=some ⟨.tuple [.agg dM,.int .i64 3],none,[]⟩∧O (.fn 15) [.agg (aq s p t q cs.length),.int .i64 i] (M++(.cells true 0 (aq s p t q cs.length)::([]++[.cells true 0 dM])))=some ⟨.tuple [.agg dM,.int .i64 3],none,[]⟩∧O (.fn 13) [.agg dM] (M++(.cells true 0 (aq s p t q cs.length)::([]++(.cells true 0 dM::([]++[.cells true 0 dM])))))=some ⟨.bool true,none,[]⟩:=
  ⟨cg [(6,[],[X,.cells true 0 [.int .u8 s.kind,.int .i8 s.sx,.int .i8 s.sy,.bool s.half,a]],⟨.bool true,none,[]⟩),(7,[eF s a],[X,.cells true 0 [.int .u8 s.kind,.int .i8 s.sx,.int .i8 s.sy,.bool s.half,a]],⟨.bool true,none,[]⟩),(8,[eF s a],[X,.cells true 0 [.int .u8 s.kind,.int .i8 s.sx,.int .i8 s.sy,.bool s.half,a]],⟨.agg (aq s p t q cs.length),none,new⟩),(16,[.agg (aq s p t q cs.length),.int .i64 i],M++[.cells true 0 (aq s p t q cs.length)],⟨.tuple [.agg dM,.int .i64 3],none,[]⟩),(15,[.agg (aq s p t q cs.length),.int .i64 i],M++(.cells true 0 (aq s p t q cs.length)::([]++[.cells true 0 dM])),⟨.tuple [.agg dM,.int .i64 3],none,[]⟩),(13,[.agg dM],M++(.cells true 0 (aq s p t q cs.length)::([]++(.cells true 0 dM::([]++[.cells true 0 dM])))),⟨.bool true,none,[]⟩)],dn fun y hy=>by
   simp only[List.mem_cons,List.not_mem_nil,or_false] at hy
   rcases hy with rfl | rfl | rfl | rfl | rfl | rfl
   ·exact⟨CL fK,fun p h=>by cases h⟩
   ·exact⟨CL fF,fun p h=>by cases h⟩
   ·exact⟨fM,fun p h=>by cases h⟩
   ·exact⟨CL gA,fun p h=>by cases h⟩
   ·exact⟨CL gB,fun p h=>by cases h⟩
   ·exact⟨CL (uv _),fun p h=>by cases h⟩,be,by rw[ag (by decide)];exact be,by rw[ag (by decide),ag (by decide)];exact be,by rw[ag (by decide),ag (by decide),ag (by decide)];exact be,by rw[ag (by decide),ag (by decide),ag (by decide),ag (by decide)];exact be,by rw[ag (by decide),ag (by decide),ag (by decide),ag (by decide),ag (by decide)];exact be⟩
 have lM:1≤M.length:=by rw[hM];simp
 refine qA hO hack hakn hX hM e1 e2 e3 ?_
 refine tF lM (rfl:(AV.slice p 0 s.P.length none).cellOk=true) (rfl:(AV.slice t 0 s.T.length none).cellOk=true) (dz q cs.length) ⟨rfl,rfl,gq q cs.length⟩ rfl rfl rfl ⟨rfl,rfl,rfl⟩ rfl rfl rfl ⟨rfl,rfl,rfl⟩ e4 e5 ?_
 rintro env ⟨l1,l5,l6,l7,l8,l9⟩
 have lN:1≤(M++(.cells true 0 (aq s p t q cs.length)::([]++(.cells true 0 dM::([]++[.cells true 0 dM])))):Mem).length:=by rw[List.length_append];omega
 refine IG lN hi (dz q cs.length) rfl rfl rfl ⟨rfl,rfl,rfl⟩ (qR _ _) (at6 M [] _ _ _) (cq q cs.length) e6 l1 l5 l6 l7 l8 l9 ?_
 rintro env ⟨l1,l5,l8,l9⟩
 exact xG lN (by omega) (rfl:(AV.slice p 0 s.P.length none).cellOk=true) (rfl:(AV.slice t 0 s.T.length none).cellOk=true) (dz q cs.length) ⟨rfl,rfl,gq q cs.length⟩ rfl rfl rfl ⟨rfl,rfl,rfl⟩ (qR _ _) (at8 M [] [] _ _ _) (cq q cs.length) e6 l1 l5 l8 l9
set_option maxRecDepth 16384 in
set_option maxHeartbeats 4000000 in
theorem Mz{s:Sheet}{a:AV}{X:Slot}{new:Mem}{p t q:Nat}{evs:List (List AV)}{cs:List Evc}{M:Mem}
  (hack:a.cellOk=true) (hakn:a.known=true) (hX:Slot.refs 1 X=[]∧∀f,Slot.ren f X=X) (hM:M=[X,.cells true 0 [.int .u8 s.kind,.int .i8 s.sx,.int .i8 s.sy,.bool s.half,a]]++new) (H:Tryz.HstC s p t q evs cs M) (hd0:AE [ak] (cs.map unE)=false) (hl3:cs.length≤3)
  (fK:ACallsTo Tryz.prog 6 [] [X,.cells true 0 [.int .u8 s.kind,.int .i8 s.sx,.int .i8 s.sy,.bool s.half,a]] (.bool true) [X,.cells true 0 [.int .u8 s.kind,.int .i8 s.sx,.int .i8 s.sy,.bool s.half,a]]) (fF:ACallsTo Tryz.prog 7 [eF s a] [X,.cells true 0 [.int .u8 s.kind,.int .i8 s.sx,.int .i8 s.sy,.bool s.half,a]] (.bool true) [X,.cells true 0 [.int .u8 s.kind,.int .i8 s.sx,.int .i8 s.sy,.bool s.half,a]])
  (fM:ACallsTo Tryz.prog 8 [eF s a] [X,.cells true 0 [.int .u8 s.kind,.int .i8 s.sx,.int .i8 s.sy,.bool s.half,a]] (.agg (aq s p t q cs.length)) ([X,.cells true 0 [.int .u8 s.kind,.int .i8 s.sx,.int .i8 s.sy,.bool s.half,a]]++new)) (i:Nat) (hi:i=cs.length):
  ACallsTo Tryz.prog 4 [eF s a,.int .i64 ((i:Nat):Int)] [X] (.bool true) [X]:=by
 have N1:=H.more [.cells true 0 (aq s p t q cs.length)]
 obtain⟨p',t',q',evs',newA,gA,HA,okA⟩:=rk N1 hd0 i (by omega)
 have li:(cs.take i).length=i:=by rw[List.length_take];omega
 obtain⟨sv,sc,sk,se,sE,sl,sr⟩:=Dm H i (by omega)
 have lM:1≤M.length:=by rw[hM];simp
 have gB:=nX (H.more (.cells true 0 (aq s p t q cs.length)::(newA++[.cells true 0 (aq s p' t' q' i)]))) hd0 i (.inr (by omega))
 obtain⟨N,hN⟩:∃N,N=M++(.cells true 0 (aq s p t q cs.length)::(newA++(.cells true 0 (aq s p' t' q' i)::([]++[.cells true 0 dM])))):=⟨_,rfl⟩
 have lN:1≤N.length:=by rw[hN,List.length_append];omega
 have lNM:M.length≤N.length:=by rw[hN,List.length_append];omega
 have HN:Tryz.HstC s p t q evs cs N:=by rw[hN];exact H.more _
 have HAN:Tryz.HstC s p' t' q' evs' (cs.take i) N:=by
  have:=HA.more (.cells true 0 (aq s p' t' q' i)::(([]:Mem)++[.cells true 0 dM]))
  rw[hN];simpa using this
 have n5:N[M.length]? =some (.cells true 0 (aq s p t q cs.length)):=by rw[hN,qR];rfl
 have n6:N[M.length+(newA.length+1)]? =some (.cells true 0 (aq s p' t' q' i)):=by rw[hN];exact at6 _ _ _ _ _
 have n8:N[M.length+(newA.length+(([]:Mem).length+1)+1)]? =some (.cells true 0 dM):=by rw[hN];exact at8 _ _ _ _ _ _
 have sEN:EvsAt (N++[.cells true 0 [.slice p 0 s.P.length none,.slice t 0 s.T.length none,.str ak,sv]]) sv (cs.take i):=by rw[hN,List.append_assoc];exact sE _
 have slN:∀Z,nE (az Tryz.prog) (N++Z) 39 (evV q cs.length) none (some (.int .i64 i))=some sv:=fun Z=>by rw[hN,List.append_assoc];exact sl _
 have r5:RefT N.length (aq s p t q cs.length):=HN.refs
 have r6:RefT N.length (aq s p' t' q' i):=by have:=HAN.refs;rwa [li] at this
 have rW:RefT N.length [.slice p 0 s.P.length none,.slice t 0 s.T.length none,.str ak,sv]:=by
  refine .of ?_
  have a:=HN.rowP.refs 0
  have b:=HN.rowT.refs 0
  have c:sv.refsOk (fun b=>decide (b<N.length))=true:=AV.refsOk_mono (fun k hk=>by simp only[decide_eq_true_eq] at hk ⊢;omega) sv sr
  simp only[Nat.add_zero] at a b
  simp only[AV.refsOkL,a,b,c,Bool.and_true,Bool.true_and]
  rfl
 have aA:=(HAN.more [.cells true 0 [.slice p 0 s.P.length none,.slice t 0 s.T.length none,.str ak,sv]]).hc
 rw[li] at aA
 have aH:=(HN.more [.cells true 0 [.slice p 0 s.P.length none,.slice t 0 s.T.length none,.str ak,sv]]).hc
 have aW:HcAt (N++[.cells true 0 [.slice p 0 s.P.length none,.slice t 0 s.T.length none,.str ak,sv]]) [.slice p 0 s.P.length none,.slice t 0 s.T.length none,.str ak,sv] s (cs.take i):=⟨_,_,_,rfl,(HN.more [.cells true 0 [.slice p 0 s.P.length none,.slice t 0 s.T.length none,.str ak,sv]]).rowP,(HN.more [.cells true 0 [.slice p 0 s.P.length none,.slice t 0 s.T.length none,.str ak,sv]]).rowT,sEN⟩
 have gS:=qB aA aW (fun e he=>(HAN.good e he).ok) (by omega) true (.inl ⟨rfl,rfl⟩)
 have gQ:=tN aA aH (fun e he=>(HAN.good e he).ok) (by omega) (decide (i=cs.length)) (by
  by_cases hin:i=cs.length
  ·exact .inl ⟨decide_eq_true hin,List.take_of_length_le (by omega)⟩
  ·exact .inr ⟨decide_eq_false hin,by rw[li];exact hin⟩)
 obtain⟨O,hO,e1,e2,e3,e4,e5,e6,e7,e8⟩:∃O,OracleOk Tryz.prog O∧O (.fn 6) [] ([X,.cells true 0 [.int .u8 s.kind,.int .i8 s.sx,.int .i8 s.sy,.bool s.half,a]])=some ⟨.bool true,none,[]⟩∧O (.fn 7) [eF s a] ([X,.cells true 0 [.int .u8 s.kind,.int .i8 s.sx,.int .i8 s.sy,.bool s.half,a]])=some ⟨.bool true,none,[]⟩∧O (.fn 8) [eF s a] ([X,.cells true 0 [.int .u8 s.kind,.int .i8 s.sx,.int .i8 s.sy,.bool s.half,a]])=some ⟨.agg (aq s p t q cs.length),none,new⟩∧O (.fn 16) [.agg (aq s p t q cs.length),.int .i64 ((i:Nat):Int)] (M++[.cells true 0 (aq s p t q cs.length)])=some ⟨.tuple [.agg (aq s p' t' q' i),.int .i64 0],none,newA⟩∧O (.fn 15) [.agg (aq s p t q cs.length),.int .i64 ((i:Nat):Int)] (M++(.cells true 0 (aq s p t q cs.length)::(newA++[.cells true 0 (aq s p' t' q' i)])))=some ⟨.tuple [.agg dM,.int .i64 3],none,[]⟩∧O (.fn 14) [.agg (aq s p' t' q' i),.agg [.slice p 0 s.P.length none,.slice t 0 s.T.length none,.str ak,sv]] (N++[.cells true 0 [.slice p 0 s.P.length none,.slice t 0 s.T.length none,.str ak,sv]])=some ⟨.bool true,none,[]⟩∧O (.fn 17) [.agg (aq s p' t' q' i),.agg (aq s p t q cs.length)] (N++[.cells true 0 [.slice p 0 s.P.length none,.slice t 0 s.T.length none,.str ak,sv]])=some ⟨.bool (decide (i=cs.length)),none,[]⟩∧O (.fn 13) [.agg dM] (N++[.cells true 0 [.slice p 0 s.P.length none,.slice t 0 s.T.length none,.str ak,sv]])=some ⟨.bool true,none,[]⟩:=
  ⟨cg [(6,[],[X,.cells true 0 [.int .u8 s.kind,.int .i8 s.sx,.int .i8 s.sy,.bool s.half,a]],⟨.bool true,none,[]⟩),(7,[eF s a],[X,.cells true 0 [.int .u8 s.kind,.int .i8 s.sx,.int .i8 s.sy,.bool s.half,a]],⟨.bool true,none,[]⟩),(8,[eF s a],[X,.cells true 0 [.int .u8 s.kind,.int .i8 s.sx,.int .i8 s.sy,.bool s.half,a]],⟨.agg (aq s p t q cs.length),none,new⟩),(16,[.agg (aq s p t q cs.length),.int .i64 ((i:Nat):Int)],M++[.cells true 0 (aq s p t q cs.length)],⟨.tuple [.agg (aq s p' t' q' i),.int .i64 0],none,newA⟩),(15,[.agg (aq s p t q cs.length),.int .i64 ((i:Nat):Int)],M++(.cells true 0 (aq s p t q cs.length)::(newA++[.cells true 0 (aq s p' t' q' i)])),⟨.tuple [.agg dM,.int .i64 3],none,[]⟩),(14,[.agg (aq s p' t' q' i),.agg [.slice p 0 s.P.length none,.slice t 0 s.T.length none,.str ak,sv]],N++[.cells true 0 [.slice p 0 s.P.length none,.slice t 0 s.T.length none,.str ak,sv]],⟨.bool true,none,[]⟩),(17,[.agg (aq s p' t' q' i),.agg (aq s p t q cs.length)],N++[.cells true 0 [.slice p 0 s.P.length none,.slice t 0 s.T.length none,.str ak,sv]],⟨.bool (decide (i=cs.length)),none,[]⟩),(13,[.agg dM],N++[.cells true 0 [.slice p 0 s.P.length none,.slice t 0 s.T.length none,.str ak,sv]],⟨.bool true,none,[]⟩)],dn fun y hy=>by
   simp only[List.mem_cons,List.not_mem_nil,or_false] at hy
   rcases hy with rfl | rfl | rfl | rfl | rfl | rfl | rfl | rfl
   ·exact⟨CL fK,fun p h=>by cases h⟩
   ·exact⟨CL fF,fun p h=>by cases h⟩
   ·exact⟨fM,fun p h=>by cases h⟩
   ·exact⟨gA,fun p h=>by cases h⟩
   ·exact⟨CL gB,fun p h=>by cases h⟩
   ·exact⟨CL gS,fun p h=>by cases h⟩
   ·exact⟨CL gQ,fun p h=>by cases h⟩
   ·exact⟨CL (uv _),fun p h=>by cases h⟩,be,by rw[ag (by decide)];exact be,by rw[ag (by decide),ag (by decide)];exact be,by rw[ag (by decide),ag (by decide),ag (by decide)];exact be,by rw[ag (by decide),ag (by decide),ag (by decide),ag (by decide)];exact be,by rw[ag (by decide),ag (by decide),ag (by decide),ag (by decide),ag (by decide)];exact be,by rw[ag (by decide),ag (by decide),ag (by decide),ag (by decide),ag (by decide),ag (by decide)];exact be,by rw[ag (by decide),ag (by decide),ag (by decide),ag (by decide),ag (by decide),ag (by decide),ag (by decide)];exact be⟩
 clear gA gB gS gQ aA aH aW HAN HN HA okA N1 sE
 refine qA hO hack hakn hX hM e1 e2 e3 ?_
 refine tF lM (rfl:(AV.slice p 0 s.P.length none).cellOk=true) (rfl:(AV.slice t 0 s.T.length none).cellOk=true) (dz q cs.length) ⟨rfl,rfl,gq q cs.length⟩ (rfl:(AV.slice p' 0 s.P.length none).cellOk=true) (rfl:(AV.slice t' 0 s.T.length none).cellOk=true) (dz q' i) ⟨rfl,rfl,gq q' i⟩ rfl rfl rfl ⟨rfl,rfl,rfl⟩ e4 e5 ?_
 rintro env ⟨l1,l5,l6,l7,l8,l9⟩
 suffices hh:dw O 1 iw N env by rw[hN] at hh;exact hh
 refine xF (n:=cs.length) lN (by omega) (rfl:(AV.slice p 0 s.P.length none).cellOk=true) (rfl:(AV.slice t 0 s.T.length none).cellOk=true) (dz q cs.length) ⟨rfl,rfl,gq q cs.length⟩ sc sk se (rfl:(AV.slice p' 0 s.P.length none).cellOk=true) (rfl:(AV.slice t' 0 s.T.length none).cellOk=true) (dz q' i) ⟨rfl,rfl,gq q' i⟩ n5 n6 (cq q cs.length) slN e6 e7 l1 l5 l6 l7 l8 l9 r5 r6 rW ?_
 rintro env ⟨l1,l5,l8,l9⟩
 exact xG (by rw[List.length_append];omega) (.inr (by omega)) (rfl:(AV.slice p 0 s.P.length none).cellOk=true) (rfl:(AV.slice t 0 s.T.length none).cellOk=true) (dz q cs.length) ⟨rfl,rfl,gq q cs.length⟩ rfl rfl rfl ⟨rfl,rfl,rfl⟩ (by rw[List.getElem?_append_left (List.getElem?_eq_some_iff.1 n5).1];exact n5) (by rw[List.getElem?_append_left (List.getElem?_eq_some_iff.1 n8).1];exact n8) (cq q cs.length) e8 l1 l5 l8 l9
set_option maxRecDepth 16384 in
set_option maxHeartbeats 4000000 in
theorem MA{s:Sheet}{a:AV}{X:Slot}{new:Mem}{p t q:Nat}{evs:List (List AV)}{cs:List Evc}{M:Mem}
  (hack:a.cellOk=true) (hakn:a.known=true) (hX:Slot.refs 1 X=[]∧∀f,Slot.ren f X=X) (hM:M=[X,.cells true 0 [.int .u8 s.kind,.int .i8 s.sx,.int .i8 s.sy,.bool s.half,a]]++new) (H:Tryz.HstC s p t q evs cs M) (hd0:AE [ak] (cs.map unE)=false) (hl3:cs.length≤3)
  (fK:ACallsTo Tryz.prog 6 [] [X,.cells true 0 [.int .u8 s.kind,.int .i8 s.sx,.int .i8 s.sy,.bool s.half,a]] (.bool true) [X,.cells true 0 [.int .u8 s.kind,.int .i8 s.sx,.int .i8 s.sy,.bool s.half,a]]) (fF:ACallsTo Tryz.prog 7 [eF s a] [X,.cells true 0 [.int .u8 s.kind,.int .i8 s.sx,.int .i8 s.sy,.bool s.half,a]] (.bool true) [X,.cells true 0 [.int .u8 s.kind,.int .i8 s.sx,.int .i8 s.sy,.bool s.half,a]])
  (fM:ACallsTo Tryz.prog 8 [eF s a] [X,.cells true 0 [.int .u8 s.kind,.int .i8 s.sx,.int .i8 s.sy,.bool s.half,a]] (.agg (aq s p t q cs.length)) ([X,.cells true 0 [.int .u8 s.kind,.int .i8 s.sx,.int .i8 s.sy,.bool s.half,a]]++new)) (i:Nat) (hi:i<cs.length):
  ACallsTo Tryz.prog 4 [eF s a,.int .i64 ((i:Nat):Int)] [X] (.bool true) [X]:=by
 have N1:=H.more [.cells true 0 (aq s p t q cs.length)]
 obtain⟨p',t',q',evs',newA,gA,HA,okA⟩:=rk N1 hd0 i (by omega)
 have li:(cs.take i).length=i:=by rw[List.length_take];omega
 obtain⟨sv,sc,sk,se,sE,sl,sr⟩:=Dm H i (by omega)
 have lM:1≤M.length:=by rw[hM];simp
 obtain⟨p2,t2,q2,evs2,newB,gB,HB,okB⟩:=zy (H.more (.cells true 0 (aq s p t q cs.length)::(newA++[.cells true 0 (aq s p' t' q' i)]))) hd0 i hi
 obtain⟨N,hN⟩:∃N,N=M++(.cells true 0 (aq s p t q cs.length)::(newA++(.cells true 0 (aq s p' t' q' i)::(newB++[.cells true 0 (aq s p2 t2 q2 (cs.length-1))])))):=⟨_,rfl⟩
 have lN:1≤N.length:=by rw[hN,List.length_append];omega
 have lNM:M.length≤N.length:=by rw[hN,List.length_append];omega
 have HN:Tryz.HstC s p t q evs cs N:=by rw[hN];exact H.more _
 have HAN:Tryz.HstC s p' t' q' evs' (cs.take i) N:=by
  have:=HA.more (.cells true 0 (aq s p' t' q' i)::(newB++[.cells true 0 (aq s p2 t2 q2 (cs.length-1))]))
  rw[hN];simpa using this
 have n5:N[M.length]? =some (.cells true 0 (aq s p t q cs.length)):=by rw[hN,qR];rfl
 have n6:N[M.length+(newA.length+1)]? =some (.cells true 0 (aq s p' t' q' i)):=by rw[hN];exact at6 _ _ _ _ _
 have n8:N[M.length+(newA.length+(newB.length+1)+1)]? =some (.cells true 0 (aq s p2 t2 q2 (cs.length-1))):=by rw[hN];exact at8 _ _ _ _ _ _
 have sEN:EvsAt (N++[.cells true 0 [.slice p 0 s.P.length none,.slice t 0 s.T.length none,.str ak,sv]]) sv (cs.take i):=by rw[hN,List.append_assoc];exact sE _
 have slN:∀Z,nE (az Tryz.prog) (N++Z) 39 (evV q cs.length) none (some (.int .i64 i))=some sv:=fun Z=>by rw[hN,List.append_assoc];exact sl _
 have r5:RefT N.length (aq s p t q cs.length):=HN.refs
 have r6:RefT N.length (aq s p' t' q' i):=by have:=HAN.refs;rwa [li] at this
 have rW:RefT N.length [.slice p 0 s.P.length none,.slice t 0 s.T.length none,.str ak,sv]:=by
  refine .of ?_
  have a:=HN.rowP.refs 0
  have b:=HN.rowT.refs 0
  have c:sv.refsOk (fun b=>decide (b<N.length))=true:=AV.refsOk_mono (fun k hk=>by simp only[decide_eq_true_eq] at hk ⊢;omega) sv sr
  simp only[Nat.add_zero] at a b
  simp only[AV.refsOkL,a,b,c,Bool.and_true,Bool.true_and]
  rfl
 have aA:=(HAN.more [.cells true 0 [.slice p 0 s.P.length none,.slice t 0 s.T.length none,.str ak,sv]]).hc
 rw[li] at aA
 have aH:=(HN.more [.cells true 0 [.slice p 0 s.P.length none,.slice t 0 s.T.length none,.str ak,sv]]).hc
 have aW:HcAt (N++[.cells true 0 [.slice p 0 s.P.length none,.slice t 0 s.T.length none,.str ak,sv]]) [.slice p 0 s.P.length none,.slice t 0 s.T.length none,.str ak,sv] s (cs.take i):=⟨_,_,_,rfl,(HN.more [.cells true 0 [.slice p 0 s.P.length none,.slice t 0 s.T.length none,.str ak,sv]]).rowP,(HN.more [.cells true 0 [.slice p 0 s.P.length none,.slice t 0 s.T.length none,.str ak,sv]]).rowT,sEN⟩
 have gS:=qB aA aW (fun e he=>(HAN.good e he).ok) (by omega) true (.inl ⟨rfl,rfl⟩)
 have gQ:=tN aA aH (fun e he=>(HAN.good e he).ok) (by omega) (decide (i=cs.length)) (by
  by_cases hin:i=cs.length
  ·exact .inl ⟨decide_eq_true hin,List.take_of_length_le (by omega)⟩
  ·exact .inr ⟨decide_eq_false hin,by rw[li];exact hin⟩)
 have HBN:Tryz.HstC s p2 t2 q2 evs2 (cs.take i++cs.drop (i+1)) N:=by
  have:=HB.more [.cells true 0 (aq s p2 t2 q2 (cs.length-1))]
  rw[hN];simpa using this
 have lB:(cs.take i++cs.drop (i+1)).length=cs.length-1:=by rw[List.length_append,List.length_take,List.length_drop];omega
 obtain⟨N3,hN3⟩:∃N3,N3=N++[.cells true 0 [.slice p 0 s.P.length none,.slice t 0 s.T.length none,.str ak,sv]]:=⟨_,rfl⟩
 rw[←hN3] at gS gQ
 have l3:N3.length=N.length+1:=by rw[hN3];simp
 have H3:Tryz.HstC s p t q evs cs N3:=by rw[hN3];exact HN.more _
 have m5:N3[M.length]? =some (.cells true 0 (aq s p t q cs.length)):=by rw[hN3,List.getElem?_append_left (List.getElem?_eq_some_iff.1 n5).1];exact n5
 have m8:N3[M.length+(newA.length+(newB.length+1)+1)]? =some (.cells true 0 (aq s p2 t2 q2 (cs.length-1))):=by rw[hN3,List.getElem?_append_left (List.getElem?_eq_some_iff.1 n8).1];exact n8
 obtain⟨D,hD⟩:∃D,D=evs.flatten:=⟨_,rfl⟩
 have lD:D.length=cs.length*32:=by rw[hD];exact H.flat
 have cD:D.all AV.cellOk=true:=by rw[hD];exact Jd H.cok
 obtain⟨D',hD'⟩:∃D',D' =D.take (i*32)++D.drop ((i+1)*32):=⟨_,rfl⟩
 have gK:=P5 ((H3.more [.cells true 0 (aq s p t q cs.length)]).rowE) (by rw[←hD,lD]) (by omega) (by rw[←hD];exact cD)
 have lz:(N3++[Slot.cells true 0 (aq s p t q cs.length)]).length=N3.length+1:=by simp
 have eq0:evV q cs.length=.slice q 0 cs.length none:=by unfold evV;rw[if_neg (by omega)]
 have ec0:clV (N3.length+1) cs.length=.slice (N3.length+2) 0 cs.length none:=by unfold clV;rw[if_neg (by omega)]
 have ex0:clX 32 cs.length D=.cells true 32 D:=by unfold clX;rw[if_neg (by omega)]
 rw[lz,eq0,ec0,←hD,ex0] at gK
 obtain⟨Mx,hMx⟩:∃Mx,Mx=N3++[.cells true 0 (aq s p t q cs.length),.absent,.cells true 32 D]:=⟨_,rfl⟩
 have hbx:Mx[N3.length+2]? =some (.cells true 32 D):=by rw[hMx,fQ];rfl
 have rD:AV.refsOkL (fun b=>decide (b<Mx.length)) D=true:=by
  rw[hD]
  refine iF fun e he=>?_
  obtain⟨j,hj⟩:=List.getElem?_of_mem he
  have hl:=(List.getElem?_eq_some_iff.1 hj).1
  have:=((H3.more [.cells true 0 (aq s p t q cs.length),.absent,.cells true 32 D]).con j e _ hj (List.getElem?_eq_getElem (by rw[←H.len];exact hl))).refs 0
  rw[hMx];simpa using this
 have gX:=Kr hbx lD hi (by omega) cD rD
 rw[←hD',show Mx.set (N3.length+2) (.cells true 32 D')=N3++[.cells true 0 (aq s p t q cs.length),.absent,.cells true 32 D'] by rw[hMx,yK];simp,hMx] at gX
 obtain⟨N4,hN4⟩:∃N4,N4=N3++[.cells true 0 [.slice p 0 s.P.length none,.slice t 0 s.T.length none,.str ak,.slice (N3.length+2) 0 (cs.length-1) none],.absent,.cells true 32 D']:=⟨_,rfl⟩
 have l4:N4.length=N3.length+3:=by rw[hN4];simp
 have H4:Tryz.HstC s p t q evs cs N4:=by rw[hN4];exact H3.more _
 have HB4:Tryz.HstC s p2 t2 q2 evs2 (cs.take i++cs.drop (i+1)) N4:=by rw[hN4,hN3];exact(HBN.more _).more _
 have aB:=HB4.hc
 rw[lB] at aB
 have aW2:HcAt N4 [.slice p 0 s.P.length none,.slice t 0 s.T.length none,.str ak,.slice (N3.length+2) 0 (cs.length-1) none] s (cs.take i++cs.drop (i+1)):=by
  refine⟨_,_,_,rfl,H4.rowP,H4.rowT,evs.take i++evs.drop (i+1),by simp[H.len],?_,fun j e c h1 h2=>?_⟩
  ·rw[lB,List.flatten_append,←yw i H.l32,←yv (i+1) H.l32,←hD,←hD']
   have lD' :D'.length=(cs.length-1)*32:=by rw[hD',List.length_append,List.length_take,List.length_drop];omega
   by_cases h1:cs.length-1=0
   ·exact .inl ⟨h1,List.eq_nil_of_length_eq_zero (by rw[lD',h1,Nat.zero_mul]),.inr ⟨N3.length+2,by rw[h1]⟩⟩
   ·exact .inr ⟨N3.length+2,true,D',rfl,by omega,by rw[hN4,fQ];rfl,List.take_of_length_le (by omega)⟩
  ·have hlt:(evs.take i).length=(cs.take i).length:=by rw[List.length_take,List.length_take,H.len]
   by_cases hj:j<(evs.take i).length
   ·rw[List.getElem?_append_left hj] at h1
    rw[List.getElem?_append_left (by omega)] at h2
    exact H4.takeCon i j e c h1 h2
   ·rw[List.getElem?_append_right (by omega)] at h1
    rw[List.getElem?_append_right (by omega),←hlt] at h2
    exact H4.dropCon (i+1) _ e c h1 h2
 have okB' :∀e∈cs.take i++cs.drop (i+1),e.Ok:=fun e he=>(HB4.good e he).ok
 have gS2:=qB aB aW2 okB' (by omega) true (.inl ⟨rfl,rfl⟩)
 have gQ2:=tN aB H4.hc okB' (by omega) false (.inr ⟨rfl,by rw[lB];omega⟩)
 obtain⟨O,hO,e1,e2,e3,e4,e5,e6,e7,e8,e9,e10,e11⟩:∃O,OracleOk Tryz.prog O∧O (.fn 6) [] ([X,.cells true 0 [.int .u8 s.kind,.int .i8 s.sx,.int .i8 s.sy,.bool s.half,a]])=some ⟨.bool true,none,[]⟩∧O (.fn 7) [eF s a] ([X,.cells true 0 [.int .u8 s.kind,.int .i8 s.sx,.int .i8 s.sy,.bool s.half,a]])=some ⟨.bool true,none,[]⟩∧O (.fn 8) [eF s a] ([X,.cells true 0 [.int .u8 s.kind,.int .i8 s.sx,.int .i8 s.sy,.bool s.half,a]])=some ⟨.agg (aq s p t q cs.length),none,new⟩∧O (.fn 16) [.agg (aq s p t q cs.length),.int .i64 ((i:Nat):Int)] (M++[.cells true 0 (aq s p t q cs.length)])=some ⟨.tuple [.agg (aq s p' t' q' i),.int .i64 0],none,newA⟩∧O (.fn 15) [.agg (aq s p t q cs.length),.int .i64 ((i:Nat):Int)] (M++(.cells true 0 (aq s p t q cs.length)::(newA++[.cells true 0 (aq s p' t' q' i)])))=some ⟨.tuple [.agg (aq s p2 t2 q2 (cs.length-1)),.int .i64 0],none,newB⟩∧O (.fn 14) [.agg (aq s p' t' q' i),.agg [.slice p 0 s.P.length none,.slice t 0 s.T.length none,.str ak,sv]] (N3)=some ⟨.bool true,none,[]⟩∧O (.fn 17) [.agg (aq s p' t' q' i),.agg (aq s p t q cs.length)] (N3)=some ⟨.bool (decide (i=cs.length)),none,[]⟩∧O (.fn 11) [.slice q 0 cs.length none] (N3++[.cells true 0 (aq s p t q cs.length)])=some ⟨.slice (N3.length+2) 0 cs.length none,none,[.absent,.cells true 32 D]⟩∧O (.fn 18) [.slice (N3.length+2) 0 cs.length none,.int .i64 ((i:Nat):Int),.int .i64 ((i+1:Nat):Int)] (N3++[.cells true 0 (aq s p t q cs.length),.absent,.cells true 32 D])=some ⟨.slice (N3.length+2) 0 (cs.length-1) none,some (N3++[.cells true 0 (aq s p t q cs.length),.absent,.cells true 32 D']),[]⟩∧O (.fn 14) [.agg (aq s p2 t2 q2 (cs.length-1)),.agg [.slice p 0 s.P.length none,.slice t 0 s.T.length none,.str ak,.slice (N3.length+2) 0 (cs.length-1) none]] (N4)=some ⟨.bool true,none,[]⟩∧O (.fn 17) [.agg (aq s p2 t2 q2 (cs.length-1)),.agg (aq s p t q cs.length)] (N4)=some ⟨.bool false,none,[]⟩:=
  ⟨cg [(6,[],[X,.cells true 0 [.int .u8 s.kind,.int .i8 s.sx,.int .i8 s.sy,.bool s.half,a]],⟨.bool true,none,[]⟩),(7,[eF s a],[X,.cells true 0 [.int .u8 s.kind,.int .i8 s.sx,.int .i8 s.sy,.bool s.half,a]],⟨.bool true,none,[]⟩),(8,[eF s a],[X,.cells true 0 [.int .u8 s.kind,.int .i8 s.sx,.int .i8 s.sy,.bool s.half,a]],⟨.agg (aq s p t q cs.length),none,new⟩),(16,[.agg (aq s p t q cs.length),.int .i64 ((i:Nat):Int)],M++[.cells true 0 (aq s p t q cs.length)],⟨.tuple [.agg (aq s p' t' q' i),.int .i64 0],none,newA⟩),(15,[.agg (aq s p t q cs.length),.int .i64 ((i:Nat):Int)],M++(.cells true 0 (aq s p t q cs.length)::(newA++[.cells true 0 (aq s p' t' q' i)])),⟨.tuple [.agg (aq s p2 t2 q2 (cs.length-1)),.int .i64 0],none,newB⟩),(14,[.agg (aq s p' t' q' i),.agg [.slice p 0 s.P.length none,.slice t 0 s.T.length none,.str ak,sv]],N3,⟨.bool true,none,[]⟩),(17,[.agg (aq s p' t' q' i),.agg (aq s p t q cs.length)],N3,⟨.bool (decide (i=cs.length)),none,[]⟩),(11,[.slice q 0 cs.length none],N3++[.cells true 0 (aq s p t q cs.length)],⟨.slice (N3.length+2) 0 cs.length none,none,[.absent,.cells true 32 D]⟩),(18,[.slice (N3.length+2) 0 cs.length none,.int .i64 ((i:Nat):Int),.int .i64 ((i+1:Nat):Int)],N3++[.cells true 0 (aq s p t q cs.length),.absent,.cells true 32 D],⟨.slice (N3.length+2) 0 (cs.length-1) none,some (N3++[.cells true 0 (aq s p t q cs.length),.absent,.cells true 32 D']),[]⟩),(14,[.agg (aq s p2 t2 q2 (cs.length-1)),.agg [.slice p 0 s.P.length none,.slice t 0 s.T.length none,.str ak,.slice (N3.length+2) 0 (cs.length-1) none]],N4,⟨.bool true,none,[]⟩),(17,[.agg (aq s p2 t2 q2 (cs.length-1)),.agg (aq s p t q cs.length)],N4,⟨.bool false,none,[]⟩)],dn fun y hy=>by
   simp only[List.mem_cons,List.not_mem_nil,or_false] at hy
   rcases hy with rfl | rfl | rfl | rfl | rfl | rfl | rfl | rfl | rfl | rfl | rfl
   ·exact⟨CL fK,fun p h=>by cases h⟩
   ·exact⟨CL fF,fun p h=>by cases h⟩
   ·exact⟨fM,fun p h=>by cases h⟩
   ·exact⟨gA,fun p h=>by cases h⟩
   ·exact⟨gB,fun p h=>by cases h⟩
   ·exact⟨CL gS,fun p h=>by cases h⟩
   ·exact⟨CL gQ,fun p h=>by cases h⟩
   ·exact⟨gK,fun p h=>by cases h⟩
   ·exact⟨CL gX,fun p h=>by cases h;rw[lens.1,lens.1];rfl⟩
   ·exact⟨CL gS2,fun p h=>by cases h⟩
   ·exact⟨CL gQ2,fun p h=>by cases h⟩,be,by rw[ag (by decide)];exact be,by rw[ag (by decide),ag (by decide)];exact be,by rw[ag (by decide),ag (by decide),ag (by decide)];exact be,by rw[ag (by decide),ag (by decide),ag (by decide),ag (by decide)];exact be,by rw[ag (by decide),ag (by decide),ag (by decide),ag (by decide),ag (by decide)];exact be,by rw[ag (by decide),ag (by decide),ag (by decide),ag (by decide),ag (by decide),ag (by decide)];exact be,by rw[ag (by decide),ag (by decide),ag (by decide),ag (by decide),ag (by decide),ag (by decide),ag (by decide)];exact be,by rw[ag (by decide),ag (by decide),ag (by decide),ag (by decide),ag (by decide),ag (by decide),ag (by decide),ag (by decide)];exact be,by rw[ag (by decide),ag (by decide),ag (by decide),ag (by decide),ag (by decide),GT (by first | (simp only[lens];omega) | omega),ag (by decide),ag (by decide),ag (by decide)];exact be,by rw[ag (by decide),ag (by decide),ag (by decide),ag (by decide),ag (by decide),ag (by decide),GT (by first | (simp only[lens];omega) | omega),ag (by decide),ag (by decide),ag (by decide)];exact be⟩
 clear gA gB gS gQ gS2 gQ2 gK gX aA aH aW aB aW2 HAN HN HA HB HBN HB4 H4 H3 okA okB okB' N1 sE
 have hev:=cq q cs.length
 refine qA hO hack hakn hX hM e1 e2 e3 ?_
 refine tF lM (rfl:(AV.slice p 0 s.P.length none).cellOk=true) (rfl:(AV.slice t 0 s.T.length none).cellOk=true) (dz q cs.length) ⟨rfl,rfl,gq q cs.length⟩ (rfl:(AV.slice p' 0 s.P.length none).cellOk=true) (rfl:(AV.slice t' 0 s.T.length none).cellOk=true) (dz q' i) ⟨rfl,rfl,gq q' i⟩ (rfl:(AV.slice p2 0 s.P.length none).cellOk=true) (rfl:(AV.slice t2 0 s.T.length none).cellOk=true) (dz q2 (cs.length-1)) ⟨rfl,rfl,gq q2 (cs.length-1)⟩ e4 e5 ?_
 rintro env ⟨l1,l5,l6,l7,l8,l9⟩
 suffices hh:dw O 1 iw N env by rw[hN] at hh;exact hh
 refine xF (n:=cs.length) lN (by omega) (rfl:(AV.slice p 0 s.P.length none).cellOk=true) (rfl:(AV.slice t 0 s.T.length none).cellOk=true) (dz q cs.length) ⟨rfl,rfl,gq q cs.length⟩ sc sk se (rfl:(AV.slice p' 0 s.P.length none).cellOk=true) (rfl:(AV.slice t' 0 s.T.length none).cellOk=true) (dz q' i) ⟨rfl,rfl,gq q' i⟩ n5 n6 hev slN (by rw[←hN3];exact e6) (by rw[←hN3];exact e7) l1 l5 l6 l7 l8 l9 r5 r6 rW ?_
 rintro env ⟨l1,l5,l8,l9⟩
 rw[←hN3]
 refine IH (n:=cs.length) (by omega) (by omega) (by omega) (dz q cs.length) m5 hev l1 l5 l8 l9 ?_
 rintro env ⟨l1,l5,l8,l9⟩
 rw[hN4] at e10 e11
 exact KV (by omega) (by omega) hi (rfl:(AV.slice p 0 s.P.length none).cellOk=true) (rfl:(AV.slice t 0 s.T.length none).cellOk=true) (dz q cs.length) ⟨rfl,rfl,gq q cs.length⟩ (rfl:(AV.slice p2 0 s.P.length none).cellOk=true) (rfl:(AV.slice t2 0 s.T.length none).cellOk=true) (dz q2 (cs.length-1)) ⟨rfl,rfl,gq q2 (cs.length-1)⟩ m5 m8 eq0 e8 e9 e10 e11 l1 l5 l8 l9
set_option maxRecDepth 16384 in
set_option maxHeartbeats 4000000 in
theorem jL(s:Sheet) (hs:s.Ok) (ds:List Deed) (hd:∀d∈ds,d.Ok) (X:Slot) (a:AV) (hx:PN ds X a) (hX:X=.absent∨X=.cells false 12 (kw ds)) (i:Int):
  ACallsTo Tryz.prog 4 [eF s a,.int .i64 i] [X] (.bool true) [X]:=by
 have hG:aI Tryz.prog 4=some Tryz.f4:=by kernel_rfl
 have hfit:=fun N=>Ky s a ds.length (by rcases hx with⟨rfl,rfl⟩ | ⟨_,rfl⟩;exact .inl ⟨rfl,rfl⟩;exact .inr rfl) N
 have hack:a.cellOk=true:=by rcases hx with⟨_,rfl⟩ | ⟨_,rfl⟩<;>rfl
 have hakn:a.known=true:=by rcases hx with⟨_,rfl⟩ | ⟨_,rfl⟩<;>rfl
 by_cases h3:ds.length≤3
 rotate_left
 ·have hO:OracleOk Tryz.prog (ao (cb [(6,[],.bool true),(7,[eF s a],.bool false)])):=er fun y hy M=>by
   simp only[List.mem_cons,List.not_mem_nil,or_false] at hy
   rcases hy with rfl | rfl
   ·exact rm M
   ·have:=hfit M;rwa [decide_eq_false h3] at this
  have h:ab (az Tryz.prog) (fun _=>[]) (aI Tryz.prog) (ao (cb [(6,[],.bool true),(7,[eF s a],.bool false)])) 1 4 [eF s a,.int .i64 i] [X]=some ⟨.bool true,none,[]⟩:=by
   clear hO hfit
   simp[-AV.cellOk,gW,qo,qi,kN,qj,qm,-List.all_eq_true,ab,hG,Tryz.f4,ao,cb,eF,hack,hakn]
   done
  have:=(ae aa (ai _) hO (aj _) h).1
  simpa [CallRes.mem] using this
 obtain⟨p,t,q,evs,us,new,hK,H0,hnd,hl3⟩:=C8 s hs ds hd h3 X a (.cells true 0 [.int .u8 s.kind,.int .i8 s.sx,.int .i8 s.sy,.bool s.half,a]) hx
 obtain⟨cs,rfl,H⟩:=H0.toC
 have hlen:=H.len
 rw[hlen] at hK hl3
 have hd0:AE [ak] (cs.map unE)=false:=AF (by simpa using hnd)
 have fF:ACallsTo Tryz.prog 7 [eF s a] [X,.cells true 0 [.int .u8 s.kind,.int .i8 s.sx,.int .i8 s.sy,.bool s.half,a]] (.bool true) [X,.cells true 0 [.int .u8 s.kind,.int .i8 s.sx,.int .i8 s.sy,.bool s.half,a]]:=by have:=hfit [X,.cells true 0 [.int .u8 s.kind,.int .i8 s.sx,.int .i8 s.sy,.bool s.half,a]];rwa [decide_eq_true h3] at this
 have fK:=rm [X,.cells true 0 [.int .u8 s.kind,.int .i8 s.sx,.int .i8 s.sy,.bool s.half,a]]
 by_cases h0:i<0∨(cs.length:Int)<i
 ·exact My hack hakn (o9 hX) rfl H hd0 hl3 fK fF hK i h0
 ·obtain⟨j,rfl⟩:∃j:Nat,i=j:=⟨i.toNat,by omega⟩
  by_cases h1:j=cs.length
  ·exact Mz hack hakn (o9 hX) rfl H hd0 hl3 fK fF hK j h1
  ·exact MA hack hakn (o9 hX) rfl H hd0 hl3 fK fF hK j (by omega)
end Go.Proofs
