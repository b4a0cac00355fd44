/- See K51. -/
import Derived.Test.YtffdedmakncfmaaGreatDoorK42
set_option linter.all false
namespace Go.Proofs
open Go.Eng
def hS(Z:List Int):List (List UInt8):=(qH Z).map aB
theorem Qy(Z:List Int):stC (hS Z)=qC (qH Z):=(RU _).symm
theorem oB(Z:List Int):(hS Z).length=Z.length:=by simp[hS,qH]
def Bw(x:Sketch) (n:Nat):Nat→List (List Int)
 |1=>[]
 |2=>[upL x.s0 (x.base.l n) n]
 |_=>[upL x.s0 (x.base.l n) n,upL x.s1 (upL x.s0 (x.base.l n) n) n]
def xe(x:Sketch) (n c:Nat):Evc:={ k:=1,nm:=[110],B:=hS (x.base.l n),U:=uNm c,S:=(Bw x n c).map hS }
theorem OG{h:Hts}{L:List Int}{n i:Nat}{z y:Int}(hz:L[i]? =some z) (hy:(upL h L n)[i]? =some y):z≤y:=by
 unfold upL at hy
 rw[List.getElem?_map] at hy
 by_cases hi:i<n
 ·rw[List.getElem?_range hi] at hy
  have e:L.getD i 0=z:=by rw[List.getD_eq_getElem?_getD,hz];rfl
  simp only[Option.map_some,Option.some.injEq] at hy
  rw[e] at hy
  omega
 ·rw[List.getElem?_eq_none (by simp;omega)] at hy
  simp at hy
theorem D8(s:Sheet) (x:Sketch) (n c:Nat) (hn:n=s.P.length) (h0:0<n) (hl:n≤1000) (hc:c=1∨c=2∨c=3):jJ s (xe x n c):=by
 have lB:(x.base.l n).length=n:=x.base.l_length n
 have lY:∀h L,(upL h L n).length=n:=fun h L=>gj h L n
 have hZ:∀z∈x.base.l n,z.natAbs<1000:=fun z hz=>by have:=mi x n z hz;omega
 have hY1:∀z∈upL x.s0 (x.base.l n) n,z.natAbs<1000:=fun z hz=>by have:=zT x n z hz;omega
 have hY2:∀z∈upL x.s1 (upL x.s0 (x.base.l n) n) n,z.natAbs<1000:=by
  intro z hz
  unfold upL at hz
  obtain⟨k,hk,rfl⟩:=List.mem_map.1 hz
  have hk:=List.mem_range.1 hk
  have h1:=zT x n _ (pN (l:=upL x.s0 (x.base.l n) n) (k:=k) (by rw[gj];exact hk))
  have:=x.s1.z_le k
  unfold upL at h1
  omega
 refine jg eJ.1 (by decide) ⟨?_,?_,?_,?_,?_⟩ (by show [110]∈iI;decide) rfl rfl (fun h=>by cases h) (fun _=>rfl) fun m ev hp hq h=>?_
 ·show(hS _).length≤1000;rw[oB,lB];exact hl
 ·show(uNm c).length≤1000;rcases hc with rfl | rfl | rfl<;>decide
 ·show((Bw x n c).map hS).length≤2;rcases hc with rfl | rfl | rfl<;>simp[Bw]
 ·intro L hL
  have hL:L∈(Bw x n c).map hS:=hL
  rcases hc with rfl | rfl | rfl<;>simp[Bw] at hL
  ·subst hL;rw[oB,lY];exact hl
  ·rcases hL with rfl | rfl<;>(rw[oB,lY];exact hl)
 ·show 0≤1000;omega
 ·obtain⟨b,u,sv,kn,rfl,h1,h2,h3,h4⟩:=h
  obtain rfl:=h4.nil0 rfl
  have e1:(xe x n c).B.length=(x.base.l n).length:=oB _
  rw[e1] at h1
  obtain⟨bb,ob,rfl,hb⟩:=h1.pos (by omega)
  have hB:m[bb]? =some (.cells ob 1 (qC (qH (x.base.l n)))):=by rw[←Qy];exact hb
  obtain⟨vs,lv,hv,hr⟩:=h3
  rcases hc with rfl | rfl | rfl
  ·obtain⟨bu,ou,rfl,hu⟩:=h2.pos (by show 0<1;omega)
   obtain rfl:=hv.nil0 rfl
   exact Dg s [110] _ (by decide) _ hZ (by omega) (by omega) m bb bu _ _ _ _ hp hq hB hu
  ·obtain⟨bu,ou,rfl,hu⟩:=h2.pos (by show 0<2;omega)
   obtain⟨bc,oc,rfl,hc⟩:=hv.pos (by show 0<1;omega)
   match vs,lv with
   | [v1],_=>
    have r1:=hr 0 v1 (hS (upL x.s0 (x.base.l n) n)) rfl rfl
    rw[oB,lY] at r1
    obtain⟨b1,o1,rfl,g1⟩:=r1.pos h0
    rw[Qy] at g1
    have hc:m[bc]? =some (.cells oc 1 [.slice b1 0 (x.base.l n).length none]):=by rw[lB];exact hc
    exact Dh s [110] _ _ (by decide) (by decide) (by decide) _ hZ (by omega) (by omega) _ hY1 (by rw[lY];exact hn) (fun i z y hz hy=>OG hz hy) m bb bu bc b1 _ _ _ _ _ _ hp hq hB hu hc g1
  ·obtain⟨bu,ou,rfl,hu⟩:=h2.pos (by show 0<3;omega)
   obtain⟨bc,oc,rfl,hc⟩:=hv.pos (by show 0<2;omega)
   match vs,lv with
   | [v1,v2],_=>
    have r1:=hr 0 v1 (hS (upL x.s0 (x.base.l n) n)) rfl rfl
    rw[oB,lY] at r1
    obtain⟨b1,o1,rfl,g1⟩:=r1.pos h0
    rw[Qy] at g1
    have r2:=hr 1 v2 (hS (upL x.s1 (upL x.s0 (x.base.l n) n) n)) rfl rfl
    rw[oB,lY] at r2
    obtain⟨b2,o2,rfl,g2⟩:=r2.pos h0
    rw[Qy] at g2
    have hc:m[bc]? =some (.cells oc 1 [.slice b1 0 (x.base.l n).length none,.slice b2 0 (x.base.l n).length none]):=by rw[lB];exact hc
    exact Di s [110] _ _ _ (by decide) (by decide) (by decide) (by decide) (by decide) (by decide) _ hZ (by omega) (by omega) _ _ hY1 (by rw[lY];exact hn) (fun i z y hz hy=>OG hz hy) hY2 (by rw[lY];exact hn) (fun i z y hz hy=>OG hz hy) m bb bu bc b1 b2 _ _ _ _ _ _ _ hp hq hB hu hc g1 g2
set_option maxRecDepth 8192 in
set_option maxHeartbeats 12800000 in
theorem BL(x:Sketch) (hx:x.Ok) (n k:Nat) (hn:0<n) (hl:n≤1000) (hk:x.kind%5=0):
  ACallsTo Tryz.prog 8 [.agg [.slice 0 0 n none,.slice 1 0 k none],.agg x.cells,.str [110]] [.absent,.absent] (.agg ((xe x n (ctN x)).cells (.slice 2 0 n none) (.slice 3 0 (ctN x) none) (dqS 2 n (ctN x)) .nilslice)) ([.absent,.absent]++dqN 2 x n (ctN x)):=by
 have hG:aN Tryz.prog 8=some Tryz.f8:=by kernel_rfl
 have l0:=Sketch.cells_len hx
 have r0:=cD x.closed
 have o0:=eU x.closed
 have e0:=fun f=>aJ (ρ:=f) x.closed
 have ik:=Sketch.cells_0 hx
 have jk:=bS ik
 have t5:=kd5 x.kind
 rw[hk] at t5
 have hD:=fun M p t hp ht=>H4 x hx n k hn hl M p t hp ht
 have h3:=iA x
 have ec:(xe x n (ctN x)).cells (.slice 2 0 n none) (.slice 3 0 (ctN x) none) (dqS 2 n (ctN x)) .nilslice=xg [110] (.slice 2 0 n none) (.slice 3 0 (ctN x) none) (dqS 2 n (ctN x)):=rfl
 rw[ec]
 clear ec
 obtain⟨c,hc⟩:∃c,c=ctN x:=⟨_,rfl⟩
 rw[←hc] at hD h3 ⊢
 clear hc
 have hN:dqN 2 x n c=dqN 2 x n c:=rfl
 obtain⟨A,hA⟩:∃R,R=qC (qH (x.base.l n)):=⟨_,rfl⟩
 have Ar:∀n,AV.refsL n A=[]:=fun n=>by rw[hA,eC]
 have An:∀f,AV.rens f A=A:=fun f=>by rw[hA,iD]
 obtain⟨R,hR⟩:∃R,R=qC (qH (upL x.s0 (x.base.l n) n)):=⟨_,rfl⟩
 have Rr:∀n,AV.refsL n R=[]:=fun n=>by rw[hR,eC]
 have Rn:∀f,AV.rens f R=R:=fun f=>by rw[hR,iD]
 obtain⟨S,hS⟩:∃R,R=qC (qH (upL x.s1 (upL x.s0 (x.base.l n) n) n)):=⟨_,rfl⟩
 have Sr:∀n,AV.refsL n S=[]:=fun n=>by rw[hS,eC]
 have Sn:∀f,AV.rens f S=S:=fun f=>by rw[hS,iD]
 have hC' :∃C,x.cells=C:=⟨_,rfl⟩
 obtain⟨C,hC⟩:=hC'
 rw[hC] at l0 r0 o0 e0 ik jk hD ⊢
 have tk:C.take 34=C:=List.take_of_length_le (by omega)
 have u1:IntKind.i64.wrap 1=1:=rfl
 have u0:IntKind.i64.wrap 0=0:=rfl
 obtain⟨L,hL⟩:∃L:List (FuncId×List AV×(Mem→Prop)×CallRes),L=[(25,[.agg [.slice 0 0 n none,.slice 1 0 k none],.agg C,.str [110]],fun M=>M.length=6,⟨.agg [.slice 6 0 n none,.slice 7 0 c none,dqS 6 n c],none,dqN 6 x n c⟩)]:=⟨_,rfl⟩
 have hO:OracleOk Tryz.prog (cr L):=jT fun z hz M hp=>by
  rw[hL] at hz
  simp only[List.mem_cons,List.not_mem_nil,or_false] at hz
  subst hz
  have hp:M.length=6:=hp
  have h:=hD M 0 1 (by omega) (by omega)
  rw[hp] at h
  exact ah h
 have e1:∀M:Mem,M.length=6→cr L (.fn 25) [.agg [.slice 0 0 n none,.slice 1 0 k none],.agg C,.str [110]] M=some ⟨.agg [.slice 6 0 n none,.slice 7 0 c none,dqS 6 n c],none,dqN 6 x n c⟩:=fun M hM=>by rw[hL];exact bn hM
 clear hL hD
 have h:aa (aO Tryz.prog) (fun _=>[]) (aN Tryz.prog) (cr L) 1 8 [.agg [.slice 0 0 n none,.slice 1 0 k none],.agg C,.str [110]] [.absent,.absent]=some ⟨.agg (xg [110] (.slice 2 0 n none) (.slice 3 0 c none) (dqS 2 n c)),none,dqN 2 x n c⟩:=by
  rcases h3 with rfl | rfl | rfl<;>
   simp (maxSteps:=1000000) [aa,hG,Tryz.f8,e1,l0,jk,tk,t5,u0,u1,bx,aG,dqS,dqN,←hA,←hR,←hS,Ar,An,Rr,Rn,Sr,Sn,xg,uNm,nmE,stC,List.idxOf?_cons]
 have:=(af ae (aw _) hO (ax _) h).1
 simpa [CallRes.mem] using this
theorem jP(a b c d e:AV):jS (aO Tryz.prog) 147 (.agg [a,b,c,d,e]) 2=some c:=by kernel_rfl
section
variable {M:Mem}{pv tv:AV}{ev:List AV}{n mo lo kd:Int}{k0 k1 mf k3 k4:FuncId}
theorem D9:(aV Tryz.f42).map (fun o=>ek o.toList)=[[0,0,3,7,15,15,47,111,15,495,1023,2047]]:=by kernel_rfl
set_option maxRecDepth 8192 in
set_option maxHeartbeats 4000000 in
theorem xX(cp:pv.cellOk=true∧tv.cellOk=true) (hl:ev.length=32) (hck:ev.all AV.cellOk=true) (rp:∀x,pv.refsOk (fun b=>decide (b<M.length+x))=true) (rt:∀x,tv.refsOk (fun b=>decide (b<M.length+x))=true) (rev:∀x,AV.refsOkL (fun b=>decide (b<M.length+x)) ev=true)
  (h0:ev[0]? =some (.int .i64 kd)) (hlo:lo=if kd=1 then -2 else 0)
  (hC:∀Z,ACallsTo Tryz.prog 83 [.agg [pv,tv],.agg ev] (M++Z) (.int .i64 0) (M++Z)) (hK:∀Z,ACallsTo Tryz.prog 63 [.agg ev] (M++Z) (.agg [.func k0 [],.func k1 [],.func mf [],.func k3 [],.func k4 []]) (M++Z)) (hN:∀Z,ACallsTo Tryz.prog mf [.agg ev] (M++Z) (.int .i64 mo) (M++Z)) (n1:83≠mf) (n2:63≠mf):
  ACallsTo Tryz.prog 42 [.agg [pv,tv],.agg ev,.int .i64 n] M (.int .i64 (if lo≤n∧n≤mo then 0 else 10)) M:=by
 have hG:aN Tryz.prog 42=some Tryz.f42:=by kernel_rfl
 obtain⟨c1,c2⟩:=cp
 obtain⟨L,hL⟩:∃L:List (FuncId×List AV×(Mem→Prop)×CallRes),L=[(83,[.agg [pv,tv],.agg ev],(fun N=>∃Z,N=M++Z),⟨.int .i64 0,none,[]⟩),(63,[.agg ev],(fun N=>∃Z,N=M++Z),⟨.agg [.func k0 [],.func k1 [],.func mf [],.func k3 [],.func k4 []],none,[]⟩),(mf,[.agg ev],(fun N=>∃Z,N=M++Z),⟨.int .i64 mo,none,[]⟩)]:=⟨_,rfl⟩
 have hO:OracleOk Tryz.prog (cr L):=jT fun y hy N hp=>by
  rw[hL] at hy
  simp only[List.mem_cons,List.not_mem_nil,or_false] at hy
  rcases hy with rfl | rfl | rfl
  ·obtain⟨Z,rfl⟩:=hp;exact ah (by simpa using hC Z)
  ·obtain⟨Z,rfl⟩:=hp;exact ah (by simpa using hK Z)
  ·obtain⟨Z,rfl⟩:=hp;exact ah (by simpa using hN Z)
 have e1:∀Z,cr L (.fn 83) [.agg [pv,tv],.agg ev] (M++Z)=some ⟨.int .i64 0,none,[]⟩:=fun Z=>by rw[hL];exact bn ⟨Z,rfl⟩
 have e2:∀Z,cr L (.fn 63) [.agg ev] (M++Z)=some ⟨.agg [.func k0 [],.func k1 [],.func mf [],.func k3 [],.func k4 []],none,[]⟩:=fun Z=>by rw[hL,ar (.inl (by decide))];exact bn ⟨Z,rfl⟩
 have e3:∀Z,cr L (.fn mf) [.agg ev] (M++Z)=some ⟨.int .i64 mo,none,[]⟩:=fun Z=>by rw[hL,ar (.inl n1),ar (.inl n2)];exact bn ⟨Z,rfl⟩
 obtain⟨O,hOe⟩:∃O,O=cr L:=⟨_,rfl⟩
 rw[←hOe] at hO e1 e2 e3
 clear hOe hL hC hK hN
 have fr:∀f k,AV.refsOk f (.func k [])=true:=fun _ _=>rfl
 have t0:ev.take 32=ev:=List.take_of_length_le (by omega)
 obtain⟨os',hops⟩:∃os',aV Tryz.f42=os' :=⟨_,rfl⟩
 have hbs' :=cK hops (ls:=[[0,0,3,7,15,15,47,111,15,495,1023,2047]]) D9
 simp only[aV,cc,Tryz.f42,List.nil_append,List.append_nil] at hops
 subst hops
 simp only[List.map_cons,List.map_nil,List.cons.injEq,and_true] at hbs'
 have w2:IntKind.i64.wrap (-2)= -2:=rfl
 have hrun:∃new,bT (aO Tryz.prog) (fun _=>[]) (aN Tryz.prog) O 1 42 [.agg [pv,tv],.agg ev,.int .i64 n] M=some (.int .i64 (if lo≤n∧n≤mo then 0 else 10),M++new):=by
  by_cases hk:kd=1
  ·rw[if_pos hk] at hlo
   subst hlo
   by_cases h1:n< -2
   ·rw[if_neg (by omega)]
    simp[-getElem?_pos,-AV.cellOk,-AV.known,-AV.cells,-fl,-List.all_eq_true,vS,rS,mS,bT,hG,Tryz.f42,hl,t0,h0,hk,h1,e1,-jS,-br,-bk,-aQ,-AV.refsOk,-Slot.refsOk,bz hbs',cH,fQ,eV,cM,cS,iL,bef,Nat.testBit]
   ·by_cases h2:mo<n
    ·rw[if_neg (by omega)]
     simp[-getElem?_pos,-AV.cellOk,-AV.known,-AV.cells,-fl,-List.all_eq_true,vS,rS,mS,bT,hG,Tryz.f42,hl,t0,fr,rev,h0,hk,h1,h2,e1,e2,e3,-jS,jP,-br,-bk,-aQ,-AV.refsOk,-Slot.refsOk,bz hbs',cH,fQ,eV,cM,cS,iL,bef,Nat.testBit]
    ·rw[if_pos (by omega)]
     simp[-getElem?_pos,-AV.cellOk,-AV.known,-AV.cells,-fl,-List.all_eq_true,vS,rS,mS,bT,hG,Tryz.f42,hl,t0,fr,rev,h0,hk,h1,h2,e1,e2,e3,-jS,jP,-br,-bk,-aQ,-AV.refsOk,-Slot.refsOk,bz hbs',cH,fQ,eV,cM,cS,iL,bef,Nat.testBit]
  ·rw[if_neg hk] at hlo
   subst hlo
   by_cases h1:n<0
   ·rw[if_neg (by omega)]
    simp[-getElem?_pos,-AV.cellOk,-AV.known,-AV.cells,-fl,-List.all_eq_true,vS,rS,mS,bT,hG,Tryz.f42,hl,t0,h0,hk,h1,e1,-jS,-br,-bk,-aQ,-AV.refsOk,-Slot.refsOk,bz hbs',cH,fQ,eV,cM,cS,iL,bef,Nat.testBit]
   ·by_cases h2:mo<n
    ·rw[if_neg (by omega)]
     simp[-getElem?_pos,-AV.cellOk,-AV.known,-AV.cells,-fl,-List.all_eq_true,vS,rS,mS,bT,hG,Tryz.f42,hl,t0,fr,rev,h0,hk,h1,h2,e1,e2,e3,-jS,jP,-br,-bk,-aQ,-AV.refsOk,-Slot.refsOk,bz hbs',cH,fQ,eV,cM,cS,iL,bef,Nat.testBit]
    ·rw[if_pos (by omega)]
     simp[-getElem?_pos,-AV.cellOk,-AV.known,-AV.cells,-fl,-List.all_eq_true,vS,rS,mS,bT,hG,Tryz.f42,hl,t0,fr,rev,h0,hk,h1,h2,e1,e2,e3,-jS,jP,-br,-bk,-aQ,-AV.refsOk,-Slot.refsOk,bz hbs',cH,fQ,eV,cM,cS,iL,bef,Nat.testBit]
 obtain⟨new,hrun⟩:=hrun
 exact ACallsTo.forget rfl (bQ ae (aw _) hO (ax _) hrun)
end
end Go.Proofs
namespace Go.Proofs
open Go.Eng
def LV:Option (List UInt8)→AV
 |none=>.tuple [.str [],.bool false,.int .i64 0]
 |some u=>.tuple [.str u,.bool true,.int .i64 0]
section
variable {pv tv b u sv kn:AV}{c:Evc}{x:Int}{M:Mem}{us:List (List UInt8)}{ub:Nat}{o:Bool}
theorem xW(cp:pv.cellOk=true∧tv.cellOk=true) (hk:c.k=1) (hb:b.cellOk=true) (hu:u=.slice ub 0 us.length none) (hs:sv.cellOk=true) (hn:kn.cellOk=true)
  (hr:M[ub]? =some (.cells o 1 (stC us))) (hx:x<us.length) (hl:us.length≤1000) (hP:∀Z,ACallsTo Tryz.prog 42 [.agg [pv,tv],.agg (c.cells b u sv kn),.int .i64 x] (M++Z) (.int .i64 0) (M++Z)):
  ACallsTo Tryz.prog 13 [.agg [pv,tv],.agg (c.cells b u sv kn),.int .i64 x] M (LV (if x= -2 then some [] else if 0≤x then some (us.getD x.toNat []) else none)) M:=by
 have hG:aN Tryz.prog 13=some Tryz.f13:=by kernel_rfl
 have w2:IntKind.i64.wrap (-2)= -2:=rfl
 have hcs:∀s,(AV.str s).cellOk=true:=fun _=>rfl
 have hci:∀k n,(AV.int k n).cellOk=true:=fun _ _=>rfl
 have hcl:∀b o n c,(AV.slice b o n c).cellOk=true:=fun _ _ _ _=>rfl
 subst hu
 obtain⟨c1,c2⟩:=cp
 have hO:OracleOk Tryz.prog (cJ 42 [.agg [pv,tv],.agg (c.cells b (.slice ub 0 us.length none) sv kn),.int .i64 x] (.int .i64 0) (fun N=>∃Z,N=M++Z)):=dT fun N ⟨Z,hZ⟩=>by subst hZ;exact hP Z
 clear hP
 have lr:=(List.getElem?_eq_some_iff.1 hr).1
 have hr' :∀Z,(M++Z)[ub]? =some (.cells o 1 (stC us)):=fun Z=>by rw[List.getElem?_append_left lr];exact hr
 have h:aa (aO Tryz.prog) (fun _=>[]) (aN Tryz.prog) (cJ 42 [.agg [pv,tv],.agg (c.cells b (.slice ub 0 us.length none) sv kn),.int .i64 x] (.int .i64 0) (fun N=>∃Z,N=M++Z)) 1 13 [.agg [pv,tv],.agg (c.cells b (.slice ub 0 us.length none) sv kn),.int .i64 x] M=some ⟨LV (if x= -2 then some [] else if 0≤x then some (us.getD x.toNat []) else none),none,[]⟩:=by
  clear hO
  by_cases h1:x= -2
  ·subst h1
   simp[-AV.cellOk,aa,hG,Tryz.f13,cJ,Evc.cells,LV,hk]
  ·by_cases h2:0≤x
   ·obtain⟨k,rfl⟩:∃k:Nat,x=k:=⟨x.toNat,by omega⟩
    have hkl:k<us.length:=by omega
    obtain⟨y,hy⟩:∃y,us[k]? =some y:=⟨_,List.getElem?_eq_getElem hkl⟩
    have hg:us.getD k []=y:=by simp[List.getD,hy]
    have hst:(stC us)[k]? =some (.str y):=Hy hy
    have hsl:k+1≤(stC us).length:=by rw[jb];omega
    have h3:¬((k:Int)= -2):=by omega
    simp[-AV.cellOk,aa,hG,Tryz.f13,cJ,Evc.cells,LV,hk,hr',hkl,hst,h3]
    exact((List.getElem?_eq_some_iff.1 hy).2).symm
   ·simp[-AV.cellOk,aa,hG,Tryz.f13,cJ,Evc.cells,LV,hk,h1,h2]
 have:=(af ae (aw _) hO (ax _) h).1
 simpa [CallRes.mem] using this
theorem ib(cp:pv.cellOk=true∧tv.cellOk=true) (hk:c.k≠1∧c.k≠4) (hb:b.cellOk=true) (hu:u.cellOk=true) (hs:sv.cellOk=true) (hn:kn.cellOk=true) (hP:∀Z,ACallsTo Tryz.prog 42 [.agg [pv,tv],.agg (c.cells b u sv kn),.int .i64 x] (M++Z) (.int .i64 0) (M++Z)):
  ACallsTo Tryz.prog 13 [.agg [pv,tv],.agg (c.cells b u sv kn),.int .i64 x] M (LV none) M:=by
 have hG:aN Tryz.prog 13=some Tryz.f13:=by kernel_rfl
 have hcs:∀s,(AV.str s).cellOk=true:=fun _=>rfl
 have hci:∀k n,(AV.int k n).cellOk=true:=fun _ _=>rfl
 obtain⟨h1,h4⟩:=hk
 obtain⟨c1,c2⟩:=cp
 have hO:OracleOk Tryz.prog (cJ 42 [.agg [pv,tv],.agg (c.cells b u sv kn),.int .i64 x] (.int .i64 0) (fun N=>∃Z,N=M++Z)):=dT fun N ⟨Z,hZ⟩=>by subst hZ;exact hP Z
 clear hP
 have h:aa (aO Tryz.prog) (fun _=>[]) (aN Tryz.prog) (cJ 42 [.agg [pv,tv],.agg (c.cells b u sv kn),.int .i64 x] (.int .i64 0) (fun N=>∃Z,N=M++Z)) 1 13 [.agg [pv,tv],.agg (c.cells b u sv kn),.int .i64 x] M=some ⟨LV none,none,[]⟩:=by
  clear hO
  simp[-AV.cellOk,aa,hG,Tryz.f13,cJ,Evc.cells,LV,h1,h4]
 have:=(af ae (aw _) hO (ax _) h).1
 simpa [CallRes.mem] using this
theorem wC(cp:pv.cellOk=true∧tv.cellOk=true) (hk:c.k=4) (hb:b.cellOk=true) (hu:u.cellOk=true) (hs:sv.cellOk=true) (hn:kn.cellOk=true) (hP:∀Z,ACallsTo Tryz.prog 42 [.agg [pv,tv],.agg (c.cells b u sv kn),.int .i64 x] (M++Z) (.int .i64 0) (M++Z)):
  ACallsTo Tryz.prog 13 [.agg [pv,tv],.agg (c.cells b u sv kn),.int .i64 x] M (LV (if x=1 then some c.x24 else none)) M:=by
 have hG:aN Tryz.prog 13=some Tryz.f13:=by kernel_rfl
 have hcs:∀s,(AV.str s).cellOk=true:=fun _=>rfl
 have hci:∀k n,(AV.int k n).cellOk=true:=fun _ _=>rfl
 obtain⟨c1,c2⟩:=cp
 have hO:OracleOk Tryz.prog (cJ 42 [.agg [pv,tv],.agg (c.cells b u sv kn),.int .i64 x] (.int .i64 0) (fun N=>∃Z,N=M++Z)):=dT fun N ⟨Z,hZ⟩=>by subst hZ;exact hP Z
 clear hP
 have h:aa (aO Tryz.prog) (fun _=>[]) (aN Tryz.prog) (cJ 42 [.agg [pv,tv],.agg (c.cells b u sv kn),.int .i64 x] (.int .i64 0) (fun N=>∃Z,N=M++Z)) 1 13 [.agg [pv,tv],.agg (c.cells b u sv kn),.int .i64 x] M=some ⟨LV (if x=1 then some c.x24 else none),none,[]⟩:=by
  clear hO
  by_cases h1:x=1
  ·subst h1
   simp[-AV.cellOk,aa,hG,Tryz.f13,cJ,Evc.cells,LV,hk]
  ·simp[-AV.cellOk,aa,hG,Tryz.f13,cJ,Evc.cells,LV,hk,h1]
 have:=(af ae (aw _) hO (ax _) h).1
 simpa [CallRes.mem] using this
theorem xV{ev:List AV}(cp:pv.cellOk=true∧tv.cellOk=true) (hl:ev.length=32) (hck:∀x∈ev,x.cellOk=true) (hP:∀Z,ACallsTo Tryz.prog 42 [.agg [pv,tv],.agg ev,.int .i64 x] (M++Z) (.int .i64 10) (M++Z)):
  ACallsTo Tryz.prog 13 [.agg [pv,tv],.agg ev,.int .i64 x] M (.tuple [.str [],.bool false,.int .i64 10]) M:=by
 have hG:aN Tryz.prog 13=some Tryz.f13:=by kernel_rfl
 obtain⟨c1,c2⟩:=cp
 have hO:OracleOk Tryz.prog (cJ 42 [.agg [pv,tv],.agg ev,.int .i64 x] (.int .i64 10) (fun N=>∃Z,N=M++Z)):=dT fun N ⟨Z,hZ⟩=>by subst hZ;exact hP Z
 clear hP
 have g1:(∀x:AV,x∈ev→x.cellOk=true)=True:=eq_true hck
 have t32:List.take 32 ev=ev:=List.take_of_length_le (by omega)
 have h:aa (aO Tryz.prog) (fun _=>[]) (aN Tryz.prog) (cJ 42 [.agg [pv,tv],.agg ev,.int .i64 x] (.int .i64 10) (fun N=>∃Z,N=M++Z)) 1 13 [.agg [pv,tv],.agg ev,.int .i64 x] M=some ⟨.tuple [.str [],.bool false,.int .i64 10],none,[]⟩:=by
  clear hO
  simp[-AV.cellOk,aa,hG,Tryz.f13,cJ,hl,t32]
 have:=(af ae (aw _) hO (ax _) h).1
 simpa [CallRes.mem] using this
end
end Go.Proofs
