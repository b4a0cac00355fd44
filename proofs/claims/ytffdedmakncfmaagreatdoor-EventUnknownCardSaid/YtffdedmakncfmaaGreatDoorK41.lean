/- See K51. -/
import Derived.Test.YtffdedmakncfmaaGreatDoorK40
set_option linter.all false
namespace Go.Proofs
open Go.Eng
def jJ(s:Sheet) (c:Evc):Prop:=∀(M:Mem) (p t:Nat) (o o' :Bool) (ev:List AV),M[p]? =some (.cells o 2 (pC s.P))→M[t]? =some (.cells o' 3 (tC s.T))→EvAt M ev c→ACallsTo Tryz.prog 83 [.agg [.slice p 0 s.P.length none,.slice t 0 s.T.length none],.agg ev] M (.int .i64 0) M
theorem CZ{x:Bool}{j n:Nat}(h:x=false→n=0):mV x (sl8 j n)=sl8 j n:=by
 cases x
 ·rw[h rfl];rfl
 ·rfl
theorem jg{K:Int}{g g1 g2 g3 g4:FuncId}{onl:Evc→Evc}{x y:Bool}{s:Sheet}{c:Evc}(kp:Tryz.KindP K g g1 g2 g3 g4 onl x y) (n1:131≠g1∧132≠g1∧63≠g1∧133≠g1∧g≠g1)
  (ho:c.Ok) (hm:c.nm∈iI) (hk:c.kd K=c) (hon:onl c=c) (hx:x=false→c.B=[]∧c.U=[]∧c.S=[]) (hy:y=false→c.K=[])
  (hC:∀(m:Mem) (ev:List AV),m[0]? =some (.cells false 2 (pC s.P))→m[1]? =some (.cells false 3 (tC s.T))→EvAt m ev c→ACallsTo Tryz.prog g1 [shA s,.agg ev] m (.int .i64 0) m):jJ s c:=by
 intro M p t o o' ev hp ht hE
 obtain⟨b,u,sv,kn,rfl,-⟩:=id hE
 refine Le ⟨o,hp⟩ ⟨o',ht⟩ ho hE fun q2 q3 q4 q5 q6 q7 C2 C3 C4 C5 C6 C7 m hmm hu hev=>?_
 subst hmm
 have s1:mV x (sl8 2 c.B.length)=sl8 2 c.B.length:=CZ fun h=>by rw[(hx h).1];rfl
 have s2:mV x (sl8 3 c.U.length)=sl8 3 c.U.length:=CZ fun h=>by rw[(hx h).2.1];rfl
 have s3:mV x (sl8 5 c.S.length)=sl8 5 c.S.length:=CZ fun h=>by rw[(hx h).2.2];rfl
 have s4:mV y (sl8 4 c.K.length)=sl8 4 c.K.length:=CZ fun h=>by rw[hy h];rfl
 have h:=Lb kp rfl hu (pv:=.slice 0 0 s.P.length none) (tv:=.slice 1 0 s.T.length none) rfl rfl (c:=c) ⟨(vU 2 c.B.length).1,(vU 3 c.U.length).1,(vU 5 c.S.length).1,(vU 4 c.K.length).1⟩ ⟨(vU _ _).2,(vU _ _).2,(vU _ _).2,(vU _ _).2⟩ ⟨⟨rfl,rfl⟩,iG (by omega),iG (by omega),iG (by omega),iG (by omega)⟩ (fun Z=>se s _ 0 1 false false rfl rfl) hm (fun Z=>by
  rw[s1,s2,s3,s4,hk,hon]
  exact KG ho (hev.more Z) (hev.more Z)) n1 (e:=0) fun Z=>by
  rw[hk]
  exact hC _ _ rfl rfl (hev.more Z)
 rw[hk] at h
 exact h
theorem QE{n:Nat}{v:V3}(h:vDg n v) (h0:0<n) (h1:n≤40000):((aB v.1).length≤1000000000∧(aB v.2.1).length≤1000000000)∧(aB v.2.2).length≤1000000000:=⟨⟨jt h.1 h0 h1,jt h.2.1 h0 h1⟩,jt h.2.2 h0 h1⟩
def Bz(v:V3):Prop:=v.1=0∧v.2.1=0∧v.2.2=0
theorem Om(q:Rat):(aB q==[48])=decide (q=0):=by
 by_cases h:q=0
 ·subst h;rfl
 ·rw[decide_eq_false h]
  have:aB q≠[48]:=fun e=>h (Hk.1 e)
  simpa using this
theorem HF{v:V3}(h:¬Bz v):((aB v.1==[48]&&aB v.2.1==[48])&&aB v.2.2==[48])=false:=by
 rw[Om,Om,Om]
 cases hb:(decide (v.1=0)&&decide (v.2.1=0))&&decide (v.2.2=0)
 ·rfl
 ·simp only[Bool.and_eq_true,decide_eq_true_eq] at hb
  exact absurd ⟨hb.1.1,hb.1.2,hb.2⟩ h
set_option maxHeartbeats 1600000 in
theorem vk(v n:V3) (hv:vDg 200 v) (hn:vDg 200 n) (hd:vW v n=0) (M:Mem):ACallsTo Tryz.prog 227 [vA v,vA n] M (.int .i64 0) M:=by
 have hG:aN Tryz.prog 227=some Tryz.f227:=by kernel_rfl
 have hE:=N8 hv
 obtain⟨v1,v2,v3⟩:=v
 obtain⟨n1,n2,n3⟩:=n
 obtain⟨⟨s1,s2⟩,s3⟩:=QE hv (by decide) (by decide)
 obtain⟨h1,h2,h3⟩:=hv
 obtain⟨h4,h5,h6⟩:=hn
 simp only at h1 h2 h3 h4 h5 h6 hE s1 s2 s3
 have k:∀{q:Rat},dg 200 200 q→(au q.num.natAbs).length≤2999∧(au q.den).length≤2999:=fun h=>by
  have:=h.lens (by decide) (by decide)
  omega
 obtain⟨a1,a2⟩:=k h1
 obtain⟨a3,a4⟩:=k h2
 obtain⟨a5,a6⟩:=k h3
 obtain⟨a7,a8⟩:=k h4
 obtain⟨a9,a10⟩:=k h5
 obtain⟨a11,a12⟩:=k h6
 unfold vW at hd
 simp only at hd
 have z0:aB 0=[48]:=rfl
 refine aq vv (lv:=fun _=>[]) (K:=1) rfl rfl ?_ M
 simp[aa,hG,Tryz.f227,ai,n9,vA,aC,hE,a1,a2,a3,a4,a5,a6,a7,a8,a9,a10,a11,a12,s1,s2,s3,hd,z0]
set_option maxHeartbeats 1600000 in
theorem vm(n:V3) (o:Rat) (hn:vDg 200 n) (ho:dg 200 200 o) (hz:¬Bz n) (M:Mem):ACallsTo Tryz.prog 226 [.agg [.str (aB n.1),.str (aB n.2.1),.str (aB n.2.2),.str (aB o)]] M (.int .i64 0) M:=by
 have hG:aN Tryz.prog 226=some Tryz.f226:=by kernel_rfl
 have hb:=HF hz
 obtain⟨n1,n2,n3⟩:=n
 obtain⟨⟨s1,s2⟩,s3⟩:=QE hn (by decide) (by decide)
 have s4:=jt ho (by decide) (by decide)
 obtain⟨h4,h5,h6⟩:=hn
 simp only at h4 h5 h6 s1 s2 s3 hb
 have hE:tS [aB n1,aB n2,aB n3,aB o]=0:=by
  simp[tS,gL h4,gL h5,gL h6,gL ho]
 refine aq Gf (lv:=fun _=>[]) (K:=1) rfl rfl ?_ M
 simp only
 obtain⟨A,hA⟩:∃A,A=aB n1:=⟨_,rfl⟩
 obtain⟨B,hB⟩:∃A,A=aB n2:=⟨_,rfl⟩
 obtain⟨C,hC⟩:∃A,A=aB n3:=⟨_,rfl⟩
 obtain⟨D,hD⟩:∃A,A=aB o:=⟨_,rfl⟩
 rw[←hA] at s1 hE hb ⊢
 rw[←hB] at s2 hE hb ⊢
 rw[←hC] at s3 hE hb ⊢
 rw[←hD] at s4 hE ⊢
 simp[aa,hG,Tryz.f226,Ge,Oracle.or,ai,n9,fG,mM,pe,hE,hb,s1,s2,s3,s4]
def fc(nm:List UInt8) (n:V3) (o:Rat) (v:V3):Evc:={ k:=2,nm:=nm,x5:=aB n.1,x6:=aB n.2.1,x7:=aB n.2.2,x8:=aB o,x9:=aB v.1,x10:=aB v.2.1,x11:=aB v.2.2 }
def dY(nm:List UInt8) (n:V3) (L:List P2) (v:V3):Evc:={ k:=3,nm:=nm,x12:=aB n.1,x13:=aB n.2.1,x14:=aB n.2.2,K:=kT L,x16:=aB v.1,x17:=aB v.2.1,x18:=aB v.2.2 }
def qq(nm:List UInt8) (n:V3) (o w:Rat) (u:List UInt8):Evc:={ k:=4,nm:=nm,x19:=aB n.1,x20:=aB n.2.1,x21:=aB n.2.2,x22:=aB o,x23:=aB w,x24:=u }
def fI(nm:List UInt8) (t:Int×Int×Int×Int) (c:V3):Evc:={ k:=5,nm:=nm,t1:=t.1,t2:=t.2.1,t3:=t.2.2.1,t4:=t.2.2.2,x29:=aB c.1,x30:=aB c.2.1,x31:=aB c.2.2 }
theorem Ai(s:Sheet) (nm:List UInt8) (n:V3) (o:Rat) (v:V3) (hm:nm∈iI) (hn:vDg 200 n) (hz:¬Bz n) (ho:dg 200 200 o) (hv:vDg 200 v) (hd:vW v n=0):jJ s (fc nm n o v):=by
 refine jg eJ.2.1 (by decide) (xx rfl rfl rfl (by simp[fc])) hm rfl rfl (fun _=>⟨rfl,rfl,rfl⟩) (fun _=>rfl) fun m ev _ _ h=>?_
 obtain⟨b,u,sv,kn,rfl,h1,h2,h3,h4⟩:=h
 obtain rfl:=h1.nil0 rfl;obtain rfl:=h2.nil0 rfl;obtain rfl:=h3.nil0 rfl;obtain rfl:=h4.nil0 rfl
 have hG:aN Tryz.prog 164=some Tryz.f164:=by kernel_rfl
 have hO:OracleOk Tryz.prog (ai (cG [(226,[.agg [.str (aB n.1),.str (aB n.2.1),.str (aB n.2.2),.str (aB o)]],.int .i64 0),(227,[vA v,vA n],.int .i64 0)])):=dL fun e he M=>by
  simp only[List.mem_cons,List.not_mem_nil,or_false] at he
  rcases he with rfl | rfl
  ·exact vm n o hn ho hz M
  ·exact vk v n hv hn hd M
 have h:aa (aO Tryz.prog) (fun _=>[]) (aN Tryz.prog) (ai (cG [(226,[.agg [.str (aB n.1),.str (aB n.2.1),.str (aB n.2.2),.str (aB o)]],.int .i64 0),(227,[vA v,vA n],.int .i64 0)])) 1 164 [shA s,.agg ((fc nm n o v).cells .nilslice .nilslice .nilslice .nilslice)] m=some ⟨.int .i64 0,none,[]⟩:=by
  simp[aa,hG,Tryz.f164,ai,cG,fc,Evc.cells,vA,shA]
 have:=(af ae (aw _) hO (ax _) h).1
 simpa [CallRes.mem] using this
theorem RR{q:Rat}(h:0<q):0<q.num:=by
 have h1:0≤q.num:=(Rat.num_nonneg (q:=q)).2 (Rat.le_of_lt h)
 have h2:q.num≠0:=fun e=>by
  rw[pW.1 e] at h
  exact absurd h (by decide)
 omega
theorem BS(s:Sheet) (nm:List UInt8) (n:V3) (o w:Rat) (u' :List UInt8) (hm:nm∈iI) (hn:vDg 200 n) (hz:¬Bz n) (ho:dg 200 200 o) (hw:dg 200 200 w) (hp:0<w) (hu:u' ∈iI):jJ s (qq nm n o w u'):=by
 refine jg eJ.2.2.2.1 (by decide) (xx rfl rfl rfl (by simp[qq])) hm rfl rfl (fun _=>⟨rfl,rfl,rfl⟩) (fun _=>rfl) fun m ev _ _ h=>?_
 obtain⟨b,u,sv,kn,rfl,h1,h2,h3,h4⟩:=h
 obtain rfl:=h1.nil0 rfl;obtain rfl:=h2.nil0 rfl;obtain rfl:=h3.nil0 rfl;obtain rfl:=h4.nil0 rfl
 have hG:aN Tryz.prog 173=some Tryz.f173:=by kernel_rfl
 have hO:OracleOk Tryz.prog (ai (cG [(226,[.agg [.str (aB n.1),.str (aB n.2.1),.str (aB n.2.2),.str (aB o)]],.int .i64 0),(61,[.str (aB w)],.int .i64 0),(228,[.str (aB w)],.int .i64 1),(132,[.str u'],.int .i64 0)])):=dL fun e he M=>by
  simp only[List.mem_cons,List.not_mem_nil,or_false] at he
  rcases he with rfl | rfl | rfl | rfl
  ·exact vm n o hn ho hz M
  ·have:=mW (aB w) (jt hw (by decide) (by decide)) M
   rw[gL hw] at this
   exact this
  ·have:=xT w M
   have h1:0<w.num:=RR hp
   have h2:¬w.num<0:=by omega
   have h3:¬w.num=0:=by omega
   rw[show xI w=1 by simp[xI,jH,h2,h3]] at this
   exact this
  ·exact eW u' hu M
 have h:aa (aO Tryz.prog) (fun _=>[]) (aN Tryz.prog) (ai (cG [(226,[.agg [.str (aB n.1),.str (aB n.2.1),.str (aB n.2.2),.str (aB o)]],.int .i64 0),(61,[.str (aB w)],.int .i64 0),(228,[.str (aB w)],.int .i64 1),(132,[.str u'],.int .i64 0)])) 1 173 [shA s,.agg ((qq nm n o w u').cells .nilslice .nilslice .nilslice .nilslice)] m=some ⟨.int .i64 0,none,[]⟩:=by
  simp[aa,hG,Tryz.f173,ai,cG,qq,Evc.cells,shA]
 have:=(af ae (aw _) hO (ax _) h).1
 simpa [CallRes.mem] using this
theorem BU(s:Sheet) (nm:List UInt8) (t:Int×Int×Int×Int) (c:V3) (hm:nm∈iI) (ht:∀M,ACallsTo Tryz.prog 212 [.agg [.int .i64 t.1,.int .i64 t.2.1,.int .i64 t.2.2.1,.int .i64 t.2.2.2]] M (.int .i64 0) M) (hc:vDg 200 c):jJ s (fI nm t c):=by
 refine jg eJ.2.2.2.2 (by decide) (xx rfl rfl rfl (by simp[fI])) hm rfl rfl (fun _=>⟨rfl,rfl,rfl⟩) (fun _=>rfl) fun m ev _ _ h=>?_
 obtain⟨b,u,sv,kn,rfl,h1,h2,h3,h4⟩:=h
 obtain rfl:=h1.nil0 rfl;obtain rfl:=h2.nil0 rfl;obtain rfl:=h3.nil0 rfl;obtain rfl:=h4.nil0 rfl
 have hG:aN Tryz.prog 178=some Tryz.f178:=by kernel_rfl
 have hO:OracleOk Tryz.prog (ai (cG [(212,[.agg [.int .i64 t.1,.int .i64 t.2.1,.int .i64 t.2.2.1,.int .i64 t.2.2.2]],.int .i64 0),(100,[vA c],.int .i64 0)])):=dL fun e he M=>by
  simp only[List.mem_cons,List.not_mem_nil,or_false] at he
  rcases he with rfl | rfl
  ·exact ht M
  ·exact sh c hc M
 have h:aa (aO Tryz.prog) (fun _=>[]) (aN Tryz.prog) (ai (cG [(212,[.agg [.int .i64 t.1,.int .i64 t.2.1,.int .i64 t.2.2.1,.int .i64 t.2.2.2]],.int .i64 0),(100,[vA c],.int .i64 0)])) 1 178 [shA s,.agg ((fI nm t c).cells .nilslice .nilslice .nilslice .nilslice)] m=some ⟨.int .i64 0,none,[]⟩:=by
  simp[aa,hG,Tryz.f178,ai,cG,fI,Evc.cells,vA,shA]
 have:=(af ae (aw _) hO (ax _) h).1
 simpa [CallRes.mem] using this
theorem Q2{L:List P2}(h3:L.length≤3) (hd:∀q∈L,dg 200 200 q.1∧dg 200 200 q.2) (ha:∀(i:Nat) a b,L[i]? =some a→L[i+1]? =some b→a.1<b.1):knE (kT L)=0:=by
 have p:∀q:Rat,dU (aB q)=some q:=aC
 have c:∀q∈L,xA (aB q.1)=0∧xA (aB q.2)=0:=fun q hq=>⟨gL (hd q hq).1,gL (hd q hq).2⟩
 match L,h3 with
 | [],_=>rfl
 | [q0],_=>
  have k0:=c q0 (by simp)
  simp[knE,kT,ckE,k0,Br]
 | [q0,q1],_=>
  have k0:=c q0 (by simp)
  have k1:=c q1 (by simp)
  have l1:=ha 0 q0 q1 rfl rfl
  simp[knE,kT,ckE,k0,k1,p,Br,l1]
 | [q0,q1,q2],_=>
  have k0:=c q0 (by simp)
  have k1:=c q1 (by simp)
  have k2:=c q2 (by simp)
  have l1:=ha 0 q0 q1 rfl rfl
  have l2:=ha 1 q1 q2 rfl rfl
  simp[knE,kT,ckE,k0,k1,k2,p,Br,l1,l2]
theorem DM{L:List P2}(h1:0<L.length) (h3:L.length≤3) (hd:∀q∈L,dg 200 200 q.1∧dg 200 200 q.2) (ha:∀(i:Nat) a b,L[i]? =some a→L[i+1]? =some b→a.1<b.1) (M:Mem) (b:Nat) (o:Bool) (hb:M[b]? =some (.cells o 2 (kC (kT L)))):
  ACallsTo Tryz.prog 64 [.slice b 0 L.length none] M (.int .i64 0) M:=by
 have hl:(kT L).length=L.length:=kS L
 have h:=tU (kT L) (fun q hq=>by
  simp only[kT,List.mem_map] at hq
  obtain⟨r,hr,rfl⟩:=hq
  exact⟨jt (hd r hr).1 (by decide) (by decide),jt (hd r hr).2 (by decide) (by decide)⟩) (by omega)
 rw[hl,Q2 h3 hd ha] at h
 refine ACallsTo.rows1R (rest:=[]) (jq _) rfl rfl h ⟨b,o,_,rfl,hb,List.take_length⟩
theorem BT(s:Sheet) (nm:List UInt8) (n:V3) (L:List P2) (v:V3) (hm:nm∈iI) (hn:vDg 200 n) (hz:¬Bz n) (h1:0<L.length) (h3:L.length≤3) (hd:∀q∈L,dg 200 200 q.1∧dg 200 200 q.2) (ha:∀(i:Nat) a b,L[i]? =some a→L[i+1]? =some b→a.1<b.1) (hv:vDg 200 v) (hdt:vW v n=0):jJ s (dY nm n L v):=by
 refine jg eJ.2.2.1 (by decide) (xx rfl rfl rfl (by show(kT L).length≤1000;rw[kS];omega)) hm rfl rfl (fun _=>⟨rfl,rfl,rfl⟩) (fun h=>by cases h) fun m ev _ _ h=>?_
 obtain⟨b,u,sv,kn,rfl,k1,k2,k3,k4⟩:=h
 obtain rfl:=k1.nil0 rfl;obtain rfl:=k2.nil0 rfl;obtain rfl:=k3.nil0 rfl
 have e:(dY nm n L v).K.length=L.length:=kS L
 rw[e] at k4
 obtain⟨kb,q,rfl,hb⟩:=k4.pos h1
 have hb' :m[kb]? =some (.cells q 2 (kC (kT L))):=hb
 have hlt:=(List.getElem?_eq_some_iff.1 hb).1
 have hG:aN Tryz.prog 168=some Tryz.f168:=by kernel_rfl
 have hO1:OracleOk Tryz.prog (ai (cG [(100,[vA n],.int .i64 0),(227,[vA v,vA n],.int .i64 0)])):=dL fun e he M=>by
  simp only[List.mem_cons,List.not_mem_nil,or_false] at he
  rcases he with rfl | rfl
  ·exact sh n hn M
  ·exact vk v n hv hn hdt M
 have hO2:OracleOk Tryz.prog (cJ 64 [.slice kb 0 L.length none] (.int .i64 0) (fun M=>∃ext,M=m++ext)):=dT fun M hM=>by
  obtain⟨ext,rfl⟩:=hM
  exact DM h1 h3 hd ha _ kb q (by rw[List.getElem?_append_left hlt];exact hb')
 have hO:=OracleOk.or' hO1 hO2
 have hbz:=HF hz
 clear hO1 hO2 hb hb' hlt hdt hv hz hn hd ha
 obtain⟨n1,n2,n3⟩:=n
 simp only at hbz
 have h:aa (aO Tryz.prog) (fun _=>[]) (aN Tryz.prog) (Oracle.or (ai (cG [(100,[vA (n1,n2,n3)],.int .i64 0),(227,[vA v,vA (n1,n2,n3)],.int .i64 0)])) (cJ 64 [.slice kb 0 L.length none] (.int .i64 0) (fun M=>∃ext,M=m++ext))) 1 168 [shA s,.agg ((dY nm (n1,n2,n3) L v).cells .nilslice .nilslice .nilslice (.slice kb 0 L.length none))] m=some ⟨.int .i64 0,none,[]⟩:=by
  obtain⟨A,hA⟩:∃A,A=aB n1:=⟨_,rfl⟩
  obtain⟨B,hB⟩:∃A,A=aB n2:=⟨_,rfl⟩
  obtain⟨C,hC⟩:∃A,A=aB n3:=⟨_,rfl⟩
  rw[←hA,←hB,←hC] at hbz
  have hab:(A==[48])=false∨((A==[48])=true∧(B==[48])=false)∨((A==[48])=true∧(B==[48])=true∧(C==[48])=false):=by
   cases ha:(A==[48])<;>cases hb:(B==[48])<;>cases hc:(C==[48])<;>simp_all
  clear hO
  rcases hab with ha | ⟨ha,hb⟩ | ⟨ha,hb,hc⟩
  ·simp[aa,hG,Tryz.f168,Oracle.or,ai,cG,cJ,dY,Evc.cells,shA,vA,←hA,←hB,←hC,ha]
  ·simp[aa,hG,Tryz.f168,Oracle.or,ai,cG,cJ,dY,Evc.cells,shA,vA,←hA,←hB,←hC,ha,hb]
  ·simp[aa,hG,Tryz.f168,Oracle.or,ai,cG,cJ,dY,Evc.cells,shA,vA,←hA,←hB,←hC,ha,hb,hc]
 have:=(af ae (aw _) hO (ax _) h).1
 simpa [CallRes.mem] using this
theorem kd5(n:Nat):((n:Nat):Int).tmod 5=((n%5:Nat):Int):=rfl
set_option maxRecDepth 8192 in
set_option maxHeartbeats 12800000 in
theorem BM(x:Sketch) (hx:x.Ok) (n k:Nat) (hk:x.kind%5=1):
  ACallsTo Tryz.prog 8 [.agg [.slice 0 0 n none,.slice 1 0 k none],.agg x.cells,.str [110]] [.absent,.absent] (.agg ((fc [110] (zQ (dQ x)) (hQ (fD (x.n 6))) (hV (tQ x))).cells .nilslice .nilslice .nilslice .nilslice)) [.absent,.absent]:=by
 have hG:aN Tryz.prog 8=some Tryz.f8:=by kernel_rfl
 obtain⟨os,hops⟩:∃os,aV Tryz.f8=os:=⟨_,rfl⟩
 have hbs:=cK hops (ls:=[[0,1,0,4,12,31,63,127,0,383,895,2047,4095,8191],[0,1,0,7,15,31,63],[0,1,3,0,8,0,32,96,0,480,992,2040,4088,8184,16376,32767,65535,131071,262143],[0,1,0,4,12,31,63,127,0,256,768,1919,3967,0,8192,32767,65535,131071],[0,1,3,0,15,31,63,127]]) (by kernel_rfl)
 have k0:cU [0,1,0,4,12,31,63,127,0,383,895,2047,4095,8191] 13=true:=by decide
 simp only[aV,cc,Tryz.f8,List.nil_append,List.append_nil,List.cons_append] at hops
 subst hops
 simp only[List.map_cons,List.map_nil,List.cons.injEq,and_true] at hbs
 obtain⟨hb0,-⟩:=hbs
 have l0:=Sketch.cells_len hx
 have r0:=cD x.closed
 have o0:=eU x.closed
 have e0:=fun f=>aJ (ρ:=f) x.closed
 have ik:=Sketch.cells_0 hx
 have i6:=Sketch.cells_n hx (k:=6) (by decide)
 simp only[Nat.reduceAdd] at i6
 have jk:=bS ik
 have j6:=bS i6
 obtain⟨b6,c6⟩:=Sketch.n_ok hx (k:=6) (by decide)
 have s6:=cC (x.n 6)
 have t5:=kd5 x.kind
 rw[hk] at t5
 have hC' :∃C,x.cells=C:=⟨_,rfl⟩
 obtain⟨C,hC⟩:=hC'
 rw[hC] at l0 r0 o0 e0 ik i6 jk j6 ⊢
 obtain⟨X,hX⟩:∃X,X=x.n 6:=⟨_,rfl⟩
 rw[←hX] at i6 j6 b6 c6 s6 ⊢
 have tk:C.take 34=C:=List.take_of_length_le (by omega)
 obtain⟨z,hz⟩:∃z,z=fD X:=⟨_,rfl⟩
 rw[←hz] at s6 ⊢
 have g6:z.natAbs<100000000:=by omega
 obtain⟨⟨n1,n2,n3⟩,hn⟩:∃v,v=dQ x:=⟨_,rfl⟩
 obtain⟨⟨v1,v2,v3⟩,hv⟩:∃v,v=tQ x:=⟨_,rfl⟩
 rw[←hn,←hv]
 have eQ:mkRat z 2=hQ z:=rfl
 have w1:IntKind.i64.wrap 1=1:=rfl
 have w2:IntKind.i64.wrap 2=2:=rfl
 have w3:IntKind.i64.wrap 3=3:=rfl
 have w4:IntKind.i64.wrap 4=4:=rfl
 have w5:IntKind.i64.wrap 5=5:=rfl
 have h:aa (aO Tryz.prog) (fun _=>[]) (aN Tryz.prog) (ai (dK x)) 1 8 [.agg [.slice 0 0 n none,.slice 1 0 k none],.agg C,.str [110]] [.absent,.absent]=some ⟨.agg ((fc [110] (zQ (n1,n2,n3)) (hQ z) (hV (v1,v2,v3))).cells .nilslice .nilslice .nilslice .nilslice),none,[]⟩:=by
  simp (maxSteps:=1000000) [aa,hG,Tryz.f8,ai,dK,fF,cQ,hC,l0,o0,jk,j6,b6,c6,tk,t5,w1,w2,←hz,g6,eQ,←hn,←hv,-aQ,aA hb0,bN,bF,bL,k0,Nat.testBit,bx,aG,zA,vA,zQ,hV,zS,fc,Evc.cells]
 have:=(af ae (aw _) (gK hx) (ax _) h).1
 simpa [CallRes.mem] using this
set_option maxRecDepth 8192 in
set_option maxHeartbeats 12800000 in
theorem BN(x:Sketch) (hx:x.Ok) (n k:Nat) (hk:x.kind%5=3):
  ACallsTo Tryz.prog 8 [.agg [.slice 0 0 n none,.slice 1 0 k none],.agg x.cells,.str [110]] [.absent,.absent] (.agg ((qq [110] (zQ (dQ x)) (hQ (fD (x.n 6))) (hQ (ps9 (x.n 7))) [110,95,114,111,99,107]).cells .nilslice .nilslice .nilslice .nilslice)) [.absent,.absent]:=by
 have hG:aN Tryz.prog 8=some Tryz.f8:=by kernel_rfl
 obtain⟨os,hops⟩:∃os,aV Tryz.f8=os:=⟨_,rfl⟩
 have hbs:=cK hops (ls:=[[0,1,0,4,12,31,63,127,0,383,895,2047,4095,8191],[0,1,0,7,15,31,63],[0,1,3,0,8,0,32,96,0,480,992,2040,4088,8184,16376,32767,65535,131071,262143],[0,1,0,4,12,31,63,127,0,256,768,1919,3967,0,8192,32767,65535,131071],[0,1,3,0,15,31,63,127]]) (by kernel_rfl)
 have k0:cU [0,1,0,4,12,31,63,127,0,256,768,1919,3967,0,8192,32767,65535,131071] 17=true:=by decide
 simp only[aV,cc,Tryz.f8,List.nil_append,List.append_nil,List.cons_append] at hops
 subst hops
 simp only[List.map_cons,List.map_nil,List.cons.injEq,and_true] at hbs
 obtain⟨-,-,-,hb0,-⟩:=hbs
 have l0:=Sketch.cells_len hx
 have r0:=cD x.closed
 have o0:=eU x.closed
 have e0:=fun f=>aJ (ρ:=f) x.closed
 have ik:=Sketch.cells_0 hx
 have i6:=Sketch.cells_n hx (k:=6) (by decide)
 have i7:=Sketch.cells_n hx (k:=7) (by decide)
 simp only[Nat.reduceAdd] at i6 i7
 have j7:=bS i7
 obtain⟨b7,c7⟩:=Sketch.n_ok hx (k:=7) (by decide)
 have s7:=kX (x.n 7)
 have jk:=bS ik
 have j6:=bS i6
 obtain⟨b6,c6⟩:=Sketch.n_ok hx (k:=6) (by decide)
 have s6:=cC (x.n 6)
 have t5:=kd5 x.kind
 rw[hk] at t5
 have hC' :∃C,x.cells=C:=⟨_,rfl⟩
 obtain⟨C,hC⟩:=hC'
 rw[hC] at l0 r0 o0 e0 ik i6 i7 jk j6 j7 ⊢
 obtain⟨X,hX⟩:∃X,X=x.n 6:=⟨_,rfl⟩
 rw[←hX] at i6 j6 b6 c6 s6 ⊢
 obtain⟨Y,hY⟩:∃X,X=x.n 7:=⟨_,rfl⟩
 rw[←hY] at i7 j7 b7 c7 s7 ⊢
 obtain⟨y,hy⟩:∃z,z=ps9 Y:=⟨_,rfl⟩
 rw[←hy] at s7 ⊢
 have g7:y.natAbs<100000000:=by omega
 have eY:mkRat y 2=hQ y:=rfl
 have tk:C.take 34=C:=List.take_of_length_le (by omega)
 obtain⟨z,hz⟩:∃z,z=fD X:=⟨_,rfl⟩
 rw[←hz] at s6 ⊢
 have g6:z.natAbs<100000000:=by omega
 obtain⟨⟨n1,n2,n3⟩,hn⟩:∃v,v=dQ x:=⟨_,rfl⟩
 rw[←hn]
 have eQ:mkRat z 2=hQ z:=rfl
 have w1:IntKind.i64.wrap 1=1:=rfl
 have w2:IntKind.i64.wrap 2=2:=rfl
 have w3:IntKind.i64.wrap 3=3:=rfl
 have w4:IntKind.i64.wrap 4=4:=rfl
 have w5:IntKind.i64.wrap 5=5:=rfl
 have h:aa (aO Tryz.prog) (fun _=>[]) (aN Tryz.prog) (ai (dK x)) 1 8 [.agg [.slice 0 0 n none,.slice 1 0 k none],.agg C,.str [110]] [.absent,.absent]=some ⟨.agg ((qq [110] (zQ (n1,n2,n3)) (hQ z) (hQ y) [110,95,114,111,99,107]).cells .nilslice .nilslice .nilslice .nilslice),none,[]⟩:=by
  simp (maxSteps:=1000000) [aa,hG,Tryz.f8,ai,dK,fF,cQ,hC,l0,o0,jk,j6,b6,c6,tk,t5,w3,w4,←hz,g6,eQ,←hn,j7,b7,c7,←hy,g7,eY,-aQ,aA hb0,bN,bF,bL,k0,Nat.testBit,bx,aG,gE,zA,zQ,zS,qq,Evc.cells]
 have:=(af ae (aw _) (gK hx) (ax _) h).1
 simpa [CallRes.mem] using this
set_option maxRecDepth 8192 in
set_option maxHeartbeats 12800000 in
theorem BO(x:Sketch) (hx:x.Ok) (n k:Nat) (hk:x.kind%5=4):
  ACallsTo Tryz.prog 8 [.agg [.slice 0 0 n none,.slice 1 0 k none],.agg x.cells,.str [110]] [.absent,.absent] (.agg ((fI [110] (rV x) (zQ (dQ x))).cells .nilslice .nilslice .nilslice .nilslice)) [.absent,.absent]:=by
 have hG:aN Tryz.prog 8=some Tryz.f8:=by kernel_rfl
 obtain⟨os,hops⟩:∃os,aV Tryz.f8=os:=⟨_,rfl⟩
 have hbs:=cK hops (ls:=[[0,1,0,4,12,31,63,127,0,383,895,2047,4095,8191],[0,1,0,7,15,31,63],[0,1,3,0,8,0,32,96,0,480,992,2040,4088,8184,16376,32767,65535,131071,262143],[0,1,0,4,12,31,63,127,0,256,768,1919,3967,0,8192,32767,65535,131071],[0,1,3,0,15,31,63,127]]) (by kernel_rfl)
 have k0:cU [0,1,3,0,15,31,63,127] 7=true:=by decide
 simp only[aV,cc,Tryz.f8,List.nil_append,List.append_nil,List.cons_append] at hops
 subst hops
 simp only[List.map_cons,List.map_nil,List.cons.injEq,and_true] at hbs
 obtain⟨-,-,-,-,hb0⟩:=hbs
 have l0:=Sketch.cells_len hx
 have r0:=cD x.closed
 have o0:=eU x.closed
 have e0:=fun f=>aJ (ρ:=f) x.closed
 have ik:=Sketch.cells_0 hx
 have i6:=Sketch.cells_n hx (k:=6) (by decide)
 simp only[Nat.reduceAdd] at i6
 have jk:=bS ik
 have j6:=bS i6
 obtain⟨b6,c6⟩:=Sketch.n_ok hx (k:=6) (by decide)
 have s6:=cC (x.n 6)
 have t5:=kd5 x.kind
 rw[hk] at t5
 have iT:=Sketch.cells_T hx
 have cT:=kP x.T
 have oT:=eU cT
 have lT:(i8C x.T).length=4:=by rw[fv,hx.tl]
 have hC' :∃C,x.cells=C:=⟨_,rfl⟩
 obtain⟨C,hC⟩:=hC'
 rw[hC] at l0 r0 o0 e0 ik i6 jk j6 iT ⊢
 obtain⟨X,hX⟩:∃X,X=x.n 6:=⟨_,rfl⟩
 rw[←hX] at i6 j6 b6 c6 s6
 have tk:C.take 34=C:=List.take_of_length_le (by omega)
 obtain⟨z,hz⟩:∃z,z=fD X:=⟨_,rfl⟩
 rw[←hz] at s6
 have g6:z.natAbs<100000000:=by omega
 obtain⟨⟨n1,n2,n3⟩,hn⟩:∃v,v=dQ x:=⟨_,rfl⟩
 obtain⟨⟨t1,t2,t3,t4⟩,hv⟩:∃v,v=rV x:=⟨_,rfl⟩
 rw[←hn,←hv]
 have eQ:mkRat z 2=hQ z:=rfl
 have w1:IntKind.i64.wrap 1=1:=rfl
 have w2:IntKind.i64.wrap 2=2:=rfl
 have w3:IntKind.i64.wrap 3=3:=rfl
 have w4:IntKind.i64.wrap 4=4:=rfl
 have w5:IntKind.i64.wrap 5=5:=rfl
 have h:aa (aO Tryz.prog) (fun _=>[]) (aN Tryz.prog) (ai (dK x)) 1 8 [.agg [.slice 0 0 n none,.slice 1 0 k none],.agg C,.str [110]] [.absent,.absent]=some ⟨.agg ((fI [110] (t1,t2,t3,t4) (zQ (n1,n2,n3))).cells .nilslice .nilslice .nilslice .nilslice),none,[]⟩:=by
  simp (maxSteps:=1000000) [aa,hG,Tryz.f8,ai,dK,fF,hC,l0,o0,jk,tk,t5,w4,w5,←hn,←hv,-aQ,aA hb0,bN,bF,bL,k0,Nat.testBit,bx,aG,iT,oT,tA,zA,zQ,zS,fI,Evc.cells]
 have:=(af ae (aw _) (gK hx) (ax _) h).1
 simpa [CallRes.mem] using this
end Go.Proofs
