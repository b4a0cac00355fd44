/- See Q54. -/
import Derived.Test.YtgafjliihahjgaaGreatDoorQ44
import Derived.Test.YtgafjliihahjgaaGreatDoorQ45
set_option linter.all false
namespace Go.Proofs
open Go.Eng
abbrev I4:=Int×Int×Int×Int
def ej(t:I4) (ar:Bool):I4:=if ar then (t.1,-t.2.1,-t.2.2.1,-t.2.2.2) else t
def Te(t:I4):List Int:=
 [t.1*t.1+t.2.1*t.2.1-t.2.2.1*t.2.2.1-t.2.2.2*t.2.2.2,2*(t.2.1*t.2.2.1-t.1*t.2.2.2),2*(t.2.1*t.2.2.2+t.1*t.2.2.1),
  2*(t.2.1*t.2.2.1+t.1*t.2.2.2),t.1*t.1-t.2.1*t.2.1+t.2.2.1*t.2.2.1-t.2.2.2*t.2.2.2,2*(t.2.2.1*t.2.2.2-t.1*t.2.1),
  2*(t.2.1*t.2.2.2-t.1*t.2.2.1),2*(t.2.2.1*t.2.2.2+t.1*t.2.1),t.1*t.1-t.2.1*t.2.1-t.2.2.1*t.2.2.1+t.2.2.2*t.2.2.2]
def uJ(t:I4):Nat:=(t.1*t.1+t.2.1*t.2.1+t.2.2.1*t.2.2.1+t.2.2.2*t.2.2.2).toNat
def TU(t:I4):List Rat:=(Te t).map fun n=>mkRat n (uJ t)
def dmB(n:Int) (g:Nat):Bool:=(g==2&&n%2==0&&decide (-142≤n)&&decide (n≤142))||(g==4&&n%4==0&&decide (-142≤n)&&decide (n≤142))||(g==5&&(n==0||n==5))||(g==10&&(n==0||n==10))
theorem RL{n:Int}{g:Nat}(h:dmB n g=true):Nx n g:=by
 unfold dmB at h;simp only[Bool.or_eq_true,Bool.and_eq_true,beq_iff_eq,decide_eq_true_eq] at h;unfold Nx;rcases h with ((h | h) | h) | h
 ·exact .inl ⟨h.1.1.1,h.1.1.2,h.1.2,h.2⟩
 ·exact .inr (.inl ⟨h.1.1.1,h.1.1.2,h.1.2,h.2⟩)
 ·exact .inr (.inr (.inl h))
 ·exact .inr (.inr (.inr h))
def ofB(n:Int) (d:Nat):Bool:=decide (0<d)&&decide (n.natAbs≤1000)&&decide (d≤1000)&&(n.natAbs.gcd d==1||(dmB n (n.natAbs.gcd d)&&dmB d (n.natAbs.gcd d)))
theorem NF{n:Int}{d:Nat}(h:ofB n d=true) (M:Mem):ACallsTo Tryz.prog 56 [.int .i64 n,.int .i64 d] M (.tuple [.str (ah (mkRat n d)),.int .i64 0]) M:=by unfold ofB at h;simp only[Bool.or_eq_true,Bool.and_eq_true,beq_iff_eq,decide_eq_true_eq] at h;obtain⟨⟨⟨h1,h2⟩,h3⟩,h4⟩:=h;exact Ef n d h1 h2 h3 (h4.imp id fun h=>⟨RL h.1,RL h.2⟩) M
noncomputable def CH(f:FuncId) (args:List AV):Option AV:=
 match f,args with
 |56,[.int .i64 n,.int .i64 d]=>if decide (0≤d)&&ofB n d.toNat then some (.tuple [.str (ah (mkRat n d.toNat)),.int .i64 0]) else none
 |_,_=>none
theorem JC:OracleOk Tryz.prog (af CH):=bq fun f args v h mem=>by
 unfold CH at h;split at h
 ·rename_i n d
  split at h
  ·rename_i hc
   cases h;simp only[Bool.and_eq_true,decide_eq_true_eq] at hc;have:=NF hc.2 mem;rw[Int.toNat_of_nonneg hc.1] at this;exact this
  ·cases h
 ·cases h
def tA(t:I4):AV:=.agg [.int .i64 t.1,.int .i64 t.2.1,.int .i64 t.2.2.1,.int .i64 t.2.2.2]
def PC(q:List (List UInt8)) (r:CallRes):Bool:=match r.v with
 |.agg l=>(match lP l with
  |some L=>L==q
  |none=>false)&&(match r.pre with | some p=>p.isEmpty | none=>true)&&r.new.isEmpty
 |_=>false
theorem Kc{q:List (List UInt8)}{r:CallRes}(h:PC q r=true):r.v=.agg (sC q)∧r.mem []=[]:=by
 obtain⟨v,pre,new⟩:=r;unfold PC at h;simp only at h;split at h
 ·rename_i l
  simp only[Bool.and_eq_true,List.isEmpty_iff] at h;obtain⟨⟨h1,h2⟩,rfl⟩:=h;split at h1
  ·rename_i L hL
   rw[beq_iff_eq] at h1;subst h1;refine⟨by rw[rD hL],?_⟩;cases pre with
   |none=>rfl
   |some p=>
    simp only[List.isEmpty_iff] at h2;subst h2;rfl
  ·cases h1
 ·cases h
noncomputable def kD(t:I4):Bool:=match pM (aM Tryz.prog) ad (aL Tryz.prog) (af CH) 60 30 (.fn 177) [tA t] [] with
 |some r=>PC ((TU t).map ah) r
 |none=>false
theorem CG:(List.range 6).all (fun i=>kD (ej (bn i) false)&&kD (ej (bn i) true))=true:=by kernel_rfl
theorem LG(i:Nat) (hi:i≤5) (ar:Bool) (M:Mem):ACallsTo Tryz.prog 177 [tA (ej (bn i) ar)] M (.agg (sC ((TU (ej (bn i) ar)).map ah))) M:=by
 have h:=List.all_eq_true.1 CG i (List.mem_range.2 (by omega));rw[Bool.and_eq_true] at h;have h:kD (ej (bn i) ar)=true:=by
  cases ar
  ·exact h.1
  ·exact h.2
 unfold kD at h;split at h
 ·rename_i r hr
  obtain⟨e1,e2⟩:=Kc h;have:=(fI ae (aw _) (az _) JC 30).fn _ _ _ _ hr;rw[e1,e2] at this;exact ACallsTo.lift rfl (by simp[AV.closed,zC]) this M
 ·cases h
abbrev M3:=V3×V3×V3
def mC(r:M3):List AV:=[.str (ah r.1.1),.str (ah r.1.2.1),.str (ah r.1.2.2),.str (ah r.2.1.1),.str (ah r.2.1.2.1),.str (ah r.2.1.2.2),.str (ah r.2.2.1),.str (ah r.2.2.2.1),.str (ah r.2.2.2.2)]
def vL(v:V3):List AV:=[.str (ah v.1),.str (ah v.2.1),.str (ah v.2.2)]
def nb(r:M3) (v:V3):V3:=(ei r.1 v,ei r.2.1 v,ei r.2.2 v)
def Ku(a b:V3):V3:=(a.1-b.1,a.2.1-b.2.1,a.2.2-b.2.2)
def zy(t:I4):M3:=
 ((mkRat (t.1*t.1+t.2.1*t.2.1-t.2.2.1*t.2.2.1-t.2.2.2*t.2.2.2) (uJ t),mkRat (2*(t.2.1*t.2.2.1-t.1*t.2.2.2)) (uJ t),mkRat (2*(t.2.1*t.2.2.2+t.1*t.2.2.1)) (uJ t)),
  (mkRat (2*(t.2.1*t.2.2.1+t.1*t.2.2.2)) (uJ t),mkRat (t.1*t.1-t.2.1*t.2.1+t.2.2.1*t.2.2.1-t.2.2.2*t.2.2.2) (uJ t),mkRat (2*(t.2.2.1*t.2.2.2-t.1*t.2.1)) (uJ t)),
  (mkRat (2*(t.2.1*t.2.2.2-t.1*t.2.2.1)) (uJ t),mkRat (2*(t.2.2.1*t.2.2.2+t.1*t.2.1)) (uJ t),mkRat (t.1*t.1-t.2.1*t.2.1-t.2.2.1*t.2.2.1+t.2.2.2*t.2.2.2) (uJ t)))
theorem IW(i:Nat) (hi:i≤5) (ar:Bool) (M:Mem):ACallsTo Tryz.prog 177 [tA (ej (bn i) ar)] M (.agg (mC (zy (ej (bn i) ar)))) M:=LG i hi ar M
def mOk(r:M3) (v:V3):Prop:=dotOk r.1 v∧dotOk r.2.1 v∧dotOk r.2.2 v
set_option maxRecDepth 8192 in
set_option maxHeartbeats 3200000 in
theorem Et(t:I4) (r:M3) (hr:∀M,ACallsTo Tryz.prog 177 [tA t] M (.agg (mC r)) M) (v:V3) (h:mOk r v) (M:Mem):ACallsTo Tryz.prog 175 [tA t,vA v] M (vA (nb r v)) M:=by
 have hG:aL Tryz.prog 175=some Tryz.f175:=by kernel_rfl
 have hO:OracleOk Tryz.prog (Oracle.or (af (bG [(177,[tA t],.agg (mC r))])) (af aX)):=OracleOk.or (cF fun e he M=>by simp only[List.mem_cons,List.not_mem_nil,or_false] at he;rw[he];exact hr M) cM
 refine aq hO (lv:=fun _=>[]) (K:=1) rfl rfl ?_ M;clear hO hr;obtain⟨h1,h2,h3⟩:=h;obtain⟨t1,t2,t3,t4⟩:=t;obtain⟨r1,r2,r3⟩:=r;simp only at h1 h2 h3;obtain⟨o1,hops⟩:∃o1,aE Tryz.f175=[o1]:=⟨_,rfl⟩
 have hb1:=cE hops (l:=[0,1,0,7,0,16,0,127,0,256,0,2047,4095,8191]) (by kernel_rfl);have j1:aN [0,1,0,7,0,16,0,127,0,256,0,2047,4095,8191] 13=true:=by decide
 simp[aE,bC,Tryz.f175] at hops;subst hops;unfold nb;simp only;obtain⟨x,hx⟩:∃x,x=ei r1 v:=⟨_,rfl⟩
 obtain⟨y,hy⟩:∃x,x=ei r2 v:=⟨_,rfl⟩
 obtain⟨z,hz⟩:∃x,x=ei r3 v:=⟨_,rfl⟩
 rw[←hx,←hy,←hz];simp[aa,hG,Tryz.f175,Oracle.or,bG,af,aX,tA,mC,vA,nr,h1,h2,h3,←hx,←hy,←hz,bO,aH,-aD,ai hb1,bc,aW,a8,j1,Nat.testBit]
def PF(r:CallRes):Bool:=match r.v with
 |.int .i64 0=>(match r.pre with | some p=>p.isEmpty | none=>true)&&r.new.isEmpty
 |_=>false
theorem Ke{r:CallRes}(h:PF r=true):r.v=.int .i64 0∧r.mem []=[]:=by
 obtain⟨v,pre,new⟩:=r;unfold PF at h;simp only at h;split at h
 ·simp only[Bool.and_eq_true,List.isEmpty_iff] at h
  obtain⟨h1,rfl⟩:=h;refine⟨rfl,?_⟩;cases pre with
  |none=>rfl
  |some p=>
   simp only[List.isEmpty_iff] at h1;subst h1;rfl
 ·cases h
noncomputable def lV(t:I4):Bool:=match pM (aM Tryz.prog) ad (aL Tryz.prog) bJ 8 6 (.fn 245) [tA t] [] with
 |some r=>PF r
 |none=>false
theorem OA:(List.range 6).all (fun i=>lV (ej (bn i) false)&&lV (ej (bn i) true))=true:=by kernel_rfl
theorem El(i:Nat) (hi:i≤5) (ar:Bool) (M:Mem):ACallsTo Tryz.prog 245 [tA (ej (bn i) ar)] M (.int .i64 0) M:=by
 have h:=List.all_eq_true.1 OA i (List.mem_range.2 (by omega));rw[Bool.and_eq_true] at h;have h:lV (ej (bn i) ar)=true:=by
  cases ar
  ·exact h.1
  ·exact h.2
 unfold lV at h;split at h
 ·rename_i r hr
  obtain⟨e1,e2⟩:=Ke h;have:=(fI ae (aw _) (az _) (ao _) 6).fn _ _ _ _ hr;rw[e1,e2] at this;exact ACallsTo.lift rfl rfl this M
 ·cases h
theorem gJ{v:V3}(h:vC v) (M:Mem):ACallsTo Tryz.prog 14 [vA v] M (.int .i64 0) M:=by have:=jZ (ah v.1) (ah v.2.1) (ah v.2.2) h.2.1 h.2.2.1 h.2.2.2 M;rw[h.1] at this;exact this
theorem uR{v:V3}(h:vC v) (M:Mem):ACallsTo Tryz.prog 70 [vA v] M (.tuple [vA v,.int .i64 0]) M:=by
 have hG:aL Tryz.prog 70=some Tryz.f70:=by kernel_rfl
 refine aq cM (lv:=fun _=>[]) (K:=1) rfl rfl ?_ M;obtain⟨h1,h2,h3,h4⟩:=h;simp[aa,hG,Tryz.f70,af,aX,vA,h1,h2,h3,h4]
theorem B5{v:V3}(h:vC v) (M:Mem):ACallsTo Tryz.prog 176 [vA v] M (.tuple [vA v,.int .i64 0]) M:=by
 have hG:aL Tryz.prog 176=some Tryz.f176:=by kernel_rfl
 refine aq cM (lv:=fun _=>[]) (K:=1) rfl rfl ?_ M;obtain⟨h1,h2,h3,h4⟩:=h;simp[aa,hG,Tryz.f176,af,aX,vA,h1,h2,h3,h4]
theorem IV{t:I4}{v:V3}(ht:∀M,ACallsTo Tryz.prog 245 [tA t] M (.int .i64 0) M) (h:vC v) (M:Mem):ACallsTo Tryz.prog 174 [tA t,vA v] M (.int .i64 0) M:=by
 have hG:aL Tryz.prog 174=some Tryz.f174:=by kernel_rfl
 have hO:OracleOk Tryz.prog (af (bG [(245,[tA t],.int .i64 0),(14,[vA v],.int .i64 0)])):=cF fun e he M=>by
  simp only[List.mem_cons,List.not_mem_nil,or_false] at he;rcases he with rfl | rfl
  ·exact ht M
  ·exact gJ h M
 refine aq hO (lv:=fun _=>[]) (K:=1) rfl rfl ?_ M;simp[aa,hG,Tryz.f174,bG,af,tA,vA]
structure AboutOk (r:M3) (c:V3):Prop where
 ck:vC c
 m:mOk r c
 f:vF c∧vF (nb r c)
 s:vC (Ku c (nb r c))
set_option maxRecDepth 8192 in
set_option maxHeartbeats 6400000 in
theorem Iu(t:I4) (r:M3) (ht:∀M,ACallsTo Tryz.prog 245 [tA t] M (.int .i64 0) M) (hr:∀M,ACallsTo Tryz.prog 177 [tA t] M (.agg (mC r)) M) (c:V3) (h:AboutOk r c) (M:Mem):
  ACallsTo Tryz.prog 120 [tA t,vA c] M (.tuple [.agg (mC r++vL (Ku c (nb r c))),.int .i64 0]) M:=by
 have hG:aL Tryz.prog 120=some Tryz.f120:=by kernel_rfl
 obtain⟨hc,hm,⟨⟨⟨c1,c2⟩,⟨c3,c4⟩,c5,c6⟩,⟨d1,d2⟩,⟨d3,d4⟩,d5,d6⟩,hs⟩:=h;have hO:OracleOk Tryz.prog (Oracle.or (af (bG [(174,[tA t,vA c],.int .i64 0),(175,[tA t,vA c],vA (nb r c)),(176,[vA (Ku c (nb r c))],.tuple [vA (Ku c (nb r c)),.int .i64 0]),(177,[tA t],.agg (mC r))])) (af aX)):=OracleOk.or (cF fun e he M=>by
  simp only[List.mem_cons,List.not_mem_nil,or_false] at he;rcases he with rfl | rfl | rfl | rfl
  ·exact IV ht hc M
  ·exact Et t r hr c hm M
  ·exact B5 hs M
  ·exact hr M) cM
 refine aq hO (lv:=fun _=>[]) (K:=1) rfl rfl ?_ M;clear hO hr ht;obtain⟨os,hops⟩:∃os,aE Tryz.f120=os:=⟨_,rfl⟩
 have hbs:=br hops (ls:=[[0,1,0,4,15,0,32,0,128,511,0,1024,0,4096,16383,32767,65535,131071,262143,262143,0,1572863,4194303],[0,1,0,7,15,31]]) (by kernel_rfl);simp only[aE,bC,Tryz.f120,List.nil_append,List.append_nil,List.cons_append] at hops;subst hops;simp only[List.map_cons,List.map_nil,List.cons.injEq,and_true] at hbs;obtain⟨hb0,hb1⟩:=hbs;have j1:aN [0,1,0,7,15,31] 4=true:=by decide
 obtain⟨t1,t2,t3,t4⟩:=t;obtain⟨w,hw⟩:∃w,w=nb r c:=⟨_,rfl⟩
 rw[←hw] at d1 d2 d3 d4 d5 d6 ⊢;have hs' :Ku c w=(c.1-w.1,c.2.1-w.2.1,c.2.2-w.2.2):=rfl;obtain⟨s,hsw⟩:∃s,s=Ku c w:=⟨_,rfl⟩
 rw[←hsw] at hs' ⊢;have e1:c.1-w.1=s.1:=by rw[hs']
 have e2:c.2.1-w.2.1=s.2.1:=by rw[hs']
 have e3:c.2.2-w.2.2=s.2.2:=by rw[hs']
 clear hs';simp[aa,hG,Tryz.f120,Oracle.or,bG,af,aX,aA,ay,tA,mC,vL,vA,c1,c2,c3,c4,c5,c6,d1,d2,d3,d4,d5,d6,e1,e2,e3,bO,aH,-aD,bD hb0,dy,gr,gf,dx,cj,kQ,bef,mF,bD hb1,Nat.testBit]
end Go.Proofs
