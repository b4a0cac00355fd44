/- See K51. -/
import Derived.Test.YtffdedmakncfmaaGreatDoorK27
import Derived.Test.YtffdedmakncfmaaGreatDoorK37
import Derived.Test.YtffdedmakncfmaaGreatDoorK26
set_option linter.all false
namespace Go.Proofs
open Go.Eng
abbrev I4:=Int×Int×Int×Int
def tH(t:I4) (bck:Bool):I4:=if bck then (t.1,-t.2.1,-t.2.2.1,-t.2.2.2) else t
def Oq(t:I4):Nat:=(t.1*t.1+t.2.1*t.2.1+t.2.2.1*t.2.2.1+t.2.2.2*t.2.2.2).toNat
def tA(t:I4):AV:=.agg [.int .i64 t.1,.int .i64 t.2.1,.int .i64 t.2.2.1,.int .i64 t.2.2.2]
abbrev M3:=V3×V3×V3
def mC(r:M3):List AV:=[.str (aB r.1.1),.str (aB r.1.2.1),.str (aB r.1.2.2),.str (aB r.2.1.1),.str (aB r.2.1.2.1),.str (aB r.2.1.2.2),.str (aB r.2.2.1),.str (aB r.2.2.2.1),.str (aB r.2.2.2.2)]
def vL(v:V3):List AV:=[.str (aB v.1),.str (aB v.2.1),.str (aB v.2.2)]
def G6(r:M3) (v:V3):V3:=(vW r.1 v,vW r.2.1 v,vW r.2.2 v)
def MK(a b:V3):V3:=(a.1-b.1,a.2.1-b.2.1,a.2.2-b.2.2)
def HH(t:I4):M3:=
 ((mkRat (t.1*t.1+t.2.1*t.2.1-t.2.2.1*t.2.2.1-t.2.2.2*t.2.2.2) (Oq t),mkRat (2*(t.2.1*t.2.2.1-t.1*t.2.2.2)) (Oq t),mkRat (2*(t.2.1*t.2.2.2+t.1*t.2.2.1)) (Oq t)),
  (mkRat (2*(t.2.1*t.2.2.1+t.1*t.2.2.2)) (Oq t),mkRat (t.1*t.1-t.2.1*t.2.1+t.2.2.1*t.2.2.1-t.2.2.2*t.2.2.2) (Oq t),mkRat (2*(t.2.2.1*t.2.2.2-t.1*t.2.1)) (Oq t)),
  (mkRat (2*(t.2.1*t.2.2.2-t.1*t.2.2.1)) (Oq t),mkRat (2*(t.2.2.1*t.2.2.2+t.1*t.2.1)) (Oq t),mkRat (t.1*t.1-t.2.1*t.2.1-t.2.2.1*t.2.2.1+t.2.2.2*t.2.2.2) (Oq t)))
def mOk(r:M3) (v:V3):Prop:=AI r.1 v∧AI r.2.1 v∧AI r.2.2 v
set_option maxRecDepth 8192 in
set_option maxHeartbeats 3200000 in
theorem DH(t:I4) (r:M3) (hr:∀M,ACallsTo Tryz.prog 146 [tA t] M (.agg (mC r)) M) (v:V3) (h:mOk r v) (M:Mem):ACallsTo Tryz.prog 144 [tA t,vA v] M (vA (G6 r v)) M:=by
 have hG:aN Tryz.prog 144=some Tryz.f144:=by kernel_rfl
 have hO:OracleOk Tryz.prog (Oracle.or (ai (cG [(146,[tA t],.agg (mC r))])) (ai eG)):=OracleOk.or (dL fun e he M=>by
  simp only[List.mem_cons,List.not_mem_nil,or_false] at he
  rw[he];exact hr M) gJ
 refine aq hO (lv:=fun _=>[]) (K:=1) rfl rfl ?_ M
 clear hO hr
 obtain⟨h1,h2,h3⟩:=h
 obtain⟨t1,t2,t3,t4⟩:=t
 obtain⟨r1,r2,r3⟩:=r
 simp only at h1 h2 h3
 obtain⟨o1,hops⟩:∃o1,aV Tryz.f144=[o1]:=⟨_,rfl⟩
 have hb1:=di hops (l:=[0,1,0,7,0,16,0,127,0,256,0,2047,4095,8191]) (by kernel_rfl)
 have j1:cU [0,1,0,7,0,16,0,127,0,256,0,2047,4095,8191] 13=true:=by decide
 simp[aV,cc,Tryz.f144] at hops
 subst hops
 unfold G6
 simp only
 obtain⟨x,hx⟩:∃x,x=vW r1 v:=⟨_,rfl⟩
 obtain⟨y,hy⟩:∃x,x=vW r2 v:=⟨_,rfl⟩
 obtain⟨z,hz⟩:∃x,x=vW r3 v:=⟨_,rfl⟩
 rw[←hx,←hy,←hz]
 simp[aa,hG,Tryz.f144,Oracle.or,cG,ai,eG,tA,mC,vA,R4,h1,h2,h3,←hx,←hy,←hz,bx,aG,-aQ,aA hb1,bN,bF,bL,j1,Nat.testBit]
theorem BQ{v:V3}(h:vC v) (M:Mem):ACallsTo Tryz.prog 100 [vA v] M (.int .i64 0) M:=by
 have:=jM (aB v.1) (aB v.2.1) (aB v.2.2) h.2.1 h.2.2.1 h.2.2.2 M
 rw[h.1] at this
 exact this
theorem BJ{v:V3}(h:vC v) (M:Mem):ACallsTo Tryz.prog 145 [vA v] M (.tuple [vA v,.int .i64 0]) M:=by
 have hG:aN Tryz.prog 145=some Tryz.f145:=by kernel_rfl
 refine aq gJ (lv:=fun _=>[]) (K:=1) rfl rfl ?_ M
 obtain⟨h1,h2,h3,h4⟩:=h
 simp[aa,hG,Tryz.f145,ai,eG,vA,h1,h2,h3,h4]
theorem HY{t:I4}{v:V3}(ht:∀M,ACallsTo Tryz.prog 212 [tA t] M (.int .i64 0) M) (h:vC v) (M:Mem):ACallsTo Tryz.prog 143 [tA t,vA v] M (.int .i64 0) M:=by
 have hG:aN Tryz.prog 143=some Tryz.f143:=by kernel_rfl
 have hO:OracleOk Tryz.prog (ai (cG [(212,[tA t],.int .i64 0),(100,[vA v],.int .i64 0)])):=dL fun e he M=>by
  simp only[List.mem_cons,List.not_mem_nil,or_false] at he
  rcases he with rfl | rfl
  ·exact ht M
  ·exact BQ h M
 refine aq hO (lv:=fun _=>[]) (K:=1) rfl rfl ?_ M
 simp[aa,hG,Tryz.f143,cG,ai,tA,vA]
structure AboutOk (r:M3) (c:V3):Prop where
 ck:vC c
 m:mOk r c
 f:vF c∧vF (G6 r c)
 s:vC (MK c (G6 r c))
set_option maxRecDepth 8192 in
set_option maxHeartbeats 6400000 in
theorem HK(t:I4) (r:M3) (ht:∀M,ACallsTo Tryz.prog 212 [tA t] M (.int .i64 0) M) (hr:∀M,ACallsTo Tryz.prog 146 [tA t] M (.agg (mC r)) M) (c:V3) (h:AboutOk r c) (M:Mem):
  ACallsTo Tryz.prog 94 [tA t,vA c] M (.tuple [.agg (mC r++vL (MK c (G6 r c))),.int .i64 0]) M:=by
 have hG:aN Tryz.prog 94=some Tryz.f94:=by kernel_rfl
 obtain⟨hc,hm,⟨⟨⟨c1,c2⟩,⟨c3,c4⟩,c5,c6⟩,⟨d1,d2⟩,⟨d3,d4⟩,d5,d6⟩,hs⟩:=h
 have hO:OracleOk Tryz.prog (Oracle.or (ai (cG [(143,[tA t,vA c],.int .i64 0),(144,[tA t,vA c],vA (G6 r c)),(145,[vA (MK c (G6 r c))],.tuple [vA (MK c (G6 r c)),.int .i64 0]),(146,[tA t],.agg (mC r))])) (ai eG)):=OracleOk.or (dL fun e he M=>by
  simp only[List.mem_cons,List.not_mem_nil,or_false] at he
  rcases he with rfl | rfl | rfl | rfl
  ·exact HY ht hc M
  ·exact DH t r hr c hm M
  ·exact BJ hs M
  ·exact hr M) gJ
 refine aq hO (lv:=fun _=>[]) (K:=1) rfl rfl ?_ M
 clear hO hr ht
 obtain⟨os,hops⟩:∃os,aV Tryz.f94=os:=⟨_,rfl⟩
 have hbs:=cK hops (ls:=[[0,1,0,4,15,0,32,0,128,511,0,1024,0,4096,16383,32767,65535,131071,262143,262143,0,1572863,4194303],[0,1,0,7,15,31]]) (by kernel_rfl)
 simp only[aV,cc,Tryz.f94,List.nil_append,List.append_nil,List.cons_append] at hops
 subst hops
 simp only[List.map_cons,List.map_nil,List.cons.injEq,and_true] at hbs
 obtain⟨hb0,hb1⟩:=hbs
 have j1:cU [0,1,0,7,15,31] 4=true:=by decide
 obtain⟨t1,t2,t3,t4⟩:=t
 obtain⟨w,hw⟩:∃w,w=G6 r c:=⟨_,rfl⟩
 rw[←hw] at d1 d2 d3 d4 d5 d6 ⊢
 have hs' :MK c w=(c.1-w.1,c.2.1-w.2.1,c.2.2-w.2.2):=rfl
 obtain⟨s,hsw⟩:∃s,s=MK c w:=⟨_,rfl⟩
 rw[←hsw] at hs' ⊢
 have e1:c.1-w.1=s.1:=by rw[hs']
 have e2:c.2.1-w.2.1=s.2.1:=by rw[hs']
 have e3:c.2.2-w.2.2=s.2.2:=by rw[hs']
 clear hs'
 simp[aa,hG,Tryz.f94,Oracle.or,cG,ai,eG,aP,aC,tA,mC,vL,vA,c1,c2,c3,c4,c5,c6,d1,d2,d3,d4,d5,d6,e1,e2,e3,bx,aG,-aQ,bz hb0,cH,ea,eV,cM,cS,iL,bef,mR,bz hb1,Nat.testBit]
theorem MT(d:Nat) (x y:Int):iH (aO Tryz.prog) (d+1) 3 (.int .i64 x) (.int .i64 y)=some (decide (x=y)):=by rw[iH];simp
theorem Ed(d:Nat) (t u v w a b c e:Int):iH (aO Tryz.prog) (d+2) 64 (.agg [.int .i64 t,.int .i64 u,.int .i64 v,.int .i64 w]) (.agg [.int .i64 a,.int .i64 b,.int .i64 c,.int .i64 e])=some (decide (t=a)&&(decide (u=b)&&(decide (v=c)&&decide (w=e)))):=by
 have r:List.range' 0 4=[0,1,2,3]:=rfl
 have i:=MT d
 rw[iH]
 simp only[Cp,Co,r,Qv]
 simp[gD,TyI.isAgg,i]
open Classical in
noncomputable def ph(f:FuncId) (args:List AV):Option AV:=
 match f,args with
 |66,[.int .i64 n,.int .i64 d]=>if 0<d∧n.natAbs≤1000000∧d.natAbs≤1000000 then some (.tuple [.str (aB (mkRat n d.toNat)),.int .i64 0]) else none
 |248,[.int .i64 n]=>if n.natAbs≤1000000 then some (.bool false) else none
 |_,_=>none
theorem JX{n:Int}(h:n.natAbs≤1000000):dD n=true:=by
 unfold dD
 simp only[Bool.and_eq_true,decide_eq_true_eq]
 omega
theorem HZ(n:Int) (h:n.natAbs≤1000000) (M:Mem):ACallsTo Tryz.prog 248 [.int .i64 n] M (.bool false) M:=by
 have hG:aN Tryz.prog 248=some Tryz.f248:=by kernel_rfl
 refine aq (ak _) (lv:=fun _=>[]) (K:=1) rfl rfl ?_ M
 have h1:¬1000000<n:=by omega
 have h2:¬n< -1000000:=by omega
 have w:IntKind.i64.wrap (-1000000)= -1000000:=rfl
 simp[aa,hG,Tryz.f248,h1,h2]
theorem yw:OracleOk Tryz.prog (ai ph):=bM fun f args v h mem=>by
 unfold ph at h
 split at h
 ·rename_i n d
  split at h
  ·rename_i hc
   cases h
   have:=Dw n d.toNat (by omega) (JX hc.2.1) (JX (by omega)) mem
   rw[Int.toNat_of_nonneg (by omega)] at this
   exact this
  ·cases h
 ·split at h
  ·rename_i hc;cases h;exact HZ _ hc mem
  ·cases h
 ·cases h
set_option maxRecDepth 8192 in
set_option maxHeartbeats 3200000 in
theorem H0(a b c s:Int) (hs:0<s) (hs2:s.natAbs≤1000000) (ha:a.natAbs≤1000000) (hb:b.natAbs≤1000000) (hc:c.natAbs≤1000000) (X0 X1:Slot):
  ACallsTo Tryz.prog 214 [.int .i64 a,.int .i64 b,.int .i64 c,.ptr 2 0] [X0,X1,.cells true 0 [.int .i64 s]] (vA (mkRat a s.toNat,mkRat b s.toNat,mkRat c s.toNat)) [X0,X1,.cells true 0 [.int .i64 s]]:=by
 have hG:aN Tryz.prog 214=some Tryz.f214:=by kernel_rfl
 have w1:IntKind.i64.wrap 1=1:=rfl
 have w2:IntKind.i64.wrap 2=2:=rfl
 have w3:IntKind.i64.wrap 3=3:=rfl
 have h:aa (aO Tryz.prog) (fun _=>[15]) (aN Tryz.prog) (ai ph) 6 214 [.int .i64 a,.int .i64 b,.int .i64 c,.ptr 2 0] [X0,X1,.cells true 0 [.int .i64 s]]=some ⟨vA (mkRat a s.toNat,mkRat b s.toNat,mkRat c s.toNat),none,[]⟩:=by
  simp[aa,hG,Tryz.f214,aZ,fA,ai,ph,hs,hs2,ha,hb,hc,w1,w2,w3,vA,bx,aG]
 have:=(af ae (aw _) yw (ax _) h).1
 simpa [CallRes.mem] using this
def tLe(n:Nat) (t:I4):Prop:=t.1.natAbs≤n∧t.2.1.natAbs≤n∧t.2.2.1.natAbs≤n∧t.2.2.2.natAbs≤n
def zW(t:I4):Prop:=t.1=0∧t.2.1=0∧t.2.2.1=0∧t.2.2.2=0
theorem Qi(x:Int):0≤x*x:=by
 rcases Int.le_total 0 x with h | h
 ·exact Int.mul_nonneg h h
 ·exact Int.mul_nonneg_of_nonpos_of_nonpos h h
theorem Kk{x:Int}(h:x≠0):0<x*x:=by
 rcases Int.lt_trichotomy x 0 with h1 | h1 | h1
 ·exact Int.mul_pos_of_neg_of_neg h1 h1
 ·exact absurd h1 h
 ·exact Int.mul_pos h1 h1
theorem Kf{t:I4}(h:¬zW t):0<t.1*t.1+t.2.1*t.2.1+t.2.2.1*t.2.2.1+t.2.2.2*t.2.2.2:=by
 obtain⟨w,x,y,z⟩:=t
 simp only[zW] at h ⊢
 have a:=Qi w
 have b:=Qi x
 have c:=Qi y
 have d:=Qi z
 by_cases h1:w=0
 ·by_cases h2:x=0
  ·by_cases h3:y=0
   ·have:=Kk (x:=z) (fun h4=>h ⟨h1,h2,h3,h4⟩)
    omega
   ·have:=Kk h3;omega
  ·have:=Kk h2;omega
 ·have:=Kk h1;omega
theorem Sp{a b:Int}(ha:a.natAbs≤20) (hb:b.natAbs≤20):(a*b).natAbs≤400:=by
 rw[Int.natAbs_mul]
 exact Nat.mul_le_mul ha hb
set_option maxRecDepth 8192 in
set_option maxHeartbeats 3200000 in
theorem sf{t:I4}(ht:tLe 20 t) (hz:¬zW t) (M:Mem):ACallsTo Tryz.prog 212 [tA t] M (.int .i64 0) M:=by
 obtain⟨w,x,y,z⟩:=t
 obtain⟨h1,h2,h3,h4⟩:=ht
 simp only at h1 h2 h3 h4
 have g1:w.natAbs≤1000000:=by omega
 have g2:x.natAbs≤1000000:=by omega
 have g3:y.natAbs≤1000000:=by omega
 have g4:z.natAbs≤1000000:=by omega
 have w1:IntKind.i64.wrap 1=1:=rfl
 have w2:IntKind.i64.wrap 2=2:=rfl
 have w3:IntKind.i64.wrap 3=3:=rfl
 have w4:IntKind.i64.wrap 4=4:=rfl
 have wm:IntKind.i64.wrap (-1)= -1:=rfl
 have i0:ACallsTo Tryz.prog 275 [.slice 0 0 4 (some 4),.func 248 []] [.cells true 0 [.int .i64 w,.int .i64 x,.int .i64 y,.int .i64 z]] (.int .i64 (-1)) [.cells true 0 [.int .i64 w,.int .i64 x,.int .i64 y,.int .i64 z]]:=by
  have hG:aN Tryz.prog 275=some Tryz.f275:=by kernel_rfl
  have h:aa (aO Tryz.prog) (fun _=>[8]) (aN Tryz.prog) (ai ph) 6 275 [.slice 0 0 4 (some 4),.func 248 []] [.cells true 0 [.int .i64 w,.int .i64 x,.int .i64 y,.int .i64 z]]=some ⟨.int .i64 (-1),none,[]⟩:=by
   simp[aa,hG,Tryz.f275,aZ,fA,ai,ph,g1,g2,g3,g4,w1,w2,w3,w4]
  have:=(af ae (aw _) yw (ax _) h).1
  simpa [CallRes.mem] using this
 have i1:ACallsTo Tryz.prog 247 [.slice 0 0 4 (some 4),.func 248 []] [.cells true 0 [.int .i64 w,.int .i64 x,.int .i64 y,.int .i64 z]] (.bool false) [.cells true 0 [.int .i64 w,.int .i64 x,.int .i64 y,.int .i64 z]]:=by
  have hG:aN Tryz.prog 247=some Tryz.f247:=by kernel_rfl
  have hO:OracleOk Tryz.prog (oz [(275,[.slice 0 0 4 (some 4),.func 248 []],[.cells true 0 [.int .i64 w,.int .i64 x,.int .i64 y,.int .i64 z]],⟨.int .i64 (-1),none,[]⟩)]):=sR fun e he=>by
   rw[List.mem_singleton] at he
   subst he
   exact⟨by simpa [CallRes.mem] using i0,by simp⟩
  have h:aa (aO Tryz.prog) (fun _=>[]) (aN Tryz.prog) (oz [(275,[.slice 0 0 4 (some 4),.func 248 []],[.cells true 0 [.int .i64 w,.int .i64 x,.int .i64 y,.int .i64 z]],⟨.int .i64 (-1),none,[]⟩)]) 1 247 [.slice 0 0 4 (some 4),.func 248 []] [.cells true 0 [.int .i64 w,.int .i64 x,.int .i64 y,.int .i64 z]]=some ⟨.bool false,none,[]⟩:=by
   simp[aa,hG,Tryz.f247,oz]
  have:=(af ae (aw _) hO (ax _) h).1
  simpa [CallRes.mem] using this
 have hG:aN Tryz.prog 212=some Tryz.f212:=by kernel_rfl
 have hO:OracleOk Tryz.prog (oz [(247,[.slice 0 0 4 (some 4),.func 248 []],[.cells true 0 [.int .i64 w,.int .i64 x,.int .i64 y,.int .i64 z]],⟨.bool false,none,[]⟩)]):=sR fun e he=>by
  rw[List.mem_singleton] at he
  subst he
  exact⟨by simpa [CallRes.mem] using i1,by simp⟩
 have e:=fun d=>Ed d w x y z 0 0 0 0
 have hzb:(decide (w=0)&&(decide (x=0)&&(decide (y=0)&&decide (z=0))))=false:=by
  cases hb:(decide (w=0)&&(decide (x=0)&&(decide (y=0)&&decide (z=0))))
  ·rfl
  ·simp only[Bool.and_eq_true,decide_eq_true_eq] at hb
   exact absurd hb hz
 simp only[hzb] at e
 refine aq hO (lv:=fun _=>[]) (K:=1) rfl rfl ?_ M
 simp[aa,hG,Tryz.f212,oz,tA,e,bx]
def MA(t:I4):I4:=if t=(0,0,0,0) then (1,0,0,0) else t
def rV(x:Sketch):I4:=MA ((x.t 0).tmod 21,(x.t 1).tmod 21,(x.t 2).tmod 21,(x.t 3).tmod 21)
theorem Kn(n:Int):(n.tmod 21).natAbs≤20:=by
 have:=xp n 21 (by decide)
 simp only[Int.cast_ofNat_Int] at this
 omega
theorem Kp(x:Sketch):tLe 20 (rV x):=by
 unfold rV MA
 split
 ·exact⟨by decide,by decide,by decide,by decide⟩
 ·exact⟨Kn _,Kn _,Kn _,Kn _⟩
theorem Kq(x:Sketch):¬zW (rV x):=by
 unfold rV MA
 split
 ·rintro ⟨h,_⟩;exact absurd h (by decide)
 ·rename_i h
  rintro ⟨h1,h2,h3,h4⟩
  exact h (Prod.ext h1 (Prod.ext h2 (Prod.ext h3 h4)))
set_option maxHeartbeats 1600000 in
theorem H9(a b c d:Int) (ha:xE a) (hb:xE b) (hc:xE c) (hd:xE d) (M:Mem):ACallsTo Tryz.prog 32 [.agg [.int .i8 a,.int .i8 b,.int .i8 c,.int .i8 d]] M (tA (MA (a.tmod 21,b.tmod 21,c.tmod 21,d.tmod 21))) M:=by
 have hG:aN Tryz.prog 32=some Tryz.f32:=by kernel_rfl
 have W:∀z,xE z→IntKind.i64.wrap z=z:=fun z hz=>ia (by have:=hz.1;have:=hz.2;omega) (by have:=hz.1;have:=hz.2;omega)
 have wa:=W a ha
 have wb:=W b hb
 have wc:=W c hc
 have wd:=W d hd
 obtain⟨p,hp⟩:∃p,p=a.tmod 21:=⟨_,rfl⟩
 obtain⟨q,hq⟩:∃p,p=b.tmod 21:=⟨_,rfl⟩
 obtain⟨r,hr⟩:∃p,p=c.tmod 21:=⟨_,rfl⟩
 obtain⟨s,hs⟩:∃p,p=d.tmod 21:=⟨_,rfl⟩
 rw[←hp,←hq,←hr,←hs]
 have w1:IntKind.i64.wrap 1=1:=rfl
 have w2:IntKind.i64.wrap 2=2:=rfl
 have w3:IntKind.i64.wrap 3=3:=rfl
 have w4:IntKind.i64.wrap 4=4:=rfl
 have e4:∀t u v w a b c e:Int,iH (aO Tryz.prog) 20 64 (.agg [.int .i64 t,.int .i64 u,.int .i64 v,.int .i64 w]) (.agg [.int .i64 a,.int .i64 b,.int .i64 c,.int .i64 e])=some (decide (t=a)&&(decide (u=b)&&(decide (v=c)&&decide (w=e)))):=Ed 18
 refine aq (ak _) (lv:=fun _=>[4]) (K:=5) rfl rfl ?_ M
 by_cases h:p=0∧q=0∧r=0∧s=0
 ·obtain⟨h1,h2,h3,h4⟩:=h
  subst h1 h2 h3 h4
  simp[aa,hG,Tryz.f32,aZ,fA,wa,wb,wc,wd,←hp,←hq,←hr,←hs,w1,w2,w3,w4,tA,MA,e4,bx]
 ·have e:(decide (p=0)&&(decide (q=0)&&(decide (r=0)&&decide (s=0))))=false:=by
   cases hh:(decide (p=0)&&(decide (q=0)&&(decide (r=0)&&decide (s=0)))) with
   |false=>rfl
   |true=>
    simp only[Bool.and_eq_true,decide_eq_true_eq] at hh
    exact absurd hh h
  have hb:MA (p,q,r,s)=(p,q,r,s):=if_neg fun e=>h (by simpa using e)
  rw[hb]
  simp[aa,hG,Tryz.f32,aZ,fA,wa,wb,wc,wd,←hp,←hq,←hr,←hs,w1,w2,w3,w4,tA,e4,e,-Bool.and_eq_false_imp,bx]
def ctN(x:Sketch):Nat:=(ct3 (x.n 0)).toNat
theorem iA(x:Sketch):ctN x=1∨ctN x=2∨ctN x=3:=by
 have:=JS (x.n 0)
 unfold ctN
 omega
theorem Ny{x:Sketch}{c:Nat}(h:ctN x=c):ct3 (x.n 0)=c:=by
 have:=JS (x.n 0)
 unfold ctN at h
 omega
def dqS(m n:Nat):Nat→AV
 |1=>.nilslice
 |2=>.slice (m+2) 0 1 none
 |_=>.slice (m+2) 0 2 none
def dqN(m:Nat) (x:Sketch) (n:Nat):Nat→Mem
 |1=>[.cells true 1 (qC (qH (x.base.l n))),.cells true 1 (stC (uNm 1))]
 |2=>[.cells true 1 (qC (qH (x.base.l n))),.cells true 1 (stC (uNm 2)),.cells true 1 [.slice (m+3) 0 n none],.cells true 1 (qC (qH (upL x.s0 (x.base.l n) n)))]
 |_=>[.cells true 1 (qC (qH (x.base.l n))),.cells true 1 (stC (uNm 3)),.cells true 1 [.slice (m+3) 0 n none,.slice (m+4) 0 n none],.cells true 1 (qC (qH (upL x.s0 (x.base.l n) n))),.cells true 1 (qC (qH (upL x.s1 (upL x.s0 (x.base.l n) n) n)))]
theorem H4(x:Sketch) (hx:x.Ok) (n k:Nat) (hn:0<n) (hl:n≤1000) (M:Mem) (p t:Nat) (hp:p<M.length) (ht:t<M.length):
  ACallsTo Tryz.prog 25 [.agg [.slice p 0 n none,.slice t 0 k none],.agg x.cells,.str [110]] M (.agg [.slice M.length 0 n none,.slice (M.length+1) 0 (ctN x) none,dqS M.length n (ctN x)]) (M++dqN M.length x n (ctN x)):=by
 have e0:=fun f=>aJ (ρ:=f) x.closed
 have h0:ACallsTo Tryz.prog 25 [.agg [.slice 0 0 n none,.slice 1 0 k none],.agg x.cells,.str [110]] [.absent,.absent] (.agg [.slice 2 0 n none,.slice 3 0 (ctN x) none,dqS 2 n (ctN x)]) ([.absent,.absent]++dqN 2 x n (ctN x)):=by
  rcases iA x with h | h | h
  ·rw[h];exact DJ x hx n k hn hl (Ny h)
  ·rw[h];exact DK x hx n k hn hl (Ny h)
  ·rw[h];exact DL x hx n k hn hl (Ny h)
 have h3:=iA x
 obtain⟨c,hc⟩:∃c,c=ctN x:=⟨_,rfl⟩
 rw[←hc] at h0 h3 ⊢
 have:=ACallsTo.frame (M:=M) (new:=dqN 2 x n c) [p,t] (m:=[.absent,.absent]) rfl (by
  intro k hk
  simp only[List.mem_cons,List.not_mem_nil,or_false] at hk
  rcases hk with rfl | rfl
  ·exact hp
  ·exact ht) (by simp[AV.unders,AV.under,aR x.closed]) (fun i s hs=>by
  match i with
  |0=>simp at hs;subst hs;trivial
  |1=>simp at hs;subst hs;trivial
  |i+2=>simp at hs) (by rcases h3 with rfl | rfl | rfl<;>rfl) h0
 rcases h3 with rfl | rfl | rfl<;>simpa [AV.rens,AV.ren,eK,Slot.ren,dqS,dqN,iD,uNm,nmE,stC,e0] using this
theorem Rl(x:Sketch) (hx:x.Ok) (M:Mem):ACallsTo Tryz.prog 32 [.agg (i8C x.T)] M (tA (rV x)) M:=by
 have hl:=hx.tl
 have hk:=hx.tk
 unfold rV Sketch.t
 obtain⟨T,hT⟩:∃T,T=x.T:=⟨_,rfl⟩
 rw[←hT] at hl hk ⊢
 match T,hl with
 | [a,b,c,d],_=>exact H9 a b c d (hk _ (by simp)) (hk _ (by simp)) (hk _ (by simp)) (hk _ (by simp)) M
open Classical in
noncomputable def dK(x:Sketch) (f:FuncId) (args:List AV):Option AV:=
 match f,args with
 |30,[.agg cs]=>if cs=x.cells then some (zA (tQ x)) else none
 |29,[.agg a,.str s]=>if .agg a=zA (tQ x)∧s=[49,47,50] then some (vA (hV (tQ x))) else none
 |32,[.agg cs]=>if cs=i8C x.T then some (tA (rV x)) else none
 |f,args=>fF x f args
theorem gK{x:Sketch}(hx:x.Ok):OracleOk Tryz.prog (ai (dK x)):=bM fun f args v h mem=>by
 unfold dK at h
 split at h
 ·split at h
  ·rename_i hc;cases h;rw[hc];exact BK x hx mem
  ·cases h
 ·split at h
  ·rename_i hc;cases h;rw[hc.1,hc.2];exact H5 _ (yK x) mem
  ·cases h
 ·split at h
  ·rename_i hc;cases h;rw[hc];exact Rl x hx mem
  ·cases h
 ·have:=(yA hx).fn _ _ mem ⟨v,none,[]⟩ (by unfold ai;simp only;rw[h])
  simpa [CallRes.mem] using this
end Go.Proofs
namespace Go.Proofs
open Go.Eng
open Classical in
noncomputable def cr:List (FuncId×List AV×(Mem→Prop)×CallRes)→Oracle
 | [],_,_,_=>none
 |x::L,c,args,M=>if c=.fn x.1∧args=x.2.1∧x.2.2.1 M then some x.2.2.2 else cr L c args M
theorem jT{P:Program}{L:List (FuncId×List AV×(Mem→Prop)×CallRes)}(h:∀x∈L,∀M,x.2.2.1 M→qA P (.fn x.1) x.2.1 M x.2.2.2):OracleOk P (cr L):=ca fun c a M r hr=>by
 induction L with
 |nil=>simp[cr] at hr
 |cons x L ih=>
  rw[cr] at hr
  split at hr
  ·rename_i hc
   obtain⟨rfl,rfl,hp⟩:=hc
   cases hr
   exact h x (by simp) M hp
  ·exact ih (fun y hy=>h y (by simp[hy])) hr
theorem bn{f:FuncId}{a:List AV}{p:Mem→Prop}{r:CallRes}{m:Mem}{L:List (FuncId×List AV×(Mem→Prop)×CallRes)}(h:p m):cr ((f,a,p,r)::L) (.fn f) a m=some r:=by
 rw[cr,if_pos ⟨rfl,rfl,h⟩]
theorem ar{f g:FuncId}{a b:List AV}{p:Mem→Prop}{r:CallRes}{m:Mem}{L:List (FuncId×List AV×(Mem→Prop)×CallRes)}(h:f≠g∨¬p m):cr ((f,a,p,r)::L) (.fn g) b m=cr L (.fn g) b m:=by
 rw[cr,if_neg (fun e=>h.elim (fun h=>h (by have:=e.1;cases this;rfl)) fun h=>h e.2.2)]
end Go.Proofs
