/- See H38. -/
import Derived.Test.YthpgbelancmpjaaGreatDoorH29
import Derived.Test.YthpgbelancmpjaaGreatDoorH30
set_option linter.all false
set_option maxRecDepth 100000
set_option maxHeartbeats 40000000
namespace Go.Proofs
open Go.Eng
open Tryz
def txA(t:T3):AV:=.agg [.str t.1,.str t.2.1,.str t.2.2]
def txN(t:T3):Int:=jj [t.1,t.2.1,t.2.2]
def tx4(t:T3):Prop:=t.1.length<=40/\t.2.1.length<=40/\t.2.2.length<=40
theorem OF{q:Rat}(h:(aJ q).length<=40):dg 40 40 q:=⟨(sJ h).1,QQi (sJ h).2 (by decide)⟩
def pM(f:FuncId)(args:List AV):Option AV:=
 match f,args with
 |51,[.str s]=>if s.length<=40 then some (.bool (iz s==0)) else none
 |_,_=>none
theorem E5:afs prog (ai pM):=bT fun f Z v h mem=>by
 unfold pM at h;split at h
 .split at h
  .cases h;exact qS _ (by omega) mem
  .cases h
 .cases h
theorem jD{s:List UInt8}{l:List (List UInt8)}:jj (s::l)=0↔iz s=0/\jj l=0:=by
 rw[jj];split
 next h=>simp[h]
 next h=>simp[h]
theorem th:∀l:List (List UInt8),jj l=0\/jj l=2
 | []=>.inl rfl
 |s::l=>by
  rw[jj];split
  .exact th l
  .rcases kJ s with h | h
   .contradiction
   .exact .inr h
theorem txV{t:T3}(h:txN t=0)(H:tx4 t):∃v:V3,t=(aJ v.1,aJ v.2.1,aJ v.2.2)/\vDg 40 v:=by obtain⟨a,b,c⟩:=t;obtain⟨Z,h⟩:=jD.1 h;obtain⟨X,h⟩:=jD.1 h;obtain⟨h3,_⟩:=jD.1 h;obtain⟨p,_,rfl,_⟩:=mT Z;obtain⟨q,_,rfl,_⟩:=mT X;obtain⟨r,_,rfl,_⟩:=mT h3;exact⟨(p,q,r),rfl,OF H.1,OF H.2.1,OF H.2.2⟩
def RY(t:T3):Bool:=t.1==[48]&&t.2.1==[48]&&t.2.2==[48]
def HJ(n:T3)(o:List UInt8):Int:=if jj [n.1,n.2.1,n.2.2,o]=0 then (if RY n=true then 17 else 0) else 2
noncomputable def TO(v n:T3):Int:=if txN v=0 then (if xA ((dZ v.1).getD 0,(dZ v.2.1).getD 0,(dZ v.2.2).getD 0) ((dZ n.1).getD 0,(dZ n.2.1).getD 0,(dZ n.2.2).getD 0)=0 then 0 else 14) else 2
section
variable {n v:T3}{o:List UInt8}
theorem xK(H:tx4 n)(I:o.length<=40)(M:Mem):bz prog 45 [.agg [.str n.1,.str n.2.1,.str n.2.2,.str o]] M (.int .i64 (HJ n o)) M:=by
 have Z:bq prog 45=some f45:=by kernel_rfl
 obtain⟨a,b,c⟩:=n;obtain⟨R,Q,h3⟩:=H;simp only at R Q h3;have X:a.length<=1000000000:=by omega
 have V:b.length<=1000000000:=by omega
 have U:c.length<=1000000000:=by omega
 have S:o.length<=1000000000:=by omega
 unfold HJ RY;simp only;refine az KI ?_ M;rcases th [a,b,c,o] with hE | hE
 .rw[if_pos hE]
  cases z1:a==[48]<;>cases z2:b==[48]<;>cases z3:c==[48]<;>
   simp[ad,Z,f45,Cm,afu.or,ai,rJ,jq,sI,tY,hE,z1,z2,z3,X,V,U,S]
 .rw[if_neg (by omega)]
  simp[ad,Z,f45,Cm,afu.or,ai,rJ,jq,sI,tY,hE,X,V,U,S]
theorem xL(H:tx4 n)(M:Mem):bz prog 50 [txA n] M (.bool (decide (txN n=0))) M:=by
 have V:bq prog 50=some f50:=by kernel_rfl
 obtain⟨a,b,c⟩:=n;obtain⟨Z,X,h3⟩:=H;simp only at Z X h3;unfold txN;simp only[jD];refine az E5 ?_ M;rcases kJ a with e1 | e1<;>rcases kJ b with e2 | e2<;>rcases kJ c with e3 | e3<;>
  simp[ad,V,f50,txA,pM,ai,ag,e1,e2,e3,Z,X,h3,jj]
theorem uf(M:Mem):bz prog 52 [txA n] M (.bool (RY n)) M:=Ic n.1 n.2.1 n.2.2 M
theorem oS(I:tx4 n)(H:o.length<=40)(M:Mem):bz prog 14 [.agg [.str n.1,.str n.2.1,.str n.2.2,.str o]] M (.int .i64 (HJ n o)) M:=by
 have Z:bq prog 14=some f14:=by kernel_rfl
 have X:afs prog (afu.or (ai (mc [(50,[txA n],.bool (decide (txN n=0))),(52,[txA n],.bool (RY n))])) (ai pM)):=afs.or (sT fun e V M=>by
  simp only[lM] at V;rcases V with rfl | rfl
  .exact xL I M
  .exact uf M) E5
 have e:HJ n o=if txN n=0/\iz o=0 then (if RY n=true then 17 else 0) else 2:=by unfold HJ txN;simp only[jD];by_cases h:iz n.1=0/\iz n.2.1=0/\iz n.2.2=0<;>by_cases k:iz o=0<;>simp[h,k,jj]<;>grind
 rw[e];refine az X ?_ M;clear X;unfold txA;obtain⟨z,U⟩:=xE (RY n);rw[<-U];by_cases h:txN n=0
 .rcases kJ o with k | k
  .cases z<;>simp[ad,Z,f14,afu.or,mc,ai,pM,ag,h,k,H]
  .simp[ad,Z,f14,afu.or,mc,ai,pM,ag,h,k,H]
 .simp[ad,Z,f14,afu.or,mc,ai,pM,ag,h]
theorem ES(H:tx4 v)(I:tx4 n)(hr:txN n=0)(M:Mem):bz prog 237 [txA v,txA n] M (.int .i64 (TO v n)) M:=by
 have R:bq prog 237=some f237:=by kernel_rfl
 have Z:=fun M=>iY v.1 v.2.1 v.2.2 (by have:=H.1;omega) (by have:=H.2.1;omega) (by have:=H.2.2;omega) M
 obtain⟨w,rfl,N⟩:=txV hr I;unfold TO;rcases th [v.1,v.2.1,v.2.2] with hE | hE
 .obtain⟨u,rfl,K⟩:=txV (t:=v) hE H
  have d:=Wu K N (by omega) (by omega);simp only[aE,Option.getD_some];rw[if_pos (show txN _=0 from hE)];rw[hE] at Z;obtain⟨q,Q⟩:=xE (xA (u.1,u.2.1,u.2.2) (w.1,w.2.1,w.2.2));have O:=fun M=>Ps u w d M
  rw[show xA u w=q from Q.symm] at O;rw[<-Q];have X:afs prog (ai (mc [(70,[vA u],.int .i64 0),(113,[vA u,vA w],.str (aJ q))])):=sT fun e V M=>by
   simp only[lM] at V;rcases V with rfl | rfl
   .exact Z M
   .exact O M
  have U:=O3 q;refine az X ?_ M;clear X O Z Q;show ad _ _ _ _ _ _ [vA u,vA w] _=_
  by_cases S:q=0
  .rw[if_pos S]
   rw[decide_eq_true S] at U;simp[ad,R,f237,mc,ai,vA,U]
  .rw[if_neg S]
   rw[decide_eq_false S] at U;simp[ad,R,f237,mc,ai,vA,U]
 .rw[if_neg (by unfold txN;omega)]
  rw[hE] at Z;have X:afs prog (ai (mc [(70,[txA v],.int .i64 2)])):=sT fun e V M=>by simp only[lM] at V;subst V;exact Z M
  refine az X ?_ M;clear X Z;simp[ad,R,f237,mc,ai,txA]
end
def Xq(t:I4):Int:=if 1000000<t.1.natAbs then 3 else if (t.1=0/\t.2.1=0/\t.2.2.1=0/\t.2.2.2=0) then 17 else 0
theorem MR(n:Int)(M:Mem):bz prog 121 [.int .i64 n] M (.bool (decide (1000000<n.natAbs))) M:=by
 have Z:bq prog 121=some f121:=by kernel_rfl
 refine az (ar _) ?_ M;have w:IntKind.i64.wrap (-1000000)= -1000000:=rfl;by_cases X:1000000<n
 .rw[decide_eq_true (show 1000000<n.natAbs by omega)]
  simp[ad,Z,f121,X,w]
 .by_cases V:n< -1000000
  .rw[decide_eq_true (show 1000000<n.natAbs by omega)]
   simp[ad,Z,f121,X,V,w]
  .rw[decide_eq_false (show¬1000000<n.natAbs by omega)]
   simp[ad,Z,f121,X,V,w]
noncomputable def wq(f:FuncId)(args:List AV):Option AV:=
 match f,args with
 |121,[.int .i64 n]=>some (.bool (decide (1000000<n.natAbs)))
 |_,_=>none
theorem QQ:afs prog (ai wq):=bT fun f Z v h mem=>by
 unfold wq at h;split at h
 .cases h;exact MR _ mem
 .cases h
theorem EW{t:I4}(h2:t.2.1.natAbs<=20/\t.2.2.1.natAbs<=20/\t.2.2.2.natAbs<=20)(M:Mem):bz prog 69 [tA t] M (.int .i64 (Xq t)) M:=by
 obtain⟨w,x,y,z⟩:=t;obtain⟨h2,h3,C⟩:=h2;simp only at h2 h3 C;have B:¬1000000<x.natAbs:=by omega
 have g3:¬1000000<y.natAbs:=by omega
 have u:¬1000000<z.natAbs:=by omega
 have G:IntKind.i64.wrap (-1)= -1:=rfl;have O:bz prog 202 [.slice 0 0 4 (some 4),.func 121 []] [.cells true 0 [.int .i64 w,.int .i64 x,.int .i64 y,.int .i64 z]] (.int .i64 (if 1000000<w.natAbs then 0 else -1)) [.cells true 0 [.int .i64 w,.int .i64 x,.int .i64 y,.int .i64 z]]:=by
  have X:bq prog 202=some f202:=by kernel_rfl
  have h:ad (aL prog) (fun _=>[8]) (bq prog) (ai wq) 6 202 [.slice 0 0 4 (some 4),.func 121 []] [.cells true 0 [.int .i64 w,.int .i64 x,.int .i64 y,.int .i64 z]]=some ⟨.int .i64 (if 1000000<w.natAbs then 0 else -1),none,[]⟩:=by
   by_cases g1:1000000<w.natAbs
   .rw[if_pos g1]
    simp[ad,X,f202,bw,ga,ai,wq,g1,w1,w2,w3,w4,G]
   .rw[if_neg g1]
    simp[ad,X,f202,bw,ga,ai,wq,g1,B,g3,u,w1,w2,w3,w4,G]
  have:=(aB ak (aI _) QQ (aQ _) h).1;simpa [afw.mem] using this
 obtain⟨F,Z⟩:=xE (α:=Int) (if 1000000<w.natAbs then 0 else -1);rw[<-Z] at O;have N:bz prog 120 [.slice 0 0 4 (some 4),.func 121 []] [.cells true 0 [.int .i64 w,.int .i64 x,.int .i64 y,.int .i64 z]] (.bool (decide (1000000<w.natAbs))) [.cells true 0 [.int .i64 w,.int .i64 x,.int .i64 y,.int .i64 z]]:=by
  have X:bq prog 120=some f120:=by kernel_rfl
  have Q:afs prog (nD [(202,[.slice 0 0 4 (some 4),.func 121 []],[.cells true 0 [.int .i64 w,.int .i64 x,.int .i64 y,.int .i64 z]],⟨.int .i64 F,none,[]⟩)]):=wT fun e S=>by rw[List.mem_singleton] at S;subst S;exact⟨by simpa [afw.mem] using O,by simp⟩
  have h:ad (aL prog) (fun _=>[]) (bq prog) (nD [(202,[.slice 0 0 4 (some 4),.func 121 []],[.cells true 0 [.int .i64 w,.int .i64 x,.int .i64 y,.int .i64 z]],⟨.int .i64 F,none,[]⟩)]) 1 120 [.slice 0 0 4 (some 4),.func 121 []] [.cells true 0 [.int .i64 w,.int .i64 x,.int .i64 y,.int .i64 z]]=some ⟨.bool (decide (1000000<w.natAbs)),none,[]⟩:=by
   by_cases g1:1000000<w.natAbs
   .rw[if_pos g1] at Z
    subst Z;simp[ad,X,f120,nD,g1]
   .rw[if_neg g1] at Z
    subst Z;simp[ad,X,f120,nD,g1]
  have:=(aB ak (aI _) Q (aQ _) h).1;simpa [afw.mem] using this
 have X:bq prog 69=some f69:=by kernel_rfl
 obtain⟨K,V⟩:=xE (decide (1000000<w.natAbs));rw[<-V] at N;have Q:afs prog (nD [(120,[.slice 0 0 4 (some 4),.func 121 []],[.cells true 0 [.int .i64 w,.int .i64 x,.int .i64 y,.int .i64 z]],⟨.bool K,none,[]⟩)]):=wT fun e S=>by rw[List.mem_singleton] at S;subst S;exact⟨by simpa [afw.mem] using N,by simp⟩
 have e:=fun d=>IJ d w x y z 0 0 0 0
 obtain⟨D,U⟩:=xE (decide (w=0)&&(decide (x=0)&&(decide (y=0)&&decide (z=0))));rw[<-U] at e;have R:Xq (w,x,y,z)=if K=true then 3 else if D=true then 17 else 0:=by unfold Xq;rw[V,U];simp only[Ar,Cs]
 rw[R];refine az Q ?_ M;clear Q V U O N Z R;cases K<;>cases D<;>simp[ad,X,f69,nD,tA,e,aD]
def Evc.n5(c:Evc):T3:=(c.x5,c.x6,c.x7)
def Evc.n9(c:Evc):T3:=(c.x9,c.x10,c.x11)
def Evc.n12(c:Evc):T3:=(c.x12,c.x13,c.x14)
def Evc.n16(c:Evc):T3:=(c.x16,c.x17,c.x18)
def Evc.n19(c:Evc):T3:=(c.x19,c.x20,c.x21)
def Evc.n29(c:Evc):T3:=(c.x29,c.x30,c.x31)
structure Evc.Br (c:Evc):Prop where
 n5:tx4 c.n5
 x8:c.x8.length<=40
 n9:tx4 c.n9
 n12:tx4 c.n12
 n16:tx4 c.n16
 n19:tx4 c.n19
 x22:c.x22.length<=40
 x23:c.x23.length<=40
 x24:c.x24.length<=40
 n29:tx4 c.n29
 t:c.t2.natAbs<=20/\c.t3.natAbs<=20/\c.t4.natAbs<=20
 k:∀q∈c.K,q.1.length<=40/\q.2.length<=40
noncomputable def Xd(c:Evc):Int:=if HJ c.n5 c.x8=0 then TO c.n9 c.n5 else HJ c.n5 c.x8
noncomputable def Vo(c:Evc):Int:=if txN c.n12=0 then (if RY c.n12=true then 17 else if knE c.K=0 then TO c.n16 c.n12 else knE c.K) else 2
def Xa(c:Evc):Int:=if HJ c.n19 c.x22=0 then (if iz c.x23=0 then (if kU ((dZ c.x23).getD 0)<=0 then 3 else if jA c.x24=true then 0 else 8) else 2) else HJ c.n19 c.x22
def Yz(c:Evc):Int:=if Xq (c.t1,c.t2,c.t3,c.t4)=0 then txN c.n29 else Xq (c.t1,c.t2,c.t3,c.t4)
theorem UU{n:T3}{o:List UInt8}(h:HJ n o=0):txN n=0:=by
 unfold HJ at h;split at h
 .rename_i Z
  simp only[jD] at Z;unfold txN;simp only[jD];exact⟨Z.1,Z.2.1,Z.2.2.1,rfl⟩
 .omega
section
variable {c:Evc}{b u sv kn x y:AV}{M:Mem}
section
variable (hc:c.Br)(cx:x.adM=true/\y.adM=true)(cb:b.adM=true/\u.adM=true/\sv.adM=true/\kn.adM=true)
include hc cx cb
theorem HL:bz prog 160 [.agg [x,y],.agg (c.cells b u sv kn)] M (.int .i64 (Xd c)) M:=by
 have O:bq prog 160=some f160:=by kernel_rfl
 obtain⟨N,K⟩:=cx;obtain⟨G,F,D,C⟩:=cb;have X:=fun M=>xK hc.n5 hc.x8 M
 have Z:=fun(h:HJ c.n5 c.x8=0) M=>ES hc.n9 hc.n5 (UU h) M
 unfold Xd;obtain⟨p,S⟩:=xE (HJ c.n5 c.x8);rw[<-S] at X Z |-;obtain⟨a,R⟩:=xE (TO c.n9 c.n5);rw[<-R] at Z |-;by_cases Q:p=0
 .have Z:=Z Q
  have V:afs prog (ai (mc [(45,[.agg [.str c.x5,.str c.x6,.str c.x7,.str c.x8]],.int .i64 p),(237,[.agg [.str c.x9,.str c.x10,.str c.x11],.agg [.str c.x5,.str c.x6,.str c.x7]],.int .i64 a)])):=sT fun e U M=>by
   simp only[lM] at U;rcases U with rfl | rfl
   .exact X M
   .exact Z M
  have h:ad (aL prog) (fun _=>[]) (bq prog) (ai (mc [(45,[.agg [.str c.x5,.str c.x6,.str c.x7,.str c.x8]],.int .i64 p),(237,[.agg [.str c.x9,.str c.x10,.str c.x11],.agg [.str c.x5,.str c.x6,.str c.x7]],.int .i64 a)])) 1 160 [.agg [x,y],.agg (c.cells b u sv kn)] M=some ⟨.int .i64 (if p=0 then a else p),none,[]⟩:=by clear V Z X S R;subst Q;simp[-AV.adM,vS,ad,O,f160,mc,ai,Evc.cells,N,K,G,F,D,C]
  have:=(aB ak (aI _) V (aQ _) h).1;simpa [afw.mem] using this
 .have V:afs prog (ai (mc [(45,[.agg [.str c.x5,.str c.x6,.str c.x7,.str c.x8]],.int .i64 p)])):=sT fun e U M=>by rw[List.mem_singleton] at U;subst U;exact X M
  have h:ad (aL prog) (fun _=>[]) (bq prog) (ai (mc [(45,[.agg [.str c.x5,.str c.x6,.str c.x7,.str c.x8]],.int .i64 p)])) 1 160 [.agg [x,y],.agg (c.cells b u sv kn)] M=some ⟨.int .i64 (if p=0 then a else p),none,[]⟩:=by clear V Z X S R;simp[-AV.adM,vS,ad,O,f160,mc,ai,Evc.cells,N,K,G,F,D,C,Q]
  have:=(aB ak (aI _) V (aQ _) h).1;simpa [afw.mem] using this
theorem Mw:bz prog 174 [.agg [x,y],.agg (c.cells b u sv kn)] M (.int .i64 (Yz c)) M:=by
 have U:bq prog 174=some f174:=by kernel_rfl
 obtain⟨S,R⟩:=cx;obtain⟨Q,O,N,K⟩:=cb;have Z:=fun M=>EW (t:=(c.t1,c.t2,c.t3,c.t4)) hc.t M
 have X:=fun M=>iY c.x29 c.x30 c.x31 (by have:=hc.n29.1;simp only[Evc.n29] at this;omega) (by have:=hc.n29.2.1;simp only[Evc.n29] at this;omega) (by have:=hc.n29.2.2;simp only[Evc.n29] at this;omega) M
 unfold Yz txN;obtain⟨p,G⟩:=xE (Xq (c.t1,c.t2,c.t3,c.t4));rw[<-G] at Z |-;obtain⟨a,V⟩:=xE (jj [c.n29.1,c.n29.2.1,c.n29.2.2]);rw[show jj [c.x29,c.x30,c.x31]=a from V.symm] at X;rw[<-V];have F:afs prog (ai (mc [(69,[.agg [.int .i64 c.t1,.int .i64 c.t2,.int .i64 c.t3,.int .i64 c.t4]],.int .i64 p),(70,[.agg [.str c.x29,.str c.x30,.str c.x31]],.int .i64 a)])):=sT fun e D M=>by
  simp only[lM] at D;rcases D with rfl | rfl
  .exact Z M
  .exact X M
 have h:ad (aL prog) (fun _=>[]) (bq prog) (ai (mc [(69,[.agg [.int .i64 c.t1,.int .i64 c.t2,.int .i64 c.t3,.int .i64 c.t4]],.int .i64 p),(70,[.agg [.str c.x29,.str c.x30,.str c.x31]],.int .i64 a)])) 1 174 [.agg [x,y],.agg (c.cells b u sv kn)] M=some ⟨.int .i64 (if p=0 then a else p),none,[]⟩:=by
  clear F X Z G V;by_cases C:p=0
  .subst C
   simp[-AV.adM,vS,ad,U,f174,mc,ai,Evc.cells,S,R,Q,O,N,K]
  .simp[-AV.adM,vS,ad,U,f174,mc,ai,Evc.cells,S,R,Q,O,N,K,C]
 have:=(aB ak (aI _) F (aQ _) h).1;simpa [afw.mem] using this
end
end
theorem Z2{M:Mem}{kn:AV}{K:List (List UInt8×List UInt8)}(h:af5 M kn 2 K.length (kC K)):(kn=.kO/\K=[])\/ZQ M kn K:=by
 rcases h with⟨Z,X,_⟩ | ⟨b,o,Z,X⟩
 .exact .inl ⟨Z,List.length_eq_zero_iff.1 X⟩
 .exact .inr ⟨b,o,_,Z,X,An (by rw[fU];omega)⟩
section
variable {M:Mem}{kn:AV}{K:List (List UInt8×List UInt8)}(h:af5 M kn 2 K.length (kC K))(hK:∀q∈K,q.1.length<=40/\q.2.length<=40)(hl:K.length<=1000)
include h hK hl
theorem R2:bz prog 85 [kn] M (.int .i64 (knE K)) M:=by
 rcases Z2 h with⟨rfl,rfl⟩ | h
 .exact tH M
 .exact Xr rfl rfl (xH K (fun q Z=>by have:=hK q Z;omega) (by omega)) h
theorem HU:bz prog 119 [kn] M (.int .i64 (knE K)) M:=by
 rcases Z2 h with⟨rfl,rfl⟩ | h
 .exact DW M
 .exact Xr rfl rfl (MA K (fun q Z=>by have:=hK q Z;omega) (by omega)) h
end
section
variable {c:Evc}{b u sv kn x y:AV}{M:Mem}
section
variable (hc:c.Br)(cx:x.adM=true/\y.adM=true)(cb:b.adM=true/\u.adM=true/\sv.adM=true/\kn.adM=true)
include hc cx cb
theorem Mv(H:af5 M kn 2 c.K.length (kC c.K))(I:c.K.length<=1000):bz prog 164 [.agg [x,y],.agg (c.cells b u sv kn)] M (.int .i64 (Vo c)) M:=by
 have R:bq prog 164=some f164:=by kernel_rfl
 have hV:=fun M=>iY c.x12 c.x13 c.x14 (by have:=hc.n12.1;simp only[Evc.n12] at this;omega) (by have:=hc.n12.2.1;simp only[Evc.n12] at this;omega) (by have:=hc.n12.2.2;simp only[Evc.n12] at this;omega) M
 unfold Vo;by_cases V:txN c.n12=0
 .rw[show jj [c.x12,c.x13,c.x14]=0 from V] at hV
  rw[if_pos V];obtain⟨a,U⟩:=xE (TO c.n16 c.n12);obtain⟨k,X⟩:=xE (knE c.K);refine iK (M:=M) [(70,[.agg [.str c.x12,.str c.x13,.str c.x14]],.int .i64 0),(85,[kn],.int .i64 k),(237,[.agg [.str c.x16,.str c.x17,.str c.x18],.agg [.str c.x12,.str c.x13,.str c.x14]],.int .i64 a)] (by simp) (by simp only[List.forall_mem_cons];rw[U,X];exact⟨fun Z=>hV _,fun Z=>R2 (H.more Z) hc.k I,fun Z=>ES hc.n16 hc.n12 V _,fun x h=>by cases h⟩) rfl fun O e=>?_
  simp only[List.forall_mem_cons] at e;obtain⟨S,Q,N,-⟩:=e;rw[<-U,<-X,show RY c.n12=((c.x12==[48])&&(c.x13==[48])&&(c.x14==[48])) from rfl];clear hV H hc U X;simp only[Evc.cells];cases z1:c.x12==[48]<;>cases z2:c.x13==[48]<;>cases z3:c.x14==[48]<;>by_cases G:k=0<;>simp[-getElem?_pos,-AV.adM,-AV.known,-AV.cells,-ay,-List.all_eq_true,vS,rS,mS,ao,R,f164,aD,ag,S,Q,N,cx,cb,z1,z2,z3,G]
 .rw[show jj [c.x12,c.x13,c.x14]=2 from(th _).resolve_left V] at hV
  rw[if_neg V];refine iK (M:=M) [(70,[.agg [.str c.x12,.str c.x13,.str c.x14]],.int .i64 2)] (by simp) (by simp only[List.forall_mem_cons];exact⟨fun Z=>hV _,fun x h=>by cases h⟩) rfl fun O e=>?_
  simp only[List.forall_mem_cons] at e;obtain⟨S,-⟩:=e;clear hV H hc;simp only[Evc.cells];simp[-getElem?_pos,-AV.adM,-AV.known,-AV.cells,-ay,-List.all_eq_true,vS,rS,mS,ao,R,f164,aD,ag,S,cx,cb]
theorem Mu(M:Mem):bz prog 169 [.agg [x,y],.agg (c.cells b u sv kn)] M (.int .i64 (Xa c)) M:=by
 have K:bq prog 169=some f169:=by kernel_rfl
 have X:=fun M=>qO c.x23 (by have:=hc.x23;omega) M
 unfold Xa;obtain⟨p,V⟩:=xE (HJ c.n19 c.x22);rcases kJ c.x23 with h1 | h1
 .simp only[h1] at X
  obtain⟨q,_,U,_⟩:=mT h1;obtain⟨s,S⟩:=xE (kU q);refine iK (M:=M) [(45,[.agg [.str c.x19,.str c.x20,.str c.x21,.str c.x22]],.int .i64 p),(86,[.str c.x23],.int .i64 0),(178,[.str c.x23],.int .i64 s),(71,[.str c.x24],.int .i64 (if jA c.x24=true then 0 else 8))] (by simp) (by simp only[List.forall_mem_cons];rw[V,S];exact⟨fun Z=>xK hc.n19 hc.x22 _,fun Z=>X _,fun Z=>by rw[U];exact Bp q _,fun Z=>mI c.x24 (by have:=hc.x24;omega) _,fun x h=>by cases h⟩) rfl fun O e=>?_
  simp only[List.forall_mem_cons] at e;obtain⟨R,Q,F,G,-⟩:=e;rw[<-V,if_pos h1,show(dZ c.x23).getD 0=q by rw[U,aE,Option.getD_some],<-S];clear hc X V U S;simp only[Evc.cells];by_cases N:p=0<;>by_cases h:s<=0<;>cases hn:jA c.x24<;>rw[hn] at G<;>simp[-getElem?_pos,-AV.adM,-AV.known,-AV.cells,-ay,-List.all_eq_true,vS,rS,mS,ao,K,f169,aD,ag,R,Q,F,G,cx,cb,N,h]
 .simp only[h1] at X
  refine iK (M:=M) [(45,[.agg [.str c.x19,.str c.x20,.str c.x21,.str c.x22]],.int .i64 p),(86,[.str c.x23],.int .i64 2)] (by simp) (by simp only[List.forall_mem_cons];rw[V];exact⟨fun Z=>xK hc.n19 hc.x22 _,fun Z=>X _,fun x h=>by cases h⟩) rfl fun O e=>?_
  simp only[List.forall_mem_cons] at e;obtain⟨R,Q,-⟩:=e;rw[<-V,if_neg (show¬iz c.x23=0 by omega)];clear hc X V;simp only[Evc.cells];by_cases N:p=0<;>simp[-getElem?_pos,-AV.adM,-AV.known,-AV.cells,-ay,-List.all_eq_true,vS,rS,mS,ao,K,f169,aD,ag,R,Q,cx,cb,N]
end
end
theorem Zg{a b:T3}(H:txN a=0)(I:txN b=0)(J:tx4 a)(W:tx4 b)(M:Mem):bz prog 54 [txA a,txA b] M (.str (aJ (xA ((dZ a.1).getD 0,(dZ a.2.1).getD 0,(dZ a.2.2).getD 0) ((dZ b.1).getD 0,(dZ b.2.1).getD 0,(dZ b.2.2).getD 0)))) M:=by obtain⟨u,rfl,Z⟩:=txV H J;obtain⟨w,rfl,X⟩:=txV I W;simp only[aE,Option.getD_some];exact MS u w (XI Z X (by decide) (by decide)) M
theorem Mk(a b:V3):xA a b=xA b a:=by unfold xA;rw[Rat.mul_comm a.1,Rat.mul_comm a.2.1,Rat.mul_comm a.2.2]
theorem Hp(q:Rat):aJ q=[48]↔q=0:=by
 constructor
 .intro h;rw[<-ml] at h;exact Ba h
 .rintro rfl;exact ml
def wo(f:FuncId)(args:List AV):Option AV:=
 match f,args with
 |50,[.agg [.str a,.str b,.str c]]=>if a.length<=40/\b.length<=40/\c.length<=40 then some (.bool (decide (txN (a,b,c)=0))) else none
 |_,_=>none
theorem E3:afs prog (ai wo):=bT fun f Z v h mem=>by
 unfold wo at h;split at h
 .rename_i a b c
  split at h
  next X=>cases h;exact xL (n:=(a,b,c)) X mem
  .cases h
 .cases h
section
variable {c:Evc}{kn:AV}{M:Mem}
theorem MC(hc:c.Br)(M:Mem):bz prog 68 [.agg [.str c.x19,.str c.x20,.str c.x21,.str c.x22,.str c.x23,.str c.x24]] M (.int .i64 (Xa c)) M:=by
 have K:bq prog 68=some f68:=by kernel_rfl
 have X:=fun M=>qS c.x23 (by have:=hc.x23;omega) M
 unfold Xa;obtain⟨p,V⟩:=xE (HJ c.n19 c.x22);rcases kJ c.x23 with h1 | h1
 .simp only[h1] at X
  obtain⟨q,_,U,_⟩:=mT h1;obtain⟨s,S⟩:=xE (kU q);refine iK (M:=M) [(14,[.agg [.str c.x19,.str c.x20,.str c.x21,.str c.x22]],.int .i64 p),(51,[.str c.x23],.bool true),(15,[.str c.x23],.int .i64 s),(63,[.str c.x24],.bool (jA c.x24))] (by simp) (by simp only[List.forall_mem_cons];rw[V,S];exact⟨fun Z=>oS hc.n19 hc.x22 _,fun Z=>X _,fun Z=>by rw[U];exact Bn q _,fun Z=>ud c.x24 (by have:=hc.x24;omega) _,fun x h=>by cases h⟩) rfl fun O e=>?_
  simp only[List.forall_mem_cons] at e;obtain⟨R,Q,F,G,-⟩:=e;rw[<-V,if_pos h1,show(dZ c.x23).getD 0=q by rw[U,aE,Option.getD_some],<-S];clear hc X V U S;by_cases N:p=0<;>by_cases h:s<=0<;>cases hn:jA c.x24<;>rw[hn] at G<;>simp[-getElem?_pos,-AV.adM,-AV.known,-AV.cells,-ay,-List.all_eq_true,vS,rS,mS,ao,K,f68,aD,ag,R,Q,F,G,N,h]
 .simp only[h1] at X
  refine iK (M:=M) [(14,[.agg [.str c.x19,.str c.x20,.str c.x21,.str c.x22]],.int .i64 p),(51,[.str c.x23],.bool false)] (by simp) (by simp only[List.forall_mem_cons];rw[V];exact⟨fun Z=>oS hc.n19 hc.x22 _,fun Z=>X _,fun x h=>by cases h⟩) rfl fun O e=>?_
  simp only[List.forall_mem_cons] at e;obtain⟨R,Q,-⟩:=e;rw[<-V,if_neg (show¬iz c.x23=0 by omega)];clear hc X V;by_cases N:p=0<;>simp[-getElem?_pos,-AV.adM,-AV.known,-AV.cells,-ay,-List.all_eq_true,vS,rS,mS,ao,K,f68,aD,ag,R,Q,N]
theorem HT(hc:c.Br)(M:Mem):bz prog 66 [.agg [.str c.x5,.str c.x6,.str c.x7,.str c.x8,.str c.x9,.str c.x10,.str c.x11]] M (.int .i64 (Xd c)) M:=by
 have G:bq prog 66=some f66:=by kernel_rfl
 unfold Xd TO;obtain⟨p,V⟩:=xE (HJ c.n5 c.x8);have U:=fun M=>xL hc.n9 M
 by_cases S:p=0/\txN c.n9=0
 .obtain⟨S,X⟩:=S
  subst S;have R:=fun M=>Zg (UU V.symm) X hc.n5 hc.n9 M
  rw[Mk] at R;rw[<-V,if_pos rfl,if_pos X];rw[decide_eq_true X] at U;obtain⟨q,F⟩:=xE (xA ((dZ c.n9.1).getD 0,(dZ c.n9.2.1).getD 0,(dZ c.n9.2.2).getD 0) ((dZ c.n5.1).getD 0,(dZ c.n5.2.1).getD 0,(dZ c.n5.2.2).getD 0));rw[<-F] at R |-;refine iK (M:=M) [(14,[.agg [.str c.x5,.str c.x6,.str c.x7,.str c.x8]],.int .i64 0),(50,[.agg [.str c.x9,.str c.x10,.str c.x11]],.bool true),(54,[.agg [.str c.x5,.str c.x6,.str c.x7],.agg [.str c.x9,.str c.x10,.str c.x11]],.str (aJ q))] (by simp) (by simp only[List.forall_mem_cons];rw[V];exact⟨fun Z=>oS hc.n5 hc.x8 _,fun Z=>U _,fun Z=>R _,fun x h=>by cases h⟩) rfl fun O e=>?_
  simp only[List.forall_mem_cons] at e;obtain⟨Q,N,C,-⟩:=e;clear hc U R V F X;have B:(aJ q==[48])=decide (q=0):=by rw[Bool.eq_iff_iff,beq_iff_eq,Cs,Hp]
  by_cases h:q=0<;>simp[-getElem?_pos,-AV.adM,-AV.known,-AV.cells,-ay,-List.all_eq_true,vS,rS,mS,ao,G,f66,aD,ag,Q,N,C,B,Hp,ml,h]
 .obtain⟨w,K⟩:=xE (decide (txN c.n9=0))
  refine iK (M:=M) [(14,[.agg [.str c.x5,.str c.x6,.str c.x7,.str c.x8]],.int .i64 p),(50,[.agg [.str c.x9,.str c.x10,.str c.x11]],.bool w)] (by simp) (by simp only[List.forall_mem_cons];rw[V,K];exact⟨fun Z=>oS hc.n5 hc.x8 _,fun Z=>U _,fun x h=>by cases h⟩) rfl fun O e=>?_
  simp only[List.forall_mem_cons] at e;obtain⟨Q,N,-⟩:=e;rw[<-V];by_cases X:p=0
  .have D:¬txN c.n9=0:=fun h=>S ⟨X,h⟩
   rw[if_neg D,if_pos X];rw[decide_eq_false D] at K;subst X K;clear hc U;simp[-getElem?_pos,-AV.adM,-AV.known,-AV.cells,-ay,-List.all_eq_true,vS,rS,mS,ao,G,f66,aD,ag,Q,N]
  .rw[if_neg X]
   clear hc U V K;simp[-getElem?_pos,-AV.adM,-AV.known,-AV.cells,-ay,-List.all_eq_true,vS,rS,mS,ao,G,f66,aD,ag,Q,N,X]
theorem MD(hc:c.Br)(ck:kn.adM=true)(I:af5 M kn 2 c.K.length (kC c.K))(H:c.K.length<=1000):bz prog 67 [.agg [.str c.x12,.str c.x13,.str c.x14,kn,.str c.x16,.str c.x17,.str c.x18]] M (.int .i64 (Vo c)) M:=by
 have j:bq prog 67=some f67:=by kernel_rfl
 have Q:c.x12.length<=40:=by have:=hc.n12;simp only[tx4,Evc.n12] at this;omega
 have N:c.x13.length<=40:=by have:=hc.n12;simp only[tx4,Evc.n12] at this;omega
 have G:c.x14.length<=40:=by have:=hc.n12;simp only[tx4,Evc.n12] at this;omega
 have F:c.x16.length<=40:=by have:=hc.n16;simp only[tx4,Evc.n16] at this;omega
 have D:c.x17.length<=40:=by have:=hc.n16;simp only[tx4,Evc.n16] at this;omega
 have C:c.x18.length<=40:=by have:=hc.n16;simp only[tx4,Evc.n16] at this;omega
 unfold Vo TO;obtain⟨w2,S⟩:∃w,txN (c.x12,c.x13,c.x14)=w:=⟨_,rfl⟩
 obtain⟨w6,R⟩:∃w,txN (c.x16,c.x17,c.x18)=w:=⟨_,rfl⟩
 obtain⟨z,B⟩:=xE (RY c.n12);obtain⟨k,X⟩:=xE (knE c.K);obtain⟨q,u⟩:=xE (xA ((dZ c.n16.1).getD 0,(dZ c.n16.2.1).getD 0,(dZ c.n16.2.2).getD 0) ((dZ c.n12.1).getD 0,(dZ c.n12.2.1).getD 0,(dZ c.n12.2.2).getD 0));have V:txN c.n12=w2:=S;have U:txN c.n16=w6:=R;by_cases y:w2=0/\w6=0
 .obtain⟨rfl,rfl⟩:=y
  have y:=fun M=>Zg V U hc.n12 hc.n16 M
  rw[Mk,<-u] at y;refine IB E3 (M:=M) [(52,[.agg [.str c.x12,.str c.x13,.str c.x14]],.bool z),(119,[kn],.int .i64 k),(54,[.agg [.str c.x12,.str c.x13,.str c.x14],.agg [.str c.x16,.str c.x17,.str c.x18]],.str (aJ q))] (by simp) (by simp only[List.forall_mem_cons];rw[B,X];exact⟨fun Z=>uf (n:=c.n12) _,fun Z=>HU (I.more Z) hc.k H,fun Z=>y _,fun x h=>by cases h⟩) rfl fun O e=>?_
  simp only[List.forall_mem_cons] at e;obtain⟨o,m,J,-⟩:=e;rw[<-B,<-X,<-u,V,U];clear hc y I B X u V U;have hb:(aJ q==[48])=decide (q=0):=by rw[Bool.eq_iff_iff,beq_iff_eq,Cs,Hp]
  cases z<;>by_cases Y:k=0<;>by_cases h:q=0<;>simp[-getElem?_pos,-AV.adM,-AV.known,-AV.cells,-ay,-List.all_eq_true,vS,rS,mS,ao,j,f67,aD,ag,o,m,J,ck,afu.or,ai,wo,Q,N,G,F,D,C,S,R,Y,hb,Hp,ml,h]
 .refine IB E3 (M:=M) [(52,[.agg [.str c.x12,.str c.x13,.str c.x14]],.bool z),(119,[kn],.int .i64 k)] (by simp) (by simp only[List.forall_mem_cons];rw[B,X];exact⟨fun Z=>uf (n:=c.n12) _,fun Z=>HU (I.more Z) hc.k H,fun x h=>by cases h⟩) rfl fun O e=>?_
  simp only[List.forall_mem_cons] at e;obtain⟨o,m,-⟩:=e;rw[<-B,<-X,<-u,V,U];clear hc I B X u V U;by_cases W:w2=0
  .have a6:¬w6=0:=fun h=>y ⟨W,h⟩
   cases z<;>by_cases Y:k=0<;>simp[-getElem?_pos,-AV.adM,-AV.known,-AV.cells,-ay,-List.all_eq_true,vS,rS,mS,ao,j,f67,aD,ag,o,m,ck,afu.or,ai,wo,Q,N,G,F,D,C,S,R,Y,W,a6]
  .simp[-getElem?_pos,-AV.adM,-AV.known,-AV.cells,-ay,-List.all_eq_true,vS,rS,mS,ao,j,f67,aD,ag,o,m,ck,afu.or,ai,wo,Q,N,G,F,D,C,S,R,W]
end
end Go.Proofs
namespace Go.Eng
theorem CN{T:TypeId->Option TyI}{lv:Code->List Nat}{O:afu}{K N m0 ex cnt:Nat}{b:Code}{M:Mem}{α:Type}{L:List α}{err:Nat->α->Option AV}{Q:Nat->Env->Prop}{P:AV->Env->Prop}{H:List Nat}(I:lv b=H)(W:xv H=true)(Y:L.length<K)(hs:∀env i x d,Q i env->aa env cnt=.int .i64 ((i:Nat):Int)->L[i]? =some x->∃Z,aO T lv O K N m0 true b ⟨env,M,d⟩=some (if err i x=none then .normal else .ret,Z)/\(err i x=none->aa Z.env cnt=.int .i64 ((i+1:Nat):Int)/\Q (i+1) Z.env)/\(∀v,err i x=some v->P v Z.env)/\Z.mem=M)(he:∀env d,Q L.length env->aa env cnt=.int .i64 (L.length:Int)->∃V,aO T lv O K N m0 true b ⟨env,M,d⟩=some (.exit ex,⟨V,M,d⟩)/\Q L.length V)(J:∀i X env,Q 0 X->Q i env->Q i (au H (ae b) X env)/\aa (au H (ae b) X env) cnt=aa env cnt):
  ∃G:Env->Bool->Env×Bool,∀env d,(Q 0 env/\aa env cnt=.int .i64 0)->aO T lv O K N m0 true (.loop b) ⟨env,M,d⟩=some (if jK err 0 L=none then .exit ex else .ret,⟨(G env d).1,M,(G env d).2⟩)/\(∀v,jK err 0 L=some v->P v (G env d).1)/\(jK err 0 L=none->Q L.length (G env d).1):=by
 have m:∀(X:Env) (S:Nat),Q 0 X->∀(k i:Nat) (env:Env) (d:Bool) (F:Nat),i+k=L.length->k<F->Q i env->aa env cnt=.int .i64 (i:Int)->
   ∃r:Env×Bool,ga H (ae b) X S (aO T lv O K N m0 true b) F ⟨au H (ae b) X env,M,d⟩=some (if jK err i (L.drop i)=none then .exit ex else .ret,⟨r.1,M,r.2⟩)/\(∀v,jK err i (L.drop i)=some v->P v r.1)/\(jK err i (L.drop i)=none->Q L.length r.1):=by
  intro X S o k;induction k with
  |zero=>
   intro i env d F j hF R D;obtain⟨F,rfl⟩:∃k,F=k+1:=⟨F-1,by omega⟩
   obtain rfl:i=L.length:=by omega
   obtain⟨C,B⟩:=J _ X env o R;obtain⟨V,U,y⟩:=he (au H (ae b) X env) d C (B.trans D);rw[M6 (Es _),show jK err L.length ([]:List α)=none from rfl,if_pos rfl];exact⟨(V,d),by rw[ga,U],fun v h=>(by cases h),fun _=>y⟩
  |succ k ih=>
   intro i env d F j hF R D;obtain⟨F,rfl⟩:∃k,F=k+1:=⟨F-1,by omega⟩
   obtain⟨C,B⟩:=J _ X env o R;obtain⟨x,hx,u⟩:∃x,L[i]? =some x/\L.drop i=x::L.drop (i+1):=⟨_,LB (by omega),LU (by omega)⟩
   obtain⟨Z,t1,t2,t3,t4⟩:=hs (au H (ae b) X env) i x d C (B.trans D) hx;rw[u,jK,ga,t1];cases hxe:err i x with
   |none=>
    simp only[if_true];have hs:nH H (ae b) X S Z =⟨au H (ae b) X Z.env,Z.mem,Z.afS⟩:=by unfold nH;rw[if_pos (Or.inl W)]
    rw[hs,t4];exact ih (i+1) Z.env Z.afS F (by omega) (by omega) (t2 hxe).2 (t2 hxe).1
   |some w=>
    simp only[reduceCtorEq,if_false];refine⟨(Z.env,Z.afS),?_,fun v h=>?_,fun h=>(by cases h)⟩
    .rw[<-t4]
    .cases h
     exact t3 _ hxe
 exact dY (β:=Env×Bool) (p:=fun env _=>Q 0 env/\aa env cnt=.int .i64 0) (q:=fun env d r=>aO T lv O K N m0 true (.loop b) ⟨env,M,d⟩=some (if jK err 0 L=none then .exit ex else .ret,⟨r.1,M,r.2⟩)/\(∀v,jK err 0 L=some v->P v r.1)/\(jK err 0 L=none->Q L.length r.1)) fun env d ⟨U,y⟩=>by have hn:au H (ae b) env env=au H (ae b) env env:=rfl;obtain⟨r,r1,r2⟩:=m env M.length U L.length 0 env d K (by omega) Y U y;refine⟨r,?_,r2⟩;rw[bw,I];exact r1
end Go.Eng
namespace Go.Proofs
open Go.Eng
open Tryz
def mF(n:Nat)(L:List (List UInt8)):Int:=if L.length=n then jj L else 5
theorem ON(v:AV):∀(i:Nat) (L:List (List UInt8)),jK (fun _ s=>if iz s=0 then none else some v) i L=if jj L=0 then none else some v
 |_,[]=>rfl
 |i,s::L=>by rw[jK,ON v (i+1) L];by_cases h:iz s=0<;>simp[h,jD]
def oV(f:FuncId)(args:List AV):Option AV:=match f,args with
 |86,[.str s]=>if s.length<=40 then some (.int .i64 (iz s)) else none
 |_,_=>none
theorem Qf:afs prog (ai oV):=bT fun f Z v h mem=>by
 unfold oV at h;split at h
 .split at h
  .cases h;exact qO _ (by omega) mem
  .cases h
 .cases h
def fN(c:Code):List Nat:=if (ae c).contains 18 then [18] else [30,30,30]
noncomputable def oZ(s:afI)(m:Mem):afu:=afu.or (ai oV) (Ay 46 [shA s] (.int .i64 0) (fun M=>∃ext,M=m++ext))
def agE(m:Mem)(s:afI):Prop:=(0<s.P.length/\s.P.length<=1000)/\∃o Z,m[0]? =some (.cells o 2 (pC s.P))/\m[1]? =some (.cells Z 3 (tC s.T))
variable{m:Mem}{s:afI}
theorem agE.more(h:agE m s)(Z:Mem):agE (m++Z) s:=by obtain⟨X,o,V,U,S⟩:=h;exact⟨X,o,V,gU U _,gU S _⟩
theorem Bv(h:agE m s):afs prog (oZ s m):=by refine afs.or' Qf (Hc fun M Z=>?_);obtain⟨ext,rfl⟩:=Z;obtain⟨_,o,X,V,U⟩:=h.more ext;exact vT s _ 0 1 o X V U
variable{L:List (List UInt8)}{f:AV}
theorem ug{O:afu}{K m0:Nat}{M:Mem}{cs:AV}{n j:Nat}{p:AV}(I:∀s:List UInt8,s.length<=40->O (.fn 86) [.str s] M=some ⟨.int .i64 (iz s),none,[]⟩)(hf:TxW M f L)(J:∀s∈L,s.length<=40)(W:L.length<K){Y b:Code}(H:ah f201=[Y,b]):
  ∃G:Env->Bool->Env×Bool,∀env d,((aa env 28=f/\aa env 29=.int .i64 (L.length:Int)/\aa env 16=cs/\aa env 17=.int .i64 (n:Int)/\aa env 18=.int .i64 (j:Int)/\aa env 2=p)/\aa env 30=.int .i64 0)->
   aO (aL prog) fN O K 41 m0 true (.loop b) ⟨env,M,d⟩=some (if jj L=0 then .exit 2 else .ret,⟨(G env d).1,M,(G env d).2⟩)/\(jj L≠0->aa (G env d).1 4=.int .i64 2)/\(jj L=0->(aa (G env d).1 28=f/\aa (G env d).1 29=.int .i64 (L.length:Int)/\aa (G env d).1 16=cs/\aa (G env d).1 17=.int .i64 (n:Int)/\aa (G env d).1 18=.int .i64 (j:Int)/\aa (G env d).1 2=p)):=by
 have V:fN b=[30,30,30]:=by simp[ah,aw,f201] at H;rw[<-H.2];rfl
 obtain⟨G,C⟩:=pV (T:=aL prog) (lv:=fN) (O:=O) (K:=K) (N:=41) (m0:=m0) (ex:=2) (cnt:=30) (res:=4) (b:=b) (M:=M) (L:=L) (err:=fun _ s=>if iz s=0 then none else some (.int .i64 2)) (Q:=fun env=>aa env 28=f/\aa env 29=.int .i64 (L.length:Int)/\aa env 16=cs/\aa env 17=.int .i64 (n:Int)/\aa env 18=.int .i64 (j:Int)/\aa env 2=p) V W
  (fun env i x d ⟨a1,a2,a3,a4,a5,a6⟩ ac hx=>by
   have Z:i<L.length:=gL hx;have B:=hf.2;obtain⟨y,u,rfl,R⟩:=hf.1.pos (by omega);have F:=qD hx;have X:=I x (J x (Lo hx));have U:IntKind.i64.wrap ((i:Int)+1)=((i+1:Nat):Int):=by rw[af];omega
   simp[ah,aw,f201] at H;obtain⟨_,rfl⟩:=H;obtain⟨o,S⟩:=xE (i+1);rw[<-S] at U |-;rcases kJ x with h0 | h0
   .rw[h0] at X
    simp[a1,a2,a3,a4,a5,a6,ac,Z,U,R,F,X,h0]
   .rw[h0] at X
    simp[a1,a2,a3,a4,a5,a6,ac,Z,U,R,F,X,h0])
  (fun env d ⟨a1,a2,a3,a4,a5,a6⟩ ac=>by simp[ah,aw,f201] at H;obtain⟨_,rfl⟩:=H;simp[a1,a2,a3,a4,a5,a6,ac])
  (fun z' env h=>by simp[ah,aw,f201] at H;obtain⟨_,rfl⟩:=H;simpa [au] using h)
 refine⟨G,fun env d h=>?_⟩;obtain⟨g1,D,g3⟩:=C env d h;rw[ON] at g1 D g3;refine⟨?_,fun h=>D _ (if_neg h),fun h=>g3 (if_pos h)⟩;rw[g1];by_cases h:jj L=0<;>simp[h]
variable{c:Nat}{o4:Bool}
theorem Mx(H:agE m s)(hf:TxW m f L)(hl:∀s∈L,s.length<=40)(hc:m[c]? =some (.cells o4 1 [f])):
  bz prog 201 [shA s,.slice c 0 1 none] m (.int .i64 (mF s.P.length L)) m:=by
 have y:bq prog 201=some f201:=by kernel_rfl
 have S:=Bv H;obtain⟨hn,hn'⟩:=H.1;obtain⟨N,hN⟩:=xE s.P.length;obtain⟨E,hE⟩:=xE (α:=Mem) [.cells true 0 [.slice 0 0 N none,.slice 1 0 s.T.length none]];obtain⟨O,V⟩:=xE (oZ s m);have X:O (.fn 46) [shA s] (m++E)=some ⟨.int .i64 0,none,[]⟩:=by rw[V];simp[oZ,afu.or,ai,oV,Ay]
 have G:∀x:List UInt8,x.length<=40->O (.fn 86) [.str x] (m++E)=some ⟨.int .i64 (iz x),none,[]⟩:=fun x hx=>by rw[V];simp[oZ,afu.or,ai,oV,Ay,hx]
 rw[<-V] at S;clear V;have U :(m++E)[c]? =some (.cells o4 1 [f]):=gU hc _;obtain⟨kk,hkk⟩:=xE 1000;obtain⟨b1,b2,R⟩:∃b1 b2,ah f201=[b1,b2]:=⟨_,_,rfl⟩
 obtain⟨G0,Z⟩:=ug (O:=O) (K:=kk+4) (m0:=m.length) (M:=m++E) (f:=f) (cs:=.slice c 0 1 none) (n:=1) (j:=0) (p:=.ptr m.length 0) G (hf.more E) hl (by have:=hf.2;omega) R;simp[ah,aw,f201] at R;obtain⟨_,rfl⟩:=R;have o:∃F,ao (aL prog) fN (bq prog) O (kk+4) 201 [shA s,.slice c 0 1 none] m=some (.int .i64 (mF s.P.length L),m++F):=by
  unfold mF;simp only[shA,<-hN] at X |-;subst hE;clear G S H;have Y:=hf.1.two;by_cases D:L.length=N
  .rw[if_pos D]
   by_cases u:jj L=0
   .rw[u] at Z |-
    have C:=fun env d h=>(Z env d h).1
    have Q:=fun env d h=>(Z env d h).2.2 rfl
    clear Z;simp only[if_true] at C;have W:=fun env d h=>(Q env d h).2.2.1
    have J:=fun env d h=>(Q env d h).2.2.2.1
    have I:=fun env d h=>(Q env d h).2.2.2.2.1
    have z2:=fun env d h=>(Q env d h).2.2.2.2.2
    clear Q;rcases Y with⟨rfl,B⟩ | ⟨gb,rfl⟩
    .exfalso;omega
    .simp (maxDischargeDepth:=12) [-getElem?_pos,-AV.adM,-AV.known,-AV.cells,-ay,-List.all_eq_true,vS,rS,mS,ao,y,f201,aD,ag,X,U,w1,bw,ga,fN,D,C,W,J,I,z2]
   .have C:=fun env d h=>(Z env d h).1
    have Q:=fun env d h=>(Z env d h).2.1 u
    clear Z;simp only[if_neg u] at C;have hz2:=(th L).resolve_left u;rw[hz2];rcases Y with⟨rfl,B⟩ | ⟨gb,rfl⟩
    .exfalso;omega
    .simp (maxDischargeDepth:=12) [-getElem?_pos,-AV.adM,-AV.known,-AV.cells,-ay,-List.all_eq_true,vS,rS,mS,ao,y,f201,aD,ag,X,U,w1,bw,ga,fN,D,C,Q]
  .rw[if_neg D]
   clear Z;rcases Y with⟨rfl,B⟩ | ⟨gb,rfl⟩
   .have e0:¬(0:Int)=(N:Int):=by omega
    simp (maxDischargeDepth:=12) [-getElem?_pos,-AV.adM,-AV.known,-AV.cells,-ay,-List.all_eq_true,vS,rS,mS,ao,y,f201,aD,ag,X,U,w1,bw,ga,fN,e0]
   .have e1:¬(L.length:Int)=(N:Int):=by omega
    simp (maxDischargeDepth:=12) [-getElem?_pos,-AV.adM,-AV.known,-AV.cells,-ay,-List.all_eq_true,vS,rS,mS,ao,y,f201,aD,ag,X,U,w1,bw,ga,fN,D,e1]
 obtain⟨F,o⟩:=o;exact bz.forget rfl (aX ak (aI _) S (aQ _) o)
theorem My(H:agE m s){g:AV}{L2:List (List UInt8)}(hf:TxW m f L)(hl:∀s∈L,s.length<=40)(h0:mF s.P.length L=0)(hg:TxW m g L2)(Z':∀s∈L2,s.length<=40)(hc:m[c]? =some (.cells o4 1 [f,g])):
  bz prog 201 [shA s,.slice c 0 2 none] m (.int .i64 (mF s.P.length L2)) m:=by
 have J:bq prog 201=some f201:=by kernel_rfl
 have G:=Bv H;obtain⟨hn,hn'⟩:=H.1;obtain⟨N,hN⟩:=xE s.P.length;obtain⟨E,hE⟩:=xE (α:=Mem) [.cells true 0 [.slice 0 0 N none,.slice 1 0 s.T.length none]];obtain⟨O,V⟩:=xE (oZ s m);have X:O (.fn 46) [shA s] (m++E)=some ⟨.int .i64 0,none,[]⟩:=by rw[V];simp[oZ,afu.or,ai,oV,Ay]
 have F:∀x:List UInt8,x.length<=40->O (.fn 86) [.str x] (m++E)=some ⟨.int .i64 (iz x),none,[]⟩:=fun x hx=>by rw[V];simp[oZ,afu.or,ai,oV,Ay,hx]
 rw[<-V] at G;clear V;have U :(m++E)[c]? =some (.cells o4 1 [f,g]):=gU hc _;obtain⟨kk,hkk⟩:=xE 1000;obtain⟨b1,b2,S⟩:∃b1 b2,ah f201=[b1,b2]:=⟨_,_,rfl⟩
 obtain⟨G0,R⟩:=ug (O:=O) (K:=kk+4) (m0:=m.length) (M:=m++E) (f:=f) (cs:=.slice c 0 2 none) (n:=2) (j:=0) (p:=.ptr m.length 0) F (hf.more E) hl (by have:=hf.2;omega) S;obtain⟨G1,Z⟩:=ug (O:=O) (K:=kk+4) (m0:=m.length) (M:=m++E) (f:=g) (cs:=.slice c 0 2 none) (n:=2) (j:=1) (p:=.ptr m.length 0) F (hg.more E) Z' (by have:=hg.2;omega) S;simp[ah,aw,f201] at S;obtain⟨_,rfl⟩:=S;have Q:L.length=N:=by
  unfold mF at h0;split at h0
  .omega
  .omega
 have hL0:jj L=0:=by unfold mF at h0;rw[if_pos (by omega)] at h0;exact h0
 rw[hL0] at R;have IR:∃C,ao (aL prog) fN (bq prog) O (kk+4) 201 [shA s,.slice c 0 2 none] m=some (.int .i64 (mF s.P.length L2),m++C):=by
  unfold mF;simp only[shA,<-hN] at X |-;subst hE;clear F G H;have B:=fun env d h=>(R env d h).1
  have y:=fun env d h=>(R env d h).2.2 rfl
  clear R;simp only[if_true] at B;have y16:=fun env d h=>(y env d h).2.2.1
  have y17:=fun env d h=>(y env d h).2.2.2.1
  have y18:=fun env d h=>(y env d h).2.2.2.2.1
  have y2:=fun env d h=>(y env d h).2.2.2.2.2
  clear y;have tw:=hg.1.two;have tf:=hf.1.two;by_cases u:L2.length=N
  .rw[if_pos u]
   by_cases I:jj L2=0
   .rw[I] at Z |-
    have o:=fun env d h=>(Z env d h).1
    have D:=fun env d h=>(Z env d h).2.2 rfl
    clear Z;simp only[if_true] at o;have z16:=fun env d h=>(D env d h).2.2.1
    have z17:=fun env d h=>(D env d h).2.2.2.1
    have z18:=fun env d h=>(D env d h).2.2.2.2.1
    have z2:=fun env d h=>(D env d h).2.2.2.2.2
    clear D;rcases tf with⟨rfl,Y⟩ | ⟨fb,rfl⟩
    .exfalso;omega
    rcases tw with⟨rfl,W⟩ | ⟨gb,rfl⟩
    .exfalso;omega
    .simp (maxDischargeDepth:=12) [-getElem?_pos,-AV.adM,-AV.known,-AV.cells,-ay,-List.all_eq_true,vS,rS,mS,ao,J,f201,aD,ag,X,U,w1,bw,ga,fN,w2,B,y16,y17,y18,y2,Q,u,o,z16,z17,z18,z2]
   .have o:=fun env d h=>(Z env d h).1
    have D:=fun env d h=>(Z env d h).2.1 I
    clear Z;simp only[if_neg I] at o;have hz2:=(th L2).resolve_left I;rw[hz2];rcases tf with⟨rfl,Y⟩ | ⟨fb,rfl⟩
    .exfalso;omega
    rcases tw with⟨rfl,W⟩ | ⟨gb,rfl⟩
    .exfalso;omega
    .simp (maxDischargeDepth:=12) [-getElem?_pos,-AV.adM,-AV.known,-AV.cells,-ay,-List.all_eq_true,vS,rS,mS,ao,J,f201,aD,ag,X,U,w1,bw,ga,fN,w2,B,y16,y17,y18,y2,Q,u,o,D]
  .rw[if_neg u]
   clear Z;rcases tf with⟨rfl,Y⟩ | ⟨fb,rfl⟩
   .exfalso;omega
   rcases tw with⟨rfl,W⟩ | ⟨gb,rfl⟩
   .have e0:¬(0:Int)=(N:Int):=by omega
    simp (maxDischargeDepth:=12) [-getElem?_pos,-AV.adM,-AV.known,-AV.cells,-ay,-List.all_eq_true,vS,rS,mS,ao,J,f201,aD,ag,X,U,w1,bw,ga,fN,w2,B,y16,y17,y18,y2,Q,e0]
   .have e1:¬(L2.length:Int)=(N:Int):=by omega
    simp (maxDischargeDepth:=12) [-getElem?_pos,-AV.adM,-AV.known,-AV.cells,-ay,-List.all_eq_true,vS,rS,mS,ao,J,f201,aD,ag,X,U,w1,bw,ga,fN,w2,B,y16,y17,y18,y2,Q,u,e1]
 obtain⟨C,IR⟩:=IR;exact bz.forget rfl (aX ak (aI _) G (aQ _) IR)
theorem FR(H:agE m s)(hf:TxW m f L)(I:∀s∈L,s.length<=40):bz prog 118 [shA s,f] m (.int .i64 (mF s.P.length L)) m:=by
 have U:bq prog 118=some f118:=by kernel_rfl
 obtain⟨E,Z⟩:=xE (α:=Mem) [.cells true 0 [.slice 0 0 s.P.length none,.slice 1 0 s.T.length none],.cells true 1 [f]];have X:=Mx (H.more E) (hf.more E) I (c:=m.length+1) (o4:=true) (by rw[Z];simp);obtain⟨r,S⟩:=xE (mF s.P.length L);rw[<-S] at X |-;have R:afs prog (nD [(201,[shA s,.slice (m.length+1) 0 1 none],m++E,⟨.int .i64 r,none,[]⟩)]):=wT fun e V=>by simp only[lM] at V;subst V;exact⟨by simpa [afw.mem] using X,by simp⟩
 have h:ad (aL prog) (fun _=>[]) (bq prog) (nD [(201,[shA s,.slice (m.length+1) 0 1 none],m++E,⟨.int .i64 r,none,[]⟩)]) 1 118 [shA s,f] m=some ⟨.int .i64 r,none,[]⟩:=by rw[Z];have ck:=hf.1.ck;have Q:=hf.1.two;rcases Q with⟨rfl,O⟩ | ⟨b,rfl⟩<;>simp[ad,U,f118,nD,shA]
 have:=(aB ak (aI _) R (aQ _) h).1;simpa [afw.mem] using this
end Go.Proofs
