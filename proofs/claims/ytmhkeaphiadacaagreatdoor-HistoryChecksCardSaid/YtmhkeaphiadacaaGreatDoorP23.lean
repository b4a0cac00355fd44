/- See P53. -/
import Derived.Test.YtmhkeaphiadacaaGreatDoorP19
set_option linter.all false
set_option maxRecDepth 100000
set_option maxHeartbeats 40000000
namespace Go.Proofs
open Go.Eng
open Tryz
theorem Lq(a b c:P2)(ha:pDg 2 a)(hb:pDg 2 b)(hc:pDg 2 c)(M:Mem):mB prog 105 [pA a,pA b,pA c] M (.str (aN (gr a b c))) M:=by
 have hG:aO prog 105=some f105:=by kernel_rfl
 obtain⟨a1,a2⟩:=a;obtain⟨b1,b2⟩:=b;obtain⟨c1,c2⟩:=c;obtain⟨A1,A2⟩:=ha;obtain⟨B1,B2⟩:=hb;obtain⟨C1,C2⟩:=hc;simp only at A1 A2 B1 B2 C1 C2;have X1:=NL B1 A1 (m:=3) (by omega) (by omega);have X2:=NL C2 A2 (m:=3) (by omega) (by omega);have X3:=NL B2 A2 (m:=3) (by omega) (by omega);have X4:=NL C1 A1 (m:=3) (by omega) (by omega);have Y1:=Kh X1 X2;have Y2:=Kh X3 X4;obtain⟨p1,p2⟩:=dw A1 (by omega) (by omega) (by omega) (by omega);obtain⟨p3,p4⟩:=dw A2 (by omega) (by omega) (by omega) (by omega);obtain⟨q1,q2⟩:=dw B1 (by omega) (by omega) (by omega) (by omega);obtain⟨q3,q4⟩:=dw B2 (by omega) (by omega) (by omega) (by omega);obtain⟨r1,r2⟩:=dw C1 (by omega) (by omega) (by omega) (by omega);obtain⟨r3,r4⟩:=dw C2 (by omega) (by omega) (by omega) (by omega);obtain⟨s1,s2⟩:=dw X1 (by omega) (by omega) (by omega) (by omega);obtain⟨s3,s4⟩:=dw X2 (by omega) (by omega) (by omega) (by omega);obtain⟨s5,s6⟩:=dw X3 (by omega) (by omega) (by omega) (by omega);obtain⟨s7,s8⟩:=dw X4 (by omega) (by omega) (by omega) (by omega);obtain⟨t1,t2⟩:=dw Y1 (by omega) (by omega) (by omega) (by omega);obtain⟨t3,t4⟩:=dw Y2 (by omega) (by omega) (by omega) (by omega);clear Y1 Y2 X1 X2 X3 X4 A1 A2 B1 B2 C1 C2;unfold gr;simp only;obtain⟨x1,hx1⟩:∃p,p=b1-a1:=⟨_,rfl⟩
 obtain⟨x2,hx2⟩:∃p,p=c2-a2:=⟨_,rfl⟩
 obtain⟨x3,hx3⟩:∃p,p=b2-a2:=⟨_,rfl⟩
 obtain⟨x4,ZI⟩:∃p,p=c1-a1:=⟨_,rfl⟩
 rw[←hx1] at s1 s2 t1 t2;rw[←hx2] at s3 s4 t1 t2;rw[←hx3] at s5 s6 t3 t4;rw[←ZI] at s7 s8 t3 t4;rw[←hx1,←hx2,←hx3,←ZI];obtain⟨y1,hy1⟩:∃p,p=x1*x2:=⟨_,rfl⟩
 obtain⟨y2,hy2⟩:∃p,p=x3*x4:=⟨_,rfl⟩
 rw[←hy1] at t1 t2;rw[←hy2] at t3 t4;rw[←hy1,←hy2];refine aB dX (lv:=fun _=>[]) (K:=1) rfl rfl ?_ M;obtain⟨o1,o2,F'⟩:∃o1 o2,aP f105=[o1,o2]:=⟨_,_,rfl⟩
 obtain⟨hb1,WE⟩:=kA F' (l:=[0,1,0,4,15,0,32,0,128,511,1023,2047]) (l' :=[0,0,2,0,8,30,0,64,0,256,1022,2046,4095,8191]) (by kernel_rfl);have k1:ba [0,1,0,4,15,0,32,0,128,511,1023,2047] 11=true:=by decide
 have k2:ba [0,0,2,0,8,30,0,64,0,256,1022,2046,4095,8191] 13=true:=by decide
 simp[aP,bQ,f105] at F';obtain⟨rfl,rfl⟩:=F';simp[ad,hG,f105,-ay,ag hb1,ag WE,aJ,aG,aH,k1,k2,pA,aM,ar,bd,a8,p1,p2,p3,p4,q1,q2,q3,q4,r1,r2,r3,r4,s1,s2,s3,s4,s5,s6,s7,s8,t1,t2,t3,t4,←hx1,←hx2,←hx3,←ZI,←hy1,←hy2,Nat.testBit]
noncomputable def fO(f:FuncId) (args:List AV):Option AV:=
 match f,args with
 |105,[.agg [.str a,.str b],.agg [.str c,.str d],.agg [.str e,.str f]]=>match ef a,ef b,ef c,ef d,ef e,ef f with
  |some a,some b,some c,some d,some e,some f=>if (aS a.num.natAbs).length≤2∧(aS a.den).length≤1∧(aS b.num.natAbs).length≤2∧(aS b.den).length≤1∧(aS c.num.natAbs).length≤2∧(aS c.den).length≤1∧
    (aS d.num.natAbs).length≤2∧(aS d.den).length≤1∧(aS e.num.natAbs).length≤2∧(aS e.den).length≤1∧(aS f.num.natAbs).length≤2∧(aS f.den).length≤1 then some (.str (aN (gr (a,b) (c,d) (e,f)))) else none
  |_,_,_,_,_,_=>none
 |f,args=>bd f args
theorem Av:qS prog (ar fO):=bZ fun f args v h mem=>by
 unfold fO at h;split at h
 ·split at h
  ·rename_i a b c d e f ha hb hc hd he hf
   split at h
   ·rename_i I'
    obtain⟨c1,c2,c3,c4,c5,c6,c7,c8,c9,c10,c11,c12⟩:=I';cases h;rw[aA ha,aA hb,aA hc,aA hd,aA he,aA hf];exact Lq (a,b) (c,d) (e,f) ⟨(cP ⟨c1,c2⟩).mono (by omega) (by omega),(cP ⟨c3,c4⟩).mono (by omega) (by omega)⟩
     ⟨(cP ⟨c5,c6⟩).mono (by omega) (by omega),(cP ⟨c7,c8⟩).mono (by omega) (by omega)⟩ ⟨(cP ⟨c9,c10⟩).mono (by omega) (by omega),(cP ⟨c11,c12⟩).mono (by omega) (by omega)⟩ mem
   ·cases h
  ·cases h
 ·have:=dX.fn _ _ mem ⟨v,none,[]⟩ (by unfold ar;simp only;rw[h])
  simpa [HS.mem] using this
theorem cV{n d m k:Nat}{q:Rat}(h:dg n d q)(h0:0<n)(h1:0<d)(hm:n≤m)(hk:d≤k):(aS q.num.natAbs).length≤m∧(aS q.den).length≤k:=by have:=h.lens h0 h1;exact⟨by omega,by omega⟩
theorem Lt(a b c:P2)(ha:pDg 2 a)(hb:pDg 2 b)(hc:pDg 2 c)(M:Mem):mB prog 76 [pA a,pA b,pA c] M (.int .i64 (nq (gr a b c))) M:=by
 have hG:aO prog 76=some f76:=by kernel_rfl
 obtain⟨a1,a2⟩:=a;obtain⟨b1,b2⟩:=b;obtain⟨c1,c2⟩:=c;obtain⟨p1,p2⟩:=cV ha.1 (by omega) (by omega) (Nat.le_refl _) (Nat.le_refl _);obtain⟨p3,p4⟩:=cV ha.2 (by omega) (by omega) (Nat.le_refl _) (Nat.le_refl _);obtain⟨q1,q2⟩:=cV hb.1 (by omega) (by omega) (Nat.le_refl _) (Nat.le_refl _);obtain⟨q3,q4⟩:=cV hb.2 (by omega) (by omega) (Nat.le_refl _) (Nat.le_refl _);obtain⟨r1,r2⟩:=cV hc.1 (by omega) (by omega) (Nat.le_refl _) (Nat.le_refl _);obtain⟨r3,r4⟩:=cV hc.2 (by omega) (by omega) (Nat.le_refl _) (Nat.le_refl _);refine aB Av (lv:=fun _=>[]) (K:=1) rfl rfl ?_ M;simp only at p1 p2 p3 p4 q1 q2 q3 q4 r1 r2 r3 r4;obtain⟨y,hy⟩:∃y,y=gr (a1,a2) (b1,b2) (c1,c2):=⟨_,rfl⟩
 rw[←hy];simp[ad,hG,f76,pA,aM,ar,fO,bd,a8,bu,bq,p1,p2,p3,p4,q1,q2,q3,q4,r1,r2,r3,r4,←hy]
theorem fV(d:Nat)(x y:List UInt8):iI (aC prog) (d+1) 49 (.str x) (.str y)=some (x==y):=by rw[iI];simp
theorem GN(p q:P2):iI (aC prog) 20 121 (pA p) (pA q)=some (decide (p.1=q.1)&&decide (p.2=q.2)):=by have i:=fV 18;rw[iI];simp[pA,Kl,fR,TyI.isAgg,i,FG]
theorem CK(p:P2):∀(L:List P2) (i:Nat),p∉L→jc (aC prog) 121 (pA p) (L.map pmE) i=some none
 | [],i,_=>rfl
 |q::L,i,h=>by
  have e:=GN p q;have H':(decide (p.1=q.1)&&decide (p.2=q.2))=false:=by rw[←Bool.not_eq_true];intro h2;simp only[Bool.and_eq_true,decide_eq_true_eq] at h2;exact h (by rw[show p=q from Prod.ext h2.1 h2.2];exact List.mem_cons_self ..)
  simp only[List.map_cons,jc,pmE,e,H'];exact CK p L (i+1) (fun h2=>h (List.mem_cons_of_mem _ h2))
theorem Q3(p:P2):jf (aC prog) 20 121 (pA p)=true:=by simp[pA,jf,RN,fR,TyI.isAgg]
noncomputable def fP(f:FuncId) (args:List AV):Option AV:=
 match f,args with
 |76,[.agg [.str a,.str b],.agg [.str c,.str d],.agg [.str e,.str f]]=>match ef a,ef b,ef c,ef d,ef e,ef f with
  |some a,some b,some c,some d,some e,some f=>if (aS a.num.natAbs).length≤2∧(aS a.den).length≤1∧(aS b.num.natAbs).length≤2∧(aS b.den).length≤1∧(aS c.num.natAbs).length≤2∧(aS c.den).length≤1∧
    (aS d.num.natAbs).length≤2∧(aS d.den).length≤1∧(aS e.num.natAbs).length≤2∧(aS e.den).length≤1∧(aS f.num.natAbs).length≤2∧(aS f.den).length≤1 then some (.int .i64 (nq (gr (a,b) (c,d) (e,f)))) else none
  |_,_,_,_,_,_=>none
 |75,[.agg [.str a,.str b]]=>if a.length≤18∧b.length≤18 then some (.int .i64 (zb [a,b])) else none
 |f,args=>bd f args
theorem tS:qS prog (ar fP):=bZ fun f args v h mem=>by
 unfold fP at h;split at h
 ·split at h
  ·rename_i a b c d e f ha hb hc hd he hf
   split at h
   ·rename_i I'
    obtain⟨c1,c2,c3,c4,c5,c6,c7,c8,c9,c10,c11,c12⟩:=I';cases h;rw[aA ha,aA hb,aA hc,aA hd,aA he,aA hf];exact Lt (a,b) (c,d) (e,f) ⟨(cP ⟨c1,c2⟩).mono (by omega) (by omega),(cP ⟨c3,c4⟩).mono (by omega) (by omega)⟩
     ⟨(cP ⟨c5,c6⟩).mono (by omega) (by omega),(cP ⟨c7,c8⟩).mono (by omega) (by omega)⟩ ⟨(cP ⟨c9,c10⟩).mono (by omega) (by omega),(cP ⟨c11,c12⟩).mono (by omega) (by omega)⟩ mem
   ·cases h
  ·cases h
 ·split at h
  ·rename_i hc;cases h;exact mG _ _ hc.1 hc.2 mem
  ·cases h
 ·have:=dX.fn _ _ mem ⟨v,none,[]⟩ (by unfold ar;simp only;rw[h])
  simpa [HS.mem] using this
theorem VL{p:P2}(h:pDg 2 p):zb [aN p.1,aN p.2]=0:=by simp[zb,wD (h.1.mono (by decide) (by decide)),wD (h.2.mono (by decide) (by decide))]
noncomputable def gE(wb:Bool) (PS:List P2) (TS:List Tr):aac:=fun c args M=>match c,args with
 |.fn 77,[.agg [.slice b 0 n none,.slice c 0 k none]]=>open Classical in if n=PS.length∧k=TS.length∧(∃o,M[b]? =some (.cells o 2 (pC PS)))∧(∃o,M[c]? =some (.cells o 3 (tC TS))) then some ⟨.bool wb,none,[]⟩ else none
 |.fn 78,[.agg [.slice b 0 n none,.slice c 0 k none],.int .i64 i,.int .i64 j]=>open Classical in if wb=false∧n=PS.length∧k=TS.length∧(∃o,M[b]? =some (.cells o 2 (pC PS)))∧(∃o,M[c]? =some (.cells o 3 (tC TS)))∧0≤j∧j<i∧i<TS.length then some ⟨.bool false,none,[]⟩ else none
 |c,args=>ar fP c args M
def kg(c:Code):List Nat:=if (ab c).contains 32 then [32] else if (ab c).contains 48 then [48] else if (ab c).contains 53 then [53] else if (ab c).contains 92 then [92] else if (ab c).contains 96 then [96] else []
def msB(n k:Nat):aae:=.cells true 0 [.slice 0 0 n none,.slice 1 0 k none]
variable{K:Nat}{b b3 b4 b5:Code}
theorem mR(wb:Bool)(PS:List P2)(TS:List Tr)(hP:∀p∈PS,pDg 2 p)(hn:PS.Nodup)(hl:PS.length≤1000000000)(hK:PS.length<K){b2:Code}(hb:aj f41=[b,b2,b3,b4,b5]):
  ∃F:Env→Bool→Env,∀y' d,(aa y' 30=.slice 0 0 PS.length none∧aa y' 31=.int .i64 PS.length∧aa y' 32=.int .i64 0∧aa y' 3=.map 3∧aa y' 1=.ptr 2 0)→
   aQ (aC prog) kg (gE wb PS TS) K 105 2 true (.loop b) ⟨y',[.cells false 2 (pC PS),.cells false 3 (tC TS),msB PS.length TS.length,.map []],d⟩=some (.exit 1,⟨F y' d,[.cells false 2 (pC PS),.cells false 3 (tC TS),msB PS.length TS.length,.map (PS.map pmE)],d⟩)∧aa (F y' d) 1=.ptr 2 0:=by
 refine bf (L:=[32]) (by simp[aj,aD,f41] at hb;rw[←hb.1];rfl) (fun y'=>aa y' 30=.slice 0 0 PS.length none∧aa y' 31=.int .i64 PS.length∧aa y' 32=.int .i64 0∧aa y' 3=.map 3∧aa y' 1=.ptr 2 0) (fun _ z' =>aa z' 1=.ptr 2 0) ?_;rintro y' d ⟨WW,ZK,h32,h3,h1⟩;simp[aj,aD,f41] at hb;obtain⟨hb,-⟩:=hb;have UV:az [32] (ab b) y' ((32,.int .i64 ((0:Nat):Int))::y')=az [32] (ab b) y' y':=by simp[az,h32]
 rw[←UV];refine bA (α:=Nat) (fun n=>⟨az [32] (ab b) y' ((32,.int .i64 (n:Int))::y'),[.cells false 2 (pC PS),.cells false 3 (tC TS),msB PS.length TS.length,.map ((PS.take n).map pmE)],d⟩) (fun n=>PS.length-n) (fun n=>n≤PS.length) (.exit 1) _ d _ (by simp) ?_ K 0 (by omega) (by omega);intro n Xi;clear UV;subst hb;by_cases AC:n<PS.length
 ·left
  obtain⟨p,hp⟩:∃q,PS[n]? =some q:=⟨PS[n],List.getElem?_eq_getElem AC⟩
  obtain⟨k1,k2,k3,k4⟩:=wS hp;have hpd:=hP p (List.mem_of_getElem? hp);have hnot:p∉PS.take n:=by intro hm;obtain⟨j,hj,he⟩:=List.mem_iff_getElem.1 hm;rw[List.length_take] at hj;rw[List.getElem_take] at he;have h1:=List.getElem?_eq_some_iff.1 hp;obtain⟨h1,h2⟩:=h1;have:=(List.getElem_inj (h₀:=by omega) (h₁:=h1) hn).1 (he.trans h2.symm);omega
  have f1:=CK p (PS.take n) 0 hnot;have f2:=Q3 p;have e1:(PS.take (n+1)).map pmE=(PS.take n).map pmE++[pmE p]:=by rw[List.take_add_one,hp];simp
  have w1:IntKind.i64.wrap ((n:Int)+1)=((n+1:Nat):Int):=by rw[ai (by omega) (by omega)];omega
  have c1:=VL hpd;have l1:=Ui hpd.1 (by omega) (by omega);have l2:=Ui hpd.2 (by omega) (by omega);obtain⟨m,hm⟩:∃m,m=n+1:=⟨_,rfl⟩
  rw[←hm] at w1 e1;have r1:=vv 4 (PS.take n);obtain⟨E,hE⟩:∃E,E=(PS.take n).map pmE:=⟨_,rfl⟩
  rw[←hE] at f1 e1 r1;rw[←hE];refine⟨m,?_⟩;obtain⟨px,py⟩:=p;simp only[pA,pmE] at f1 f2 e1 k1 c1 l1 l2;simp[WW,ZK,h3,AC,gE,ar,fP,k1,k4,c1,l1,l2,w1,f1,f2,e1,r1,msB,be,bM,gO,fI,dq];omega
 ·right
  have e:PS.take n=PS:=List.take_of_length_le (by omega);rw[e];have WD :¬(n:Int)<PS.length:=by omega
  simp[ZK,h1,AC]
def Ua(PS:List P2) (t:Tr):Prop:=∃p q r,PS[t.1]? =some p∧PS[t.2.1]? =some q∧PS[t.2.2]? =some r∧0<nq (gr p q r)
theorem mT(wb:Bool)(PS:List P2)(TS:List Tr)(E:List (AV×AV))(hP:∀p∈PS,pDg 2 p)(hT:∀t∈TS,Ua PS t)(hl:PS.length≤1000000000)(WZ:TS.length≤1000000000)(hE:E.flatMap (fun e=>e.1.refs 4++e.2.refs 4)=[])(hK:TS.length<K+5){b1:Code}(hb:aj f41=[b1,b,b3,b4,b5]):
  ∃F:Env→Bool→Env,∀y' d,(aa y' 1=.ptr 2 0∧aa y' 46=.slice 1 0 TS.length none∧aa y' 47=.int .i64 TS.length∧aa y' 48=.int .i64 0)→
   aQ (aC prog) kg (gE wb PS TS) (K+5) 105 2 true (.loop b) ⟨y',[.cells false 2 (pC PS),.cells false 3 (tC TS),msB PS.length TS.length,.map E],d⟩=some (.exit 3,⟨F y' d,[.cells false 2 (pC PS),.cells false 3 (tC TS),msB PS.length TS.length,.map E],d⟩)∧aa (F y' d) 1=.ptr 2 0:=by
 refine bf (L:=[48]) (by simp[aj,aD,f41] at hb;rw[←hb.2.1];rfl) (fun y'=>aa y' 1=.ptr 2 0∧aa y' 46=.slice 1 0 TS.length none∧aa y' 47=.int .i64 TS.length∧aa y' 48=.int .i64 0) (fun _ z' =>aa z' 1=.ptr 2 0) ?_;rintro y' d ⟨h1,h46,h47,h48⟩;obtain⟨ops,F'⟩:∃ops,aP f41=[ops]:=⟨_,rfl⟩
 have PP:=ie F' (l:=[0,1,0,4,15,31,0,64,0,256,960,1984,0,4096,0,16384,61440,126976,262143,524287]) (by kernel_rfl);have Y9:ba [0,1,0,4,15,31,0,64,0,256,960,1984,0,4096,0,16384,61440,126976,262143,524287] 19=true:=by decide
 simp[aP,bQ,f41] at F';simp[aj,aD,f41] at hb;obtain⟨-,hb,-⟩:=hb;have UV:az [48] (ab b) y' ((48,.int .i64 ((0:Nat):Int))::y')=az [48] (ab b) y' y':=by simp[az,h48]
 rw[←UV];refine bA (α:=Nat) (fun n=>⟨az [48] (ab b) y' ((48,.int .i64 (n:Int))::y'),[.cells false 2 (pC PS),.cells false 3 (tC TS),msB PS.length TS.length,.map E],d⟩) (fun n=>TS.length-n) (fun n=>n≤TS.length) (.exit 3) _ d _ (by simp) ?_ (K+5) 0 (by omega) (by omega);intro n Xi;clear UV;subst hb;subst F';by_cases AC:n<TS.length
 ·left
  obtain⟨t,ht⟩:∃q,TS[n]? =some q:=⟨TS[n],List.getElem?_eq_getElem AC⟩
  obtain⟨k1,k2⟩:=U7 ht;obtain⟨p,q,r,e1,e2,e3,WC⟩:=hT t (List.mem_of_getElem? ht);obtain⟨i1,i2,i3⟩:=t;simp only at e1 e2 e3 k1;obtain⟨p1,-,-,p4⟩:=wS e1;obtain⟨q1,-,-,q4⟩:=wS e2;obtain⟨r1,-,-,r4⟩:=wS e3;have a1:=(List.getElem?_eq_some_iff.1 e1).1;have a2:=(List.getElem?_eq_some_iff.1 e2).1;have a3:=(List.getElem?_eq_some_iff.1 e3).1;have a1' :¬((i1:Int)<0):=by omega
  have a2' :¬((i2:Int)<0):=by omega
  have a3' :¬((i3:Int)<0):=by omega
  have a1'' :¬((PS.length:Int)≤i1):=by omega
  have a2'' :¬((PS.length:Int)≤i2):=by omega
  have a3'' :¬((PS.length:Int)≤i3):=by omega
  have g1:¬PS.length≤i1:=by omega
  have g2:¬PS.length≤i2:=by omega
  have g3:¬PS.length≤i3:=by omega
  have hp:=hP p (List.mem_of_getElem? e1);have hq:=hP q (List.mem_of_getElem? e2);have hr:=hP r (List.mem_of_getElem? e3);obtain⟨p5,p6⟩:=cV hp.1 (by omega) (by omega) (m:=2) (k:=1) (by omega) (by omega);obtain⟨p7,p8⟩:=cV hp.2 (by omega) (by omega) (m:=2) (k:=1) (by omega) (by omega);obtain⟨q5,q6⟩:=cV hq.1 (by omega) (by omega) (m:=2) (k:=1) (by omega) (by omega);obtain⟨q7,q8⟩:=cV hq.2 (by omega) (by omega) (m:=2) (k:=1) (by omega) (by omega);obtain⟨r5,r6⟩:=cV hr.1 (by omega) (by omega) (m:=2) (k:=1) (by omega) (by omega);obtain⟨r7,r8⟩:=cV hr.2 (by omega) (by omega) (m:=2) (k:=1) (by omega) (by omega);obtain⟨px,py⟩:=p;obtain⟨qx,qy⟩:=q;obtain⟨rx,ry⟩:=r;simp only at p1 q1 r1 p5 p6 p7 p8 q5 q6 q7 q8 r5 r6 r7 r8;obtain⟨S,hS⟩:∃S,S=nq (gr (px,py) (qx,qy) (rx,ry)):=⟨_,rfl⟩
  rw[←hS] at WC;have Xu:¬S≤0:=by omega
  have w1:IntKind.i64.wrap ((n:Int)+1)=((n+1:Nat):Int):=by rw[ai (by omega) (by omega)];omega
  obtain⟨m,hm⟩:∃m,m=n+1:=⟨_,rfl⟩
  rw[←hm] at w1;have v1:IntKind.i64.wrap 1=1:=rfl;have v2:IntKind.i64.wrap 2=2:=rfl;have v3:IntKind.i64.wrap 3=3:=rfl;have v2' :IntKind.i64.wrap (1+1)=2:=rfl;have v3' :IntKind.i64.wrap (2+1)=3:=rfl;refine⟨m,?_⟩;clear hP hT;simp[h1,h46,h47,AC,k1,k2,aR,gl,v1,v2,v3,kg,a1,a2,a3,a1',a2',a3',a1'',a2'',a3'',p1,q1,r1,p4,q4,r4,-ay,ag PP,aJ,aG,aH,Y9,
   gE,ar,fP,aM,p5,p6,p7,p8,q5,q6,q7,q8,r5,r6,r7,r8,←hS,Xu,hE,msB,be,bM,w1,Nat.testBit]
  omega
 ·right
  have WD :¬(n:Int)<TS.length:=by omega
  simp[h47,h1,AC]
theorem Tt:aC prog 243=some ⟨.func #[3] #[121] false,1,8,.nilFunc,true⟩:=by kernel_rfl
theorem Ts:aC prog 244=some ⟨.func #[3] #[4] false,1,8,.nilFunc,true⟩:=by kernel_rfl
attribute [simp] Tt Ts
def cZ(cyc:List Nat):List AV:=cyc.map fun(n:Nat)=>.int .i64 (n:Int)
theorem Wc{cyc:List Nat}{i c:Nat}(h:cyc[i]? =some c):(cZ cyc)[i]? =some (.int .i64 (c:Int)):=by simp[cZ,h]
def q9(PS:List P2) (cyc:List Nat) (i:Nat):P2:=PS.getD (cyc.getD (i%cyc.length) 0) (0,0)
theorem ra{PS:List P2}(hP:∀p∈PS,pDg 2 p)(cyc:List Nat)(i:Nat):pDg 2 (q9 PS cyc i):=by
 unfold q9;rw[List.getD_eq_getElem?_getD];cases h:PS[cyc.getD (i%cyc.length) 0]? with
 |none=>exact⟨⟨by decide,by decide⟩,⟨by decide,by decide⟩⟩
 |some p=>exact hP p (List.mem_of_getElem? h)
def upV(PS:List P2) (cyc:List Nat) (i:Nat):Bool:=
 decide (0<AT (q9 PS cyc (i+1)).2 (q9 PS cyc i).2)||(decide (AT (q9 PS cyc (i+1)).2 (q9 PS cyc i).2=0)&&decide (0<AT (q9 PS cyc (i+1)).1 (q9 PS cyc i).1))
def kP(PS:List P2) (cyc:List Nat):Nat→Nat
 |0=>0
 |n+1=>kP PS cyc n+if !upV PS cyc n&&upV PS cyc (n+1) then 1 else 0
def dx(PS:List P2) (k:Nat) (cyc:List Nat):Mem:=[.cells false 2 (pC PS),.qF,.cells false 1 (cZ cyc),.cells true 0 [.slice 0 0 PS.length none,.slice 1 0 k none],.cells true 0 [.slice 2 0 cyc.length none],.cells true 0 [.int .i64 cyc.length],.cells true 0 [.func 144 [.ptr 3 0,.ptr 4 0,.ptr 5 0]]]
theorem Lw(PS:List P2)(k:Nat)(cyc:List Nat)(hc:∀c∈cyc,c<PS.length)(h0:cyc≠[])(i:Nat):
  mB prog 144 [.int .i64 i,.ptr 3 0,.ptr 4 0,.ptr 5 0] (dx PS k cyc) (pA (q9 PS cyc i)) (dx PS k cyc):=by
 have hG:aO prog 144=some f144:=by kernel_rfl
 have hn:0<cyc.length:=by cases cyc with | nil=>exact absurd rfl h0 | cons a l=>simp
 have hj:i%cyc.length<cyc.length:=Nat.mod_lt _ hn;obtain⟨c,hcg⟩:∃c,cyc[i%cyc.length]? =some c:=⟨_,List.getElem?_eq_getElem hj⟩
 have Xh:=hc c (List.mem_of_getElem? hcg);obtain⟨p,hp⟩:∃p,PS[c]? =some p:=⟨_,List.getElem?_eq_getElem Xh⟩
 have hpt:q9 PS cyc i=p:=by unfold q9;rw[List.getD_eq_getElem?_getD,List.getD_eq_getElem?_getD,hcg];simp[hp]
 rw[hpt];obtain⟨k1,-,-,k4⟩:=wS hp;have k5:=Wc hcg;have ht:(i:Int).tmod (cyc.length:Int)=((i%cyc.length:Nat):Int):=vC i cyc.length;have hz:¬((cyc.length:Int)=0):=by omega
 have hz2:¬cyc.length=0:=by omega
 obtain⟨j,YI⟩:∃j,j=i%cyc.length:=⟨_,rfl⟩
 rw[←YI] at ht hj k5 hcg;obtain⟨ops,F'⟩:∃ops,aP f144=[ops]:=⟨_,rfl⟩
 have PP:=ie F' (l:=[0,1,0,0,0,24,60,124,255,511,1023]) (by kernel_rfl);have Y9:ba [0,1,0,0,0,24,60,124,255,511,1023] 10=true:=by decide
 simp[aP,bQ,f144] at F';subst F';obtain⟨px,py⟩:=p;simp only at k1;have h:ad (aC prog) (fun _=>[]) (aO prog) bt 1 144 [.int .i64 i,.ptr 3 0,.ptr 4 0,.ptr 5 0] (dx PS k cyc)=some ⟨pA (px,py),none,[]⟩:=by simp[ad,hG,f144,dx,-ay,ag PP,aJ,aG,aH,Y9,ht,hz2,hj,k5,k1,k4,Xh,pA]
 have:=(au af (aw _) (ah _) (ax _) h).1;simpa [HS.mem] using this
noncomputable def gF(PS:List P2) (k:Nat) (cyc:List Nat):aac:=fun c args M=>match c,args with
 |.fn 144,[.int .i64 i,.ptr 3 0,.ptr 4 0,.ptr 5 0]=>open Classical in if 0≤i∧M=dx PS k cyc then some ⟨pA (q9 PS cyc i.toNat),none,[]⟩ else none
 |c,args=>ar fP c args M
theorem Ax(PS:List P2)(k:Nat)(cyc:List Nat)(hc:∀c∈cyc,c<PS.length)(h0:cyc≠[]):qS prog (gF PS k cyc):=by
 refine cJ fun c args M r h=>?_
 unfold gF at h;split at h
 ·rename_i i
  split at h
  ·rename_i I'
   cases h;obtain⟨h1,rfl⟩:=I';refine ak ?_;rw[List.append_nil];have:=Lw PS k cyc hc h0 i.toNat
   rw[Int.toNat_of_nonneg h1] at this;exact this
  ·cases h
 ·exact iG tS h
theorem Lx(PS:List P2)(k:Nat)(cyc:List Nat)(hP:∀p∈PS,pDg 2 p)(hc:∀c∈cyc,c<PS.length)(h0:cyc≠[])(i:Nat)(hi:i≤1000000000):
  mB prog 145 [.int .i64 i,.ptr 6 0] (dx PS k cyc) (.bool (upV PS cyc i)) (dx PS k cyc):=by
 have hG:aO prog 145=some f145:=by kernel_rfl
 have hp:=ra hP cyc i;have hq:=ra hP cyc (i+1);unfold upV;obtain⟨p,hpe⟩:∃p,p=q9 PS cyc i:=⟨_,rfl⟩
 obtain⟨q,hqe⟩:∃q,q=q9 PS cyc (i+1):=⟨_,rfl⟩
 rw[←hpe] at hp ⊢;rw[←hqe] at hq ⊢;have w1:IntKind.i64.wrap ((i:Int)+1)=((i+1:Nat):Int):=by rw[ai (by omega) (by omega)];omega
 have s1:(0:Int)≤(i:Int)+1:=by omega
 have s2:((i:Int)+1).toNat=i+1:=by omega
 obtain⟨p1,p2⟩:=dw hp.1 (by omega) (by omega) (by omega) (by omega);obtain⟨p3,p4⟩:=dw hp.2 (by omega) (by omega) (by omega) (by omega);obtain⟨q1,q2⟩:=dw hq.1 (by omega) (by omega) (by omega) (by omega);obtain⟨q3,q4⟩:=dw hq.2 (by omega) (by omega) (by omega) (by omega);obtain⟨px,py⟩:=p;obtain⟨qx,qy⟩:=q;simp only at p1 p2 p3 p4 q1 q2 q3 q4 ⊢;obtain⟨o1,o2,F'⟩:∃o1 o2,aP f145=[o1,o2]:=⟨_,_,rfl⟩
 obtain⟨hb1,WE⟩:=kA F' (l:=[0,0,2,7,15,0,0,111,239,511,1023]) (l' :=[0,1,3,7,15,31,63,63,191,511,1023,63,63,7167,15359,32767,65535,131071,262143,524287]) (by kernel_rfl);have k1:ba [0,0,2,7,15,0,0,111,239,511,1023] 10=true:=by decide
 have k2:ba [0,1,3,7,15,31,63,63,191,511,1023,63,63,7167,15359,32767,65535,131071,262143,524287] 19=true:=by decide
 simp[aP,bQ,f145] at F';obtain⟨rfl,rfl⟩:=F';have key:∀b:Bool,(decide (0<AT qy py)||(decide (AT qy py=0)&&decide (0<AT qx px)))=b→ad (aC prog) (fun _=>[]) (aO prog) (gF PS k cyc) 1 145 [.int .i64 i,.ptr 6 0] (dx PS k cyc)=some ⟨.bool b,none,[]⟩:=by
  intro b hb;by_cases c1:0<AT qy py
  ·simp only[c1,decide_true,Bool.true_or] at hb
   subst hb;simp[ad,hG,f145,dx,gF,-ay,ag hb1,ag WE,aJ,aG,aH,k1,k2,w1,s1,s2,←hpe,←hqe,pA,ar,fP,bd,a8,aM,p3,p4,q3,q4,c1,Nat.testBit]
  ·by_cases c2:AT qy py=0
   ·by_cases c3:0<AT qx px
    ·simp[c2,c3] at hb
     subst hb;simp[ad,hG,f145,dx,gF,-ay,ag hb1,ag WE,aJ,aG,aH,k1,k2,w1,s1,s2,←hpe,←hqe,pA,ar,fP,bd,a8,aM,p1,p2,p3,p4,q1,q2,q3,q4,c2,c3,Nat.testBit]
    ·simp[c2,c3] at hb
     subst hb;simp[ad,hG,f145,dx,gF,-ay,ag hb1,ag WE,aJ,aG,aH,k1,k2,w1,s1,s2,←hpe,←hqe,pA,ar,fP,bd,a8,aM,p1,p2,p3,p4,q1,q2,q3,q4,c2,c3,Nat.testBit]
   ·simp[c1,c2] at hb
    subst hb;simp[ad,hG,f145,dx,gF,-ay,ag hb1,ag WE,aJ,aG,aH,k1,k2,w1,s1,s2,←hpe,←hqe,pA,ar,fP,bd,a8,aM,p3,p4,q3,q4,c1,c2,Nat.testBit]
 have:=(au af (aw _) (Ax PS k cyc hc h0) (ax _) (key _ rfl)).1;simpa [HS.mem] using this
noncomputable def fQ(PS:List P2) (k:Nat) (cyc:List Nat):aac:=fun c args M=>match c,args with
 |.fn 145,[.int .i64 i,.ptr 6 0]=>open Classical in if 0≤i∧i≤1000000000∧M=dx PS k cyc then some ⟨.bool (upV PS cyc i.toNat),none,[]⟩ else none
 |c,args=>gF PS k cyc c args M
theorem xt(PS:List P2)(k:Nat)(cyc:List Nat)(hP:∀p∈PS,pDg 2 p)(hc:∀c∈cyc,c<PS.length)(h0:cyc≠[]):qS prog (fQ PS k cyc):=by
 refine cJ fun c args M r h=>?_
 unfold fQ at h;split at h
 ·rename_i i
  split at h
  ·rename_i I'
   cases h;obtain⟨h1,h2,rfl⟩:=I';refine ak ?_;rw[List.append_nil];have:=Lx PS k cyc hP hc h0 i.toNat (by omega);rw[Int.toNat_of_nonneg h1] at this;exact this
  ·cases h
 ·exact iG (Ax PS k cyc hc h0) h
def RZ(PS:List P2) (cyc:List Nat):Prop:=
 cyc≠[]∧(∀c∈cyc,c<PS.length)∧(∀i,i<cyc.length→0≤nq (gr (q9 PS cyc i) (q9 PS cyc (i+1)) (q9 PS cyc (i+2))))∧kP PS cyc cyc.length=1
theorem DI(PS:List P2) (cyc:List Nat):∀n,kP PS cyc n≤n
 |0=>Nat.le_refl _
 |n+1=>by have:=DI PS cyc n;unfold kP;split<;>omega
section
variable (PS:List P2)(k:Nat)(cyc:List Nat)(hP:∀p∈PS,pDg 2 p)(ho:RZ PS cyc)(hl:cyc.length≤1000000)
include PS k cyc hP ho hl
theorem Cl(hK:cyc.length<K)(hb:aj f108=[b]):
  ∃F:Env→Bool→Env,∀y' d,(aa y' 6=.ptr 6 0∧aa y' 7=.func 145 [.ptr 6 0]∧aa y' 8=.int .i64 0∧aa y' 14=.int .i64 cyc.length∧aa y' 15=.int .i64 0)→
   aQ (aC prog) (fun _=>[8,15]) (fQ PS k cyc) K 46 3 true (.loop b) ⟨y',dx PS k cyc,d⟩=some (.exit 0,⟨F y' d,dx PS k cyc,d⟩)∧aa (F y' d) 8=.int .i64 1:=by
 refine bf rfl (fun y'=>aa y' 6=.ptr 6 0∧aa y' 7=.func 145 [.ptr 6 0]∧aa y' 8=.int .i64 0∧aa y' 14=.int .i64 cyc.length∧aa y' 15=.int .i64 0) (fun _ z' =>aa z' 8=.int .i64 1) ?_;rintro y' d ⟨h6,h7,h8,h14,h15⟩;obtain⟨-,-,ho3,ho4⟩:=ho;obtain⟨ops,F'⟩:∃ops,aP f108=[ops]:=⟨_,rfl⟩
 have PP:=ie F' (l:=[0,0,3,0,0,16,63,0,0,256,1023,2047,4095]) (by kernel_rfl);have Y9:ba [0,0,3,0,0,16,63,0,0,256,1023,2047,4095] 12=true:=by decide
 simp[aP,bQ,f108] at F';simp[aj,aD,f108] at hb;have UV:az [8,15] (ab b) y' ((8,.int .i64 ((kP PS cyc 0:Nat):Int))::(15,.int .i64 ((0:Nat):Int))::y')=az [8,15] (ab b) y' y':=by simp[az,h8,h15,kP]
 rw[←UV];refine bA (α:=Nat) (fun n=>⟨az [8,15] (ab b) y' ((8,.int .i64 ((kP PS cyc n:Nat):Int))::(15,.int .i64 (n:Int))::y'),dx PS k cyc,d⟩) (fun n=>cyc.length-n) (fun n=>n≤cyc.length) (.exit 0) _ d _ (by simp) ?_ K 0 (by omega) (by omega);intro n Xi;clear UV;subst hb;subst F';by_cases AC:n<cyc.length
 ·left
  have h3:=ho3 n AC;have hp:=ra hP cyc n;have hq:=ra hP cyc (n+1);have hr:=ra hP cyc (n+2);obtain⟨p,hpe⟩:∃p,p=q9 PS cyc n:=⟨_,rfl⟩
  obtain⟨q,hqe⟩:∃q,q=q9 PS cyc (n+1):=⟨_,rfl⟩
  obtain⟨r,hre⟩:∃r,r=q9 PS cyc (n+2):=⟨_,rfl⟩
  rw[←hpe,←hqe,←hre] at h3;rw[←hpe] at hp;rw[←hqe] at hq;rw[←hre] at hr;obtain⟨p5,p6⟩:=cV hp.1 (by omega) (by omega) (m:=2) (k:=1) (by omega) (by omega);obtain⟨p7,p8⟩:=cV hp.2 (by omega) (by omega) (m:=2) (k:=1) (by omega) (by omega);obtain⟨q5,q6⟩:=cV hq.1 (by omega) (by omega) (m:=2) (k:=1) (by omega) (by omega);obtain⟨q7,q8⟩:=cV hq.2 (by omega) (by omega) (m:=2) (k:=1) (by omega) (by omega);obtain⟨r5,r6⟩:=cV hr.1 (by omega) (by omega) (m:=2) (k:=1) (by omega) (by omega);obtain⟨r7,r8⟩:=cV hr.2 (by omega) (by omega) (m:=2) (k:=1) (by omega) (by omega);obtain⟨px,py⟩:=p;obtain⟨qx,qy⟩:=q;obtain⟨rx,ry⟩:=r;simp only at p5 p6 p7 p8 q5 q6 q7 q8 r5 r6 r7 r8;obtain⟨S,hS⟩:∃S,S=nq (gr (px,py) (qx,qy) (rx,ry)):=⟨_,rfl⟩
  rw[←hS] at h3;have Xu:¬S<0:=by omega
  obtain⟨m1,Yn⟩:∃m,m=n+1:=⟨_,rfl⟩
  obtain⟨m2,hm2⟩:∃m,m=n+2:=⟨_,rfl⟩
  have w1:IntKind.i64.wrap ((n:Int)+1)=(m1:Int):=by rw[ai (by omega) (by omega)];omega
  have w2:IntKind.i64.wrap ((n:Int)+2)=(m2:Int):=by rw[ai (by omega) (by omega)];omega
  have s5:(n:Int)≤1000000000:=by omega
  have s6:(m1:Int)≤1000000000:=by omega
  have s7:n≤1000000000:=by omega
  have s8:m1≤1000000000:=by omega
  have Xr:=DI PS cyc n;have hR:kP PS cyc (n+1)=kP PS cyc n+if !upV PS cyc n&&upV PS cyc (n+1) then 1 else 0:=rfl
  obtain⟨R,hRe⟩:∃R,R=kP PS cyc n:=⟨_,rfl⟩
  rw[←hRe] at hR Xr ⊢;have w3:IntKind.i64.wrap ((R:Int)+1)=((R+1:Nat):Int):=by rw[ai (by omega) (by omega)];omega
  obtain⟨U,hU⟩:∃U,U=upV PS cyc n:=⟨_,rfl⟩
  obtain⟨V,hV⟩:∃U,U=upV PS cyc (n+1):=⟨_,rfl⟩
  rw[←hU,←hV] at hR;rw[←Yn] at hR hV hqe;rw[←hm2] at hre;refine⟨m1,?_⟩;cases U<;>cases V;all_goals
   simp at hR;simp[dx,h6,h7,h14,AC,fQ,gF,-ay,ag PP,aJ,aG,aH,Y9,w1,w2,w3,s5,s6,←hpe,←hqe,←hre,←hU,←hV,pA,ar,fP,aM,p5,p6,p7,p8,q5,q6,q7,q8,r5,r6,r7,r8,←hS,Xu,hR,Nat.testBit];omega
 ·right
  have e:n=cyc.length:=by omega
  subst e;have WD :¬(cyc.length:Int)<cyc.length:=by omega
  simp[h14,ho4]
theorem Ls:
  mB prog 108 [.agg [.slice 0 0 PS.length none,.slice 1 0 k none],.slice 2 0 cyc.length none] [.cells false 2 (pC PS),.qF,.cells false 1 (cZ cyc)] (.bool true) [.cells false 2 (pC PS),.qF,.cells false 1 (cZ cyc)]:=by
 have hG:aO prog 108=some f108:=by kernel_rfl
 obtain⟨b,hb⟩:∃b,aj f108=[b]:=⟨_,rfl⟩
 obtain⟨F,hF⟩:=Cl (K:=cyc.length+1) PS k cyc hP ho hl (by omega) hb;simp[aj,aD,f108] at hb;subst hb;have H1:=fun y' d h=>(hF y' d h).1
 have P':=fun y' d h=>(hF y' d h).2
 clear hF;simp only[dx] at H1;refine aY (lv:=(fun _=>[8,15])) (K:=(cyc.length+1)) (xt PS k cyc hP ho.2.1 ho.1) ?_;simp[ad,hG,f108,H1,P']
end
end Go.Proofs
