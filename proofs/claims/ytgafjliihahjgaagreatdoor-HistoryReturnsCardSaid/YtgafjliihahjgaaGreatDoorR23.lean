/- See R54. -/
import Derived.Test.YtgafjliihahjgaaGreatDoorR19
set_option linter.all false
set_option maxRecDepth 100000
set_option maxHeartbeats 40000000
namespace Go.Proofs
open Go.Eng
open Tryz
theorem K8(a b c:P2)(ha:pDg 2 a)(hb:pDg 2 b)(hc:pDg 2 c)(M:Mem):kF prog 159 [pA a,pA b,pA c] M (.str (aw (cT a b c))) M:=by
 have hG:aT prog 159=some f159:=by kernel_rfl
 obtain⟨a1,a2⟩:=a;obtain⟨b1,b2⟩:=b;obtain⟨c1,c2⟩:=c;obtain⟨A1,A2⟩:=ha;obtain⟨B1,B2⟩:=hb;obtain⟨C1,C2⟩:=hc;simp only at A1 A2 B1 B2 C1 C2;have X1:=Ng B1 A1 (m:=3) (by omega) (by omega);have X2:=Ng C2 A2 (m:=3) (by omega) (by omega);have X3:=Ng B2 A2 (m:=3) (by omega) (by omega);have X4:=Ng C1 A1 (m:=3) (by omega) (by omega);have Y1:=JR X1 X2;have Y2:=JR X3 X4;obtain⟨p1,p2⟩:=dr A1 (by omega) (by omega) (by omega) (by omega);obtain⟨p3,p4⟩:=dr A2 (by omega) (by omega) (by omega) (by omega);obtain⟨q1,q2⟩:=dr B1 (by omega) (by omega) (by omega) (by omega);obtain⟨q3,q4⟩:=dr B2 (by omega) (by omega) (by omega) (by omega);obtain⟨r1,r2⟩:=dr C1 (by omega) (by omega) (by omega) (by omega);obtain⟨r3,r4⟩:=dr C2 (by omega) (by omega) (by omega) (by omega);obtain⟨s1,s2⟩:=dr X1 (by omega) (by omega) (by omega) (by omega);obtain⟨s3,s4⟩:=dr X2 (by omega) (by omega) (by omega) (by omega);obtain⟨s5,s6⟩:=dr X3 (by omega) (by omega) (by omega) (by omega);obtain⟨s7,s8⟩:=dr X4 (by omega) (by omega) (by omega) (by omega);obtain⟨t1,t2⟩:=dr Y1 (by omega) (by omega) (by omega) (by omega);obtain⟨t3,t4⟩:=dr Y2 (by omega) (by omega) (by omega) (by omega);clear Y1 Y2 X1 X2 X3 X4 A1 A2 B1 B2 C1 C2;unfold cT;simp only;obtain⟨x1,hx1⟩:∃p,p=b1-a1:=⟨_,rfl⟩
 obtain⟨x2,hx2⟩:∃p,p=c2-a2:=⟨_,rfl⟩
 obtain⟨x3,hx3⟩:∃p,p=b2-a2:=⟨_,rfl⟩
 obtain⟨x4,hx4⟩:∃p,p=c1-a1:=⟨_,rfl⟩
 rw[←hx1] at s1 s2 t1 t2;rw[←hx2] at s3 s4 t1 t2;rw[←hx3] at s5 s6 t3 t4;rw[←hx4] at s7 s8 t3 t4;rw[←hx1,←hx2,←hx3,←hx4];obtain⟨y1,hy1⟩:∃p,p=x1*x2:=⟨_,rfl⟩
 obtain⟨y2,hy2⟩:∃p,p=x3*x4:=⟨_,rfl⟩
 rw[←hy1] at t1 t2;rw[←hy2] at t3 t4;rw[←hy1,←hy2];refine az bP (lv:=fun _=>[]) (K:=1) rfl rfl ?_ M;obtain⟨o1,o2,FS⟩:∃o1 o2,aG f159=[o1,o2]:=⟨_,_,rfl⟩
 obtain⟨hb1,Yl⟩:=JU FS (l:=[0,1,0,4,15,0,32,0,128,511,1023,2047]) (l' :=[0,0,2,0,8,30,0,64,0,256,1022,2046,4095,8191]) (by kernel_rfl);have k1:aX [0,1,0,4,15,0,32,0,128,511,1023,2047] 11=true:=by decide
 have k2:aX [0,0,2,0,8,30,0,64,0,256,1022,2046,4095,8191] 13=true:=by decide
 simp[aG,bF,f159] at FS;obtain⟨rfl,rfl⟩:=FS;simp[ad,hG,f159,-aE,aj hb1,aj Yl,bn,bf,bm,k1,k2,pA,aB,ag,ao,aH,p1,p2,p3,p4,q1,q2,q3,q4,r1,r2,r3,r4,s1,s2,s3,s4,s5,s6,s7,s8,t1,t2,t3,t4,←hx1,←hx2,←hx3,←hx4,←hy1,←hy2,Nat.testBit]
noncomputable def Ae(f:FuncId) (args:List AV):Option AV:=
 match f,args with
 |159,[.agg [.str a,.str b],.agg [.str c,.str d],.agg [.str e,.str f]]=>match dJ a,dJ b,dJ c,dJ d,dJ e,dJ f with
  |some a,some b,some c,some d,some e,some f=>if (aQ a.num.natAbs).length≤2∧(aQ a.den).length≤1∧(aQ b.num.natAbs).length≤2∧(aQ b.den).length≤1∧(aQ c.num.natAbs).length≤2∧(aQ c.den).length≤1∧
    (aQ d.num.natAbs).length≤2∧(aQ d.den).length≤1∧(aQ e.num.natAbs).length≤2∧(aQ e.den).length≤1∧(aQ f.num.natAbs).length≤2∧(aQ f.den).length≤1 then some (.str (aw (cT (a,b) (c,d) (e,f)))) else none
  |_,_,_,_,_,_=>none
 |f,args=>ao f args
theorem LU:kP prog (ag Ae):=bK fun f args v h mem=>by
 unfold Ae at h;split at h
 ·split at h
  ·rename_i a b c d e f ha hb hc hd he hf
   split at h
   ·rename_i P'
    obtain⟨c1,c2,c3,c4,c5,c6,c7,c8,c9,c10,c11,c12⟩:=P';cases h;rw[aA ha,aA hb,aA hc,aA hd,aA he,aA hf];exact K8 (a,b) (c,d) (e,f) ⟨(cP ⟨c1,c2⟩).mono (by omega) (by omega),(cP ⟨c3,c4⟩).mono (by omega) (by omega)⟩
     ⟨(cP ⟨c5,c6⟩).mono (by omega) (by omega),(cP ⟨c7,c8⟩).mono (by omega) (by omega)⟩ ⟨(cP ⟨c9,c10⟩).mono (by omega) (by omega),(cP ⟨c11,c12⟩).mono (by omega) (by omega)⟩ mem
   ·cases h
  ·cases h
 ·have:=bP.fn _ _ mem ⟨v,none,[]⟩ (by unfold ag;simp only;rw[h])
  simpa [HS.mem] using this
theorem gb{n d m k:Nat}{q:Rat}(h:dg n d q)(h0:0<n)(h1:0<d)(hm:n≤m)(hk:d≤k):(aQ q.num.natAbs).length≤m∧(aQ q.den).length≤k:=by have:=h.lens h0 h1;exact⟨by omega,by omega⟩
theorem La(a b c:P2)(ha:pDg 2 a)(hb:pDg 2 b)(hc:pDg 2 c)(M:Mem):kF prog 106 [pA a,pA b,pA c] M (.int .i64 (mP (cT a b c))) M:=by
 have hG:aT prog 106=some f106:=by kernel_rfl
 obtain⟨a1,a2⟩:=a;obtain⟨b1,b2⟩:=b;obtain⟨c1,c2⟩:=c;obtain⟨p1,p2⟩:=gb ha.1 (by omega) (by omega) (Nat.le_refl _) (Nat.le_refl _);obtain⟨p3,p4⟩:=gb ha.2 (by omega) (by omega) (Nat.le_refl _) (Nat.le_refl _);obtain⟨q1,q2⟩:=gb hb.1 (by omega) (by omega) (Nat.le_refl _) (Nat.le_refl _);obtain⟨q3,q4⟩:=gb hb.2 (by omega) (by omega) (Nat.le_refl _) (Nat.le_refl _);obtain⟨r1,r2⟩:=gb hc.1 (by omega) (by omega) (Nat.le_refl _) (Nat.le_refl _);obtain⟨r3,r4⟩:=gb hc.2 (by omega) (by omega) (Nat.le_refl _) (Nat.le_refl _);refine az LU (lv:=fun _=>[]) (K:=1) rfl rfl ?_ M;simp only at p1 p2 p3 p4 q1 q2 q3 q4 r1 r2 r3 r4;obtain⟨y,hy⟩:∃y,y=cT (a1,a2) (b1,b2) (c1,c2):=⟨_,rfl⟩
 rw[←hy];simp[ad,hG,f106,pA,aB,ag,Ae,ao,aH,bM,be,p1,p2,p3,p4,q1,q2,q3,q4,r1,r2,r3,r4,←hy]
theorem kg(d:Nat)(x y:List UInt8):lz (aM prog) (d+1) 29 (.str x) (.str y)=some (x==y):=by rw[lz];simp
theorem Q1(p q:P2):lz (aM prog) 20 101 (pA p) (pA q)=some (decide (p.1=q.1)&&decide (p.2=q.2)):=by have i:=kg 18;rw[lz];simp[pA,Qf,jn,TyI.isAgg,i,Fs]
theorem CF(p:P2):∀(L:List P2) (i:Nat),p∉L→jj (aM prog) 101 (pA p) (L.map pmE) i=some none
 | [],i,_=>rfl
 |q::L,i,h=>by
  have e:=Q1 p q;have PP:(decide (p.1=q.1)&&decide (p.2=q.2))=false:=by rw[←Bool.not_eq_true];intro h2;simp only[Bool.and_eq_true,decide_eq_true_eq] at h2;exact h (by rw[show p=q from Prod.ext h2.1 h2.2];exact List.mem_cons_self ..)
  simp only[List.map_cons,jj,pmE,e,PP];exact CF p L (i+1) (fun h2=>h (List.mem_cons_of_mem _ h2))
theorem Rd(p:P2):lE (aM prog) 20 101 (pA p)=true:=by simp[pA,lE,Sl,jn,TyI.isAgg]
noncomputable def gv(f:FuncId) (args:List AV):Option AV:=
 match f,args with
 |106,[.agg [.str a,.str b],.agg [.str c,.str d],.agg [.str e,.str f]]=>match dJ a,dJ b,dJ c,dJ d,dJ e,dJ f with
  |some a,some b,some c,some d,some e,some f=>if (aQ a.num.natAbs).length≤2∧(aQ a.den).length≤1∧(aQ b.num.natAbs).length≤2∧(aQ b.den).length≤1∧(aQ c.num.natAbs).length≤2∧(aQ c.den).length≤1∧
    (aQ d.num.natAbs).length≤2∧(aQ d.den).length≤1∧(aQ e.num.natAbs).length≤2∧(aQ e.den).length≤1∧(aQ f.num.natAbs).length≤2∧(aQ f.den).length≤1 then some (.int .i64 (mP (cT (a,b) (c,d) (e,f)))) else none
  |_,_,_,_,_,_=>none
 |105,[.agg [.str a,.str b]]=>if a.length≤18∧b.length≤18 then some (.int .i64 (vw [a,b])) else none
 |f,args=>ao f args
theorem Ad:kP prog (ag gv):=bK fun f args v h mem=>by
 unfold gv at h;split at h
 ·split at h
  ·rename_i a b c d e f ha hb hc hd he hf
   split at h
   ·rename_i P'
    obtain⟨c1,c2,c3,c4,c5,c6,c7,c8,c9,c10,c11,c12⟩:=P';cases h;rw[aA ha,aA hb,aA hc,aA hd,aA he,aA hf];exact La (a,b) (c,d) (e,f) ⟨(cP ⟨c1,c2⟩).mono (by omega) (by omega),(cP ⟨c3,c4⟩).mono (by omega) (by omega)⟩
     ⟨(cP ⟨c5,c6⟩).mono (by omega) (by omega),(cP ⟨c7,c8⟩).mono (by omega) (by omega)⟩ ⟨(cP ⟨c9,c10⟩).mono (by omega) (by omega),(cP ⟨c11,c12⟩).mono (by omega) (by omega)⟩ mem
   ·cases h
  ·cases h
 ·split at h
  ·rename_i hc;cases h;exact mU _ _ hc.1 hc.2 mem
  ·cases h
 ·have:=bP.fn _ _ mem ⟨v,none,[]⟩ (by unfold ag;simp only;rw[h])
  simpa [HS.mem] using this
theorem WY{p:P2}(h:pDg 2 p):vw [aw p.1,aw p.2]=0:=by simp[vw,tG (h.1.mono (by decide) (by decide)),tG (h.2.mono (by decide) (by decide))]
noncomputable def nW(wb:Bool) (PS:List P2) (TS:List Tr):adM:=fun c args M=>match c,args with
 |.fn 107,[.agg [.slice b 0 n none,.slice c 0 k none]]=>open Classical in if n=PS.length∧k=TS.length∧(∃o,M[b]? =some (.cells o 2 (pC PS)))∧(∃o,M[c]? =some (.cells o 3 (tC TS))) then some ⟨.bool wb,none,[]⟩ else none
 |.fn 108,[.agg [.slice b 0 n none,.slice c 0 k none],.int .i64 i,.int .i64 j]=>open Classical in if wb=false∧n=PS.length∧k=TS.length∧(∃o,M[b]? =some (.cells o 2 (pC PS)))∧(∃o,M[c]? =some (.cells o 3 (tC TS)))∧0≤j∧j<i∧i<TS.length then some ⟨.bool false,none,[]⟩ else none
 |c,args=>ag gv c args M
def uC(c:Code):List Nat:=if (aa c).contains 32 then [32] else if (aa c).contains 48 then [48] else if (aa c).contains 53 then [53] else if (aa c).contains 92 then [92] else if (aa c).contains 96 then [96] else []
def msB(n k:Nat):aeD:=.cells true 0 [.slice 0 0 n none,.slice 1 0 k none]
variable{K:Nat}{b b3 b4 b5:Code}
theorem vZ(wb:Bool)(PS:List P2)(TS:List Tr)(hP:∀p∈PS,pDg 2 p)(hn:PS.Nodup)(hl:PS.length≤1000000000)(hK:PS.length<K){b2:Code}(hb:ai f59=[b,b2,b3,b4,b5]):
  ∃F:Env→Bool→Env,∀z' d,(ab z' 30=.slice 0 0 PS.length none∧ab z' 31=.int .i64 PS.length∧ab z' 32=.int .i64 0∧ab z' 3=.map 3∧ab z' 1=.ptr 2 0)→
   aN (aM prog) uC (nW wb PS TS) K 105 2 true (.loop b) ⟨z',[.cells false 2 (pC PS),.cells false 3 (tC TS),msB PS.length TS.length,.map []],d⟩=some (.exit 1,⟨F z' d,[.cells false 2 (pC PS),.cells false 3 (tC TS),msB PS.length TS.length,.map (PS.map pmE)],d⟩)∧ab (F z' d) 1=.ptr 2 0:=by
 refine cv (L:=[32]) (by simp[ai,aK,f59] at hb;rw[←hb.1];rfl) (fun z'=>ab z' 30=.slice 0 0 PS.length none∧ab z' 31=.int .i64 PS.length∧ab z' 32=.int .i64 0∧ab z' 3=.map 3∧ab z' 1=.ptr 2 0) (fun _ AC =>ab AC 1=.ptr 2 0) ?_;rintro z' d ⟨YB,h31,h32,h3,h1⟩;simp[ai,aK,f59] at hb;obtain⟨hb,-⟩:=hb;have YF:aD [32] (aa b) z' ((32,.int .i64 ((0:Nat):Int))::z')=aD [32] (aa b) z' z':=by simp[aD,h32]
 rw[←YF];refine cV (α:=Nat) (fun n=>⟨aD [32] (aa b) z' ((32,.int .i64 (n:Int))::z'),[.cells false 2 (pC PS),.cells false 3 (tC TS),msB PS.length TS.length,.map ((PS.take n).map pmE)],d⟩) (fun n=>PS.length-n) (fun n=>n≤PS.length) (.exit 1) _ d _ (by simp) ?_ K 0 (by omega) (by omega);intro n Za;clear YF;subst hb;by_cases A':n<PS.length
 ·left
  obtain⟨p,hp⟩:∃q,PS[n]? =some q:=⟨PS[n],List.getElem?_eq_getElem A'⟩
  obtain⟨k1,k2,k3,k4⟩:=MJ hp;have hpd:=hP p (List.mem_of_getElem? hp);have adt:p∉PS.take n:=by intro hm;obtain⟨j,hj,he⟩:=List.mem_iff_getElem.1 hm;rw[List.length_take] at hj;rw[List.getElem_take] at he;have h1:=List.getElem?_eq_some_iff.1 hp;obtain⟨h1,h2⟩:=h1;have:=(List.getElem_inj (h₀:=by omega) (h₁:=h1) hn).1 (he.trans h2.symm);omega
  have f1:=CF p (PS.take n) 0 adt;have f2:=Rd p;have e1:(PS.take (n+1)).map pmE=(PS.take n).map pmE++[pmE p]:=by rw[List.take_add_one,hp];simp
  have w1:IntKind.i64.wrap ((n:Int)+1)=((n+1:Nat):Int):=by rw[al (by omega) (by omega)];omega
  have c1:=WY hpd;have l1:=Sr hpd.1 (by omega) (by omega);have l2:=Sr hpd.2 (by omega) (by omega);obtain⟨m,hm⟩:∃m,m=n+1:=⟨_,rfl⟩
  rw[←hm] at w1 e1;have r1:=Fx 4 (PS.take n);obtain⟨E,hE⟩:∃E,E=(PS.take n).map pmE:=⟨_,rfl⟩
  rw[←hE] at f1 e1 r1;rw[←hE];refine⟨m,?_⟩;obtain⟨px,py⟩:=p;simp only[pA,pmE] at f1 f2 e1 k1 c1 l1 l2;simp[YB,h31,h3,A',nW,ag,gv,k1,k4,c1,l1,l2,w1,f1,f2,e1,r1,msB,dV,eO,kJ,ju,eZ];omega
 ·right
  have e:PS.take n=PS:=List.take_of_length_le (by omega);rw[e];have X5 :¬(n:Int)<PS.length:=by omega
  simp[h31,h1,A']
def XE(PS:List P2) (t:Tr):Prop:=∃p q r,PS[t.1]? =some p∧PS[t.2.1]? =some q∧PS[t.2.2]? =some r∧0<mP (cT p q r)
theorem we(wb:Bool)(PS:List P2)(TS:List Tr)(E:List (AV×AV))(hP:∀p∈PS,pDg 2 p)(hT:∀t∈TS,XE PS t)(hl:PS.length≤1000000000)(YU:TS.length≤1000000000)(hE:E.flatMap (fun e=>e.1.refs 4++e.2.refs 4)=[])(hK:TS.length<K+5){b1:Code}(hb:ai f59=[b1,b,b3,b4,b5]):
  ∃F:Env→Bool→Env,∀z' d,(ab z' 1=.ptr 2 0∧ab z' 46=.slice 1 0 TS.length none∧ab z' 47=.int .i64 TS.length∧ab z' 48=.int .i64 0)→
   aN (aM prog) uC (nW wb PS TS) (K+5) 105 2 true (.loop b) ⟨z',[.cells false 2 (pC PS),.cells false 3 (tC TS),msB PS.length TS.length,.map E],d⟩=some (.exit 3,⟨F z' d,[.cells false 2 (pC PS),.cells false 3 (tC TS),msB PS.length TS.length,.map E],d⟩)∧ab (F z' d) 1=.ptr 2 0:=by
 refine cv (L:=[48]) (by simp[ai,aK,f59] at hb;rw[←hb.2.1];rfl) (fun z'=>ab z' 1=.ptr 2 0∧ab z' 46=.slice 1 0 TS.length none∧ab z' 47=.int .i64 TS.length∧ab z' 48=.int .i64 0) (fun _ AC =>ab AC 1=.ptr 2 0) ?_;rintro z' d ⟨h1,h46,h47,h48⟩;obtain⟨ops,FS⟩:∃ops,aG f59=[ops]:=⟨_,rfl⟩
 have IR:=dw FS (l:=[0,1,0,4,15,31,0,64,0,256,960,1984,0,4096,0,16384,61440,126976,262143,524287]) (by kernel_rfl);have hab:aX [0,1,0,4,15,31,0,64,0,256,960,1984,0,4096,0,16384,61440,126976,262143,524287] 19=true:=by decide
 simp[aG,bF,f59] at FS;simp[ai,aK,f59] at hb;obtain⟨-,hb,-⟩:=hb;have YF:aD [48] (aa b) z' ((48,.int .i64 ((0:Nat):Int))::z')=aD [48] (aa b) z' z':=by simp[aD,h48]
 rw[←YF];refine cV (α:=Nat) (fun n=>⟨aD [48] (aa b) z' ((48,.int .i64 (n:Int))::z'),[.cells false 2 (pC PS),.cells false 3 (tC TS),msB PS.length TS.length,.map E],d⟩) (fun n=>TS.length-n) (fun n=>n≤TS.length) (.exit 3) _ d _ (by simp) ?_ (K+5) 0 (by omega) (by omega);intro n Za;clear YF;subst hb;subst FS;by_cases A':n<TS.length
 ·left
  obtain⟨t,ht⟩:∃q,TS[n]? =some q:=⟨TS[n],List.getElem?_eq_getElem A'⟩
  obtain⟨k1,k2⟩:=U8 ht;obtain⟨p,q,r,e1,e2,e3,XQ⟩:=hT t (List.mem_of_getElem? ht);obtain⟨i1,i2,i3⟩:=t;simp only at e1 e2 e3 k1;obtain⟨p1,-,-,p4⟩:=MJ e1;obtain⟨q1,-,-,q4⟩:=MJ e2;obtain⟨r1,-,-,r4⟩:=MJ e3;have a1:=(gL e1);have a2:=(gL e2);have a3:=(gL e3);have a1' :¬((i1:Int)<0):=by omega
  have a2' :¬((i2:Int)<0):=by omega
  have a3' :¬((i3:Int)<0):=by omega
  have adu :¬((PS.length:Int)≤i1):=by omega
  have adv :¬((PS.length:Int)≤i2):=by omega
  have adw :¬((PS.length:Int)≤i3):=by omega
  have g1:¬PS.length≤i1:=by omega
  have g2:¬PS.length≤i2:=by omega
  have g3:¬PS.length≤i3:=by omega
  have hp:=hP p (List.mem_of_getElem? e1);have hq:=hP q (List.mem_of_getElem? e2);have hr:=hP r (List.mem_of_getElem? e3);obtain⟨p5,p6⟩:=gb hp.1 (by omega) (by omega) (m:=2) (k:=1) (by omega) (by omega);obtain⟨p7,p8⟩:=gb hp.2 (by omega) (by omega) (m:=2) (k:=1) (by omega) (by omega);obtain⟨q5,q6⟩:=gb hq.1 (by omega) (by omega) (m:=2) (k:=1) (by omega) (by omega);obtain⟨q7,q8⟩:=gb hq.2 (by omega) (by omega) (m:=2) (k:=1) (by omega) (by omega);obtain⟨r5,r6⟩:=gb hr.1 (by omega) (by omega) (m:=2) (k:=1) (by omega) (by omega);obtain⟨r7,r8⟩:=gb hr.2 (by omega) (by omega) (m:=2) (k:=1) (by omega) (by omega);obtain⟨px,py⟩:=p;obtain⟨qx,qy⟩:=q;obtain⟨rx,ry⟩:=r;simp only at p1 q1 r1 p5 p6 p7 p8 q5 q6 q7 q8 r5 r6 r7 r8;obtain⟨S,hS⟩:∃S,S=mP (cT (px,py) (qx,qy) (rx,ry)):=⟨_,rfl⟩
  rw[←hS] at XQ;have aav:¬S≤0:=by omega
  have w1:IntKind.i64.wrap ((n:Int)+1)=((n+1:Nat):Int):=by rw[al (by omega) (by omega)];omega
  obtain⟨m,hm⟩:∃m,m=n+1:=⟨_,rfl⟩
  rw[←hm] at w1;have v1:IntKind.i64.wrap 1=1:=rfl;have v2:IntKind.i64.wrap 2=2:=rfl;have v3:IntKind.i64.wrap 3=3:=rfl;have v2' :IntKind.i64.wrap (1+1)=2:=rfl;have v3' :IntKind.i64.wrap (2+1)=3:=rfl;refine⟨m,?_⟩;clear hP hT;simp[h1,h46,h47,A',k1,k2,aI,ej,v1,v2,v3,uC,a1,a2,a3,a1',a2',a3',adu,adv,adw,p1,q1,r1,p4,q4,r4,-aE,aj IR,bn,bf,bm,hab,
   nW,ag,gv,aB,p5,p6,p7,p8,q5,q6,q7,q8,r5,r6,r7,r8,←hS,aav,hE,msB,dV,eO,w1,Nat.testBit]
  omega
 ·right
  have X5 :¬(n:Int)<TS.length:=by omega
  simp[h47,h1,A']
theorem Ug:aM prog 303=some ⟨.func #[3] #[101] false,1,8,.nilFunc,true⟩:=by kernel_rfl
theorem Uf:aM prog 304=some ⟨.func #[3] #[4] false,1,8,.nilFunc,true⟩:=by kernel_rfl
attribute [simp] Ug Uf
def cZ(cyc:List Nat):List AV:=cyc.map fun(n:Nat)=>.int .i64 (n:Int)
theorem Xt{cyc:List Nat}{i c:Nat}(h:cyc[i]? =some c):(cZ cyc)[i]? =some (.int .i64 (c:Int)):=by simp[cZ,h]
def Bm(PS:List P2) (cyc:List Nat) (i:Nat):P2:=PS.getD (cyc.getD (i%cyc.length) 0) (0,0)
theorem Bn{PS:List P2}(hP:∀p∈PS,pDg 2 p)(cyc:List Nat)(i:Nat):pDg 2 (Bm PS cyc i):=by
 unfold Bm;rw[List.getD_eq_getElem?_getD];cases h:PS[cyc.getD (i%cyc.length) 0]? with
 |none=>exact⟨⟨by decide,by decide⟩,⟨by decide,by decide⟩⟩
 |some p=>exact hP p (List.mem_of_getElem? h)
def upV(PS:List P2) (cyc:List Nat) (i:Nat):Bool:=
 decide (0<mo (Bm PS cyc (i+1)).2 (Bm PS cyc i).2)||(decide (mo (Bm PS cyc (i+1)).2 (Bm PS cyc i).2=0)&&decide (0<mo (Bm PS cyc (i+1)).1 (Bm PS cyc i).1))
def kY(PS:List P2) (cyc:List Nat):Nat→Nat
 |0=>0
 |n+1=>kY PS cyc n+if !upV PS cyc n&&upV PS cyc (n+1) then 1 else 0
def eW(PS:List P2) (k:Nat) (cyc:List Nat):Mem:=[.cells false 2 (pC PS),.kO,.cells false 1 (cZ cyc),.cells true 0 [.slice 0 0 PS.length none,.slice 1 0 k none],.cells true 0 [.slice 2 0 cyc.length none],.cells true 0 [.int .i64 cyc.length],.cells true 0 [.func 238 [.ptr 3 0,.ptr 4 0,.ptr 5 0]]]
theorem Le(PS:List P2)(k:Nat)(cyc:List Nat)(hc:∀c∈cyc,c<PS.length)(h0:cyc≠[])(i:Nat):
  kF prog 238 [.int .i64 i,.ptr 3 0,.ptr 4 0,.ptr 5 0] (eW PS k cyc) (pA (Bm PS cyc i)) (eW PS k cyc):=by
 have hG:aT prog 238=some f238:=by kernel_rfl
 have hn:0<cyc.length:=by cases cyc with | nil=>exact absurd rfl h0 | cons a l=>simp
 have hj:i%cyc.length<cyc.length:=Nat.mod_lt _ hn;obtain⟨c,hcg⟩:∃c,cyc[i%cyc.length]? =some c:=⟨_,List.getElem?_eq_getElem hj⟩
 have Y3:=hc c (List.mem_of_getElem? hcg);obtain⟨p,hp⟩:∃p,PS[c]? =some p:=⟨_,List.getElem?_eq_getElem Y3⟩
 have hpt:Bm PS cyc i=p:=by unfold Bm;rw[List.getD_eq_getElem?_getD,List.getD_eq_getElem?_getD,hcg];simp[hp]
 rw[hpt];obtain⟨k1,-,-,k4⟩:=MJ hp;have k5:=Xt hcg;have ht:(i:Int).tmod (cyc.length:Int)=((i%cyc.length:Nat):Int):=zc i cyc.length;have hz:¬((cyc.length:Int)=0):=by omega
 have hz2:¬cyc.length=0:=by omega
 obtain⟨j,ZU⟩:∃j,j=i%cyc.length:=⟨_,rfl⟩
 rw[←ZU] at ht hj k5 hcg;obtain⟨ops,FS⟩:∃ops,aG f238=[ops]:=⟨_,rfl⟩
 have IR:=dw FS (l:=[0,1,0,0,0,24,60,124,255,511,1023]) (by kernel_rfl);have hab:aX [0,1,0,0,0,24,60,124,255,511,1023] 10=true:=by decide
 simp[aG,bF,f238] at FS;subst FS;obtain⟨px,py⟩:=p;simp only at k1;have h:ad (aM prog) (fun _=>[]) (aT prog) bq 1 238 [.int .i64 i,.ptr 3 0,.ptr 4 0,.ptr 5 0] (eW PS k cyc)=some ⟨pA (px,py),none,[]⟩:=by simp[ad,hG,f238,eW,-aE,aj IR,bn,bf,bm,hab,ht,hz2,hj,k5,k1,k4,Y3,pA]
 have:=(ak ae (aq _) (ah _) (au _) h).1;simpa [HS.mem] using this
noncomputable def jU(PS:List P2) (k:Nat) (cyc:List Nat):adM:=fun c args M=>match c,args with
 |.fn 238,[.int .i64 i,.ptr 3 0,.ptr 4 0,.ptr 5 0]=>open Classical in if 0≤i∧M=eW PS k cyc then some ⟨pA (Bm PS cyc i.toNat),none,[]⟩ else none
 |c,args=>ag gv c args M
theorem Aj(PS:List P2)(k:Nat)(cyc:List Nat)(hc:∀c∈cyc,c<PS.length)(h0:cyc≠[]):kP prog (jU PS k cyc):=by
 refine dq fun c args M r h=>?_
 unfold jU at h;split at h
 ·rename_i i
  split at h
  ·rename_i P'
   cases h;obtain⟨h1,rfl⟩:=P';refine af ?_;rw[List.append_nil];have:=Le PS k cyc hc h0 i.toNat
   rw[Int.toNat_of_nonneg h1] at this;exact this
  ·cases h
 ·exact jr Ad h
theorem Lf(PS:List P2)(k:Nat)(cyc:List Nat)(hP:∀p∈PS,pDg 2 p)(hc:∀c∈cyc,c<PS.length)(h0:cyc≠[])(i:Nat)(hi:i≤1000000000):
  kF prog 239 [.int .i64 i,.ptr 6 0] (eW PS k cyc) (.bool (upV PS cyc i)) (eW PS k cyc):=by
 have hG:aT prog 239=some f239:=by kernel_rfl
 have hp:=Bn hP cyc i;have hq:=Bn hP cyc (i+1);unfold upV;obtain⟨p,hpe⟩:∃p,p=Bm PS cyc i:=⟨_,rfl⟩
 obtain⟨q,hqe⟩:∃q,q=Bm PS cyc (i+1):=⟨_,rfl⟩
 rw[←hpe] at hp ⊢;rw[←hqe] at hq ⊢;have w1:IntKind.i64.wrap ((i:Int)+1)=((i+1:Nat):Int):=by rw[al (by omega) (by omega)];omega
 have s1:(0:Int)≤(i:Int)+1:=by omega
 have s2:((i:Int)+1).toNat=i+1:=by omega
 obtain⟨p1,p2⟩:=dr hp.1 (by omega) (by omega) (by omega) (by omega);obtain⟨p3,p4⟩:=dr hp.2 (by omega) (by omega) (by omega) (by omega);obtain⟨q1,q2⟩:=dr hq.1 (by omega) (by omega) (by omega) (by omega);obtain⟨q3,q4⟩:=dr hq.2 (by omega) (by omega) (by omega) (by omega);obtain⟨px,py⟩:=p;obtain⟨qx,qy⟩:=q;simp only at p1 p2 p3 p4 q1 q2 q3 q4 ⊢;obtain⟨o1,o2,FS⟩:∃o1 o2,aG f239=[o1,o2]:=⟨_,_,rfl⟩
 obtain⟨hb1,Yl⟩:=JU FS (l:=[0,0,2,7,15,0,0,111,239,511,1023]) (l' :=[0,1,3,7,15,31,63,63,191,511,1023,63,63,7167,15359,32767,65535,131071,262143,524287]) (by kernel_rfl);have k1:aX [0,0,2,7,15,0,0,111,239,511,1023] 10=true:=by decide
 have k2:aX [0,1,3,7,15,31,63,63,191,511,1023,63,63,7167,15359,32767,65535,131071,262143,524287] 19=true:=by decide
 simp[aG,bF,f239] at FS;obtain⟨rfl,rfl⟩:=FS;have key:∀b:Bool,(decide (0<mo qy py)||(decide (mo qy py=0)&&decide (0<mo qx px)))=b→ad (aM prog) (fun _=>[]) (aT prog) (jU PS k cyc) 1 239 [.int .i64 i,.ptr 6 0] (eW PS k cyc)=some ⟨.bool b,none,[]⟩:=by
  intro b hb;by_cases c1:0<mo qy py
  ·simp only[c1,decide_true,Bool.true_or] at hb
   subst hb;simp[ad,hG,f239,eW,jU,-aE,aj hb1,aj Yl,bn,bf,bm,k1,k2,w1,s1,s2,←hpe,←hqe,pA,ag,gv,ao,aH,aB,p3,p4,q3,q4,c1,Nat.testBit]
  ·by_cases c2:mo qy py=0
   ·by_cases c3:0<mo qx px
    ·simp[c2,c3] at hb
     subst hb;simp[ad,hG,f239,eW,jU,-aE,aj hb1,aj Yl,bn,bf,bm,k1,k2,w1,s1,s2,←hpe,←hqe,pA,ag,gv,ao,aH,aB,p1,p2,p3,p4,q1,q2,q3,q4,c2,c3,Nat.testBit]
    ·simp[c2,c3] at hb
     subst hb;simp[ad,hG,f239,eW,jU,-aE,aj hb1,aj Yl,bn,bf,bm,k1,k2,w1,s1,s2,←hpe,←hqe,pA,ag,gv,ao,aH,aB,p1,p2,p3,p4,q1,q2,q3,q4,c2,c3,Nat.testBit]
   ·simp[c1,c2] at hb
    subst hb;simp[ad,hG,f239,eW,jU,-aE,aj hb1,aj Yl,bn,bf,bm,k1,k2,w1,s1,s2,←hpe,←hqe,pA,ag,gv,ao,aH,aB,p3,p4,q3,q4,c1,c2,Nat.testBit]
 have:=(ak ae (aq _) (Aj PS k cyc hc h0) (au _) (key _ rfl)).1;simpa [HS.mem] using this
noncomputable def uD(PS:List P2) (k:Nat) (cyc:List Nat):adM:=fun c args M=>match c,args with
 |.fn 239,[.int .i64 i,.ptr 6 0]=>open Classical in if 0≤i∧i≤1000000000∧M=eW PS k cyc then some ⟨.bool (upV PS cyc i.toNat),none,[]⟩ else none
 |c,args=>jU PS k cyc c args M
theorem I9(PS:List P2)(k:Nat)(cyc:List Nat)(hP:∀p∈PS,pDg 2 p)(hc:∀c∈cyc,c<PS.length)(h0:cyc≠[]):kP prog (uD PS k cyc):=by
 refine dq fun c args M r h=>?_
 unfold uD at h;split at h
 ·rename_i i
  split at h
  ·rename_i P'
   cases h;obtain⟨h1,h2,rfl⟩:=P';refine af ?_;rw[List.append_nil];have:=Lf PS k cyc hP hc h0 i.toNat (by omega);rw[Int.toNat_of_nonneg h1] at this;exact this
  ·cases h
 ·exact jr (Aj PS k cyc hc h0) h
def SK(PS:List P2) (cyc:List Nat):Prop:=
 cyc≠[]∧(∀c∈cyc,c<PS.length)∧(∀i,i<cyc.length→0≤mP (cT (Bm PS cyc i) (Bm PS cyc (i+1)) (Bm PS cyc (i+2))))∧kY PS cyc cyc.length=1
theorem DB(PS:List P2) (cyc:List Nat):∀n,kY PS cyc n≤n
 |0=>Nat.le_refl _
 |n+1=>by have:=DB PS cyc n;unfold kY;split<;>omega
section
variable (PS:List P2)(k:Nat)(cyc:List Nat)(hP:∀p∈PS,pDg 2 p)(ho:SK PS cyc)(hl:cyc.length≤1000000)
include PS k cyc hP ho hl
theorem Cg(hK:cyc.length<K)(hb:ai f162=[b]):
  ∃F:Env→Bool→Env,∀z' d,(ab z' 6=.ptr 6 0∧ab z' 7=.func 239 [.ptr 6 0]∧ab z' 8=.int .i64 0∧ab z' 14=.int .i64 cyc.length∧ab z' 15=.int .i64 0)→
   aN (aM prog) (fun _=>[8,15]) (uD PS k cyc) K 46 3 true (.loop b) ⟨z',eW PS k cyc,d⟩=some (.exit 0,⟨F z' d,eW PS k cyc,d⟩)∧ab (F z' d) 8=.int .i64 1:=by
 refine cv rfl (fun z'=>ab z' 6=.ptr 6 0∧ab z' 7=.func 239 [.ptr 6 0]∧ab z' 8=.int .i64 0∧ab z' 14=.int .i64 cyc.length∧ab z' 15=.int .i64 0) (fun _ AC =>ab AC 8=.int .i64 1) ?_;rintro z' d ⟨h6,h7,h8,h14,h15⟩;obtain⟨-,-,ho3,ho4⟩:=ho;obtain⟨ops,FS⟩:∃ops,aG f162=[ops]:=⟨_,rfl⟩
 have IR:=dw FS (l:=[0,0,3,0,0,16,63,0,0,256,1023,2047,4095]) (by kernel_rfl);have hab:aX [0,0,3,0,0,16,63,0,0,256,1023,2047,4095] 12=true:=by decide
 simp[aG,bF,f162] at FS;simp[ai,aK,f162] at hb;have YF:aD [8,15] (aa b) z' ((8,.int .i64 ((kY PS cyc 0:Nat):Int))::(15,.int .i64 ((0:Nat):Int))::z')=aD [8,15] (aa b) z' z':=by simp[aD,h8,h15,kY]
 rw[←YF];refine cV (α:=Nat) (fun n=>⟨aD [8,15] (aa b) z' ((8,.int .i64 ((kY PS cyc n:Nat):Int))::(15,.int .i64 (n:Int))::z'),eW PS k cyc,d⟩) (fun n=>cyc.length-n) (fun n=>n≤cyc.length) (.exit 0) _ d _ (by simp) ?_ K 0 (by omega) (by omega);intro n Za;clear YF;subst hb;subst FS;by_cases A':n<cyc.length
 ·left
  have h3:=ho3 n A';have hp:=Bn hP cyc n;have hq:=Bn hP cyc (n+1);have hr:=Bn hP cyc (n+2);obtain⟨p,hpe⟩:∃p,p=Bm PS cyc n:=⟨_,rfl⟩
  obtain⟨q,hqe⟩:∃q,q=Bm PS cyc (n+1):=⟨_,rfl⟩
  obtain⟨r,hre⟩:∃r,r=Bm PS cyc (n+2):=⟨_,rfl⟩
  rw[←hpe,←hqe,←hre] at h3;rw[←hpe] at hp;rw[←hqe] at hq;rw[←hre] at hr;obtain⟨p5,p6⟩:=gb hp.1 (by omega) (by omega) (m:=2) (k:=1) (by omega) (by omega);obtain⟨p7,p8⟩:=gb hp.2 (by omega) (by omega) (m:=2) (k:=1) (by omega) (by omega);obtain⟨q5,q6⟩:=gb hq.1 (by omega) (by omega) (m:=2) (k:=1) (by omega) (by omega);obtain⟨q7,q8⟩:=gb hq.2 (by omega) (by omega) (m:=2) (k:=1) (by omega) (by omega);obtain⟨r5,r6⟩:=gb hr.1 (by omega) (by omega) (m:=2) (k:=1) (by omega) (by omega);obtain⟨r7,r8⟩:=gb hr.2 (by omega) (by omega) (m:=2) (k:=1) (by omega) (by omega);obtain⟨px,py⟩:=p;obtain⟨qx,qy⟩:=q;obtain⟨rx,ry⟩:=r;simp only at p5 p6 p7 p8 q5 q6 q7 q8 r5 r6 r7 r8;obtain⟨S,hS⟩:∃S,S=mP (cT (px,py) (qx,qy) (rx,ry)):=⟨_,rfl⟩
  rw[←hS] at h3;have aav:¬S<0:=by omega
  obtain⟨m1,YY⟩:∃m,m=n+1:=⟨_,rfl⟩
  obtain⟨m2,hm2⟩:∃m,m=n+2:=⟨_,rfl⟩
  have w1:IntKind.i64.wrap ((n:Int)+1)=(m1:Int):=by rw[al (by omega) (by omega)];omega
  have w2:IntKind.i64.wrap ((n:Int)+2)=(m2:Int):=by rw[al (by omega) (by omega)];omega
  have s5:(n:Int)≤1000000000:=by omega
  have s6:(m1:Int)≤1000000000:=by omega
  have s7:n≤1000000000:=by omega
  have s8:m1≤1000000000:=by omega
  have X7:=DB PS cyc n;have hR:kY PS cyc (n+1)=kY PS cyc n+if !upV PS cyc n&&upV PS cyc (n+1) then 1 else 0:=rfl
  obtain⟨R,hRe⟩:∃R,R=kY PS cyc n:=⟨_,rfl⟩
  rw[←hRe] at hR X7 ⊢;have w3:IntKind.i64.wrap ((R:Int)+1)=((R+1:Nat):Int):=by rw[al (by omega) (by omega)];omega
  obtain⟨U,hU⟩:∃U,U=upV PS cyc n:=⟨_,rfl⟩
  obtain⟨V,hV⟩:∃U,U=upV PS cyc (n+1):=⟨_,rfl⟩
  rw[←hU,←hV] at hR;rw[←YY] at hR hV hqe;rw[←hm2] at hre;refine⟨m1,?_⟩;cases U<;>cases V;all_goals
   simp at hR;simp[eW,h6,h7,h14,A',uD,jU,-aE,aj IR,bn,bf,bm,hab,w1,w2,w3,s5,s6,←hpe,←hqe,←hre,←hU,←hV,pA,ag,gv,aB,p5,p6,p7,p8,q5,q6,q7,q8,r5,r6,r7,r8,←hS,aav,hR,Nat.testBit];omega
 ·right
  have e:n=cyc.length:=by omega
  subst e;have X5 :¬(cyc.length:Int)<cyc.length:=by omega
  simp[h14,ho4]
theorem K9:
  kF prog 162 [.agg [.slice 0 0 PS.length none,.slice 1 0 k none],.slice 2 0 cyc.length none] [.cells false 2 (pC PS),.kO,.cells false 1 (cZ cyc)] (.bool true) [.cells false 2 (pC PS),.kO,.cells false 1 (cZ cyc)]:=by
 have hG:aT prog 162=some f162:=by kernel_rfl
 obtain⟨b,hb⟩:∃b,ai f162=[b]:=⟨_,rfl⟩
 obtain⟨F,hF⟩:=Cg (K:=cyc.length+1) PS k cyc hP ho hl (by omega) hb;simp[ai,aK,f162] at hb;subst hb;have I':=fun z' d h=>(hF z' d h).1
 have T':=fun z' d h=>(hF z' d h).2
 clear hF;simp only[eW] at I';refine bB (lv:=(fun _=>[8,15])) (K:=(cyc.length+1)) (I9 PS k cyc hP ho.2.1 ho.1) ?_;simp[ad,hG,f162,I',T']
end
end Go.Proofs
