/- See K51. -/
import Derived.Test.YtffdedmakncfmaaGreatDoorK23
set_option linter.all false
namespace Go.Proofs
open Go.Eng
def Bd(j:Nat):AV:=if j=0 then .slice 4 0 0 none else .slice 5 0 j none
def zf(h:Hts) (n k j:Nat):Mem:=if j=0 then [.absent,.absent,.cells true 0 [.slice 0 0 n none,.slice 1 0 k none],.cells true 0 h.cells,.cells true 1 []] else [.absent,.absent,.cells true 0 [.slice 0 0 n none,.slice 1 0 k none],.cells true 0 h.cells,.absent,.cells true 1 (qC (qH (h.l j)))]
theorem Oj(L:List Int):(qC (qH L)).length=L.length:=by rw[Hj];simp[qH]
set_option maxRecDepth 8192 in
set_option maxHeartbeats 6400000 in
theorem Cf{K:Nat}(h:Hts) (hh:h.Ok) (n k:Nat) (hn0:0<n) (hl:n≤1000) (hK:n<K) {b:Code}(hb:aj Tryz.f67=[b]):
  ∃F:Env→Bool→Env,∀env0 df,(ab env0 2=.ptr 2 0∧ab env0 3=.ptr 3 0∧ab env0 6=.int .i64 h.d∧ab env0 5=.slice 4 0 0 none∧ab env0 7=.int .i64 0)→
   aU (aO Tryz.prog) (fun _=>[5,7]) (ai cQ) K 31 2 true (.loop b) ⟨env0,zf h n k 0,df⟩=some (.exit 0,⟨F env0 df,zf h n k n,df⟩)∧ab (F env0 df) 5=.slice 5 0 n none:=by
 refine bp (L:=[5,7]) rfl (fun env0=>ab env0 2=.ptr 2 0∧ab env0 3=.ptr 3 0∧ab env0 6=.int .i64 h.d∧ab env0 5=.slice 4 0 0 none∧ab env0 7=.int .i64 0) (fun _ env' =>ab env' 5=.slice 5 0 n none) ?_
 rintro env0 df ⟨h2,h3,h6,h5,h7⟩
 simp[aj,aM,Tryz.f67] at hb
 have hnE:az [5,7] (ad b) env0 ((5,Bd 0)::(7,.int .i64 ((0:Nat):Int))::env0)=az [5,7] (ad b) env0 env0:=by simp[az,h5,h7,Bd]
 rw[←hnE]
 have l0:=Hts.cells_len hh
 have r0:=cD h.closed
 have o0:=eU h.closed
 have e0:=fun f=>aJ (ρ:=f) h.closed
 refine bK (α:=Nat) (fun i=>⟨az [5,7] (ad b) env0 ((5,Bd i)::(7,.int .i64 (i:Int))::env0),zf h n k i,df⟩) (fun i=>n-i) (fun i=>i≤n) (.exit 0) _ df _ (by simp) ?_ K 0 (by omega) (by omega)
 intro i hi
 clear hnE
 subst hb
 by_cases hlt:i<n
 ·left
  have hr6:i%6<6:=Nat.mod_lt _ (by decide)
  have q1:=Hts.cells_v hh hr6
  have q2:=Hts.v_ok hh hr6
  have q3:=h.z_mk i
  have hs:=h.l_succ i
  have t6:((i:Int)).tmod 6=((i%6:Nat):Int):=rfl
  obtain⟨r,hr⟩:∃r,r=i%6:=⟨_,rfl⟩
  rw[←hr] at hr6 q1 q2 q3 t6
  obtain⟨X,hX⟩:∃X,X=h.v.getD r 0:=⟨_,rfl⟩
  rw[←hX] at q1 q2 q3
  have q4:=xp X 20 (by decide)
  simp only[Int.cast_ofNat_Int] at q4
  obtain⟨x,hx⟩:∃x,x=X.tmod 20:=⟨_,rfl⟩
  rw[←hx] at q3 q4
  unfold xE at q2
  have g1:x.natAbs<100000000:=by omega
  have d1:0<h.d∧h.d<100000000:=by unfold Hts.d;split<;>omega
  obtain⟨D,hD⟩:∃D,D=h.d:=⟨_,rfl⟩
  rw[←hD] at q3 d1 h6
  obtain⟨d1,d2⟩:=d1
  have w3:IntKind.i64.wrap X=X:=ia (by omega) (by omega)
  have w1:IntKind.i64.wrap ((i:Int)+1)=((i+1:Nat):Int):=by rw[ag (by omega) (by omega)];omega
  have hr6' :(r:Int)<6:=by omega
  have j1:=bS q1
  obtain⟨C,hC⟩:∃C,C=h.cells:=⟨_,rfl⟩
  rw[←hC] at l0 r0 o0 e0 q1 j1
  obtain⟨z,hz⟩:∃z,z=hQ (h.z i):=⟨_,rfl⟩
  rw[←hz] at q3
  obtain⟨m,hm⟩:∃m,m=i+1:=⟨_,rfl⟩
  rw[←hm] at w1 hs
  refine⟨m,?_⟩
  have hmp:¬m=0:=by omega
  have hsimp:qC (qH (h.l m))=qC (qH (h.l i))++[.str (aB z)]:=by rw[hs,hz];simp[qH,qC]
  by_cases hi0:i=0
  ·subst hi0
   have hm0:m=1:=by omega
   have w0:IntKind.i64.wrap 1=1:=rfl
   have b0:qC (qH (h.l 0))=[]:=rfl
   rw[b0,hm0,List.nil_append] at hsimp
   have hrj:r=0:=by omega
   subst hrj
   have tj:Int.tmod 0 6=0:=rfl
   simp[zf,Bd,hsimp,hm0,h2,h3,h6,hlt,←hC,j1,tj,l0,r0,w0,w3,←hx,g1,d1,d2,q3,ai,cQ]
   omega
  ·obtain⟨Q,hQ0⟩:∃Q,Q=qH (h.l i):=⟨_,rfl⟩
   have hQl:(qC Q).length=i:=by rw[hQ0,Oj,Hts.l_length]
   rw[←hQ0] at hsimp
   have g3:(qC Q).take i=qC Q:=List.take_of_length_le (by omega)
   have g4:m*16≤140737488355328:=by omega
   have g5:m≤140737488355328:=by omega
   simp[zf,Bd,hi0,hmp,hsimp,←hQ0,←hm,h2,h3,h6,hlt,←hC,q1,t6,hr6',r0,w1,w3,←hx,g1,g3,g4,g5,d1,d2,q3,hQl,eC,iD,ai,cQ]
   omega
 ·right
  have e:i=n:=by omega
  subst e
  have hi0:¬i=0:=by omega
  simp[zf,Bd,hi0,h2]
set_option maxRecDepth 8192 in
set_option maxHeartbeats 6400000 in
theorem H6(h:Hts) (hh:h.Ok) (n k:Nat) (hn0:0<n) (hl:n≤1000):
  ACallsTo Tryz.prog 67 [.agg [.slice 0 0 n none,.slice 1 0 k none],.agg h.cells] [.absent,.absent] (.slice 2 0 n none) ([.absent,.absent]++[.cells true 1 (qC (qH (h.l n)))]):=by
 have hG:aN Tryz.prog 67=some Tryz.f67:=by kernel_rfl
 obtain⟨b,hb⟩:∃b,aj Tryz.f67=[b]:=⟨_,rfl⟩
 obtain⟨F,hF⟩:=Cf (K:=n+5) h hh n k hn0 hl (by omega) hb
 simp[aj,aM,Tryz.f67] at hb
 subst hb
 have hn:¬n=0:=by omega
 simp only[zf,if_true,if_neg hn] at hF
 have hF1:=fun env0 df h=>(hF env0 df h).1
 have hF2:=fun env0 df h=>(hF env0 df h).2
 clear hF
 have l0:=Hts.cells_len hh
 have r0:=cD h.closed
 have o0:=eU h.closed
 have e0:=fun f=>aJ (ρ:=f) h.closed
 have q6:=Hts.cells_half hh
 have j6:=bS q6
 have hd:h.d=if h.half then 2 else 1:=rfl
 obtain⟨C,hC⟩:∃C,C=h.cells:=⟨_,rfl⟩
 rw[←hC] at l0 r0 o0 e0 q6 j6 hF1 ⊢
 obtain⟨Q,hQ⟩:∃Q,Q=qH (h.l n):=⟨_,rfl⟩
 rw[←hQ] at hF1 ⊢
 have tk:C.take 7=C:=List.take_of_length_le (by omega)
 have h:aa (aO Tryz.prog) (fun _=>[5,7]) (aN Tryz.prog) (ai cQ) (n+5) 67 [.agg [.slice 0 0 n none,.slice 1 0 k none],.agg C] [.absent,.absent]=some ⟨.slice 2 0 n none,none,[.cells true 1 (qC Q)]⟩:=by
  cases hf:h.half
  ·rw[hf] at hd q6 j6
   simp[aa,hG,Tryz.f67,l0,j6,hF1,hF2,hd,eC,iD]
  ·rw[hf] at hd q6 j6
   simp[aa,hG,Tryz.f67,l0,j6,hF1,hF2,hd,eC,iD]
 have:=(af ae (aw _) rz (ax _) h).1
 simpa [CallRes.mem] using this
theorem KZ(h:Hts) (hh:h.Ok) (n k:Nat) (hn0:0<n) (hl:n≤1000) (M:Mem) (p t:Nat) (hp:p<M.length) (ht:t<M.length):
  ACallsTo Tryz.prog 67 [.agg [.slice p 0 n none,.slice t 0 k none],.agg h.cells] M (.slice M.length 0 n none) (M++[.cells true 1 (qC (qH (h.l n)))]):=by
 have e0:=fun f=>aJ (ρ:=f) h.closed
 have:=ACallsTo.frame (M:=M) (new:=[.cells true 1 (qC (qH (h.l n)))]) (args:=[.agg [.slice 0 0 n none,.slice 1 0 k none],.agg h.cells]) [p,t] (m:=[.absent,.absent]) rfl (by simp[hp,ht]) (by simp[AV.unders,AV.under,aR h.closed]) (fun i s hs=>by
  match i with
  |0=>simp at hs;subst hs;trivial
  |1=>simp at hs;subst hs;trivial
  |i+2=>simp at hs) (by rfl) (H6 h hh n k hn0 hl)
 simpa [AV.rens,AV.ren,eK,Slot.ren,iD,e0] using this
theorem H7(q:Rat) (mem:Mem):ACallsTo Tryz.prog 52 [.str (aB q)] mem (.int .i64 (xI q)) mem:=by
 have hG:aN Tryz.prog 52=some Tryz.f52:=by kernel_rfl
 refine aq (ak _) (lv:=fun _=>[]) (K:=1) rfl rfl ?_ mem
 by_cases h0:q=0
 ·subst h0
  have:xI 0=0:=by decide
  simp[aa,hG,Tryz.f52,aW,this]
 ·have hn:¬q.num=0:=fun e=>h0 (pW.1 e)
  by_cases h1:q.num<0
  ·have e:=jx h1
   have hb:(45::aB (-q)==[48])=false:=by rw[←e,aW];simpa using h0
   rw[e]
   simp[aa,hG,Tryz.f52,hb,xI,jH,h1]
  ·obtain⟨c,r,e2,hc⟩:=kY (q:=q) (by omega)
   have hb:(c::r==[48])=false:=by rw[←e2,aW];simpa using h0
   have h2:=eh hc
   rw[e2]
   simp[aa,hG,Tryz.f52,hb,h2,xI,jH,h1,hn]
noncomputable def sD(f:FuncId) (args:List AV):Option AV:=
 match f,args with
 |52,[.str s]=>match dU s with
  |some a=>some (.int .i64 (xI a))
  |none=>none
 |f,args=>dC f args
theorem IS:OracleOk Tryz.prog (ai sD):=bM fun f args v h mem=>by
 unfold sD at h
 split at h
 ·split at h
  ·rename_i a ha;cases h;rw[aD ha];exact H7 a mem
  ·cases h
 ·have:=fP.fn _ _ mem ⟨v,none,[]⟩ (by unfold ai;simp only;rw[h])
  simpa [CallRes.mem] using this
theorem RD(z:Int): -(hQ z)=hQ (-z):=by
 rw[jU,jU,Rat.intCast_neg]
 grind
theorem Sl{z:Int}:hQ z<0↔z<0:=by
 rw[jU]
 constructor
 ·intro h
  have:(z:Rat)<0:=by grind
  exact_mod_cast this
 ·intro h
  have:(z:Rat)<0:=by exact_mod_cast h
  grind
theorem Q6{q:Rat}:q.num<0↔q<0:=by
 have h:=Rat.num_nonneg (q:=q)
 constructor
 ·intro h1
  exact Rat.not_le.1 fun h2=>by have:=h.2 h2;omega
 ·intro h1
  have h2:¬0≤q:=Rat.not_le.2 h1
  have h3:¬0≤q.num:=fun h3=>h2 (h.1 h3)
  omega
theorem Qg(q:Rat):xI q<0↔q.num<0:=by
 unfold xI jH
 by_cases h1:q.num<0
 ·simp[h1]
 ·by_cases h2:q.num=0
  ·simp[h2]
  ·simp[h1,h2]
theorem RF(z:Int):xI (hQ z)<0↔z<0:=by rw[Qg,Q6,Sl]
theorem KY(z:Int) (hz:z.natAbs<1000) (M:Mem):ACallsTo Tryz.prog 69 [.str (aB (hQ z))] M (.str (aB (hQ z.natAbs))) M:=by
 have hG:aN Tryz.prog 69=some Tryz.f69:=by kernel_rfl
 refine aq IS (lv:=fun _=>[]) (K:=1) rfl rfl ?_ M
 have l:=y7 hz
 have hs:=RF z
 obtain⟨g,hg⟩:∃g,g=xI (hQ z):=⟨_,rfl⟩
 rw[←hg] at hs
 by_cases h:z<0
 ·have hg' :g<0:=hs.2 h
  have e: -(hQ z)=hQ (z.natAbs:Int):=by rw[RD,show -z=(z.natAbs:Int) by omega]
  obtain⟨n,hn⟩:∃n:Int,n=(z.natAbs:Int):=⟨_,rfl⟩
  rw[←hn] at e ⊢
  simp[aa,hG,Tryz.f69,ai,sD,dC,aC,l,←hg,hg',e]
 ·have hg' :¬g<0:=fun h' =>h (hs.1 h')
  have e:z=(z.natAbs:Int):=by omega
  obtain⟨n,hn⟩:∃n:Int,n=(z.natAbs:Int):=⟨_,rfl⟩
  rw[←hn] at e ⊢
  simp[aa,hG,Tryz.f69,ai,sD,aC,←hg,hg',←e]
def Sa:List AV→Option Hts
 | [.int .i8 a,.int .i8 b,.int .i8 c,.int .i8 d,.int .i8 e,.int .i8 f,.bool g]=>some ⟨[a,b,c,d,e,f],g⟩
 |_=>none
theorem kN{h:Hts}(hh:h.Ok):Sa h.cells=some h:=by
 obtain⟨v,g⟩:=h
 have hl:=hh.len
 simp only at hl
 match v,hl with
 | [a,b,c,d,e,f],_=>rfl
theorem NK{cs:List AV}{h:Hts}(e:Sa cs=some h):cs=h.cells:=by
 unfold Sa at e
 split at e
 ·cases e;rfl
 ·cases e
open Classical in
noncomputable def dS:Oracle:=fun c args M=>match c,args with
 |.fn 67,[.agg [.slice p 0 n none,.slice t 0 _ none],.agg cs]=>match Sa cs with
  |some h=>if h.Ok∧0<n∧n≤1000∧p<M.length∧t<M.length then some ⟨.slice M.length 0 n none,none,[.cells true 1 (qC (qH (h.l n)))]⟩ else none
  |none=>none
 |.fn 69,[.str s]=>match dU s with
  |some q=>if q.den≤2∧(q*2).num.natAbs<1000∧q=hQ (q*2).num then some ⟨.str (aB (hQ (q*2).num.natAbs)),none,[]⟩ else none
  |none=>none
 |c,args=>ai dC c args M
theorem qD:OracleOk Tryz.prog dS:=by
 refine ca fun c args M r h=>?_
 unfold dS at h
 split at h
 ·split at h
  ·rename_i hh hP
   split at h
   ·rename_i hc
    cases h
    rw[NK hP]
    exact ah (KZ _ hc.1 _ _ hc.2.1 hc.2.2.1 M _ _ hc.2.2.2.1 hc.2.2.2.2)
   ·cases h
  ·cases h
 ·split at h
  ·rename_i q hq
   split at h
   ·rename_i hc
    cases h
    refine ah ?_
    rw[List.append_nil,aD hq]
    have:=KY (q*2).num hc.2.1 M
    rw[←hc.2.2] at this
    exact this
   ·cases h
  ·cases h
 ·exact dJ fP h
theorem NJ(z:Int):(hQ z*2).num=z:=by
 have:hQ z*2=(z:Rat):=by rw[jU];grind
 rw[this];rfl
theorem zE(L:List Int):(qC (qH L)).length=L.length:=Oj L
theorem Oi{L:List Int}{k:Nat}(h:k<L.length):(qC (qH L))[k]? =some (.str (aB (hQ (L.getD k 0)))):=by
 have h1:L[k]? =some (L.getD k 0):=by rw[List.getD_eq_getElem?_getD,List.getElem?_eq_getElem h];rfl
 exact Q7 (by simp only[qH,List.getElem?_map,h1];rfl)
theorem Qx(z:Int):(hQ z).den≤2:=(CL z (by decide)).2
def nmE(c:UInt8):List UInt8:=[110,95,c]
def uNm:Nat→List (List UInt8)
 |1=>[nmE 97]
 |2=>[nmE 97,nmE 98]
 |_=>[nmE 97,nmE 98,nmE 99]
def fE(c:Code):List Nat:=if (ad c).contains 29 then [9,9,8] else [10,11]
theorem uJ{X:Int}(hX:xE X):IntKind.i64.wrap (X.tmod 3+3)=X.tmod 3+3∧IntKind.i64.wrap (1+(X.tmod 3+3).tmod 3)=ct3 X:=by
 have h:=xp X 3 (by decide)
 have h2:=xp (X.tmod 3+3) 3 (by decide)
 simp only[Int.cast_ofNat_Int] at h h2
 exact⟨ag (by omega) (by omega),ag (by omega) (by omega)⟩
set_option maxRecDepth 8192 in
set_option maxHeartbeats 12800000 in
theorem DJ(x:Sketch) (hx:x.Ok) (n k:Nat) (hn:0<n) (hl:n≤1000) (hJ:ct3 (x.n 0)=1):
  ACallsTo Tryz.prog 25 [.agg [.slice 0 0 n none,.slice 1 0 k none],.agg x.cells,.str [110]] [.absent,.absent] (.agg [.slice 2 0 n none,.slice 3 0 1 none,.nilslice]) ([.absent,.absent]++[.cells true 1 (qC (qH (x.base.l n))),.cells true 1 (stC (uNm 1))]):=by
 have hG:aN Tryz.prog 25=some Tryz.f25:=by kernel_rfl
 have l0:=Sketch.cells_len hx
 have r0:=cD x.closed
 have o0:=eU x.closed
 have e0:=fun f=>aJ (ρ:=f) x.closed
 have i0:=Sketch.cells_n hx (k:=0) (by decide)
 simp only[Nat.reduceAdd] at i0
 have j0:=bS i0
 have hb0:=Sketch.cells_base hx
 have hP:=kN hx.base
 have hbk:=hx.base
 obtain⟨b0,c0⟩:=Sketch.n_ok hx (k:=0) (by decide)
 obtain⟨w3,w4⟩:=uJ ⟨b0,c0⟩
 rw[hJ] at w4
 obtain⟨C,hC⟩:∃C,C=x.cells:=⟨_,rfl⟩
 rw[←hC] at l0 r0 o0 e0 i0 j0 hb0 ⊢
 obtain⟨X,hX⟩:∃X,X=x.n 0:=⟨_,rfl⟩
 rw[←hX] at i0 j0 w3 w4 b0 c0
 have wX:IntKind.i64.wrap X=X:=ia (by omega) (by omega)
 obtain⟨B,hB⟩:∃B,B=x.base:=⟨_,rfl⟩
 rw[←hB] at hb0 hP hbk ⊢
 obtain⟨D,hD⟩:∃D,D=B.cells:=⟨_,rfl⟩
 rw[←hD,List.drop_one] at hb0
 rw[←hD] at hP
 obtain⟨Q,hQ⟩:∃Q,Q=qC (qH (B.l n)):=⟨_,rfl⟩
 have Qr:∀n,AV.refsL n Q=[]:=fun n=>by rw[hQ,eC]
 have Qn:∀f,AV.rens f Q=Q:=fun f=>by rw[hQ,iD]
 rw[←hQ]
 have tk:C.take 34=C:=List.take_of_length_le (by omega)
 obtain⟨os,hops⟩:∃os,aV Tryz.f25=os:=⟨_,rfl⟩
 have hbs:=cK hops (ls:=[[0,1,0,0,0,24,56,124,252,511,1023,2047],[0,0,0,6,14,0,0,64,0,448,960,2016,0,8160,16352,32736,65534,131070,262143,524287]]) (by kernel_rfl)
 simp only[aV,cc,Tryz.f25,List.nil_append,List.append_nil,List.cons_append] at hops
 subst hops
 simp only[List.map_cons,List.map_nil,List.cons.injEq,and_true] at hbs
 obtain⟨hb1,hb2⟩:=hbs
 have w1:IntKind.i64.wrap 1=1:=rfl
 have h:aa (aO Tryz.prog) fE (aN Tryz.prog) dS 5 25 [.agg [.slice 0 0 n none,.slice 1 0 k none],.agg C,.str [110]] [.absent,.absent]=some ⟨.agg [.slice 2 0 n none,.slice 3 0 1 none,.nilslice],some [.absent,.absent],[.cells true 1 Q,.cells true 1 (stC (uNm 1))]⟩:=by
  simp (maxSteps:=3000000) [aa,hG,Tryz.f25,fE,dS,l0,r0,e0,j0,hb0,hP,hbk,wX,w1,w3,w4,hn,hl,←hQ,Qr,Qn,aZ,fA,-aQ,bz hb1,cH,ea,eV,cM,cS,iL,bef,mR,Nat.testBit,bx,aG,uNm,nmE,stC,gE]
  exact⟨rfl,rfl⟩
 have:=(af ae (aw _) qD (ax _) h).1
 simpa [CallRes.mem] using this
def dq0(x:Sketch) (n k:Nat) (L0:List Int) (i:Nat):Mem:=if i=0 then [.absent,.absent,.cells true 0 [.slice 0 0 n none,.slice 1 0 k none],.cells true 0 x.cells,.cells true 0 [.nilslice,.nilslice,.nilslice],.cells true 1 (qC (qH L0)),.cells true 0 [.slice 5 0 n none,.slice 10 0 2 none,.nilslice],.absent,.cells true 1 [.str [95,97],.str [95,98],.str [95,99]],.cells true 1 [.str [110,95,98]],.cells true 1 [.str [110,95,97],.str [110,95,98]],.cells true 1 []] else [.absent,.absent,.cells true 0 [.slice 0 0 n none,.slice 1 0 k none],.cells true 0 x.cells,.cells true 0 [.nilslice,.nilslice,.nilslice],.cells true 1 (qC (qH L0)),.cells true 0 [.slice 5 0 n none,.slice 10 0 2 none,.nilslice],.absent,.cells true 1 [.str [95,97],.str [95,98],.str [95,99]],.cells true 1 [.str [110,95,98]],.cells true 1 [.str [110,95,97],.str [110,95,98]],.absent,.cells true 1 (qC (qH (upL x.s0 L0 i)))]
def Rt(i:Nat):AV:=if i=0 then .slice 11 0 0 none else .slice 12 0 i none
set_option maxRecDepth 8192 in
set_option maxHeartbeats 12800000 in
theorem yd{K:Nat}(x:Sketch) (hx:x.Ok) (n k:Nat) (L0:List Int) (hL:L0.length=n) (hb9:∀z∈L0,z.natAbs≤300) (hn0:0<n) (hl:n≤1000) (hK:n<K) {b b2:Code}(hb:aj Tryz.f25=[b2,b]):
  ∃F:Env→Bool→Env,∀env0 df,(ab env0 3=.ptr 2 0∧ab env0 4=.ptr 3 0∧ab env0 8=.slice 5 0 n none∧ab env0 9=.int .i64 1∧ab env0 10=.slice 11 0 0 none∧ab env0 11=.int .i64 0)→
   aU (aO Tryz.prog) fE dS K 78 2 true (.loop b) ⟨env0,dq0 x n k L0 0,df⟩=some (.exit 2,⟨F env0 df,dq0 x n k L0 n,df⟩)∧ab (F env0 df) 10=.slice 12 0 n none∧
    (∀t,t∈[2,3,4,6,7,8,9]→ab (F env0 df) t=ab env0 t):=by
 refine bp (L:=[10,11]) (by simp[aj,aM,Tryz.f25] at hb;rw[←hb.2];rfl) (fun env0=>ab env0 3=.ptr 2 0∧ab env0 4=.ptr 3 0∧ab env0 8=.slice 5 0 n none∧ab env0 9=.int .i64 1∧ab env0 10=.slice 11 0 0 none∧ab env0 11=.int .i64 0) (fun env0 env' =>ab env' 10=.slice 12 0 n none∧(∀t,t∈[2,3,4,6,7,8,9]→ab env' t=ab env0 t)) ?_
 rintro env0 df ⟨h3,h4,h8,h9,h10,h11⟩
 obtain⟨os,hops⟩:∃os,aV Tryz.f25=os:=⟨_,rfl⟩
 have hbs:=cK hops (ls:=[[0,1,0,0,0,24,56,124,252,511,1023,2047],[0,0,0,6,14,0,0,64,0,448,960,2016,0,8160,16352,32736,65534,131070,262143,524287]]) (by kernel_rfl)
 simp only[aV,cc,Tryz.f25,List.nil_append,List.append_nil,List.cons_append] at hops
 subst hops
 simp only[List.map_cons,List.map_nil,List.cons.injEq,and_true] at hbs
 obtain⟨-,hb2⟩:=hbs
 simp[aj,aM,Tryz.f25] at hb
 obtain⟨-,hb⟩:=hb
 have hnE:az [10,11] (ad b) env0 ((10,Rt 0)::(11,.int .i64 ((0:Nat):Int))::env0)=az [10,11] (ad b) env0 env0:=by simp[az,h10,h11,Rt]
 rw[←hnE]
 have hm1:(dq0 x n k L0 0).length=12:=rfl
 have l0:=Sketch.cells_len hx
 have r0:=cD x.closed
 have o0:=eU x.closed
 have e0:=fun f=>aJ (ρ:=f) x.closed
 have hb0:=Sketch.cells_s0 hx
 have hP:=kN hx.s0
 have hbk:=hx.s0
 have tk:x.cells.take 34=x.cells:=List.take_of_length_le (by omega)
 refine bK (α:=Nat) (fun i=>⟨az [10,11] (ad b) env0 ((10,Rt i)::(11,.int .i64 (i:Int))::env0),dq0 x n k L0 i,df⟩) (fun i=>n-i) (fun i=>i≤n) (.exit 2) _ df _ (by simp) ?_ K 0 (by omega) (by omega)
 intro i hi
 clear hnE
 subst hb
 by_cases hlt:i<n
 ·left
  have k1:=Oi (L:=L0) (k:=i) (by omega)
  have hzl:(L0.getD i 0).natAbs≤300:=hb9 _ (pN (by omega))
  have hs:=Kr x.s0 L0 i
  have hzz:=x.s0.z_le i
  have k2:=Oi (L:=x.s0.l n) (k:=i) (by rw[Hts.l_length];exact hlt)
  have gl:(x.s0.l n).getD i 0=x.s0.z i:=by simp[Hts.l,List.getD_eq_getElem?_getD,hlt]
  rw[gl] at k2
  have ln2:=zE (x.s0.l n)
  rw[Hts.l_length] at ln2
  obtain⟨R,hR⟩:∃R,R=qC (qH (x.s0.l n)):=⟨_,rfl⟩
  rw[←hR] at k2 ln2
  have Rr:∀n,AV.refsL n R=[]:=fun n=>by rw[hR,eC]
  have Ro:∀f,AV.refsOkL f R=true:=fun f=>by rw[hR,Oh]
  obtain⟨z,hz⟩:∃z,z=L0.getD i 0:=⟨_,rfl⟩
  rw[←hz] at k1 hzl hs
  obtain⟨y,hy⟩:∃y,y=x.s0.z i:=⟨_,rfl⟩
  rw[←hy] at k2 hzz hs
  have hadd:=Qw z (y.natAbs:Int)
  have l1:=y7 (z:=z) (by omega)
  have l2:=y7 (z:=(y.natAbs:Int)) (by omega)
  have hbk2:=NJ y
  have hd2:=Qx y
  have hy9:y.natAbs<1000:=by omega
  have hn' :=zE L0
  rw[hL] at hn'
  have k1' :=bS k1
  have k2' :=bS k2
  have w1:IntKind.i64.wrap ((i:Int)+1)=((i+1:Nat):Int):=by rw[ag (by omega) (by omega)];omega
  obtain⟨m,hm⟩:∃m,m=i+1:=⟨_,rfl⟩
  rw[←hm] at w1 hs
  refine⟨m,?_⟩
  have hmp:¬m=0:=by omega
  have hsimp:qC (qH (upL x.s0 L0 m))=qC (qH (upL x.s0 L0 i))++[.str (aB (hQ (z+(y.natAbs:Int))))]:=by rw[hs];simp[qH,qC]
  obtain⟨B,hB⟩:∃B,B=x.s0:=⟨_,rfl⟩
  rw[←hB] at hb0 hP hbk hR hsimp
  obtain⟨D,hD⟩:∃D,D=B.cells:=⟨_,rfl⟩
  have Dr:∀n,AV.refsL n D=[]:=fun n=>by rw[hD];exact cD B.closed n
  have Do:∀f,AV.refsOkL f D=true:=fun f=>by rw[hD];exact eU B.closed f
  rw[←hD] at hb0 hP
  obtain⟨C,hC⟩:∃C,C=x.cells:=⟨_,rfl⟩
  rw[←hC] at l0 r0 o0 e0 hb0 tk
  obtain⟨y',hy'⟩:∃y',y' =y.natAbs:=⟨_,rfl⟩
  rw[←hy'] at hadd l2 hsimp hy9
  have w0:IntKind.i64.wrap 1=1:=rfl
  have w00:IntKind.i64.wrap 0=0:=rfl
  by_cases hi0:i=0
  ·subst hi0
   have hm0:m=1:=by omega
   have b0:qC (qH (upL B L0 0))=[]:=rfl
   rw[b0,hm0,List.nil_append] at hsimp
   simp (maxSteps:=1000000) [dq0,Rt,hsimp,hm0,h3,h4,h8,h9,hlt,hl,←hB,←hC,←hR,k1',k2',l0,r0,hb0,hP,hbk,Ro,Do,ln2,w0,w00,l1,l2,hadd,hbk2,hd2,←hy',hy9,aC,eC,hn',dS,ai,dC,-aQ,bz hb2,cH,ea,eV,cM,cS,iL,bef,mR,Nat.testBit]
   omega
  ·obtain⟨Q,hQ0⟩:∃Q,Q=qH (upL B L0 i):=⟨_,rfl⟩
   have hQl:(qC Q).length=i:=by rw[hQ0,zE,gj]
   rw[←hQ0] at hsimp
   have g3:(qC Q).take i=qC Q:=List.take_of_length_le (by omega)
   have g4:m*16≤140737488355328:=by omega
   have g5:m≤140737488355328:=by omega
   simp (maxSteps:=1000000) [dq0,Rt,hi0,hmp,hsimp,←hQ0,←hm,h3,h4,h8,h9,hlt,hn0,hl,←hB,←hC,←hR,k1',k2',l0,r0,hb0,hP,hbk,Ro,Do,ln2,w00,w1,l1,l2,hadd,hbk2,hd2,←hy',hy9,g3,g4,g5,hQl,aC,eC,iD,Oh,hn',dS,ai,dC,-aQ,bz hb2,cH,ea,eV,cM,cS,iL,bef,mR,Nat.testBit]
   omega
 ·right
  have e:i=n:=by omega
  subst e
  have hi0:¬i=0:=by omega
  simp[dq0,Rt,hi0,h8]
end Go.Proofs
