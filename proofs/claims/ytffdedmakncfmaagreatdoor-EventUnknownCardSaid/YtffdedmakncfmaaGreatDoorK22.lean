/- See K51. -/
import Derived.Test.YtffdedmakncfmaaGreatDoorK19
import Derived.Test.YtffdedmakncfmaaGreatDoorK05
set_option linter.all false
namespace Go.Proofs
open Go.Eng
theorem SI{ks:List Nat}{M:Mem}{b es:Nat}{o:Bool}{l cs:List AV}(hc:AV.closeds cs=true) (h:M[b]? =some (.cells o es l)) (ht:l.take cs.length=cs):SubSlot ks M b (.cells false es cs):=by
 refine⟨aR hc,o,l,h,fun j v hv=>?_⟩
 have hj:=(List.getElem?_eq_some_iff.1 hv).1
 have e:l[j]? =cs[j]? :=by rw[←List.getElem?_take_of_lt hj,ht]
 have hr:=aJ (ρ:=eK ks M.length) hc
 rw[fZ] at hr
 have hr2:(cs.map (AV.ren (eK ks M.length)))[j]? =cs[j]? :=by rw[hr]
 rw[List.getElem?_map,hv] at hr2
 rw[e,hv];exact hr2.symm
theorem Jr{v:AV}{f:Nat→Option Nat}(h:v.closed=true):v.ren f=v:=by
 have:=aJ (vs:=[v]) (ρ:=f) (by simp[AV.closeds,h])
 simpa [AV.rens] using this
theorem rows1C{P:Program}{f:FuncId}{M:Mem}{b es n:Nat}{o:Bool}{l cs rest:List AV}{v:AV}(hc:AV.closeds cs=true) (hr:AV.closeds rest=true) (hv:v.closed=true) (hb:M[b]? =some (.cells o es l)) (ht:l.take cs.length=cs)
  (h:ACallsTo P f (.slice 0 0 n none::rest) [.cells false es cs] v [.cells false es cs]):ACallsTo P f (.slice b 0 n none::rest) M v M:=by
 have hlt:=(List.getElem?_eq_some_iff.1 hb).1
 have hu:AV.unders [b].length (.slice 0 0 n none::rest)=true:=by
  show(decide (0<1)&&AV.unders 1 rest)=true
  rw[aR hr];rfl
 have:=ACallsTo.frame (M:=M) (new:=[]) [b] (m:=[.cells false es cs]) rfl (by simpa using hlt) hu (fun i s hs=>by
  cases i with
  |zero=>simp at hs;subst hs;exact SI hc hb ht
  |succ i=>simp at hs) rfl (by simpa using h)
 simpa [AV.rens,AV.ren,eK,aJ hr,Jr hv] using this
def sC(L:List (List UInt8)):List AV:=L.map .str
theorem Hv(L:List (List UInt8)):(sC L).length=L.length:=by simp[sC]
theorem Hu:∀L:List (List UInt8),AV.closeds (sC L)=true
 | []=>rfl
 |s::L=>by simp[sC,AV.closeds,AV.closed];exact Hu L
def pe:List AV→Option (List (List UInt8))
 | []=>some []
 |.str a::l=>match pe l with
  |some r=>some (a::r)
  |none=>none
 |_=>none
theorem zP:∀{cs:List AV} {L:List (List UInt8)},pe cs=some L→cs=sC L
 | [],L,h=>by cases h;rfl
 |v::l,L,h=>by
  unfold pe at h
  split at h
  ·rename_i h1;cases h1
  ·rename_i h1
   cases h1
   split at h
   ·rename_i r hr
    cases h
    rw[zP hr];rfl
   ·cases h
  ·cases h
def mM(M:Mem):AV→Option (List (List UInt8))
 |.slice b 0 n none=>match M[b]? with
  |some (.cells _ 1 cs)=>if n≤cs.length then pe (cs.take n) else none
  |_=>none
 |.nilslice=>some []
 |_=>none
theorem Jz{M:Mem}{x:AV}{L:List (List UInt8)}(h:mM M x=some L):(∃b o l,x=.slice b 0 L.length none∧M[b]? =some (.cells o 1 l)∧l.take L.length=sC L)∨(x=.nilslice∧L=[]):=by
 unfold mM at h
 split at h
 ·rename_i b n
  split at h
  ·rename_i o cs hb
   split at h
   ·rename_i hn
    have hA:=zP h
    have hl:n=L.length:=by
     have:=congrArg List.length hA
     rw[Hv,List.length_take] at this
     omega
    subst hl
    exact .inl ⟨b,o,cs,rfl,hb,hA⟩
   ·cases h
  ·cases h
 ·cases h;exact .inr ⟨rfl,rfl⟩
 ·cases h
theorem QD{P:Program}{f:FuncId}{M:Mem}{x:AV}{L:List (List UInt8)}{rest:List AV}{v:AV}(hr:AV.closeds rest=true) (hv:v.closed=true) (hx:mM M x=some L)
  (h:ACallsTo P f (.slice 0 0 L.length none::rest) [.cells false 1 (sC L)] v [.cells false 1 (sC L)]) (h0:L=[]→ACallsTo P f (.nilslice::rest) M v M):ACallsTo P f (x::rest) M v M:=by
 rcases Jz hx with⟨b,o,l,rfl,hb,ht⟩ | ⟨rfl,hL⟩
 ·exact rows1C (Hu L) hr hv hb (by rw[Hv];exact ht) h
 ·exact h0 hL
theorem Ss{L:List (List UInt8)}{i:Nat}{s:List UInt8}(h:L[i]? =some s):(sC L)[i]? =some (.str s):=by simp[sC,h]
def tS:List (List UInt8)→Int
 | []=>0
 |s::l=>if xA s=0 then tS l else xA s
set_option maxHeartbeats 1600000 in
theorem uu{K:Nat}(L:List (List UInt8)) (hL:∀s∈L,s.length≤1000000000) (hl:L.length≤1000000000) (hK:L.length<K) {b:Code}(hb:aj Tryz.f151=[b]):
  ∃F:Env→Bool→Env,∀env0 d,(ab env0 6=.slice 0 0 L.length none∧ab env0 7=.int .i64 L.length∧ab env0 8=.int .i64 0∧ab env0 2=.int .i64 0)→
   aU (aO Tryz.prog) (fun _=>[8]) (ai aP) K 18 1 true (.loop b) ⟨env0,[.cells false 1 (sC L)],d⟩=some (if tS L=0 then .exit 0 else .ret,⟨F env0 d,[.cells false 1 (sC L)],d⟩)∧(tS L≠0→ab (F env0 d) 2=.int .i64 (tS L)):=by
 refine bp rfl (fun env0=>ab env0 6=.slice 0 0 L.length none∧ab env0 7=.int .i64 L.length∧ab env0 8=.int .i64 0∧ab env0 2=.int .i64 0) (fun _ env' =>tS L≠0→ab env' 2=.int .i64 (tS L)) ?_
 rintro env0 d ⟨h6,h7,h8,h2⟩
 simp[aj,aM,Tryz.f151] at hb
 have hn:az [8] (ad b) env0 ((8,.int .i64 ((0:Nat):Int))::env0)=az [8] (ad b) env0 env0:=by simp[az,h8]
 rw[←hn]
 refine bK (α:=Nat) (fun n=>⟨az [8] (ad b) env0 ((8,.int .i64 (n:Int))::env0),[.cells false 1 (sC L)],d⟩) (fun n=>L.length-n) (fun n=>n≤L.length∧tS L=tS (L.drop n)) (if tS L=0 then .exit 0 else .ret) _ d _ (by split<;>simp) ?_ K 0 ⟨by omega,by rw[List.drop_zero]⟩ (by omega)
 rintro n ⟨hn1,he⟩
 clear hn
 subst hb
 by_cases hlt:n<L.length
 ·obtain⟨s,hs⟩:∃s,L[n]? =some s:=⟨L[n],List.getElem?_eq_getElem hlt⟩
  have k1:=Ss hs
  have l1:=hL s (List.mem_of_getElem? hs)
  have hd:L.drop n=s::L.drop (n+1):=by
   rw[List.getElem?_eq_some_iff] at hs
   obtain⟨h1,h2⟩:=hs
   rw[←h2];exact List.drop_eq_getElem_cons h1
  rw[hd,tS] at he
  have w1:IntKind.i64.wrap ((n:Int)+1)=((n+1:Nat):Int):=by rw[ag (by omega) (by omega)];omega
  by_cases c1:xA s=0
  ·rw[if_pos c1] at he
   left
   obtain⟨v,hv⟩:∃v,v=n+1:=⟨_,rfl⟩
   rw[←hv] at w1 he
   refine⟨v,?_⟩
   simp[h6,h7,hlt,ai,aP,l1,c1,k1,w1]
   exact⟨⟨by omega,he⟩,by omega⟩
  ·rw[if_neg c1] at he
   right
   rw[he]
   simp[h6,h7,hlt,ai,aP,l1,c1,k1]
 ·right
  have e:L.drop n=[]:=List.drop_of_length_le (by omega)
  rw[e,tS] at he
  rw[he]
  simp[h7,hlt]
theorem BH(L:List (List UInt8)) (hL:∀s∈L,s.length≤1000000000) (hl:L.length≤1000000000):
  ACallsTo Tryz.prog 151 [.slice 0 0 L.length none] [.cells false 1 (sC L)] (.int .i64 (tS L)) [.cells false 1 (sC L)]:=by
 have hG:aN Tryz.prog 151=some Tryz.f151:=by kernel_rfl
 obtain⟨b,hb⟩:∃b,aj Tryz.f151=[b]:=⟨_,rfl⟩
 obtain⟨F,hF⟩:=uu (K:=L.length+1) L hL hl (by omega) hb
 simp[aj,aM,Tryz.f151] at hb
 subst hb
 have h:aa (aO Tryz.prog) (fun _=>[8]) (aN Tryz.prog) (ai aP) (L.length+1) 151 [.slice 0 0 L.length none] [.cells false 1 (sC L)]=some ⟨.int .i64 (tS L),none,[]⟩:=by
  by_cases hc:tS L=0
  ·rw[if_pos hc] at hF
   have hF1:=fun env0 d h=>(hF env0 d h).1
   clear hF
   simp[aa,hG,Tryz.f151,hF1,hc]
  ·rw[if_neg hc] at hF
   have hF1:=fun env0 d h=>(hF env0 d h).1
   have hF3:=fun env0 d h=>(hF env0 d h).2 hc
   clear hF
   simp[aa,hG,Tryz.f151,hF1,hF3]
 have:=(af ae (aw _) cA (ax _) h).1
 simpa [CallRes.mem] using this
theorem wk(M:Mem):ACallsTo Tryz.prog 151 [.nilslice] M (.int .i64 0) M:=by
 have hG:aN Tryz.prog 151=some Tryz.f151:=by kernel_rfl
 refine aq (ak _) (lv:=fun _=>[8]) (K:=1) rfl rfl ?_ M
 simp[aa,hG,Tryz.f151,aZ,fA]
def rT(Q:List Rat):List (List UInt8):=Q.map aB
def zX(Q:List Rat) (s:Rat):Rat:=Q.foldl (·+·) s
def Hz:List Rat→Rat→Prop
 | [],s=>ky s
 |q::l,s=>ky s∧ky q∧Hz l (s+q)
set_option maxHeartbeats 1600000 in
theorem Cn{K:Nat}(Q:List Rat) (hQ:Hz Q 0) (hl:Q.length≤1000000000) (hK:Q.length<K) {b:Code}(hb:aj Tryz.f124=[b]):
  ∃F:Env→Bool→Env,∀env0 d,(ab env0 6=.slice 0 0 Q.length none∧ab env0 7=.int .i64 Q.length∧ab env0 8=.int .i64 0∧ab env0 3=.str [48])→
   aU (aO Tryz.prog) (fun _=>[3,8]) (ai aP) K 17 1 true (.loop b) ⟨env0,[.cells false 1 (sC (rT Q))],d⟩=some (.exit 0,⟨F env0 d,[.cells false 1 (sC (rT Q))],d⟩)∧ab (F env0 d) 3=.str (aB (zX Q 0)):=by
 refine bp rfl (fun env0=>ab env0 6=.slice 0 0 Q.length none∧ab env0 7=.int .i64 Q.length∧ab env0 8=.int .i64 0∧ab env0 3=.str [48]) (fun _ env' =>ab env' 3=.str (aB (zX Q 0))) ?_
 rintro env0 d ⟨h6,h7,h8,h3⟩
 simp[aj,aM,Tryz.f124] at hb
 have z:aB 0=[48]:=rfl
 have hn:az [3,8] (ad b) env0 ((3,.str (aB (zX (Q.take 0) 0)))::(8,.int .i64 ((0:Nat):Int))::env0)=az [3,8] (ad b) env0 env0:=by simp[az,h8,h3,zX,z]
 rw[←hn]
 refine bK (α:=Nat) (fun n=>⟨az [3,8] (ad b) env0 ((3,.str (aB (zX (Q.take n) 0)))::(8,.int .i64 (n:Int))::env0),[.cells false 1 (sC (rT Q))],d⟩) (fun n=>Q.length-n) (fun n=>n≤Q.length∧Hz (Q.drop n) (zX (Q.take n) 0)) (.exit 0) _ d _ (by simp) ?_ K 0 ⟨by omega,by simpa [zX] using hQ⟩ (by omega)
 rintro n ⟨hn1,he⟩
 clear hn
 subst hb
 by_cases hlt:n<Q.length
 ·obtain⟨q,hq⟩:∃s,Q[n]? =some s:=⟨Q[n],List.getElem?_eq_getElem hlt⟩
  have k1:(sC (rT Q))[n]? =some (.str (aB q)):=by simp[sC,rT,hq]
  have hd:Q.drop n=q::Q.drop (n+1):=by
   rw[List.getElem?_eq_some_iff] at hq
   obtain⟨h1,h2⟩:=hq
   rw[←h2];exact List.drop_eq_getElem_cons h1
  have ht:zX (Q.take (n+1)) 0=zX (Q.take n) 0+q:=by
   rw[List.take_add_one,hq];simp[zX]
  rw[hd,Hz,←ht] at he
  obtain⟨⟨f1,f2⟩,⟨f3,f4⟩,he⟩:=he
  have w1:IntKind.i64.wrap ((n:Int)+1)=((n+1:Nat):Int):=by rw[ag (by omega) (by omega)];omega
  left
  obtain⟨v,hv⟩:∃v,v=n+1:=⟨_,rfl⟩
  rw[←hv] at w1 he ht
  obtain⟨s,hs⟩:∃s,s=zX (Q.take n) 0:=⟨_,rfl⟩
  rw[←hs] at f1 f2 ht ⊢
  refine⟨v,?_⟩
  simp[h6,h7,hlt,ai,aP,aY,aC,f1,f2,f3,f4,k1,w1,ht]
  exact⟨⟨by omega,by rw[←ht];exact he⟩,by omega⟩
 ·right
  have e:Q.take n=Q:=List.take_of_length_le (by omega)
  rw[e]
  simp[h7,hlt]
theorem KW(Q:List Rat) (hQ:Hz Q 0) (hl:Q.length≤1000000000):
  ACallsTo Tryz.prog 124 [.slice 0 0 Q.length none] [.cells false 1 (sC (rT Q))] (.str (aB (zX Q 0))) [.cells false 1 (sC (rT Q))]:=by
 have hG:aN Tryz.prog 124=some Tryz.f124:=by kernel_rfl
 obtain⟨b,hb⟩:∃b,aj Tryz.f124=[b]:=⟨_,rfl⟩
 obtain⟨F,hF⟩:=Cn (K:=Q.length+1) Q hQ hl (by omega) hb
 simp[aj,aM,Tryz.f124] at hb
 subst hb
 have h:aa (aO Tryz.prog) (fun _=>[3,8]) (aN Tryz.prog) (ai aP) (Q.length+1) 124 [.slice 0 0 Q.length none] [.cells false 1 (sC (rT Q))]=some ⟨.str (aB (zX Q 0)),none,[]⟩:=by
  simp[aa,hG,Tryz.f124,hF]
 have:=(af ae (aw _) cA (ax _) h).1
 simpa [CallRes.mem] using this
def Hl:List (List UInt8)→Option (List Rat)
 | []=>some []
 |k::l=>match dU k,Hl l with
  |some a,some r=>some (a::r)
  |_,_=>none
theorem Bn:∀{L:List (List UInt8)} {Q:List Rat},Hl L=some Q→L=rT Q
 | [],Q,h=>by cases h;rfl
 |k::L,Q,h=>by
  unfold Hl at h
  split at h
  ·rename_i a r h1 h3
   cases h
   rw[Bn h3,aD h1];rfl
  ·cases h
open Classical in
noncomputable def fG:Oracle:=fun c args M=>match c,args with
 |.fn 151,[x]=>match mM M x with
  |some L=>if (∀s∈L,s.length≤1000000000)∧L.length≤1000000000 then some ⟨.int .i64 (tS L),none,[]⟩ else none
  |none=>none
 |.fn 124,[x]=>match mM M x with
  |some L=>match Hl L with
   |some Q=>if Hz Q 0∧Q≠[]∧Q.length≤1000000000 then some ⟨.str (aB (zX Q 0)),none,[]⟩ else none
   |none=>none
  |none=>none
 |c,args=>ai aP c args M
theorem fb:OracleOk Tryz.prog fG:=by
 refine ca fun c args M r h=>?_
 unfold fG at h
 split at h
 ·split at h
  ·rename_i L hL
   split at h
   ·rename_i hc
    cases h
    refine ah ?_
    rw[List.append_nil]
    exact QD (rest:=[]) rfl rfl hL (BH L hc.1 hc.2) (fun hL0=>by subst hL0;exact wk M)
   ·cases h
  ·cases h
 ·split at h
  ·rename_i L hL
   split at h
   ·rename_i Q hQ
    split at h
    ·rename_i hc
     cases h
     refine ah ?_
     rw[List.append_nil]
     have hLQ:=Bn hQ
     subst hLQ
     have:=KW Q hc.1 hc.2.2
     have hlen:(rT Q).length=Q.length:=by simp[rT]
     rw[←hlen] at this
     exact QD (rest:=[]) rfl rfl hL this (fun hL0=>by
      cases Q with
      |nil=>exact absurd rfl hc.2.1
      |cons q Q=>cases hL0)
    ·cases h
   ·cases h
  ·cases h
 ·exact dJ cA h
theorem jM(a b c:List UInt8) (ha:a.length≤1000000000) (hb:b.length≤1000000000) (hc:c.length≤1000000000) (M:Mem):
  ACallsTo Tryz.prog 100 [.agg [.str a,.str b,.str c]] M (.int .i64 (tS [a,b,c])) M:=by
 have hG:aN Tryz.prog 100=some Tryz.f100:=by kernel_rfl
 refine aq fb (lv:=fun _=>[]) (K:=1) rfl rfl ?_ M
 simp[aa,hG,Tryz.f100,fG,mM,pe,ha,hb,hc]
theorem kA(a b:List UInt8) (ha:a.length≤1000000000) (hb:b.length≤1000000000) (M:Mem):
  ACallsTo Tryz.prog 193 [.agg [.str a,.str b]] M (.int .i64 (tS [a,b])) M:=by
 have hG:aN Tryz.prog 193=some Tryz.f193:=by kernel_rfl
 refine aq fb (lv:=fun _=>[]) (K:=1) rfl rfl ?_ M
 simp[aa,hG,Tryz.f193,fG,mM,pe,ha,hb]
abbrev V3:=Rat×Rat×Rat
def vA(v:V3):AV:=.agg [.str (aB v.1),.str (aB v.2.1),.str (aB v.2.2)]
def vDg(n:Nat) (v:V3):Prop:=dg n n v.1∧dg n n v.2.1∧dg n n v.2.2
def vW(a b:V3):Rat:=a.1*b.1+a.2.1*b.2.1+a.2.2*b.2.2
theorem cj{n d:Nat}{q:Rat}(h:dg n d q) (hn:0<n) (hd:0<d) (h1:n≤40000) (h2:d≤40000):ky q:=by
 have:=h.lens hn hd
 exact⟨by omega,by omega⟩
set_option maxHeartbeats 1600000 in
theorem KF(a b:V3) (ha:vDg 3000 a) (hb:vDg 3000 b) (M:Mem):ACallsTo Tryz.prog 75 [vA a,vA b] M (.str (aB (vW a b))) M:=by
 have hG:aN Tryz.prog 75=some Tryz.f75:=by kernel_rfl
 obtain⟨a1,a2,a3⟩:=a
 obtain⟨b1,b2,b3⟩:=b
 obtain⟨A1,A2,A3⟩:=ha
 obtain⟨B1,B2,B3⟩:=hb
 simp only at A1 A2 A3 B1 B2 B3
 have P1:=gb A1 B1
 have P2:=gb A2 B2
 have P3:=gb A3 B3
 have Z:dg 1 1 0:=⟨by decide,by decide⟩
 have S1:=ot Z P1 (m:=6001) (by omega) (by omega)
 have S2:=ot S1 P2 (m:=12003) (by omega) (by omega)
 have S3:=ot S2 P3 (m:=18004) (by omega) (by omega)
 have hs:Hz [a1*b1,a2*b2,a3*b3] 0:=
  ⟨cj Z (by omega) (by omega) (by omega) (by omega),cj P1 (by omega) (by omega) (by omega) (by omega),cj S1 (by omega) (by omega) (by omega) (by omega),cj P2 (by omega) (by omega) (by omega) (by omega),
   cj S2 (by omega) (by omega) (by omega) (by omega),cj P3 (by omega) (by omega) (by omega) (by omega),cj S3 (by omega) (by omega) (by omega) (by omega)⟩
 have hsum:zX [a1*b1,a2*b2,a3*b3] 0=a1*b1+a2*b2+a3*b3:=by simp[zX,Rat.zero_add]
 obtain⟨f1,f2⟩:=cj A1 (by omega) (by omega) (by omega) (by omega)
 obtain⟨f3,f4⟩:=cj A2 (by omega) (by omega) (by omega) (by omega)
 obtain⟨f5,f6⟩:=cj A3 (by omega) (by omega) (by omega) (by omega)
 obtain⟨g1,g2⟩:=cj B1 (by omega) (by omega) (by omega) (by omega)
 obtain⟨g3,g4⟩:=cj B2 (by omega) (by omega) (by omega) (by omega)
 obtain⟨g5,g6⟩:=cj B3 (by omega) (by omega) (by omega) (by omega)
 clear P1 P2 P3 S1 S2 S3 A1 A2 A3 B1 B2 B3 Z
 unfold vW
 simp only
 obtain⟨p,hp⟩:∃p,p=a1*b1:=⟨_,rfl⟩
 obtain⟨q,hq⟩:∃p,p=a2*b2:=⟨_,rfl⟩
 obtain⟨r,hr⟩:∃p,p=a3*b3:=⟨_,rfl⟩
 rw[←hp,←hq,←hr] at hs hsum ⊢
 refine aq fb (lv:=fun _=>[]) (K:=1) rfl rfl ?_ M
 obtain⟨ops,hops⟩:∃ops,aV Tryz.f75=[ops]:=⟨_,rfl⟩
 have hbs:=di hops (l:=[0,1,0,4,15,0,32,0,128,511,0,1024,0,4096,16383,32767,65535,131071]) (by kernel_rfl)
 have hba:LN [0,1,0,4,15,0,32,0,128,511,0,1024,0,4096,16383,32767,65535,131071] 18 15=true:=by decide
 simp[aV,cc,Tryz.f75] at hops
 subst hops
 simp[aa,hG,Tryz.f75,-aQ,mB hbs,mz,sL,A5,cS,hba,vA,fG,mM,pe,Hl,aC,ai,aP,aY,f1,f2,f3,f4,f5,f6,g1,g2,g3,g4,g5,g6,←hp,←hq,←hr,hs,hsum,Nat.testBit]
theorem zF:aB 0=[48]:=rfl
theorem Hk{q:Rat}:aB q=[48]↔q=0:=by
 constructor
 ·intro h
  have:=aC q
  rw[h,←zF,aC] at this
  exact(Option.some.inj this).symm
 ·rintro rfl;rfl
theorem CR{a b:Rat}(h:aB a=aB b):a=b:=by
 have:=aC a
 rw[h,aC] at this
 exact(Option.some.inj this).symm
theorem gL{q:Rat}(h:dg 200 200 q):xA (aB q)=0:=by
 unfold xA
 rw[aC]
 exact if_pos (h.lens (by decide) (by decide))
theorem jt{n:Nat}{q:Rat}(h:dg n n q) (h0:0<n) (h1:n≤40000):(aB q).length≤1000000000:=ft (cj h h0 h0 h1 h1)
theorem N8{v:V3}(h:vDg 200 v):tS [aB v.1,aB v.2.1,aB v.2.2]=0:=by
 simp[tS,gL h.1,gL h.2.1,gL h.2.2]
theorem vDg.mono{n m:Nat}{v:V3}(h:vDg n v) (hm:n≤m):vDg m v:=⟨h.1.mono hm hm,h.2.1.mono hm hm,h.2.2.mono hm hm⟩
theorem sh(v:V3) (h:vDg 200 v) (M:Mem):ACallsTo Tryz.prog 100 [vA v] M (.int .i64 0) M:=by
 have:=jM (aB v.1) (aB v.2.1) (aB v.2.2) (jt h.1 (by decide) (by decide)) (jt h.2.1 (by decide) (by decide)) (jt h.2.2 (by decide) (by decide)) M
 rw[N8 h] at this
 exact this
theorem Ia(a b c:List UInt8) (M:Mem):ACallsTo Tryz.prog 257 [.agg [.str a,.str b,.str c]] M (.bool (a==[48]&&b==[48]&&c==[48])) M:=by
 have hG:aN Tryz.prog 257=some Tryz.f257:=by kernel_rfl
 refine aq (ak _) (lv:=fun _=>[]) (K:=1) rfl rfl ?_ M
 cases h1:(a==[48])<;>cases h2:(b==[48])<;>cases h3:(c==[48])<;>simp[aa,hG,Tryz.f257,h1,h2,h3]
noncomputable def n9(f:FuncId) (args:List AV):Option AV:=
 match f,args with
 |100,[.agg [.str a,.str b,.str c]]=>if a.length≤1000000000∧b.length≤1000000000∧c.length≤1000000000 then some (.int .i64 (tS [a,b,c])) else none
 |193,[.agg [.str a,.str b]]=>if a.length≤1000000000∧b.length≤1000000000 then some (.int .i64 (tS [a,b])) else none
 |257,[.agg [.str a,.str b,.str c]]=>some (.bool (a==[48]&&b==[48]&&c==[48]))
 |75,[.agg [.str a,.str b,.str c],.agg [.str d,.str e,.str f]]=>match dU a,dU b,dU c,dU d,dU e,dU f with
  |some a,some b,some c,some d,some e,some f=>if (au a.num.natAbs).length≤2999∧(au a.den).length≤2999∧(au b.num.natAbs).length≤2999∧(au b.den).length≤2999∧(au c.num.natAbs).length≤2999∧(au c.den).length≤2999∧
    (au d.num.natAbs).length≤2999∧(au d.den).length≤2999∧(au e.num.natAbs).length≤2999∧(au e.den).length≤2999∧(au f.num.natAbs).length≤2999∧(au f.den).length≤2999 then some (.str (aB (a*d+b*e+c*f))) else none
  |_,_,_,_,_,_=>none
 |_,_=>none
theorem cq{n:Nat}{q:Rat}(h:(au q.num.natAbs).length≤n∧(au q.den).length≤n):dg n n q:=by
 have h1:=cn q.num.natAbs
 have h2:=cn q.den
 have h3:10 ^ (au q.num.natAbs).length≤10 ^ n:=Nat.pow_le_pow_right (by omega) h.1
 have h4:10 ^ (au q.den).length≤10 ^ n:=Nat.pow_le_pow_right (by omega) h.2
 exact⟨by omega,by omega⟩
theorem vv:OracleOk Tryz.prog (ai n9):=bM fun f args v h mem=>by
 unfold n9 at h
 split at h
 ·split at h
  ·rename_i hc;cases h;exact jM _ _ _ hc.1 hc.2.1 hc.2.2 mem
  ·cases h
 ·split at h
  ·rename_i hc;cases h;exact kA _ _ hc.1 hc.2 mem
  ·cases h
 ·cases h;exact Ia _ _ _ mem
 ·split at h
  ·rename_i a b c d e f ha hb hc hd he hf
   split at h
   ·rename_i hcond
    obtain⟨c1,c2,c3,c4,c5,c6,c7,c8,c9,c10,c11,c12⟩:=hcond
    cases h
    rw[aD ha,aD hb,aD hc,aD hd,aD he,aD hf]
    exact KF (a,b,c) (d,e,f) ⟨(cq ⟨c1,c2⟩).mono (by omega) (by omega),(cq ⟨c3,c4⟩).mono (by omega) (by omega),(cq ⟨c5,c6⟩).mono (by omega) (by omega)⟩
     ⟨(cq ⟨c7,c8⟩).mono (by omega) (by omega),(cq ⟨c9,c10⟩).mono (by omega) (by omega),(cq ⟨c11,c12⟩).mono (by omega) (by omega)⟩ mem
   ·cases h
  ·cases h
 ·cases h
noncomputable def Ge:Oracle:=Oracle.or (ai n9) fG
theorem Gf:OracleOk Tryz.prog Ge:=OracleOk.or vv fb
end Go.Proofs
