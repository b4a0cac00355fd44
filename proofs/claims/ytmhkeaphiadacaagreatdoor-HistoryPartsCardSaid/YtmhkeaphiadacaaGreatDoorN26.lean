/- See N58. -/
import Derived.Test.YtmhkeaphiadacaaGreatDoorN20
import Derived.Test.YtmhkeaphiadacaaGreatDoorN11
import Derived.Test.YtmhkeaphiadacaaGreatDoorN22
import Derived.Test.YtmhkeaphiadacaaGreatDoorN10
import Derived.Test.YtmhkeaphiadacaaGreatDoorN09
set_option linter.all false
namespace Go.Proofs
open Go.Eng
theorem Rw{ks:List Nat}{M:Mem}{b es:Nat}{o:Bool}{l cs:List AV}(hc:AV.closeds cs=true) (h:M[b]? =some (.cells o es l)) (ht:l.take cs.length=cs):SubSlot ks M b (.cells false es cs):=by
 refine⟨cx hc,o,l,h,fun j v hv=>?_⟩
 have hj:=(List.getElem?_eq_some_iff.1 hv).1
 have e:l[j]? =cs[j]? :=by rw[←List.getElem?_take_of_lt hj,ht]
 have hr:=bu (ρ:=da ks M.length) hc
 rw[ft] at hr
 have hr2:(cs.map (AV.ren (da ks M.length)))[j]? =cs[j]? :=by rw[hr]
 rw[List.getElem?_map,hv] at hr2
 rw[e,hv];exact hr2.symm
theorem Jw{v:AV}{f:Nat→Option Nat}(h:v.closed=true):v.ren f=v:=by
 have:=bu (vs:=[v]) (ρ:=f) (by simp[AV.closeds,h])
 simpa [AV.rens] using this
theorem rows1C{P:Program}{f:FuncId}{M:Mem}{b es n:Nat}{o:Bool}{l cs rest:List AV}{v:AV}(hc:AV.closeds cs=true) (hr:AV.closeds rest=true) (hv:v.closed=true) (hb:M[b]? =some (.cells o es l)) (ht:l.take cs.length=cs)
  (h:ACallsTo P f (.slice 0 0 n none::rest) [.cells false es cs] v [.cells false es cs]):ACallsTo P f (.slice b 0 n none::rest) M v M:=by
 have hlt:=(List.getElem?_eq_some_iff.1 hb).1
 have hu:AV.unders [b].length (.slice 0 0 n none::rest)=true:=by
  show(decide (0<1)&&AV.unders 1 rest)=true
  rw[cx hr];rfl
 have:=ACallsTo.frame (M:=M) (new:=[]) [b] (m:=[.cells false es cs]) rfl (by simpa using hlt) hu (fun i s hs=>by
  cases i with
  |zero=>simp at hs;subst hs;exact Rw hc hb ht
  |succ i=>simp at hs) rfl (by simpa using h)
 simpa [AV.rens,AV.ren,da,bu hr,Jw hv] using this
def sC(L:List (List UInt8)):List AV:=L.map .str
theorem Hu(L:List (List UInt8)):(sC L).length=L.length:=by simp[sC]
theorem Ht:∀L:List (List UInt8),AV.closeds (sC L)=true
 | []=>rfl
 |s::L=>by simp[sC,AV.closeds,AV.closed];exact Ht L
theorem ul(n:Nat):∀L:List (List UInt8),AV.refsL n (sC L)=[]
 | []=>rfl
 |s::L=>by simp[sC,AV.refsL,AV.refs];exact ul n L
def ve:List AV→Option (List (List UInt8))
 | []=>some []
 |.str a::l=>match ve l with
  |some r=>some (a::r)
  |none=>none
 |_=>none
theorem zd:∀{cs:List AV}{L:List (List UInt8)},ve cs=some L→cs=sC L
 | [],L,h=>by cases h;rfl
 |v::l,L,h=>by
  unfold ve at h
  split at h
  ·rename_i h1;cases h1
  ·rename_i h1
   cases h1
   split at h
   ·rename_i r hr
    cases h
    rw[zd hr];rfl
   ·cases h
  ·cases h
def sM(M:Mem):AV→Option (List (List UInt8))
 |.slice b 0 n none=>match M[b]? with
  |some (.cells _ 1 cs)=>if n≤cs.length then ve (cs.take n) else none
  |_=>none
 |.nilslice=>some []
 |_=>none
theorem JG{M:Mem}{x:AV}{L:List (List UInt8)}(h:sM M x=some L):(∃b o l,x=.slice b 0 L.length none∧M[b]? =some (.cells o 1 l)∧l.take L.length=sC L)∨(x=.nilslice∧L=[]):=by
 unfold sM at h
 split at h
 ·rename_i b n
  split at h
  ·rename_i o cs hb
   split at h
   ·rename_i hn
    have hA:=zd h
    have hl:n=L.length:=by
     have:=congrArg List.length hA
     rw[Hu,List.length_take] at this
     omega
    subst hl
    exact .inl ⟨b,o,cs,rfl,hb,hA⟩
   ·cases h
  ·cases h
 ·cases h;exact .inr ⟨rfl,rfl⟩
 ·cases h
theorem PY{P:Program}{f:FuncId}{M:Mem}{x:AV}{L:List (List UInt8)}{rest:List AV}{v:AV}(hr:AV.closeds rest=true) (hv:v.closed=true) (hx:sM M x=some L)
  (h:ACallsTo P f (.slice 0 0 L.length none::rest) [.cells false 1 (sC L)] v [.cells false 1 (sC L)]) (h0:L=[]→ACallsTo P f (.nilslice::rest) M v M):ACallsTo P f (x::rest) M v M:=by
 rcases JG hx with⟨b,o,l,rfl,hb,ht⟩ | ⟨rfl,hL⟩
 ·exact rows1C (Ht L) hr hv hb (by rw[Hu];exact ht) h
 ·exact h0 hL
theorem Rp{L:List (List UInt8)}{i:Nat}{s:List UInt8}(h:L[i]? =some s):(sC L)[i]? =some (.str s):=by simp[sC,h]
def u5:List (List UInt8)→Int
 | []=>0
 |s::l=>if vZ s=0 then u5 l else vZ s
set_option maxHeartbeats 1600000 in
theorem tM{K:Nat}(L:List (List UInt8)) (hL:∀s∈L,s.length≤18) (hl:L.length≤1000000000) (hK:L.length<K) {b:Code}(hb:am Tryz.f89=[b]):
  ∃F:Env→Bool→Env,∀env0 d,(ac env0 6=.slice 0 0 L.length none∧ac env0 7=.int .i64 L.length∧ac env0 8=.int .i64 0∧ac env0 2=.int .i64 0)→
   aO (az Tryz.prog) (fun _=>[8]) (ao bh) K 18 1 true (.loop b) ⟨env0,[.cells false 1 (sC L)],d⟩=some (if u5 L=0 then .exit 0 else .ret,⟨F env0 d,[.cells false 1 (sC L)],d⟩)∧(u5 L≠0→ac (F env0 d) 2=.int .i64 (u5 L)):=by
 refine bD rfl (fun env0=>ac env0 6=.slice 0 0 L.length none∧ac env0 7=.int .i64 L.length∧ac env0 8=.int .i64 0∧ac env0 2=.int .i64 0) (fun _ env' =>u5 L≠0→ac env' 2=.int .i64 (u5 L)) ?_
 rintro env0 d ⟨h6,h7,h8,h2⟩
 simp[am,aJ,Tryz.f89] at hb
 have hn:ay [8] (ad b) env0 ((8,.int .i64 ((0:Nat):Int))::env0)=ay [8] (ad b) env0 env0:=by simp[ay,h8]
 rw[←hn]
 refine bR (α:=Nat) (fun n=>⟨ay [8] (ad b) env0 ((8,.int .i64 (n:Int))::env0),[.cells false 1 (sC L)],d⟩) (fun n=>L.length-n) (fun n=>n≤L.length∧u5 L=u5 (L.drop n)) (if u5 L=0 then .exit 0 else .ret) _ d _ (by split<;>simp) ?_ K 0 ⟨by omega,by rw[List.drop_zero]⟩ (by omega)
 rintro n ⟨hn1,he⟩
 clear hn
 subst hb
 by_cases hlt:n<L.length
 ·obtain⟨s,hs⟩:∃s,L[n]? =some s:=⟨L[n],List.getElem?_eq_getElem hlt⟩
  have k1:=Rp hs
  have l1:=hL s (List.mem_of_getElem? hs)
  have hd:L.drop n=s::L.drop (n+1):=by
   rw[List.getElem?_eq_some_iff] at hs
   obtain⟨h1,h2⟩:=hs
   rw[←h2];exact List.drop_eq_getElem_cons h1
  rw[hd,u5] at he
  have w1:IntKind.i64.wrap ((n:Int)+1)=((n+1:Nat):Int):=by rw[al (by omega) (by omega)];omega
  by_cases c1:vZ s=0
  ·rw[if_pos c1] at he
   left
   obtain⟨v,hv⟩:∃v,v=n+1:=⟨_,rfl⟩
   rw[←hv] at w1 he
   refine⟨v,?_⟩
   simp[h6,h7,hlt,ao,bh,l1,c1,k1,w1,ul]
   exact⟨⟨by omega,he⟩,by omega⟩
  ·rw[if_neg c1] at he
   right
   rw[he]
   simp[h6,h7,hlt,ao,bh,l1,c1,k1]
 ·right
  have e:L.drop n=[]:=List.drop_of_length_le (by omega)
  rw[e,u5] at he
  rw[he]
  simp[h7,hlt]
theorem Bt(L:List (List UInt8)) (hL:∀s∈L,s.length≤18) (hl:L.length≤1000000000):
  ACallsTo Tryz.prog 89 [.slice 0 0 L.length none] [.cells false 1 (sC L)] (.int .i64 (u5 L)) [.cells false 1 (sC L)]:=by
 have hG:aI Tryz.prog 89=some Tryz.f89:=by kernel_rfl
 obtain⟨b,hb⟩:∃b,am Tryz.f89=[b]:=⟨_,rfl⟩
 obtain⟨F,hF⟩:=tM (K:=L.length+1) L hL hl (by omega) hb
 simp[am,aJ,Tryz.f89] at hb
 subst hb
 have h:ab (az Tryz.prog) (fun _=>[8]) (aI Tryz.prog) (ao bh) (L.length+1) 89 [.slice 0 0 L.length none] [.cells false 1 (sC L)]=some ⟨.int .i64 (u5 L),none,[]⟩:=by
  by_cases hc:u5 L=0
  ·rw[if_pos hc] at hF
   have hF1:=fun env0 d h=>(hF env0 d h).1
   clear hF
   simp[ab,hG,Tryz.f89,hF1,ul,hc]
  ·rw[if_neg hc] at hF
   have hF1:=fun env0 d h=>(hF env0 d h).1
   have hF3:=fun env0 d h=>(hF env0 d h).2 hc
   clear hF
   simp[ab,hG,Tryz.f89,hF1,hF3,ul]
 have:=(ae aa (ai _) dF (aj _) h).1
 simpa [CallRes.mem] using this
theorem vv(M:Mem):ACallsTo Tryz.prog 89 [.nilslice] M (.int .i64 0) M:=by
 have hG:aI Tryz.prog 89=some Tryz.f89:=by kernel_rfl
 refine aw (af _) (lv:=fun _=>[8]) (K:=1) rfl rfl ?_ M
 simp[ab,hG,Tryz.f89,aC,dS]
def rT(Q:List Rat):List (List UInt8):=Q.map aN
def HK(Q:List Rat) (s:Rat):Rat:=Q.foldl (·+·) s
def JI:List Rat→Rat→Prop
 | [],_=>True
 |q::l,s=>HH s∧HH q∧JI l (s+q)
set_option maxHeartbeats 1600000 in
theorem B5{K:Nat}(Q:List Rat) (hQ:JI Q 0) (hl:Q.length≤1000000000) (hK:Q.length<K) {b:Code}(hb:am Tryz.f181=[b]):
  ∃F:Env→Bool→Env,∀env0 d,(ac env0 6=.slice 0 0 Q.length none∧ac env0 7=.int .i64 Q.length∧ac env0 8=.int .i64 0∧ac env0 3=.str [48])→
   aO (az Tryz.prog) (fun _=>[3,8]) (ao bh) K 17 1 true (.loop b) ⟨env0,[.cells false 1 (sC (rT Q))],d⟩=some (.exit 0,⟨F env0 d,[.cells false 1 (sC (rT Q))],d⟩)∧ac (F env0 d) 3=.str (aN (HK Q 0)):=by
 refine bD rfl (fun env0=>ac env0 6=.slice 0 0 Q.length none∧ac env0 7=.int .i64 Q.length∧ac env0 8=.int .i64 0∧ac env0 3=.str [48]) (fun _ env' =>ac env' 3=.str (aN (HK Q 0))) ?_
 rintro env0 d ⟨h6,h7,h8,h3⟩
 simp[am,aJ,Tryz.f181] at hb
 have z:aN 0=[48]:=rfl
 have hn:ay [3,8] (ad b) env0 ((3,.str (aN (HK (Q.take 0) 0)))::(8,.int .i64 ((0:Nat):Int))::env0)=ay [3,8] (ad b) env0 env0:=by simp[ay,h8,h3,HK,z]
 rw[←hn]
 refine bR (α:=Nat) (fun n=>⟨ay [3,8] (ad b) env0 ((3,.str (aN (HK (Q.take n) 0)))::(8,.int .i64 (n:Int))::env0),[.cells false 1 (sC (rT Q))],d⟩) (fun n=>Q.length-n) (fun n=>n≤Q.length∧JI (Q.drop n) (HK (Q.take n) 0)) (.exit 0) _ d _ (by simp) ?_ K 0 ⟨by omega,by simpa [HK] using hQ⟩ (by omega)
 rintro n ⟨hn1,he⟩
 clear hn
 subst hb
 by_cases hlt:n<Q.length
 ·obtain⟨q,hq⟩:∃s,Q[n]? =some s:=⟨Q[n],List.getElem?_eq_getElem hlt⟩
  have k1:(sC (rT Q))[n]? =some (.str (aN q)):=by simp[sC,rT,hq]
  have hd:Q.drop n=q::Q.drop (n+1):=by
   rw[List.getElem?_eq_some_iff] at hq
   obtain⟨h1,h2⟩:=hq
   rw[←h2];exact List.drop_eq_getElem_cons h1
  have ht:HK (Q.take (n+1)) 0=HK (Q.take n) 0+q:=by
   rw[List.take_add_one,hq];simp[HK]
  rw[hd,JI,←ht] at he
  obtain⟨⟨f1,f2⟩,⟨f3,f4⟩,he⟩:=he
  have w1:IntKind.i64.wrap ((n:Int)+1)=((n+1:Nat):Int):=by rw[al (by omega) (by omega)];omega
  left
  obtain⟨v,hv⟩:∃v,v=n+1:=⟨_,rfl⟩
  rw[←hv] at w1 he ht
  obtain⟨s,hs⟩:∃s,s=HK (Q.take n) 0:=⟨_,rfl⟩
  rw[←hs] at f1 f2 ht ⊢
  refine⟨v,?_⟩
  simp[h6,h7,hlt,ao,bh,bn,aR,f1,f2,f3,f4,k1,w1,ht,ul]
  exact⟨⟨by omega,by rw[←ht];exact he⟩,by omega⟩
 ·right
  have e:Q.take n=Q:=List.take_of_length_le (by omega)
  rw[e]
  simp[h7,hlt]
theorem KL(Q:List Rat) (hQ:JI Q 0) (hl:Q.length≤1000000000):
  ACallsTo Tryz.prog 181 [.slice 0 0 Q.length none] [.cells false 1 (sC (rT Q))] (.str (aN (HK Q 0))) [.cells false 1 (sC (rT Q))]:=by
 have hG:aI Tryz.prog 181=some Tryz.f181:=by kernel_rfl
 obtain⟨b,hb⟩:∃b,am Tryz.f181=[b]:=⟨_,rfl⟩
 obtain⟨F,hF⟩:=B5 (K:=Q.length+1) Q hQ hl (by omega) hb
 simp[am,aJ,Tryz.f181] at hb
 subst hb
 have h:ab (az Tryz.prog) (fun _=>[3,8]) (aI Tryz.prog) (ao bh) (Q.length+1) 181 [.slice 0 0 Q.length none] [.cells false 1 (sC (rT Q))]=some ⟨.str (aN (HK Q 0)),none,[]⟩:=by
  simp[ab,hG,Tryz.f181,hF,ul]
 have:=(ae aa (ai _) dF (aj _) h).1
 simpa [CallRes.mem] using this
def NS:List (List UInt8)→Option (List Rat)
 | []=>some []
 |k::l=>match dE k,NS l with
  |some a,some r=>some (a::r)
  |_,_=>none
theorem AZ:∀{L:List (List UInt8)}{Q:List Rat},NS L=some Q→L=rT Q
 | [],Q,h=>by cases h;rfl
 |k::L,Q,h=>by
  unfold NS at h
  split at h
  ·rename_i a r h1 h3
   cases h
   rw[AZ h3,au h1];rfl
  ·cases h
open Classical in
noncomputable def jk:Oracle:=fun c args M=>match c,args with
 |.fn 89,[x]=>match sM M x with
  |some L=>if (∀s∈L,s.length≤18)∧L.length≤1000000000 then some ⟨.int .i64 (u5 L),none,[]⟩ else none
  |none=>none
 |.fn 181,[x]=>match sM M x with
  |some L=>match NS L with
   |some Q=>if JI Q 0∧Q≠[]∧Q.length≤1000000000 then some ⟨.str (aN (HK Q 0)),none,[]⟩ else none
   |none=>none
  |none=>none
 |c,args=>ao bh c args M
theorem kj:OracleOk Tryz.prog jk:=by
 refine cO fun c args M r h=>?_
 unfold jk at h
 split at h
 ·split at h
  ·rename_i L hL
   split at h
   ·rename_i hc
    cases h
    refine ap ?_
    rw[List.append_nil]
    exact PY (rest:=[]) rfl rfl hL (Bt L hc.1 hc.2) (fun hL0=>by subst hL0;exact vv M)
   ·cases h
  ·cases h
 ·split at h
  ·rename_i L hL
   split at h
   ·rename_i Q hQ
    split at h
    ·rename_i hc
     cases h
     refine ap ?_
     rw[List.append_nil]
     have hLQ:=AZ hQ
     subst hLQ
     have:=KL Q hc.1 hc.2.2
     have hlen:(rT Q).length=Q.length:=by simp[rT]
     rw[←hlen] at this
     exact PY (rest:=[]) rfl rfl hL this (fun hL0=>by
      cases Q with
      |nil=>exact absurd rfl hc.2.1
      |cons q Q=>cases hL0)
    ·cases h
   ·cases h
  ·cases h
 ·exact gT dF h
theorem uy(a b c:List UInt8) (ha:a.length≤18) (hb:b.length≤18) (hc:c.length≤18) (M:Mem):
  ACallsTo Tryz.prog 53 [.agg [.str a,.str b,.str c]] M (.int .i64 (u5 [a,b,c])) M:=by
 have hG:aI Tryz.prog 53=some Tryz.f53:=by kernel_rfl
 refine aw kj (lv:=fun _=>[]) (K:=1) rfl rfl ?_ M
 simp[ab,hG,Tryz.f53,jk,sM,ve,ha,hb,hc]
theorem lf(a b:List UInt8) (ha:a.length≤18) (hb:b.length≤18) (M:Mem):
  ACallsTo Tryz.prog 75 [.agg [.str a,.str b]] M (.int .i64 (u5 [a,b])) M:=by
 have hG:aI Tryz.prog 75=some Tryz.f75:=by kernel_rfl
 refine aw kj (lv:=fun _=>[]) (K:=1) rfl rfl ?_ M
 simp[ab,hG,Tryz.f75,jk,sM,ve,ha,hb]
abbrev V3:=Rat×Rat×Rat
def vA(v:V3):AV:=.agg [.str (aN v.1),.str (aN v.2.1),.str (aN v.2.2)]
def vDg(n:Nat) (v:V3):Prop:=dg n 1 v.1∧dg n 1 v.2.1∧dg n 1 v.2.2
def Ru(a b:V3):Rat:=a.1*b.1+a.2.1*b.2.1+a.2.2*b.2.2
theorem cI{n d:Nat}{q:Rat}(h:dg n d q) (hn:0<n) (hd:0<d) (h1:n≤9) (h2:d≤9):HH q:=by
 have:=h.lens hn hd
 exact⟨by omega,by omega⟩
set_option maxHeartbeats 1600000 in
theorem Kt(a b:V3) (ha:vDg 2 a) (hb:vDg 2 b) (M:Mem):ACallsTo Tryz.prog 206 [vA a,vA b] M (.str (aN (Ru a b))) M:=by
 have hG:aI Tryz.prog 206=some Tryz.f206:=by kernel_rfl
 obtain⟨a1,a2,a3⟩:=a
 obtain⟨b1,b2,b3⟩:=b
 obtain⟨A1,A2,A3⟩:=ha
 obtain⟨B1,B2,B3⟩:=hb
 simp only at A1 A2 A3 B1 B2 B3
 have P1:=GP A1 B1
 have P2:=GP A2 B2
 have P3:=GP A3 B3
 have Z:dg 1 1 0:=⟨by decide,by decide⟩
 have S1:=Nc Z P1 (m:=5) (by omega) (by omega)
 have S2:=Nc S1 P2 (m:=8) (by omega) (by omega)
 have hs:JI [a1*b1,a2*b2,a3*b3] 0:=
  ⟨cI Z (by omega) (by omega) (by omega) (by omega),cI P1 (by omega) (by omega) (by omega) (by omega),cI S1 (by omega) (by omega) (by omega) (by omega),cI P2 (by omega) (by omega) (by omega) (by omega),
   cI S2 (by omega) (by omega) (by omega) (by omega),cI P3 (by omega) (by omega) (by omega) (by omega),trivial⟩
 have hsum:HK [a1*b1,a2*b2,a3*b3] 0=a1*b1+a2*b2+a3*b3:=by simp[HK,Rat.zero_add]
 obtain⟨f1,f2⟩:=cI A1 (by omega) (by omega) (by omega) (by omega)
 obtain⟨f3,f4⟩:=cI A2 (by omega) (by omega) (by omega) (by omega)
 obtain⟨f5,f6⟩:=cI A3 (by omega) (by omega) (by omega) (by omega)
 obtain⟨g1,g2⟩:=cI B1 (by omega) (by omega) (by omega) (by omega)
 obtain⟨g3,g4⟩:=cI B2 (by omega) (by omega) (by omega) (by omega)
 obtain⟨g5,g6⟩:=cI B3 (by omega) (by omega) (by omega) (by omega)
 clear P1 P2 P3 S1 S2 A1 A2 A3 B1 B2 B3 Z
 unfold Ru
 simp only
 obtain⟨p,hp⟩:∃p,p=a1*b1:=⟨_,rfl⟩
 obtain⟨q,hq⟩:∃p,p=a2*b2:=⟨_,rfl⟩
 obtain⟨r,hr⟩:∃p,p=a3*b3:=⟨_,rfl⟩
 rw[←hp,←hq,←hr] at hs hsum ⊢
 refine aw kj (lv:=fun _=>[]) (K:=1) rfl rfl ?_ M
 obtain⟨ops,hops⟩:∃ops,aG Tryz.f206=[ops]:=⟨_,rfl⟩
 have hbs:=lQ hops (l:=[0,1,0,4,15,0,32,0,128,511,0,1024,0,4096,16383,32767,65535,131071]) (by kernel_rfl)
 have hba:Qj [0,1,0,4,15,0,32,0,128,511,0,1024,0,4096,16383,32767,65535,131071] 18 15=true:=by decide
 simp[aG,bC,Tryz.f206] at hops
 subst hops
 simp[ab,hG,Tryz.f206,-aF,JA hbs,wK,Ay,M4,cf,hba,vA,jk,sM,ve,NS,aR,ao,bh,bn,f1,f2,f3,f4,f5,f6,g1,g2,g3,g4,g5,g6,←hp,←hq,←hr,hs,hsum,Nat.testBit]
theorem Hm:aN 0=[48]:=rfl
theorem wI{a b:Rat}(h:aN a=aN b):a=b:=by
 have:=aR a
 rw[h,aR] at this
 exact(Option.some.inj this).symm
theorem tX{q:Rat}(h:dg 200 200 q):vZ (aN q)=0:=by
 unfold vZ
 rw[aR]
 exact if_pos (h.lens (by decide) (by decide))
theorem PV{n d:Nat}{q:Rat}(h:dg n d q) (h0:0<n) (h1:0<d) (h2:n+d≤16):(aN q).length≤18:=by
 obtain⟨a,b⟩:=h.lens h0 h1
 have:=ez q.num
 unfold aN
 split
 ·omega
 ·simp only[List.length_append,List.length_cons];omega
theorem vDg.mono{n m:Nat}{v:V3}(h:vDg n v) (hm:n≤m):vDg m v:=⟨h.1.mono hm (Nat.le_refl 1),h.2.1.mono hm (Nat.le_refl 1),h.2.2.mono hm (Nat.le_refl 1)⟩
theorem Ib(a b c:List UInt8) (M:Mem):ACallsTo Tryz.prog 239 [.agg [.str a,.str b,.str c]] M (.bool (a==[48]&&b==[48]&&c==[48])) M:=by
 have hG:aI Tryz.prog 239=some Tryz.f239:=by kernel_rfl
 refine aw (af _) (lv:=fun _=>[]) (K:=1) rfl rfl ?_ M
 cases h1:(a==[48])<;>cases h2:(b==[48])<;>cases h3:(c==[48])<;>simp[ab,hG,Tryz.f239,h1,h2,h3]
noncomputable def oC(f:FuncId) (args:List AV):Option AV:=
 match f,args with
 |53,[.agg [.str a,.str b,.str c]]=>if a.length≤18∧b.length≤18∧c.length≤18 then some (.int .i64 (u5 [a,b,c])) else none
 |75,[.agg [.str a,.str b]]=>if a.length≤18∧b.length≤18 then some (.int .i64 (u5 [a,b])) else none
 |239,[.agg [.str a,.str b,.str c]]=>some (.bool (a==[48]&&b==[48]&&c==[48]))
 |206,[.agg [.str a,.str b,.str c],.agg [.str d,.str e,.str f]]=>match dE a,dE b,dE c,dE d,dE e,dE f with
  |some a,some b,some c,some d,some e,some f=>if (aK a.num.natAbs).length≤2∧(aK a.den).length≤1∧(aK b.num.natAbs).length≤2∧(aK b.den).length≤1∧(aK c.num.natAbs).length≤2∧(aK c.den).length≤1∧
    (aK d.num.natAbs).length≤2∧(aK d.den).length≤1∧(aK e.num.natAbs).length≤2∧(aK e.den).length≤1∧(aK f.num.natAbs).length≤2∧(aK f.den).length≤1 then some (.str (aN (a*d+b*e+c*f))) else none
  |_,_,_,_,_,_=>none
 |_,_=>none
theorem ci{n d:Nat}{q:Rat}(h:(aK q.num.natAbs).length≤n∧(aK q.den).length≤d):dg n d q:=by
 have h1:=dA q.num.natAbs
 have h2:=dA q.den
 have h3:10 ^ (aK q.num.natAbs).length≤10 ^ n:=Nat.pow_le_pow_right (by omega) h.1
 have h4:10 ^ (aK q.den).length≤10 ^ d:=Nat.pow_le_pow_right (by omega) h.2
 exact⟨by omega,by omega⟩
theorem uF:OracleOk Tryz.prog (ao oC):=bN fun f args v h mem=>by
 unfold oC at h
 split at h
 ·split at h
  ·rename_i hc;cases h;exact uy _ _ _ hc.1 hc.2.1 hc.2.2 mem
  ·cases h
 ·split at h
  ·rename_i hc;cases h;exact lf _ _ hc.1 hc.2 mem
  ·cases h
 ·cases h;exact Ib _ _ _ mem
 ·split at h
  ·rename_i a b c d e f ha hb hc hd he hf
   split at h
   ·rename_i hcond
    obtain⟨c1,c2,c3,c4,c5,c6,c7,c8,c9,c10,c11,c12⟩:=hcond
    cases h
    rw[au ha,au hb,au hc,au hd,au he,au hf]
    exact Kt (a,b,c) (d,e,f) ⟨(ci ⟨c1,c2⟩).mono (by omega) (by omega),(ci ⟨c3,c4⟩).mono (by omega) (by omega),(ci ⟨c5,c6⟩).mono (by omega) (by omega)⟩
     ⟨(ci ⟨c7,c8⟩).mono (by omega) (by omega),(ci ⟨c9,c10⟩).mono (by omega) (by omega),(ci ⟨c11,c12⟩).mono (by omega) (by omega)⟩ mem
   ·cases h
  ·cases h
 ·cases h
noncomputable def Gj:Oracle:=Oracle.or (ao oC) jk
theorem Gk:OracleOk Tryz.prog Gj:=OracleOk.or uF kj
end Go.Proofs
