/- See Q54. -/
import Derived.Test.YtgafjliihahjgaaGreatDoorQ14
import Derived.Test.YtgafjliihahjgaaGreatDoorQ16
import Derived.Test.YtgafjliihahjgaaGreatDoorQ08
set_option linter.all false
namespace Go.Proofs
open Go.Eng
theorem TM{ks:List Nat}{M:Mem}{b es:Nat}{o:Bool}{l cs:List AV}(hc:AV.closeds cs=true) (h:M[b]? =some (.cells o es l)) (ht:l.take cs.length=cs):SubSlot ks M b (.cells false es cs):=by
 refine⟨cK hc,o,l,h,fun j v hv=>?_⟩;have hj:=(List.getElem?_eq_some_iff.1 hv).1;have e:l[j]? =cs[j]? :=by rw[←List.getElem?_take_of_lt hj,ht]
 have hr:=bH (ρ:=ar ks M.length) hc;rw[fb] at hr;have hr2:(cs.map (AV.ren (ar ks M.length)))[j]? =cs[j]? :=by rw[hr]
 rw[List.getElem?_map,hv] at hr2;rw[e,hv];exact hr2.symm
theorem Kh{v:AV}{f:Nat→Option Nat}(h:v.closed=true):v.ren f=v:=by have:=bH (vs:=[v]) (ρ:=f) (by simp[AV.closeds,h]);simpa [AV.rens] using this
theorem rows1C{P:Program}{f:FuncId}{M:Mem}{b es n:Nat}{o:Bool}{l cs rest:List AV}{v:AV}(hc:AV.closeds cs=true) (hr:AV.closeds rest=true) (hv:v.closed=true) (hb:M[b]? =some (.cells o es l)) (ht:l.take cs.length=cs)
  (h:ACallsTo P f (.slice 0 0 n none::rest) [.cells false es cs] v [.cells false es cs]):ACallsTo P f (.slice b 0 n none::rest) M v M:=by
 have hlt:=(List.getElem?_eq_some_iff.1 hb).1;have hu:AV.unders [b].length (.slice 0 0 n none::rest)=true:=by
  show(decide (0<1)&&AV.unders 1 rest)=true
  rw[cK hr];rfl
 have:=ACallsTo.frame (M:=M) (new:=[]) [b] (m:=[.cells false es cs]) rfl (by simpa using hlt) hu (fun i s hs=>by
  cases i with
  |zero=>simp at hs;subst hs;exact TM hc hb ht
  |succ i=>simp at hs) rfl (by simpa using h)
 simpa [AV.rens,AV.ren,ar,bH hr,Kh hv] using this
def sC(L:List (List UInt8)):List AV:=L.map .str
theorem Ib(L:List (List UInt8)):(sC L).length=L.length:=by simp[sC]
theorem zC:∀L:List (List UInt8),AV.closeds (sC L)=true
 | []=>rfl
 |s::L=>by simp[sC,AV.closeds,AV.closed];exact zC L
def lP:List AV→Option (List (List UInt8))
 | []=>some []
 |.str a::l=>match lP l with
  |some r=>some (a::r)
  |none=>none
 |_=>none
theorem rD:∀{cs:List AV}{L:List (List UInt8)},lP cs=some L→cs=sC L
 | [],L,h=>by cases h;rfl
 |v::l,L,h=>by
  unfold lP at h;split at h
  ·rename_i h1;cases h1
  ·rename_i h1
   cases h1;split at h
   ·rename_i r hr
    cases h;rw[rD hr];rfl
   ·cases h
  ·cases h
def lO(M:Mem):AV→Option (List (List UInt8))
 |.slice b 0 n none=>match M[b]? with
  |some (.cells _ 1 cs)=>if n≤cs.length then lP (cs.take n) else none
  |_=>none
 |.nilslice=>some []
 |_=>none
theorem Kr{M:Mem}{x:AV}{L:List (List UInt8)}(h:lO M x=some L):(∃b o l,x=.slice b 0 L.length none∧M[b]? =some (.cells o 1 l)∧l.take L.length=sC L)∨(x=.nilslice∧L=[]):=by
 unfold lO at h;split at h
 ·rename_i b n
  split at h
  ·rename_i o cs hb
   split at h
   ·rename_i hn
    have hA:=rD h;have hl:n=L.length:=by have:=congrArg List.length hA;rw[Ib,List.length_take] at this;omega
    subst hl;exact .inl ⟨b,o,cs,rfl,hb,hA⟩
   ·cases h
  ·cases h
 ·cases h;exact .inr ⟨rfl,rfl⟩
 ·cases h
theorem RU{P:Program}{f:FuncId}{M:Mem}{x:AV}{L:List (List UInt8)}{rest:List AV}{v:AV}(hr:AV.closeds rest=true) (hv:v.closed=true) (hx:lO M x=some L)
  (h:ACallsTo P f (.slice 0 0 L.length none::rest) [.cells false 1 (sC L)] v [.cells false 1 (sC L)]) (h0:L=[]→ACallsTo P f (.nilslice::rest) M v M):ACallsTo P f (x::rest) M v M:=by
 rcases Kr hx with⟨b,o,l,rfl,hb,ht⟩ | ⟨rfl,hL⟩
 ·exact rows1C (zC L) hr hv hb (by rw[Ib];exact ht) h
 ·exact h0 hL
theorem TL{L:List (List UInt8)}{i:Nat}{s:List UInt8}(h:L[i]? =some s):(sC L)[i]? =some (.str s):=by simp[sC,h]
def tq:List (List UInt8)→Int
 | []=>0
 |s::l=>if u4 s=0 then tq l else u4 s
set_option maxHeartbeats 1600000 in
theorem ub{K:Nat}(L:List (List UInt8)) (hL:∀s∈L,s.length≤18) (hl:L.length≤1000000000) (hK:L.length<K) {b:Code}(hb:ax Tryz.f32=[b]):
  ∃F:Env→Bool→Env,∀env0 d,(ab env0 6=.slice 0 0 L.length none∧ab env0 7=.int .i64 L.length∧ab env0 8=.int .i64 0∧ab env0 2=.int .i64 0)→
   aT (aM Tryz.prog) (fun _=>[8]) (af aA) K 18 1 true (.loop b) ⟨env0,[.cells false 1 (sC L)],d⟩=some (if tq L=0 then .exit 0 else .ret,⟨F env0 d,[.cells false 1 (sC L)],d⟩)∧(tq L≠0→ab (F env0 d) 2=.int .i64 (tq L)):=by
 refine cg rfl (fun env0=>ab env0 6=.slice 0 0 L.length none∧ab env0 7=.int .i64 L.length∧ab env0 8=.int .i64 0∧ab env0 2=.int .i64 0) (fun _ env' =>tq L≠0→ab env' 2=.int .i64 (tq L)) ?_;rintro env0 d ⟨h6,h7,h8,h2⟩;simp[ax,aV,Tryz.f32] at hb;have hn:aI [8] (ad b) env0 ((8,.int .i64 ((0:Nat):Int))::env0)=aI [8] (ad b) env0 env0:=by simp[aI,h8]
 rw[←hn];refine cG (α:=Nat) (fun n=>⟨aI [8] (ad b) env0 ((8,.int .i64 (n:Int))::env0),[.cells false 1 (sC L)],d⟩) (fun n=>L.length-n) (fun n=>n≤L.length∧tq L=tq (L.drop n)) (if tq L=0 then .exit 0 else .ret) _ d _ (by split<;>simp) ?_ K 0 ⟨by omega,by rw[List.drop_zero]⟩ (by omega);rintro n ⟨hn1,he⟩;clear hn;subst hb;by_cases hlt:n<L.length
 ·obtain⟨s,hs⟩:∃s,L[n]? =some s:=⟨L[n],List.getElem?_eq_getElem hlt⟩
  have k1:=TL hs;have l1:=hL s (List.mem_of_getElem? hs);have hd:L.drop n=s::L.drop (n+1):=by rw[List.getElem?_eq_some_iff] at hs;obtain⟨h1,h2⟩:=hs;rw[←h2];exact List.drop_eq_getElem_cons h1
  rw[hd,tq] at he;have w1:IntKind.i64.wrap ((n:Int)+1)=((n+1:Nat):Int):=by rw[aj (by omega) (by omega)];omega
  by_cases c1:u4 s=0
  ·rw[if_pos c1] at he
   left;obtain⟨v,hv⟩:∃v,v=n+1:=⟨_,rfl⟩
   rw[←hv] at w1 he;refine⟨v,?_⟩;simp[h6,h7,hlt,af,aA,l1,c1,k1,w1];exact⟨⟨by omega,he⟩,by omega⟩
  ·rw[if_neg c1] at he
   right;rw[he];simp[h6,h7,hlt,af,aA,l1,c1,k1]
 ·right
  have e:L.drop n=[]:=List.drop_of_length_le (by omega);rw[e,tq] at he;rw[he];simp[h7,hlt]
theorem BZ(L:List (List UInt8)) (hL:∀s∈L,s.length≤18) (hl:L.length≤1000000000):
  ACallsTo Tryz.prog 32 [.slice 0 0 L.length none] [.cells false 1 (sC L)] (.int .i64 (tq L)) [.cells false 1 (sC L)]:=by
 have hG:aL Tryz.prog 32=some Tryz.f32:=by kernel_rfl
 obtain⟨b,hb⟩:∃b,ax Tryz.f32=[b]:=⟨_,rfl⟩
 obtain⟨F,hF⟩:=ub (K:=L.length+1) L hL hl (by omega) hb;simp[ax,aV,Tryz.f32] at hb;subst hb;refine aZ (lv:=(fun _=>[8])) (K:=(L.length+1)) bK ?_;by_cases hc:tq L=0
 ·rw[if_pos hc] at hF
  have hF1:=fun env0 d h=>(hF env0 d h).1
  clear hF;simp[aa,hG,Tryz.f32,hF1,hc]
 ·rw[if_neg hc] at hF
  have hF1:=fun env0 d h=>(hF env0 d h).1
  have hF3:=fun env0 d h=>(hF env0 d h).2 hc
  clear hF;simp[aa,hG,Tryz.f32,hF1,hF3]
theorem vW(M:Mem):ACallsTo Tryz.prog 32 [.nilslice] M (.int .i64 0) M:=by
 have hG:aL Tryz.prog 32=some Tryz.f32:=by kernel_rfl
 refine aq (ao _) (lv:=fun _=>[8]) (K:=1) rfl rfl ?_ M;simp[aa,hG,Tryz.f32,aB,dV]
def rT(Q:List Rat):List (List UInt8):=Q.map ah
def zJ(Q:List Rat) (s:Rat):Rat:=Q.foldl (·+·) s
def If:List Rat→Rat→Prop
 | [],_=>True
 |q::l,s=>fine s∧fine q∧If l (s+q)
set_option maxHeartbeats 1600000 in
theorem CJ{K:Nat}(Q:List Rat) (hQ:If Q 0) (hl:Q.length≤1000000000) (hK:Q.length<K) {b:Code}(hb:ax Tryz.f114=[b]):
  ∃F:Env→Bool→Env,∀env0 d,(ab env0 6=.slice 0 0 Q.length none∧ab env0 7=.int .i64 Q.length∧ab env0 8=.int .i64 0∧ab env0 3=.str [48])→
   aT (aM Tryz.prog) (fun _=>[3,8]) (af aA) K 17 1 true (.loop b) ⟨env0,[.cells false 1 (sC (rT Q))],d⟩=some (.exit 0,⟨F env0 d,[.cells false 1 (sC (rT Q))],d⟩)∧ab (F env0 d) 3=.str (ah (zJ Q 0)):=by
 refine cg rfl (fun env0=>ab env0 6=.slice 0 0 Q.length none∧ab env0 7=.int .i64 Q.length∧ab env0 8=.int .i64 0∧ab env0 3=.str [48]) (fun _ env' =>ab env' 3=.str (ah (zJ Q 0))) ?_;rintro env0 d ⟨h6,h7,h8,h3⟩;simp[ax,aV,Tryz.f114] at hb;have z:ah 0=[48]:=rfl;have hn:aI [3,8] (ad b) env0 ((3,.str (ah (zJ (Q.take 0) 0)))::(8,.int .i64 ((0:Nat):Int))::env0)=aI [3,8] (ad b) env0 env0:=by simp[aI,h8,h3,zJ,z]
 rw[←hn];refine cG (α:=Nat) (fun n=>⟨aI [3,8] (ad b) env0 ((3,.str (ah (zJ (Q.take n) 0)))::(8,.int .i64 (n:Int))::env0),[.cells false 1 (sC (rT Q))],d⟩) (fun n=>Q.length-n) (fun n=>n≤Q.length∧If (Q.drop n) (zJ (Q.take n) 0)) (.exit 0) _ d _ (by simp) ?_ K 0 ⟨by omega,by simpa [zJ] using hQ⟩ (by omega);rintro n ⟨hn1,he⟩;clear hn;subst hb;by_cases hlt:n<Q.length
 ·obtain⟨q,hq⟩:∃s,Q[n]? =some s:=⟨Q[n],List.getElem?_eq_getElem hlt⟩
  have k1:(sC (rT Q))[n]? =some (.str (ah q)):=by simp[sC,rT,hq]
  have hd:Q.drop n=q::Q.drop (n+1):=by rw[List.getElem?_eq_some_iff] at hq;obtain⟨h1,h2⟩:=hq;rw[←h2];exact List.drop_eq_getElem_cons h1
  have ht:zJ (Q.take (n+1)) 0=zJ (Q.take n) 0+q:=by rw[List.take_add_one,hq];simp[zJ]
  rw[hd,If,←ht] at he;obtain⟨⟨f1,f2⟩,⟨f3,f4⟩,he⟩:=he;have w1:IntKind.i64.wrap ((n:Int)+1)=((n+1:Nat):Int):=by rw[aj (by omega) (by omega)];omega
  left;obtain⟨v,hv⟩:∃v,v=n+1:=⟨_,rfl⟩
  rw[←hv] at w1 he ht;obtain⟨s,hs⟩:∃s,s=zJ (Q.take n) 0:=⟨_,rfl⟩
  rw[←hs] at f1 f2 ht ⊢;refine⟨v,?_⟩;simp[h6,h7,hlt,af,aA,aC,ay,f1,f2,f3,f4,k1,w1,ht];exact⟨⟨by omega,by rw[←ht];exact he⟩,by omega⟩
 ·right
  have e:Q.take n=Q:=List.take_of_length_le (by omega);rw[e];simp[h7,hlt]
theorem LN(Q:List Rat) (hQ:If Q 0) (hl:Q.length≤1000000000):
  ACallsTo Tryz.prog 114 [.slice 0 0 Q.length none] [.cells false 1 (sC (rT Q))] (.str (ah (zJ Q 0))) [.cells false 1 (sC (rT Q))]:=by
 have hG:aL Tryz.prog 114=some Tryz.f114:=by kernel_rfl
 obtain⟨b,hb⟩:∃b,ax Tryz.f114=[b]:=⟨_,rfl⟩
 obtain⟨F,hF⟩:=CJ (K:=Q.length+1) Q hQ hl (by omega) hb;simp[ax,aV,Tryz.f114] at hb;subst hb;refine aZ (lv:=(fun _=>[3,8])) (K:=(Q.length+1)) bK ?_;simp[aa,hG,Tryz.f114,hF]
def Dm:List (List UInt8)→Option (List Rat)
 | []=>some []
 |k::l=>match cV k,Dm l with
  |some a,some r=>some (a::r)
  |_,_=>none
theorem Bv:∀{L:List (List UInt8)}{Q:List Rat},Dm L=some Q→L=rT Q
 | [],Q,h=>by cases h;rfl
 |k::L,Q,h=>by
  unfold Dm at h;split at h
  ·rename_i a r h1 h3
   cases h;rw[Bv h3,au h1];rfl
  ·cases h
open Classical in
noncomputable def fG:Oracle:=fun c args M=>match c,args with
 |.fn 32,[x]=>match lO M x with
  |some L=>if (∀s∈L,s.length≤18)∧L.length≤1000000000 then some ⟨.int .i64 (tq L),none,[]⟩ else none
  |none=>none
 |.fn 114,[x]=>match lO M x with
  |some L=>match Dm L with
   |some Q=>if If Q 0∧Q≠[]∧Q.length≤1000000000 then some ⟨.str (ah (zJ Q 0)),none,[]⟩ else none
   |none=>none
  |none=>none
 |c,args=>af aA c args M
theorem eN:OracleOk Tryz.prog fG:=by
 refine cO fun c args M r h=>?_
 unfold fG at h;split at h
 ·split at h
  ·rename_i L hL
   split at h
   ·rename_i hc
    cases h;refine ag ?_;rw[List.append_nil];exact RU (rest:=[]) rfl rfl hL (BZ L hc.1 hc.2) (fun hL0=>by subst hL0;exact vW M)
   ·cases h
  ·cases h
 ·split at h
  ·rename_i L hL
   split at h
   ·rename_i Q hQ
    split at h
    ·rename_i hc
     cases h;refine ag ?_;rw[List.append_nil];have hLQ:=Bv hQ;subst hLQ;have:=LN Q hc.1 hc.2.2;have hlen:(rT Q).length=Q.length:=by simp[rT]
     rw[←hlen] at this;exact RU (rest:=[]) rfl rfl hL this (fun hL0=>by
      cases Q with
      |nil=>exact absurd rfl hc.2.1
      |cons q Q=>cases hL0)
    ·cases h
   ·cases h
  ·cases h
 ·exact iu bK h
theorem jZ(a b c:List UInt8) (ha:a.length≤18) (hb:b.length≤18) (hc:c.length≤18) (M:Mem):
  ACallsTo Tryz.prog 14 [.agg [.str a,.str b,.str c]] M (.int .i64 (tq [a,b,c])) M:=by
 have hG:aL Tryz.prog 14=some Tryz.f14:=by kernel_rfl
 refine aq eN (lv:=fun _=>[]) (K:=1) rfl rfl ?_ M;simp[aa,hG,Tryz.f14,fG,lO,lP,ha,hb,hc]
theorem lh(a b:List UInt8) (ha:a.length≤18) (hb:b.length≤18) (M:Mem):
  ACallsTo Tryz.prog 105 [.agg [.str a,.str b]] M (.int .i64 (tq [a,b])) M:=by
 have hG:aL Tryz.prog 105=some Tryz.f105:=by kernel_rfl
 refine aq eN (lv:=fun _=>[]) (K:=1) rfl rfl ?_ M;simp[aa,hG,Tryz.f105,fG,lO,lP,ha,hb]
abbrev V3:=Rat×Rat×Rat
def vA(v:V3):AV:=.agg [.str (ah v.1),.str (ah v.2.1),.str (ah v.2.2)]
def vDg(n:Nat) (v:V3):Prop:=dg n 1 v.1∧dg n 1 v.2.1∧dg n 1 v.2.2
def ei(a b:V3):Rat:=a.1*b.1+a.2.1*b.2.1+a.2.2*b.2.2
theorem cQ{n d:Nat}{q:Rat}(h:dg n d q) (hn:0<n) (hd:0<d) (h1:n≤9) (h2:d≤9):fine q:=by have:=h.lens hn hd;exact⟨by omega,by omega⟩
set_option maxHeartbeats 1600000 in
theorem Lr(a b:V3) (ha:vDg 2 a) (hb:vDg 2 b) (M:Mem):ACallsTo Tryz.prog 73 [vA a,vA b] M (.str (ah (ei a b))) M:=by
 have hG:aL Tryz.prog 73=some Tryz.f73:=by kernel_rfl
 obtain⟨a1,a2,a3⟩:=a;obtain⟨b1,b2,b3⟩:=b;obtain⟨A1,A2,A3⟩:=ha;obtain⟨B1,B2,B3⟩:=hb;simp only at A1 A2 A3 B1 B2 B3;have P1:=Ht A1 B1;have P2:=Ht A2 B2;have P3:=Ht A3 B3;have Z:dg 1 1 0:=⟨by decide,by decide⟩;have S1:=OZ Z P1 (m:=5) (by omega) (by omega);have S2:=OZ S1 P2 (m:=8) (by omega) (by omega);have hs:If [a1*b1,a2*b2,a3*b3] 0:=
  ⟨cQ Z (by omega) (by omega) (by omega) (by omega),cQ P1 (by omega) (by omega) (by omega) (by omega),cQ S1 (by omega) (by omega) (by omega) (by omega),cQ P2 (by omega) (by omega) (by omega) (by omega),
   cQ S2 (by omega) (by omega) (by omega) (by omega),cQ P3 (by omega) (by omega) (by omega) (by omega),trivial⟩
 have hsum:zJ [a1*b1,a2*b2,a3*b3] 0=a1*b1+a2*b2+a3*b3:=by simp[zJ,Rat.zero_add]
 obtain⟨f1,f2⟩:=cQ A1 (by omega) (by omega) (by omega) (by omega);obtain⟨f3,f4⟩:=cQ A2 (by omega) (by omega) (by omega) (by omega);obtain⟨f5,f6⟩:=cQ A3 (by omega) (by omega) (by omega) (by omega);obtain⟨g1,g2⟩:=cQ B1 (by omega) (by omega) (by omega) (by omega);obtain⟨g3,g4⟩:=cQ B2 (by omega) (by omega) (by omega) (by omega);obtain⟨g5,g6⟩:=cQ B3 (by omega) (by omega) (by omega) (by omega);clear P1 P2 P3 S1 S2 A1 A2 A3 B1 B2 B3 Z;unfold ei;simp only;obtain⟨p,hp⟩:∃p,p=a1*b1:=⟨_,rfl⟩
 obtain⟨q,hq⟩:∃p,p=a2*b2:=⟨_,rfl⟩
 obtain⟨r,hr⟩:∃p,p=a3*b3:=⟨_,rfl⟩
 rw[←hp,←hq,←hr] at hs hsum ⊢;refine aq eN (lv:=fun _=>[]) (K:=1) rfl rfl ?_ M;obtain⟨ops,hops⟩:∃ops,aE Tryz.f73=[ops]:=⟨_,rfl⟩
 have hbs:=cE hops (l:=[0,1,0,4,15,0,32,0,128,511,0,1024,0,4096,16383,32767,65535,131071]) (by kernel_rfl);have hba:JJ [0,1,0,4,15,0,32,0,128,511,0,1024,0,4096,16383,32767,65535,131071] 18 15=true:=by decide
 simp[aE,bC,Tryz.f73] at hops;subst hops;simp[aa,hG,Tryz.f73,-aD,jG hbs,kH,pY,yH,cj,hba,vA,fG,lO,lP,Dm,ay,af,aA,aC,f1,f2,f3,f4,f5,f6,g1,g2,g3,g4,g5,g6,←hp,←hq,←hr,hs,hsum,Nat.testBit]
theorem H4:ah 0=[48]:=rfl
theorem xm{a b:Rat}(h:ah a=ah b):a=b:=by have:=ay a;rw[h,ay] at this;exact(Option.some.inj this).symm
theorem qX{q:Rat}(h:dg 200 200 q):u4 (ah q)=0:=by unfold u4;rw[ay];exact if_pos (h.lens (by decide) (by decide))
theorem Pq{n d:Nat}{q:Rat}(h:dg n d q) (h0:0<n) (h1:0<d) (h2:n+d≤16):(ah q).length≤18:=by
 obtain⟨a,b⟩:=h.lens h0 h1;have:=ef q.num;unfold ah;split
 ·omega
 ·simp only[List.length_append,List.length_cons];omega
theorem vDg.mono{n m:Nat}{v:V3}(h:vDg n v) (hm:n≤m):vDg m v:=⟨h.1.mono hm (Nat.le_refl 1),h.2.1.mono hm (Nat.le_refl 1),h.2.2.mono hm (Nat.le_refl 1)⟩
theorem IY(a b c:List UInt8) (M:Mem):ACallsTo Tryz.prog 284 [.agg [.str a,.str b,.str c]] M (.bool (a==[48]&&b==[48]&&c==[48])) M:=by
 have hG:aL Tryz.prog 284=some Tryz.f284:=by kernel_rfl
 refine aq (ao _) (lv:=fun _=>[]) (K:=1) rfl rfl ?_ M;cases h1:(a==[48])<;>cases h2:(b==[48])<;>cases h3:(c==[48])<;>simp[aa,hG,Tryz.f284,h1,h2,h3]
noncomputable def od(f:FuncId) (args:List AV):Option AV:=
 match f,args with
 |14,[.agg [.str a,.str b,.str c]]=>if a.length≤18∧b.length≤18∧c.length≤18 then some (.int .i64 (tq [a,b,c])) else none
 |105,[.agg [.str a,.str b]]=>if a.length≤18∧b.length≤18 then some (.int .i64 (tq [a,b])) else none
 |284,[.agg [.str a,.str b,.str c]]=>some (.bool (a==[48]&&b==[48]&&c==[48]))
 |73,[.agg [.str a,.str b,.str c],.agg [.str d,.str e,.str f]]=>match cV a,cV b,cV c,cV d,cV e,cV f with
  |some a,some b,some c,some d,some e,some f=>if (aJ a.num.natAbs).length≤2∧(aJ a.den).length≤1∧(aJ b.num.natAbs).length≤2∧(aJ b.den).length≤1∧(aJ c.num.natAbs).length≤2∧(aJ c.den).length≤1∧
    (aJ d.num.natAbs).length≤2∧(aJ d.den).length≤1∧(aJ e.num.natAbs).length≤2∧(aJ e.den).length≤1∧(aJ f.num.natAbs).length≤2∧(aJ f.den).length≤1 then some (.str (ah (a*d+b*e+c*f))) else none
  |_,_,_,_,_,_=>none
 |_,_=>none
theorem cB{n d:Nat}{q:Rat}(h:(aJ q.num.natAbs).length≤n∧(aJ q.den).length≤d):dg n d q:=by have h1:=dJ q.num.natAbs;have h2:=dJ q.den;have h3:10 ^ (aJ q.num.natAbs).length≤10 ^ n:=Nat.pow_le_pow_right (by omega) h.1;have h4:10 ^ (aJ q.den).length≤10 ^ d:=Nat.pow_le_pow_right (by omega) h.2;exact⟨by omega,by omega⟩
theorem uY:OracleOk Tryz.prog (af od):=bq fun f args v h mem=>by
 unfold od at h;split at h
 ·split at h
  ·rename_i hc;cases h;exact jZ _ _ _ hc.1 hc.2.1 hc.2.2 mem
  ·cases h
 ·split at h
  ·rename_i hc;cases h;exact lh _ _ hc.1 hc.2 mem
  ·cases h
 ·cases h;exact IY _ _ _ mem
 ·split at h
  ·rename_i a b c d e f ha hb hc hd he hf
   split at h
   ·rename_i hcond
    obtain⟨c1,c2,c3,c4,c5,c6,c7,c8,c9,c10,c11,c12⟩:=hcond;cases h;rw[au ha,au hb,au hc,au hd,au he,au hf];exact Lr (a,b,c) (d,e,f) ⟨(cB ⟨c1,c2⟩).mono (by omega) (by omega),(cB ⟨c3,c4⟩).mono (by omega) (by omega),(cB ⟨c5,c6⟩).mono (by omega) (by omega)⟩
     ⟨(cB ⟨c7,c8⟩).mono (by omega) (by omega),(cB ⟨c9,c10⟩).mono (by omega) (by omega),(cB ⟨c11,c12⟩).mono (by omega) (by omega)⟩ mem
   ·cases h
  ·cases h
 ·cases h
noncomputable def GX:Oracle:=Oracle.or (af od) fG
theorem GY:OracleOk Tryz.prog GX:=OracleOk.or uY eN
end Go.Proofs
