/- See R54. -/
import Derived.Test.YtgafjliihahjgaaGreatDoorR14
import Derived.Test.YtgafjliihahjgaaGreatDoorR16
import Derived.Test.YtgafjliihahjgaaGreatDoorR08
set_option linter.all false
set_option maxRecDepth 100000
set_option maxHeartbeats 40000000
namespace Go.Proofs
open Go.Eng
open Tryz
variable{M:Mem}{b es:Nat}{cs l:List AV}{o:Bool}
theorem XM{ks:List Nat}(hc:AV.aeG cs=true)(h:M[b]? =some (.cells o es l))(ht:l.take cs.length=cs):so ks M b (.cells false es cs):=by
 refine⟨cH hc,o,l,h,fun j v hv=>?_⟩;have hj:=(gL hv);have e:l[j]? =cs[j]? :=by rw[←List.getElem?_take_of_lt hj,ht]
 have hr:=bQ (ρ:=aF ks M.length) hc;rw[fV] at hr;have Yc:(cs.map (AV.ren (aF ks M.length)))[j]? =cs[j]? :=by rw[hr]
 rw[List.getElem?_map,hv] at Yc;rw[e,hv];exact Yc.symm
variable{v:AV}
theorem MN{f:Nat→Option Nat}(h:v.closed=true):v.ren f=v:=by have:=bQ (vs:=[v]) (ρ:=f) (by simp[AV.aeG,h]);simpa [AV.aeM] using this
variable{P:Program}{f:FuncId}{n:Nat}{rest:List AV}
theorem afL(hc:AV.aeG cs=true)(hr:AV.aeG rest=true)(hv:v.closed=true)(hb:M[b]? =some (.cells o es l))(ht:l.take cs.length=cs)(h:kF P f (.slice 0 0 n none::rest) [.cells false es cs] v [.cells false es cs]):kF P f (.slice b 0 n none::rest) M v M:=by
 have A':=(gL hb);have hu:AV.aeQ [b].length (.slice 0 0 n none::rest)=true:=by
  show(decide (0<1)&&AV.aeQ 1 rest)=true
  rw[cH hr];rfl
 have:=kF.frame (M:=M) (new:=[]) [b] (m:=[.cells false es cs]) rfl (by simpa using A') hu (fun i s hs=>by
  cases i with
  |zero=>simp at hs;subst hs;exact XM hc hb ht
  |succ i=>simp at hs) rfl (by simpa using h)
 simpa [AV.aeM,AV.ren,aF,bQ hr,MN hv] using this
def sC(L:List (List UInt8)):List AV:=L.map .str
theorem KI(L:List (List UInt8)):(sC L).length=L.length:=by simp[sC]
theorem KH:∀L:List (List UInt8),AV.aeG (sC L)=true
 | []=>rfl
 |s::L=>by simp[sC,AV.aeG,AV.closed];exact KH L
def oO:List AV→Option (List (List UInt8))
 | []=>some []
 |.str a::l=>match oO l with
  |some r=>some (a::r)
  |none=>none
 |_=>none
theorem BA:∀{cs:List AV}{L:List (List UInt8)},oO cs=some L→cs=sC L
 | [],L,h=>by cases h;rfl
 |v::l,L,h=>by
  unfold oO at h;split at h
  ·rename_i h1;cases h1
  ·rename_i h1
   cases h1;split at h
   ·rename_i r hr
    cases h;rw[BA hr];rfl
   ·cases h
  ·cases h
def nu(M:Mem):AV→Option (List (List UInt8))
 |.slice b 0 n none=>match M[b]? with
  |some (.cells _ 1 cs)=>if n≤cs.length then oO (cs.take n) else none
  |_=>none
 |.kK=>some []
 |_=>none
variable{L:List (List UInt8)}{x:AV}
theorem MW(h:nu M x=some L):(∃b o l,x=.slice b 0 L.length none∧M[b]? =some (.cells o 1 l)∧l.take L.length=sC L)∨(x=.kK∧L=[]):=by
 unfold nu at h;split at h
 ·rename_i b n
  split at h
  ·rename_i o cs hb
   split at h
   ·rename_i hn
    have hA:=BA h;have hl:n=L.length:=by have:=congrArg List.length hA;rw[KI,List.length_take] at this;omega
    subst hl;exact .inl ⟨b,o,cs,rfl,hb,hA⟩
   ·cases h
  ·cases h
 ·cases h;exact .inr ⟨rfl,rfl⟩
 ·cases h
theorem Vw(hr:AV.aeG rest=true)(hv:v.closed=true)(hx:nu M x=some L)(h:kF P f (.slice 0 0 L.length none::rest) [.cells false 1 (sC L)] v [.cells false 1 (sC L)])(h0:L=[]→kF P f (.kK::rest) M v M):kF P f (x::rest) M v M:=by
 rcases MW hx with⟨b,o,l,rfl,hb,ht⟩ | ⟨rfl,hL⟩
 ·exact afL (KH L) hr hv hb (by rw[KI];exact ht) h
 ·exact h0 hL
theorem XD{i:Nat}{s:List UInt8}(h:L[i]? =some s):(sC L)[i]? =some (.str s):=by simp[sC,h]
def vw:List (List UInt8)→Int
 | []=>0
 |s::l=>if xk s=0 then vw l else xk s
variable{K:Nat}
theorem wg(L:List (List UInt8))(hL:∀s∈L,s.length≤18)(hl:L.length≤1000000000)(hK:L.length<K){b:Code}(hb:ai f32=[b]):
  ∃F:Env→Bool→Env,∀z' d,(ab z' 6=.slice 0 0 L.length none∧ab z' 7=.int .i64 L.length∧ab z' 8=.int .i64 0∧ab z' 2=.int .i64 0)→
   aN (aM prog) (fun _=>[8]) (ag ao) K 18 1 true (.loop b) ⟨z',[.cells false 1 (sC L)],d⟩=some (if vw L=0 then .exit 0 else .ret,⟨F z' d,[.cells false 1 (sC L)],d⟩)∧(vw L≠0→ab (F z' d) 2=.int .i64 (vw L)):=by
 refine cv rfl (fun z'=>ab z' 6=.slice 0 0 L.length none∧ab z' 7=.int .i64 L.length∧ab z' 8=.int .i64 0∧ab z' 2=.int .i64 0) (fun _ AC =>vw L≠0→ab AC 2=.int .i64 (vw L)) ?_;rintro z' d ⟨h6,h7,h8,h2⟩;simp[ai,aK,f32] at hb;have hn:aD [8] (aa b) z' ((8,.int .i64 ((0:Nat):Int))::z')=aD [8] (aa b) z' z':=by simp[aD,h8]
 rw[←hn];refine cV (α:=Nat) (fun n=>⟨aD [8] (aa b) z' ((8,.int .i64 (n:Int))::z'),[.cells false 1 (sC L)],d⟩) (fun n=>L.length-n) (fun n=>n≤L.length∧vw L=vw (L.drop n)) (if vw L=0 then .exit 0 else .ret) _ d _ (by split<;>simp) ?_ K 0 ⟨by omega,by rw[List.drop_zero]⟩ (by omega);rintro n ⟨Za,he⟩;clear hn;subst hb;by_cases A':n<L.length
 ·obtain⟨s,hs⟩:∃s,L[n]? =some s:=⟨L[n],List.getElem?_eq_getElem A'⟩
  have k1:=XD hs;have l1:=hL s (List.mem_of_getElem? hs);have hd:L.drop n=s::L.drop (n+1):=by rw[List.getElem?_eq_some_iff] at hs;obtain⟨h1,h2⟩:=hs;rw[←h2];exact List.drop_eq_getElem_cons h1
  rw[hd,vw] at he;have w1:IntKind.i64.wrap ((n:Int)+1)=((n+1:Nat):Int):=by rw[al (by omega) (by omega)];omega
  by_cases c1:xk s=0
  ·rw[if_pos c1] at he
   left;obtain⟨v,hv⟩:∃v,v=n+1:=⟨_,rfl⟩
   rw[←hv] at w1 he;refine⟨v,?_⟩;simp[h6,h7,A',ag,ao,l1,c1,k1,w1];exact⟨⟨by omega,he⟩,by omega⟩
  ·rw[if_neg c1] at he
   right;rw[he];simp[h6,h7,A',ag,ao,l1,c1,k1]
 ·right
  have e:L.drop n=[]:=List.drop_of_length_le (by omega);rw[e,vw] at he;rw[he];simp[h7,A']
theorem D5(L:List (List UInt8))(hL:∀s∈L,s.length≤18)(hl:L.length≤1000000000):
  kF prog 32 [.slice 0 0 L.length none] [.cells false 1 (sC L)] (.int .i64 (vw L)) [.cells false 1 (sC L)]:=by
 have hG:aT prog 32=some f32:=by kernel_rfl
 obtain⟨b,hb⟩:∃b,ai f32=[b]:=⟨_,rfl⟩
 obtain⟨F,hF⟩:=wg (K:=L.length+1) L hL hl (by omega) hb;simp[ai,aK,f32] at hb;subst hb;refine bB (lv:=(fun _=>[8])) (K:=(L.length+1)) bP ?_;by_cases hc:vw L=0
 ·rw[if_pos hc] at hF
  have I':=fun z' d h=>(hF z' d h).1
  clear hF;simp[ad,hG,f32,I',hc]
 ·rw[if_neg hc] at hF
  have I':=fun z' d h=>(hF z' d h).1
  have Yh:=fun z' d h=>(hF z' d h).2 hc
  clear hF;simp[ad,hG,f32,I',Yh]
theorem yd(M:Mem):kF prog 32 [.kK] M (.int .i64 0) M:=by
 have hG:aT prog 32=some f32:=by kernel_rfl
 refine az (ah _) (lv:=fun _=>[8]) (K:=1) rfl rfl ?_ M;simp[ad,hG,f32,aI,ej]
def rT(Q:List Rat):List (List UInt8):=Q.map aw
def BB(Q:List Rat) (s:Rat):Rat:=Q.foldl (·+·) s
def KL:List Rat→Rat→Prop
 | [],_=>True
 |q::l,s=>aeF s∧aeF q∧KL l (s+q)
section
variable (Q:List Rat)(hQ:KL Q 0)(hl:Q.length≤1000000000)
include Q hQ hl
theorem EM(hK:Q.length<K){b:Code}(hb:ai f114=[b]):
  ∃F:Env→Bool→Env,∀z' d,(ab z' 6=.slice 0 0 Q.length none∧ab z' 7=.int .i64 Q.length∧ab z' 8=.int .i64 0∧ab z' 3=.str [48])→
   aN (aM prog) (fun _=>[3,8]) (ag ao) K 17 1 true (.loop b) ⟨z',[.cells false 1 (sC (rT Q))],d⟩=some (.exit 0,⟨F z' d,[.cells false 1 (sC (rT Q))],d⟩)∧ab (F z' d) 3=.str (aw (BB Q 0)):=by
 refine cv rfl (fun z'=>ab z' 6=.slice 0 0 Q.length none∧ab z' 7=.int .i64 Q.length∧ab z' 8=.int .i64 0∧ab z' 3=.str [48]) (fun _ AC =>ab AC 3=.str (aw (BB Q 0))) ?_;rintro z' d ⟨h6,h7,h8,h3⟩;simp[ai,aK,f114] at hb;have z:aw 0=[48]:=rfl;have hn:aD [3,8] (aa b) z' ((3,.str (aw (BB (Q.take 0) 0)))::(8,.int .i64 ((0:Nat):Int))::z')=aD [3,8] (aa b) z' z':=by simp[aD,h8,h3,BB,z]
 rw[←hn];refine cV (α:=Nat) (fun n=>⟨aD [3,8] (aa b) z' ((3,.str (aw (BB (Q.take n) 0)))::(8,.int .i64 (n:Int))::z'),[.cells false 1 (sC (rT Q))],d⟩) (fun n=>Q.length-n) (fun n=>n≤Q.length∧KL (Q.drop n) (BB (Q.take n) 0)) (.exit 0) _ d _ (by simp) ?_ K 0 ⟨by omega,by simpa [BB] using hQ⟩ (by omega);rintro n ⟨Za,he⟩;clear hn;subst hb;by_cases A':n<Q.length
 ·obtain⟨q,hq⟩:∃s,Q[n]? =some s:=⟨Q[n],List.getElem?_eq_getElem A'⟩
  have k1:(sC (rT Q))[n]? =some (.str (aw q)):=by simp[sC,rT,hq]
  have hd:Q.drop n=q::Q.drop (n+1):=by rw[List.getElem?_eq_some_iff] at hq;obtain⟨h1,h2⟩:=hq;rw[←h2];exact List.drop_eq_getElem_cons h1
  have ht:BB (Q.take (n+1)) 0=BB (Q.take n) 0+q:=by rw[List.take_add_one,hq];simp[BB]
  rw[hd,KL,←ht] at he;obtain⟨⟨f1,f2⟩,⟨f3,f4⟩,he⟩:=he;have w1:IntKind.i64.wrap ((n:Int)+1)=((n+1:Nat):Int):=by rw[al (by omega) (by omega)];omega
  left;obtain⟨v,hv⟩:∃v,v=n+1:=⟨_,rfl⟩
  rw[←hv] at w1 he ht;obtain⟨s,hs⟩:∃s,s=BB (Q.take n) 0:=⟨_,rfl⟩
  rw[←hs] at f1 f2 ht ⊢;refine⟨v,?_⟩;simp[h6,h7,A',ag,ao,aH,aB,f1,f2,f3,f4,k1,w1,ht];exact⟨⟨by omega,by rw[←ht];exact he⟩,by omega⟩
 ·right
  have e:Q.take n=Q:=List.take_of_length_le (by omega);rw[e];simp[h7,A']
theorem OC:
  kF prog 114 [.slice 0 0 Q.length none] [.cells false 1 (sC (rT Q))] (.str (aw (BB Q 0))) [.cells false 1 (sC (rT Q))]:=by
 have hG:aT prog 114=some f114:=by kernel_rfl
 obtain⟨b,hb⟩:∃b,ai f114=[b]:=⟨_,rfl⟩
 obtain⟨F,hF⟩:=EM (K:=Q.length+1) Q hQ hl (by omega) hb;simp[ai,aK,f114] at hb;subst hb;refine bB (lv:=(fun _=>[3,8])) (K:=(Q.length+1)) bP ?_;simp[ad,hG,f114,hF]
end
def Ft:List (List UInt8)→Option (List Rat)
 | []=>some []
 |k::l=>match dJ k,Ft l with
  |some a,some r=>some (a::r)
  |_,_=>none
theorem Dw:∀{L:List (List UInt8)}{Q:List Rat},Ft L=some Q→L=rT Q
 | [],Q,h=>by cases h;rfl
 |k::L,Q,h=>by
  unfold Ft at h;split at h
  ·rename_i a r h1 h3
   cases h;rw[Dw h3,aA h1];rfl
  ·cases h
open Classical in
noncomputable def gw:adM:=fun c args M=>match c,args with
 |.fn 32,[x]=>match nu M x with
  |some L=>if (∀s∈L,s.length≤18)∧L.length≤1000000000 then some ⟨.int .i64 (vw L),none,[]⟩ else none
  |none=>none
 |.fn 114,[x]=>match nu M x with
  |some L=>match Ft L with
   |some Q=>if KL Q 0∧Q≠[]∧Q.length≤1000000000 then some ⟨.str (aw (BB Q 0)),none,[]⟩ else none
   |none=>none
  |none=>none
 |c,args=>ag ao c args M
theorem fN:kP prog gw:=by
 refine dq fun c args M r h=>?_
 unfold gw at h;split at h
 ·split at h
  ·rename_i L hL
   split at h
   ·rename_i hc
    cases h;refine af ?_;rw[List.append_nil];exact Vw (rest:=[]) rfl rfl hL (D5 L hc.1 hc.2) (fun hL0=>by subst hL0;exact yd M)
   ·cases h
  ·cases h
 ·split at h
  ·rename_i L hL
   split at h
   ·rename_i Q hQ
    split at h
    ·rename_i hc
     cases h;refine af ?_;rw[List.append_nil];have hLQ:=Dw hQ;subst hLQ;have:=OC Q hc.1 hc.2.2;have F':(rT Q).length=Q.length:=by simp[rT]
     rw[←F'] at this;exact Vw (rest:=[]) rfl rfl hL this (fun hL0=>by
      cases Q with
      |nil=>exact absurd rfl hc.2.1
      |cons q Q=>cases hL0)
    ·cases h
   ·cases h
  ·cases h
 ·exact jr bP h
theorem lO(a b c:List UInt8)(ha:a.length≤18)(hb:b.length≤18)(hc:c.length≤18)(M:Mem):
  kF prog 14 [.agg [.str a,.str b,.str c]] M (.int .i64 (vw [a,b,c])) M:=by
 have hG:aT prog 14=some f14:=by kernel_rfl
 refine az fN (lv:=fun _=>[]) (K:=1) rfl rfl ?_ M;simp[ad,hG,f14,gw,nu,oO,ha,hb,hc]
theorem mU(a b:List UInt8)(ha:a.length≤18)(hb:b.length≤18)(M:Mem):
  kF prog 105 [.agg [.str a,.str b]] M (.int .i64 (vw [a,b])) M:=by
 have hG:aT prog 105=some f105:=by kernel_rfl
 refine az fN (lv:=fun _=>[]) (K:=1) rfl rfl ?_ M;simp[ad,hG,f105,gw,nu,oO,ha,hb]
abbrev V3:=Rat×Rat×Rat
def vA(v:V3):AV:=.agg [.str (aw v.1),.str (aw v.2.1),.str (aw v.2.2)]
def vDg(n:Nat) (v:V3):Prop:=dg n 1 v.1∧dg n 1 v.2.1∧dg n 1 v.2.2
def eX(a b:V3):Rat:=a.1*b.1+a.2.1*b.2.1+a.2.2*b.2.2
variable{d:Nat}{q:Rat}
theorem dr(h:dg n d q)(hn:0<n)(hd:0<d)(h1:n≤9)(h2:d≤9):aeF q:=by have:=h.lens hn hd;exact⟨by omega,by omega⟩
theorem Oa(a b:V3)(ha:vDg 2 a)(hb:vDg 2 b)(M:Mem):kF prog 73 [vA a,vA b] M (.str (aw (eX a b))) M:=by
 have hG:aT prog 73=some f73:=by kernel_rfl
 obtain⟨a1,a2,a3⟩:=a;obtain⟨b1,b2,b3⟩:=b;obtain⟨A1,A2,A3⟩:=ha;obtain⟨B1,B2,B3⟩:=hb;simp only at A1 A2 A3 B1 B2 B3;have P1:=JR A1 B1;have P2:=JR A2 B2;have P3:=JR A3 B3;have Z:dg 1 1 0:=⟨by decide,by decide⟩;have S1:=RS Z P1 (m:=5) (by omega) (by omega);have S2:=RS S1 P2 (m:=8) (by omega) (by omega);have hs:KL [a1*b1,a2*b2,a3*b3] 0:=
  ⟨dr Z (by omega) (by omega) (by omega) (by omega),dr P1 (by omega) (by omega) (by omega) (by omega),dr S1 (by omega) (by omega) (by omega) (by omega),dr P2 (by omega) (by omega) (by omega) (by omega),
   dr S2 (by omega) (by omega) (by omega) (by omega),dr P3 (by omega) (by omega) (by omega) (by omega),trivial⟩
 have Ye:BB [a1*b1,a2*b2,a3*b3] 0=a1*b1+a2*b2+a3*b3:=by simp[BB,Rat.zero_add]
 obtain⟨f1,f2⟩:=dr A1 (by omega) (by omega) (by omega) (by omega);obtain⟨f3,f4⟩:=dr A2 (by omega) (by omega) (by omega) (by omega);obtain⟨f5,f6⟩:=dr A3 (by omega) (by omega) (by omega) (by omega);obtain⟨g1,g2⟩:=dr B1 (by omega) (by omega) (by omega) (by omega);obtain⟨g3,g4⟩:=dr B2 (by omega) (by omega) (by omega) (by omega);obtain⟨g5,g6⟩:=dr B3 (by omega) (by omega) (by omega) (by omega);clear P1 P2 P3 S1 S2 A1 A2 A3 B1 B2 B3 Z;unfold eX;simp only;obtain⟨p,hp⟩:∃p,p=a1*b1:=⟨_,rfl⟩
 obtain⟨q,hq⟩:∃p,p=a2*b2:=⟨_,rfl⟩
 obtain⟨r,hr⟩:∃p,p=a3*b3:=⟨_,rfl⟩
 rw[←hp,←hq,←hr] at hs Ye ⊢;refine az fN (lv:=fun _=>[]) (K:=1) rfl rfl ?_ M;obtain⟨ops,FS⟩:∃ops,aG f73=[ops]:=⟨_,rfl⟩
 have IR:=dw FS (l:=[0,1,0,4,15,0,32,0,128,511,0,1024,0,4096,16383,32767,65535,131071]) (by kernel_rfl);have hba:Ma [0,1,0,4,15,0,32,0,128,511,0,1024,0,4096,16383,32767,65535,131071] 18 15=true:=by decide
 simp[aG,bF,f73] at FS;subst FS;simp[ad,hG,f73,-aE,lf IR,mu,sa,AE,bW,hba,vA,gw,nu,oO,Ft,aB,ag,ao,aH,f1,f2,f3,f4,f5,f6,g1,g2,g3,g4,g5,g6,←hp,←hq,←hr,hs,Ye,Nat.testBit]
theorem Ky:aw 0=[48]:=rfl
theorem gO{a b:Rat}(h:aw a=aw b):a=b:=by have:=aB a;rw[h,aB] at this;exact(Option.some.inj this).symm
theorem tG(h:dg 200 200 q):xk (aw q)=0:=by unfold xk;rw[aB];exact if_pos (h.lens (by decide) (by decide))
theorem Sr(h:dg n d q)(h0:0<n)(h1:0<d)(h2:n+d≤16):(aw q).length≤18:=by
 obtain⟨a,b⟩:=h.lens h0 h1;have:=fm q.num;unfold aw;split
 ·omega
 ·simp only[List.length_append,List.length_cons];omega
theorem Lj(a b c:List UInt8)(M:Mem):kF prog 284 [.agg [.str a,.str b,.str c]] M (.bool (a==[48]&&b==[48]&&c==[48])) M:=by
 have hG:aT prog 284=some f284:=by kernel_rfl
 refine az (ah _) (lv:=fun _=>[]) (K:=1) rfl rfl ?_ M;cases h1:(a==[48])<;>cases h2:(b==[48])<;>cases h3:(c==[48])<;>simp[ad,hG,f284,h1,h2,h3]
noncomputable def qd(f:FuncId) (args:List AV):Option AV:=
 match f,args with
 |14,[.agg [.str a,.str b,.str c]]=>if a.length≤18∧b.length≤18∧c.length≤18 then some (.int .i64 (vw [a,b,c])) else none
 |105,[.agg [.str a,.str b]]=>if a.length≤18∧b.length≤18 then some (.int .i64 (vw [a,b])) else none
 |284,[.agg [.str a,.str b,.str c]]=>some (.bool (a==[48]&&b==[48]&&c==[48]))
 |73,[.agg [.str a,.str b,.str c],.agg [.str d,.str e,.str f]]=>match dJ a,dJ b,dJ c,dJ d,dJ e,dJ f with
  |some a,some b,some c,some d,some e,some f=>if (aQ a.num.natAbs).length≤2∧(aQ a.den).length≤1∧(aQ b.num.natAbs).length≤2∧(aQ b.den).length≤1∧(aQ c.num.natAbs).length≤2∧(aQ c.den).length≤1∧
    (aQ d.num.natAbs).length≤2∧(aQ d.den).length≤1∧(aQ e.num.natAbs).length≤2∧(aQ e.den).length≤1∧(aQ f.num.natAbs).length≤2∧(aQ f.den).length≤1 then some (.str (aw (a*d+b*e+c*f))) else none
  |_,_,_,_,_,_=>none
 |_,_=>none
theorem cP(h:(aQ q.num.natAbs).length≤n∧(aQ q.den).length≤d):dg n d q:=by have h1:=eI q.num.natAbs;have h2:=eI q.den;have h3:10 ^ (aQ q.num.natAbs).length≤10 ^ n:=Nat.pow_le_pow_right (by omega) h.1;have h4:10 ^ (aQ q.den).length≤10 ^ d:=Nat.pow_le_pow_right (by omega) h.2;exact⟨by omega,by omega⟩
theorem xh:kP prog (ag qd):=bK fun f args v h mem=>by
 unfold qd at h;split at h
 ·split at h
  ·rename_i hc;cases h;exact lO _ _ _ hc.1 hc.2.1 hc.2.2 mem
  ·cases h
 ·split at h
  ·rename_i hc;cases h;exact mU _ _ hc.1 hc.2 mem
  ·cases h
 ·cases h;exact Lj _ _ _ mem
 ·split at h
  ·rename_i a b c d e f ha hb hc hd he hf
   split at h
   ·rename_i P'
    obtain⟨c1,c2,c3,c4,c5,c6,c7,c8,c9,c10,c11,c12⟩:=P';cases h;rw[aA ha,aA hb,aA hc,aA hd,aA he,aA hf];exact Oa (a,b,c) (d,e,f) ⟨(cP ⟨c1,c2⟩).mono (by omega) (by omega),(cP ⟨c3,c4⟩).mono (by omega) (by omega),(cP ⟨c5,c6⟩).mono (by omega) (by omega)⟩
     ⟨(cP ⟨c7,c8⟩).mono (by omega) (by omega),(cP ⟨c9,c10⟩).mono (by omega) (by omega),(cP ⟨c11,c12⟩).mono (by omega) (by omega)⟩ mem
   ·cases h
  ·cases h
 ·cases h
noncomputable def Jj:adM:=adM.or (ag qd) gw
theorem Jk:kP prog Jj:=kP.or xh fN
end Go.Proofs
