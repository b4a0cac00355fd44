/- See P53. -/
import Derived.Test.YtmhkeaphiadacaaGreatDoorP14
import Derived.Test.YtmhkeaphiadacaaGreatDoorP16
import Derived.Test.YtmhkeaphiadacaaGreatDoorP08
set_option linter.all false
set_option maxRecDepth 100000
set_option maxHeartbeats 40000000
namespace Go.Proofs
open Go.Eng
open Tryz
variable{M:Mem}{b es:Nat}{cs l:List AV}{o:Bool}
theorem Wy{ks:List Nat}(hc:AV.aag cs=true)(h:M[b]? =some (.cells o es l))(ht:l.take cs.length=cs):vK ks M b (.cells false es cs):=by
 refine⟨bB hc,o,l,h,fun j v hv=>?_⟩;have hj:=(List.getElem?_eq_some_iff.1 hv).1;have e:l[j]? =cs[j]? :=by rw[←List.getElem?_take_of_lt hj,ht]
 have hr:=bR (ρ:=dr ks M.length) hc;rw[fN] at hr;have WR:(cs.map (AV.ren (dr ks M.length)))[j]? =cs[j]? :=by rw[hr]
 rw[List.getElem?_map,hv] at WR;rw[e,hv];exact WR.symm
variable{v:AV}
theorem Nf{f:Nat→Option Nat}(h:v.closed=true):v.ren f=v:=by have:=bR (vs:=[v]) (ρ:=f) (by simp[AV.aag,h]);simpa [AV.aal] using this
variable{P:Program}{f:FuncId}{n:Nat}{rest:List AV}
theorem abu(hc:AV.aag cs=true)(hr:AV.aag rest=true)(hv:v.closed=true)(hb:M[b]? =some (.cells o es l))(ht:l.take cs.length=cs)(h:mB P f (.slice 0 0 n none::rest) [.cells false es cs] v [.cells false es cs]):mB P f (.slice b 0 n none::rest) M v M:=by
 have AC:=(List.getElem?_eq_some_iff.1 hb).1;have hu:AV.aah [b].length (.slice 0 0 n none::rest)=true:=by
  show(decide (0<1)&&AV.aah 1 rest)=true
  rw[bB hr];rfl
 have:=mB.frame (M:=M) (new:=[]) [b] (m:=[.cells false es cs]) rfl (by simpa using AC) hu (fun i s hs=>by
  cases i with
  |zero=>simp at hs;subst hs;exact Wy hc hb ht
  |succ i=>simp at hs) rfl (by simpa using h)
 simpa [AV.aal,AV.ren,dr,bR hr,Nf hv] using this
def sC(L:List (List UInt8)):List AV:=L.map .str
theorem KW(L:List (List UInt8)):(sC L).length=L.length:=by simp[sC]
theorem KV:∀L:List (List UInt8),AV.aag (sC L)=true
 | []=>rfl
 |s::L=>by simp[sC,AV.aag,AV.closed];exact KV L
def xU:List AV→Option (List (List UInt8))
 | []=>some []
 |.str a::l=>match xU l with
  |some r=>some (a::r)
  |none=>none
 |_=>none
theorem BA:∀{cs:List AV}{L:List (List UInt8)},xU cs=some L→cs=sC L
 | [],L,h=>by cases h;rfl
 |v::l,L,h=>by
  unfold xU at h;split at h
  ·rename_i h1;cases h1
  ·rename_i h1
   cases h1;split at h
   ·rename_i r hr
    cases h;rw[BA hr];rfl
   ·cases h
  ·cases h
def vy(M:Mem):AV→Option (List (List UInt8))
 |.slice b 0 n none=>match M[b]? with
  |some (.cells _ 1 cs)=>if n≤cs.length then xU (cs.take n) else none
  |_=>none
 |.kO=>some []
 |_=>none
variable{L:List (List UInt8)}{x:AV}
theorem Np(h:vy M x=some L):(∃b o l,x=.slice b 0 L.length none∧M[b]? =some (.cells o 1 l)∧l.take L.length=sC L)∨(x=.kO∧L=[]):=by
 unfold vy at h;split at h
 ·rename_i b n
  split at h
  ·rename_i o cs hb
   split at h
   ·rename_i hn
    have hA:=BA h;have hl:n=L.length:=by have:=congrArg List.length hA;rw[KW,List.length_take] at this;omega
    subst hl;exact .inl ⟨b,o,cs,rfl,hb,hA⟩
   ·cases h
  ·cases h
 ·cases h;exact .inr ⟨rfl,rfl⟩
 ·cases h
theorem Up(hr:AV.aag rest=true)(hv:v.closed=true)(hx:vy M x=some L)(h:mB P f (.slice 0 0 L.length none::rest) [.cells false 1 (sC L)] v [.cells false 1 (sC L)])(h0:L=[]→mB P f (.kO::rest) M v M):mB P f (x::rest) M v M:=by
 rcases Np hx with⟨b,o,l,rfl,hb,ht⟩ | ⟨rfl,hL⟩
 ·exact abu (KV L) hr hv hb (by rw[KW];exact ht) h
 ·exact h0 hL
theorem Wj{i:Nat}{s:List UInt8}(h:L[i]? =some s):(sC L)[i]? =some (.str s):=by simp[sC,h]
def zb:List (List UInt8)→Int
 | []=>0
 |s::l=>if yV s=0 then zb l else yV s
variable{K:Nat}
theorem wk(L:List (List UInt8))(hL:∀s∈L,s.length≤18)(hl:L.length≤1000000000)(hK:L.length<K){b:Code}(hb:aj f89=[b]):
  ∃F:Env→Bool→Env,∀y' d,(aa y' 6=.slice 0 0 L.length none∧aa y' 7=.int .i64 L.length∧aa y' 8=.int .i64 0∧aa y' 2=.int .i64 0)→
   aQ (aC prog) (fun _=>[8]) (ar bd) K 18 1 true (.loop b) ⟨y',[.cells false 1 (sC L)],d⟩=some (if zb L=0 then .exit 0 else .ret,⟨F y' d,[.cells false 1 (sC L)],d⟩)∧(zb L≠0→aa (F y' d) 2=.int .i64 (zb L)):=by
 refine bf rfl (fun y'=>aa y' 6=.slice 0 0 L.length none∧aa y' 7=.int .i64 L.length∧aa y' 8=.int .i64 0∧aa y' 2=.int .i64 0) (fun _ z' =>zb L≠0→aa z' 2=.int .i64 (zb L)) ?_;rintro y' d ⟨h6,h7,h8,h2⟩;simp[aj,aD,f89] at hb;have hn:az [8] (ab b) y' ((8,.int .i64 ((0:Nat):Int))::y')=az [8] (ab b) y' y':=by simp[az,h8]
 rw[←hn];refine bA (α:=Nat) (fun n=>⟨az [8] (ab b) y' ((8,.int .i64 (n:Int))::y'),[.cells false 1 (sC L)],d⟩) (fun n=>L.length-n) (fun n=>n≤L.length∧zb L=zb (L.drop n)) (if zb L=0 then .exit 0 else .ret) _ d _ (by split<;>simp) ?_ K 0 ⟨by omega,by rw[List.drop_zero]⟩ (by omega);rintro n ⟨Xi,he⟩;clear hn;subst hb;by_cases AC:n<L.length
 ·obtain⟨s,hs⟩:∃s,L[n]? =some s:=⟨L[n],List.getElem?_eq_getElem AC⟩
  have k1:=Wj hs;have l1:=hL s (List.mem_of_getElem? hs);have hd:L.drop n=s::L.drop (n+1):=by rw[List.getElem?_eq_some_iff] at hs;obtain⟨h1,h2⟩:=hs;rw[←h2];exact List.drop_eq_getElem_cons h1
  rw[hd,zb] at he;have w1:IntKind.i64.wrap ((n:Int)+1)=((n+1:Nat):Int):=by rw[ai (by omega) (by omega)];omega
  by_cases c1:yV s=0
  ·rw[if_pos c1] at he
   left;obtain⟨v,hv⟩:∃v,v=n+1:=⟨_,rfl⟩
   rw[←hv] at w1 he;refine⟨v,?_⟩;simp[h6,h7,AC,ar,bd,l1,c1,k1,w1];exact⟨⟨by omega,he⟩,by omega⟩
  ·rw[if_neg c1] at he
   right;rw[he];simp[h6,h7,AC,ar,bd,l1,c1,k1]
 ·right
  have e:L.drop n=[]:=List.drop_of_length_le (by omega);rw[e,zb] at he;rw[he];simp[h7,AC]
theorem Eb(L:List (List UInt8))(hL:∀s∈L,s.length≤18)(hl:L.length≤1000000000):
  mB prog 89 [.slice 0 0 L.length none] [.cells false 1 (sC L)] (.int .i64 (zb L)) [.cells false 1 (sC L)]:=by
 have hG:aO prog 89=some f89:=by kernel_rfl
 obtain⟨b,hb⟩:∃b,aj f89=[b]:=⟨_,rfl⟩
 obtain⟨F,hF⟩:=wk (K:=L.length+1) L hL hl (by omega) hb;simp[aj,aD,f89] at hb;subst hb;refine aY (lv:=(fun _=>[8])) (K:=(L.length+1)) dX ?_;by_cases hc:zb L=0
 ·rw[if_pos hc] at hF
  have H1:=fun y' d h=>(hF y' d h).1
  clear hF;simp[ad,hG,f89,H1,hc]
 ·rw[if_neg hc] at hF
  have H1:=fun y' d h=>(hF y' d h).1
  have Xv:=fun y' d h=>(hF y' d h).2 hc
  clear hF;simp[ad,hG,f89,H1,Xv]
theorem yo(M:Mem):mB prog 89 [.kO] M (.int .i64 0) M:=by
 have hG:aO prog 89=some f89:=by kernel_rfl
 refine aB (ah _) (lv:=fun _=>[8]) (K:=1) rfl rfl ?_ M;simp[ad,hG,f89,aR,gl]
def rT(Q:List Rat):List (List UInt8):=Q.map aN
def Nq(Q:List Rat) (s:Rat):Rat:=Q.foldl (·+·) s
def Nr:List Rat→Rat→Prop
 | [],_=>True
 |q::l,s=>Le s∧Le q∧Nr l (s+q)
section
variable (Q:List Rat)(hQ:Nr Q 0)(hl:Q.length≤1000000000)
include Q hQ hl
theorem E3(hK:Q.length<K){b:Code}(hb:aj f181=[b]):
  ∃F:Env→Bool→Env,∀y' d,(aa y' 6=.slice 0 0 Q.length none∧aa y' 7=.int .i64 Q.length∧aa y' 8=.int .i64 0∧aa y' 3=.str [48])→
   aQ (aC prog) (fun _=>[3,8]) (ar bd) K 17 1 true (.loop b) ⟨y',[.cells false 1 (sC (rT Q))],d⟩=some (.exit 0,⟨F y' d,[.cells false 1 (sC (rT Q))],d⟩)∧aa (F y' d) 3=.str (aN (Nq Q 0)):=by
 refine bf rfl (fun y'=>aa y' 6=.slice 0 0 Q.length none∧aa y' 7=.int .i64 Q.length∧aa y' 8=.int .i64 0∧aa y' 3=.str [48]) (fun _ z' =>aa z' 3=.str (aN (Nq Q 0))) ?_;rintro y' d ⟨h6,h7,h8,h3⟩;simp[aj,aD,f181] at hb;have z:aN 0=[48]:=rfl;have hn:az [3,8] (ab b) y' ((3,.str (aN (Nq (Q.take 0) 0)))::(8,.int .i64 ((0:Nat):Int))::y')=az [3,8] (ab b) y' y':=by simp[az,h8,h3,Nq,z]
 rw[←hn];refine bA (α:=Nat) (fun n=>⟨az [3,8] (ab b) y' ((3,.str (aN (Nq (Q.take n) 0)))::(8,.int .i64 (n:Int))::y'),[.cells false 1 (sC (rT Q))],d⟩) (fun n=>Q.length-n) (fun n=>n≤Q.length∧Nr (Q.drop n) (Nq (Q.take n) 0)) (.exit 0) _ d _ (by simp) ?_ K 0 ⟨by omega,by simpa [Nq] using hQ⟩ (by omega);rintro n ⟨Xi,he⟩;clear hn;subst hb;by_cases AC:n<Q.length
 ·obtain⟨q,hq⟩:∃s,Q[n]? =some s:=⟨Q[n],List.getElem?_eq_getElem AC⟩
  have k1:(sC (rT Q))[n]? =some (.str (aN q)):=by simp[sC,rT,hq]
  have hd:Q.drop n=q::Q.drop (n+1):=by rw[List.getElem?_eq_some_iff] at hq;obtain⟨h1,h2⟩:=hq;rw[←h2];exact List.drop_eq_getElem_cons h1
  have ht:Nq (Q.take (n+1)) 0=Nq (Q.take n) 0+q:=by rw[List.take_add_one,hq];simp[Nq]
  rw[hd,Nr,←ht] at he;obtain⟨⟨f1,f2⟩,⟨f3,f4⟩,he⟩:=he;have w1:IntKind.i64.wrap ((n:Int)+1)=((n+1:Nat):Int):=by rw[ai (by omega) (by omega)];omega
  left;obtain⟨v,hv⟩:∃v,v=n+1:=⟨_,rfl⟩
  rw[←hv] at w1 he ht;obtain⟨s,hs⟩:∃s,s=Nq (Q.take n) 0:=⟨_,rfl⟩
  rw[←hs] at f1 f2 ht ⊢;refine⟨v,?_⟩;simp[h6,h7,AC,ar,bd,a8,aM,f1,f2,f3,f4,k1,w1,ht];exact⟨⟨by omega,by rw[←ht];exact he⟩,by omega⟩
 ·right
  have e:Q.take n=Q:=List.take_of_length_le (by omega);rw[e];simp[h7,AC]
theorem OF:
  mB prog 181 [.slice 0 0 Q.length none] [.cells false 1 (sC (rT Q))] (.str (aN (Nq Q 0))) [.cells false 1 (sC (rT Q))]:=by
 have hG:aO prog 181=some f181:=by kernel_rfl
 obtain⟨b,hb⟩:∃b,aj f181=[b]:=⟨_,rfl⟩
 obtain⟨F,hF⟩:=E3 (K:=Q.length+1) Q hQ hl (by omega) hb;simp[aj,aD,f181] at hb;subst hb;refine aY (lv:=(fun _=>[3,8])) (K:=(Q.length+1)) dX ?_;simp[ad,hG,f181,hF]
end
def Sa:List (List UInt8)→Option (List Rat)
 | []=>some []
 |k::l=>match ef k,Sa l with
  |some a,some r=>some (a::r)
  |_,_=>none
theorem DC:∀{L:List (List UInt8)}{Q:List Rat},Sa L=some Q→L=rT Q
 | [],Q,h=>by cases h;rfl
 |k::L,Q,h=>by
  unfold Sa at h;split at h
  ·rename_i a r h1 h3
   cases h;rw[DC h3,aA h1];rfl
  ·cases h
open Classical in
noncomputable def kj:aac:=fun c args M=>match c,args with
 |.fn 89,[x]=>match vy M x with
  |some L=>if (∀s∈L,s.length≤18)∧L.length≤1000000000 then some ⟨.int .i64 (zb L),none,[]⟩ else none
  |none=>none
 |.fn 181,[x]=>match vy M x with
  |some L=>match Sa L with
   |some Q=>if Nr Q 0∧Q≠[]∧Q.length≤1000000000 then some ⟨.str (aN (Nq Q 0)),none,[]⟩ else none
   |none=>none
  |none=>none
 |c,args=>ar bd c args M
theorem lX:qS prog kj:=by
 refine cJ fun c args M r h=>?_
 unfold kj at h;split at h
 ·split at h
  ·rename_i L hL
   split at h
   ·rename_i hc
    cases h;refine ak ?_;rw[List.append_nil];exact Up (rest:=[]) rfl rfl hL (Eb L hc.1 hc.2) (fun hL0=>by subst hL0;exact yo M)
   ·cases h
  ·cases h
 ·split at h
  ·rename_i L hL
   split at h
   ·rename_i Q hQ
    split at h
    ·rename_i hc
     cases h;refine ak ?_;rw[List.append_nil];have hLQ:=DC hQ;subst hLQ;have:=OF Q hc.1 hc.2.2;have A':(rT Q).length=Q.length:=by simp[rT]
     rw[←A'] at this;exact Up (rest:=[]) rfl rfl hL this (fun hL0=>by
      cases Q with
      |nil=>exact absurd rfl hc.2.1
      |cons q Q=>cases hL0)
    ·cases h
   ·cases h
  ·cases h
 ·exact iG dX h
theorem xe(a b c:List UInt8)(ha:a.length≤18)(hb:b.length≤18)(hc:c.length≤18)(M:Mem):
  mB prog 53 [.agg [.str a,.str b,.str c]] M (.int .i64 (zb [a,b,c])) M:=by
 have hG:aO prog 53=some f53:=by kernel_rfl
 refine aB lX (lv:=fun _=>[]) (K:=1) rfl rfl ?_ M;simp[ad,hG,f53,kj,vy,xU,ha,hb,hc]
theorem mG(a b:List UInt8)(ha:a.length≤18)(hb:b.length≤18)(M:Mem):
  mB prog 75 [.agg [.str a,.str b]] M (.int .i64 (zb [a,b])) M:=by
 have hG:aO prog 75=some f75:=by kernel_rfl
 refine aB lX (lv:=fun _=>[]) (K:=1) rfl rfl ?_ M;simp[ad,hG,f75,kj,vy,xU,ha,hb]
abbrev V3:=Rat×Rat×Rat
def vA(v:V3):AV:=.agg [.str (aN v.1),.str (aN v.2.1),.str (aN v.2.2)]
def vDg(n:Nat) (v:V3):Prop:=dg n 1 v.1∧dg n 1 v.2.1∧dg n 1 v.2.2
def Wv(a b:V3):Rat:=a.1*b.1+a.2.1*b.2.1+a.2.2*b.2.2
variable{d:Nat}{q:Rat}
theorem dw(h:dg n d q)(hn:0<n)(hd:0<d)(h1:n≤9)(h2:d≤9):Le q:=by have:=h.lens hn hd;exact⟨by omega,by omega⟩
theorem Oj(a b:V3)(ha:vDg 2 a)(hb:vDg 2 b)(M:Mem):mB prog 206 [vA a,vA b] M (.str (aN (Wv a b))) M:=by
 have hG:aO prog 206=some f206:=by kernel_rfl
 obtain⟨a1,a2,a3⟩:=a;obtain⟨b1,b2,b3⟩:=b;obtain⟨A1,A2,A3⟩:=ha;obtain⟨B1,B2,B3⟩:=hb;simp only at A1 A2 A3 B1 B2 B3;have P1:=Kh A1 B1;have P2:=Kh A2 B2;have P3:=Kh A3 B3;have Z:dg 1 1 0:=⟨by decide,by decide⟩;have S1:=Rt Z P1 (m:=5) (by omega) (by omega);have S2:=Rt S1 P2 (m:=8) (by omega) (by omega);have hs:Nr [a1*b1,a2*b2,a3*b3] 0:=
  ⟨dw Z (by omega) (by omega) (by omega) (by omega),dw P1 (by omega) (by omega) (by omega) (by omega),dw S1 (by omega) (by omega) (by omega) (by omega),dw P2 (by omega) (by omega) (by omega) (by omega),
   dw S2 (by omega) (by omega) (by omega) (by omega),dw P3 (by omega) (by omega) (by omega) (by omega),trivial⟩
 have XN:Nq [a1*b1,a2*b2,a3*b3] 0=a1*b1+a2*b2+a3*b3:=by simp[Nq,Rat.zero_add]
 obtain⟨f1,f2⟩:=dw A1 (by omega) (by omega) (by omega) (by omega);obtain⟨f3,f4⟩:=dw A2 (by omega) (by omega) (by omega) (by omega);obtain⟨f5,f6⟩:=dw A3 (by omega) (by omega) (by omega) (by omega);obtain⟨g1,g2⟩:=dw B1 (by omega) (by omega) (by omega) (by omega);obtain⟨g3,g4⟩:=dw B2 (by omega) (by omega) (by omega) (by omega);obtain⟨g5,g6⟩:=dw B3 (by omega) (by omega) (by omega) (by omega);clear P1 P2 P3 S1 S2 A1 A2 A3 B1 B2 B3 Z;unfold Wv;simp only;obtain⟨p,hp⟩:∃p,p=a1*b1:=⟨_,rfl⟩
 obtain⟨q,hq⟩:∃p,p=a2*b2:=⟨_,rfl⟩
 obtain⟨r,hr⟩:∃p,p=a3*b3:=⟨_,rfl⟩
 rw[←hp,←hq,←hr] at hs XN ⊢;refine aB lX (lv:=fun _=>[]) (K:=1) rfl rfl ?_ M;obtain⟨ops,F'⟩:∃ops,aP f206=[ops]:=⟨_,rfl⟩
 have PP:=ie F' (l:=[0,1,0,4,15,0,32,0,128,511,0,1024,0,4096,16383,32767,65535,131071]) (by kernel_rfl);have hba:UB [0,1,0,4,15,0,32,0,128,511,0,1024,0,4096,16383,32767,65535,131071] 18 15=true:=by decide
 simp[aP,bQ,f206] at F';subst F';simp[ad,hG,f206,-ay,Nk PP,zt,Df,Rj,cj,hba,vA,kj,vy,xU,Sa,aM,ar,bd,a8,f1,f2,f3,f4,f5,f6,g1,g2,g3,g4,g5,g6,←hp,←hq,←hr,hs,XN,Nat.testBit]
theorem KM:aN 0=[48]:=rfl
theorem mf{a b:Rat}(h:aN a=aN b):a=b:=by have:=aM a;rw[h,aM] at this;exact(Option.some.inj this).symm
theorem wD(h:dg 200 200 q):yV (aN q)=0:=by unfold yV;rw[aM];exact if_pos (h.lens (by decide) (by decide))
theorem Ui(h:dg n d q)(h0:0<n)(h1:0<d)(h2:n+d≤16):(aN q).length≤18:=by
 obtain⟨a,b⟩:=h.lens h0 h1;have:=fK q.num;unfold aN;split
 ·omega
 ·simp only[List.length_append,List.length_cons];omega
theorem LD(a b c:List UInt8)(M:Mem):mB prog 239 [.agg [.str a,.str b,.str c]] M (.bool (a==[48]&&b==[48]&&c==[48])) M:=by
 have hG:aO prog 239=some f239:=by kernel_rfl
 refine aB (ah _) (lv:=fun _=>[]) (K:=1) rfl rfl ?_ M;cases h1:(a==[48])<;>cases h2:(b==[48])<;>cases h3:(c==[48])<;>simp[ad,hG,f239,h1,h2,h3]
noncomputable def qz(f:FuncId) (args:List AV):Option AV:=
 match f,args with
 |53,[.agg [.str a,.str b,.str c]]=>if a.length≤18∧b.length≤18∧c.length≤18 then some (.int .i64 (zb [a,b,c])) else none
 |75,[.agg [.str a,.str b]]=>if a.length≤18∧b.length≤18 then some (.int .i64 (zb [a,b])) else none
 |239,[.agg [.str a,.str b,.str c]]=>some (.bool (a==[48]&&b==[48]&&c==[48]))
 |206,[.agg [.str a,.str b,.str c],.agg [.str d,.str e,.str f]]=>match ef a,ef b,ef c,ef d,ef e,ef f with
  |some a,some b,some c,some d,some e,some f=>if (aS a.num.natAbs).length≤2∧(aS a.den).length≤1∧(aS b.num.natAbs).length≤2∧(aS b.den).length≤1∧(aS c.num.natAbs).length≤2∧(aS c.den).length≤1∧
    (aS d.num.natAbs).length≤2∧(aS d.den).length≤1∧(aS e.num.natAbs).length≤2∧(aS e.den).length≤1∧(aS f.num.natAbs).length≤2∧(aS f.den).length≤1 then some (.str (aN (a*d+b*e+c*f))) else none
  |_,_,_,_,_,_=>none
 |_,_=>none
theorem cP(h:(aS q.num.natAbs).length≤n∧(aS q.den).length≤d):dg n d q:=by have h1:=eF q.num.natAbs;have h2:=eF q.den;have h3:10 ^ (aS q.num.natAbs).length≤10 ^ n:=Nat.pow_le_pow_right (by omega) h.1;have h4:10 ^ (aS q.den).length≤10 ^ d:=Nat.pow_le_pow_right (by omega) h.2;exact⟨by omega,by omega⟩
theorem xu:qS prog (ar qz):=bZ fun f args v h mem=>by
 unfold qz at h;split at h
 ·split at h
  ·rename_i hc;cases h;exact xe _ _ _ hc.1 hc.2.1 hc.2.2 mem
  ·cases h
 ·split at h
  ·rename_i hc;cases h;exact mG _ _ hc.1 hc.2 mem
  ·cases h
 ·cases h;exact LD _ _ _ mem
 ·split at h
  ·rename_i a b c d e f ha hb hc hd he hf
   split at h
   ·rename_i I'
    obtain⟨c1,c2,c3,c4,c5,c6,c7,c8,c9,c10,c11,c12⟩:=I';cases h;rw[aA ha,aA hb,aA hc,aA hd,aA he,aA hf];exact Oj (a,b,c) (d,e,f) ⟨(cP ⟨c1,c2⟩).mono (by omega) (by omega),(cP ⟨c3,c4⟩).mono (by omega) (by omega),(cP ⟨c5,c6⟩).mono (by omega) (by omega)⟩
     ⟨(cP ⟨c7,c8⟩).mono (by omega) (by omega),(cP ⟨c9,c10⟩).mono (by omega) (by omega),(cP ⟨c11,c12⟩).mono (by omega) (by omega)⟩ mem
   ·cases h
  ·cases h
 ·cases h
noncomputable def JI:aac:=aac.or (ar qz) kj
theorem JJ:qS prog JI:=qS.or xu lX
end Go.Proofs
