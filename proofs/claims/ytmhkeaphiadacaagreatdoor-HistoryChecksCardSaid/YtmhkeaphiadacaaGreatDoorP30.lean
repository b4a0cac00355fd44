/- See P53. -/
import Derived.Test.YtmhkeaphiadacaaGreatDoorP29
set_option linter.all false
set_option maxRecDepth 100000
set_option maxHeartbeats 40000000
namespace Go.Proofs
open Go.Eng
open Tryz
def yY(s:List UInt8):Nat→List (List UInt8)→Int
 |_,[]=> -1
 |i,x::l=>if s=x then (i:Int) else yY s (i+1) l
theorem NR{s:List UInt8}:∀{i:Nat}{l:List (List UInt8)},yY s i l<0↔s∉l
 |i,[]=>by simp[yY]
 |i,x::l=>by
  unfold yY;by_cases h:s=x
  ·rw[if_pos h];simp[h]
  ·rw[if_neg h,NR];simp[h]
theorem RG{s:List UInt8}:∀{i:Nat}{l:List (List UInt8)},-1≤yY s i l
 |i,[]=>by unfold yY;omega
 |i,x::l=>by
  unfold yY;split
  ·omega
  ·exact RG
theorem As{O:aac}{K:Nat}(L:List (List UInt8))(s:List UInt8)(hl:L.length≤1000000000)(hK:L.length<K){b:Code}(hb:aj f56=[b]):
  ∃F:Env→Bool→Env,∀y' d,(aa y' 0=.slice 0 0 L.length none∧aa y' 1=.str s∧aa y' 7=.int .i64 L.length∧aa y' 8=.int .i64 0)→
   aQ (aC prog) (fun _=>[8]) O K 19 1 true (.loop b) ⟨y',[.cells false 1 (stC L)],d⟩=some (if yY s 0 L<0 then .exit 0 else .ret,⟨F y' d,[.cells false 1 (stC L)],d⟩)∧
    (¬yY s 0 L<0→aa (F y' d) 4=.int .i64 (yY s 0 L)):=by
 refine bf rfl (fun y'=>aa y' 0=.slice 0 0 L.length none∧aa y' 1=.str s∧aa y' 7=.int .i64 L.length∧aa y' 8=.int .i64 0) (fun _ z' =>¬yY s 0 L<0→aa z' 4=.int .i64 (yY s 0 L)) ?_;rintro y' d ⟨h0,h1,h7,h8⟩;simp[aj,aD,f56] at hb;have hn:az [8] (ab b) y' ((8,.int .i64 ((0:Nat):Int))::y')=az [8] (ab b) y' y':=by simp[az,h8]
 rw[←hn];have kl:(stC L).length=L.length:=dB L;refine bA (α:=Nat) (fun n=>⟨az [8] (ab b) y' ((8,.int .i64 (n:Int))::y'),[.cells false 1 (stC L)],d⟩) (fun n=>L.length-n) (fun n=>n≤L.length∧yY s 0 L=yY s n (L.drop n)) _ _ d _ (by split<;>simp) ?_ K 0 ⟨by omega,by rw[List.drop_zero]⟩ (by omega);rintro n ⟨Xi,he⟩;clear hn;subst hb;by_cases AC:n<L.length
 ·obtain⟨x,hx⟩:∃x,L[n]? =some x:=⟨L[n],List.getElem?_eq_getElem AC⟩
  have k1:∀h,(stC L)[n]'h=.str x:=fun h=>by have:=sJ hx;rw[List.getElem?_eq_getElem h] at this;exact Option.some.inj this
  have hd:L.drop n=x::L.drop (n+1):=by rw[List.getElem?_eq_some_iff] at hx;obtain⟨h1,h2⟩:=hx;rw[←h2];exact List.drop_eq_getElem_cons h1
  rw[hd,yY] at he;have w1:IntKind.i64.wrap ((n:Int)+1)=((n+1:Nat):Int):=by rw[ai (by omega) (by omega)];omega
  by_cases hs:s=x
  ·right
   rw[if_pos hs] at he;subst hs;have hng:¬(n:Int)<0:=by omega
   rw[he,if_neg hng];simp[h0,h1,h7,AC,kl,k1]
  ·left
   rw[if_neg hs] at he;have hb:(s==x)=false:=by simpa using hs
   refine⟨n+1,?_⟩;refine cC (show(n+1≤L.length∧yY s 0 L=yY s (n+1) (L.drop (n+1)))∧L.length-(n+1)<L.length-n from⟨⟨by omega,he⟩,by omega⟩) ?_;simp[h0,h1,h7,AC,kl,k1,hb,w1]
 ·right
  have e:L.drop n=[]:=List.drop_of_length_le (by omega);rw[e,yY] at he;rw[he,if_pos (by decide)];simp[h7,AC]
theorem Gg(L:List (List UInt8))(s:List UInt8)(hl:L.length≤1000000000):
  mB prog 56 [.slice 0 0 L.length none,.str s] [.cells false 1 (stC L)] (.int .i64 (yY s 0 L)) [.cells false 1 (stC L)]:=by
 have hG:aO prog 56=some f56:=by kernel_rfl
 obtain⟨b,hb⟩:∃b,aj f56=[b]:=⟨_,rfl⟩
 obtain⟨F,hF⟩:=As (O:=bt) (K:=L.length+1) L s hl (by omega) hb;simp[aj,aD,f56] at hb;subst hb;refine aY (lv:=(fun _=>[8])) (K:=(L.length+1)) (ah _) ?_;by_cases hc:yY s 0 L<0
 ·rw[if_pos hc] at hF
  have H1:=fun y' d h=>(hF y' d h).1
  clear hF;have h1:yY s 0 L= -1:=by have:=RG (s:=s) (i:=0) (l:=L);omega
  rw[h1];simp[ad,hG,f56,H1]
 ·rw[if_neg hc] at hF
  have H1:=fun y' d h=>(hF y' d h).1
  have P':=fun y' d h=>(hF y' d h).2 hc
  clear hF;simp[ad,hG,f56,H1,P']
theorem BS(s:List UInt8)(M:Mem):mB prog 56 [.kO,.str s] M (.int .i64 (-1)) M:=by
 have hG:aO prog 56=some f56:=by kernel_rfl
 refine aB (ah _) (lv:=fun _=>[8]) (K:=1) rfl rfl ?_ M;simp[ad,hG,f56,aR,gl]
variable{L:List (List UInt8)}{M:Mem}{x:AV}
theorem Gf(s:List UInt8)(hl:L.length≤1000000000)(hx:sts M x=some L):mB prog 56 [x,.str s] M (.int .i64 (yY s 0 L)) M:=by
 rcases oP hx with h | ⟨rfl,rfl⟩
 ·exact mB.ab0 (rest:=[.str s]) (dA L) rfl rfl (Gg L s hl) h
 ·exact BS s M
noncomputable def EJ:aac:=fun c args M=>match c,args with
 |.fn 56,[x,.str s]=>match sts M x with
  |some L=>if L.length≤1000000000 then some ⟨.int .i64 (yY s 0 L),none,[]⟩ else none
  |none=>none
 |c,args=>bt c args M
theorem OQ:qS prog EJ:=by
 refine cJ fun c args M r h=>?_
 unfold EJ at h;split at h
 ·split at h
  ·rename_i L hL
   split at h
   ·rename_i hc
    cases h;refine ak ?_;rw[List.append_nil];exact Gf _ hc hL
   ·cases h
  ·cases h
 ·exact iG (ah _) h
theorem pB(s:List UInt8)(hl:L.length≤1000000000)(hx:sts M x=some L):mB prog 45 [x,.str s] M (.bool (decide (s∈L))) M:=by
 have hG:aO prog 45=some f45:=by kernel_rfl
 have hi:decide (0≤yY s 0 L)=decide (s∈L):=by
  rw[decide_eq_decide];have:=NR (s:=s) (i:=0) (l:=L);by_cases h:s∈L
  ·simp only[h,iff_true]
   exact Int.not_lt.1 fun e=>this.1 e h
  ·simp only[h,iff_false]
   have:=this.2 h;omega
 refine aY (K:=1) (lv:=fun _=>[]) OQ ?_;rw[←hi];simp[ad,hG,f45,EJ,hx,hl]
end Go.Proofs
namespace Go.Proofs
open Go.Eng
open Tryz
open Classical in
noncomputable def iV(L:List (FuncId×List AV×AV)) (p:Mem→Prop):aac:=fun c a M=>if p M then ar (de L) c a M else none
theorem ma{P:Program}{L:List (FuncId×List AV×AV)}{p:Mem→Prop}(h:∀x∈L,∀M,p M→mB P x.1 x.2.1 M x.2.2 M):qS P (iV L p):=by
 have k:∀f a v,de L f a=some v→∃x∈L,f=x.1∧a=x.2.1∧v=x.2.2:=by
  clear h;intro f a v hv;induction L with
  |nil=>simp[de] at hv
  |cons x L ih=>
   rw[de] at hv;split at hv
   ·rename_i hc
    cases hv;exact⟨x,by simp,hc.1,hc.2,rfl⟩
   ·obtain⟨y,hy,h1⟩:=ih hv
    exact⟨y,by simp[hy],h1⟩
 have k2:∀c a M r,iV L p c a M=some r→p M∧∃f,c=.fn f∧∃x∈L,f=x.1∧a=x.2.1∧r=⟨x.2.2,none,[]⟩:=by
  intro c a M r hr;unfold iV at hr;split at hr
  ·rename_i hp
   refine⟨hp,?_⟩;unfold ar at hr;split at hr
   ·rename_i f
    split at hr
    ·rename_i v hv
     cases hr;obtain⟨x,hx,h1,h2,h3⟩:=k _ _ _ hv;exact⟨f,rfl,x,hx,h1,h2,by rw[h3]⟩
    ·cases hr
   ·cases hr
  ·cases hr
 refine⟨fun f a M r hr=>?_,fun b a M r hr=>?_,fun c a M r q hr hq=>?_⟩
 ·obtain⟨hp,g,hg,x,hx,h1,rfl,rfl⟩:=k2 _ _ _ _ hr
  cases hg;subst h1;simpa [HS.mem] using h x hx M hp
 ·obtain⟨_,g,hg,_⟩:=k2 _ _ _ _ hr
  cases hg
 ·obtain⟨_,g,_,x,_,_,_,rfl⟩:=k2 _ _ _ _ hr
  cases hq
def jO(c:Code):List Nat:=if (ab c).contains 35 then [35] else [10,65]
theorem fl(M:Mem)(u k:Nat)(o:Bool)(U:List (List UInt8))(s:List UInt8)(hu:M[u]? =some (.cells o 1 (stC U)))(hk:k≤U.length)(hl:U.length≤3)(hs:s∉U.take k):
  mB prog 45 [.slice u 0 k none,.str s] M (.bool false) M:=by
 have h:sts M (.slice u 0 k none)=some (U.take k):=by
  have h1:(stC U).take (k*1)=stC (U.take k):=by simp[stC,List.map_take]
  unfold sts;rw[J9 hu (by rw[dB];omega) h1];exact Bz _
 have:=pB (M:=M) s (by rw[List.length_take];omega) h
 rwa [decide_eq_false hs] at this
theorem acf:aO prog 150=some f150:=by kernel_rfl
theorem F3(s:aaf)(nm:List UInt8)(u0:List UInt8)(n0:u0∈bk)(Z:List Int)(hZ:∀z∈Z,z.natAbs<1000)(hl:Z.length≤1000)(hn:Z.length=s.P.length)(m:Mem)(b u:Nat)(o1 o2 o3 o4:Bool)(hp:m[0]? =some (.cells o1 2 (pC s.P)))(hq:m[1]? =some (.cells o2 3 (tC s.T)))(hb:m[b]? =some (.cells o3 1 (qC (qH Z))))(hu:m[u]? =some (.cells o4 1 (stC [u0]))):
  mB prog 150 [shA s,.agg (aZ nm (.slice b 0 Z.length none) (.slice u 0 1 none) (.kO))] m (.int .i64 0) m:=by
 have lp:=(List.getElem?_eq_some_iff.1 hp).1;have lq:=(List.getElem?_eq_some_iff.1 hq).1;have lb:=(List.getElem?_eq_some_iff.1 hb).1;have lu:=(List.getElem?_eq_some_iff.1 hu).1;have ep:=fun ext:Mem=>(List.getElem?_append_left (l₂:=ext) lp).trans hp
 have eq:=fun ext:Mem=>(List.getElem?_append_left (l₂:=ext) lq).trans hq
 have eb:=fun ext:Mem=>(List.getElem?_append_left (l₂:=ext) lb).trans hb
 have eu:=fun ext:Mem=>(List.getElem?_append_left (l₂:=ext) lu).trans hu
 have Xx:qS prog (ar (de [(80,[.str u0],.int .i64 0)])):=fJ fun e he M=>by simp only[List.mem_cons,List.not_mem_nil,or_false] at he;rcases he with rfl;exact cW _ n0 M
 have W0:qS prog (iV [(203,[shA s,.slice b 0 Z.length none],.int .i64 0),(45,[.slice u 0 0 none,.str u0],.bool false)] (fun M=>∃ext,M=m++ext)):=ma fun e he M hM=>by
  obtain⟨ext,rfl⟩:=hM;simp only[List.mem_cons,List.not_mem_nil,or_false] at he;rcases he with rfl | rfl
  ·exact pF s Z hZ hl hn _ b o1 o2 o3 (ep ext) (eq ext) (eb ext)
  ·exact fl _ u 0 o4 [u0] u0 (eu ext) (by simp) (by simp) (by simp)
 have hO:=qS.or' Xx W0;clear Xx W0;refine aY (lv:=jO) (K:=5) hO ?_;clear hO;obtain⟨N,hN⟩:∃N,N=Z.length:=⟨_,rfl⟩
 simp only[←hN] at hb ⊢;simp[ad,acf,f150,aac.or,ar,de,iV,shA,aZ,aR,gl,jO,stC,eu,w0,w1]
theorem F4(s:aaf)(nm:List UInt8)(u0 u1:List UInt8)(n0:u0∈bk)(n1:u1∈bk)(YL:u1≠u0)(Z:List Int)(hZ:∀z∈Z,z.natAbs<1000)(hl:Z.length≤1000)(hn:Z.length=s.P.length)(Y1:List Int)(YG:∀z∈Y1,z.natAbs<1000)(Xb:Y1.length=s.P.length)(W5:∀(i:Nat) z y,Z[i]? =some z→Y1[i]? =some y→z≤y)(m:Mem)(b u c r1:Nat)(o1 o2 o3 o4 o5 q1:Bool)(hp:m[0]? =some (.cells o1 2 (pC s.P)))(hq:m[1]? =some (.cells o2 3 (tC s.T)))(hb:m[b]? =some (.cells o3 1 (qC (qH Z))))(hu:m[u]? =some (.cells o4 1 (stC [u0,u1])))(hc:m[c]? =some (.cells o5 1 [.slice r1 0 Z.length none]))(WL:m[r1]? =some (.cells q1 1 (qC (qH Y1)))):
  mB prog 150 [shA s,.agg (aZ nm (.slice b 0 Z.length none) (.slice u 0 2 none) (.slice c 0 1 none))] m (.int .i64 0) m:=by
 have lp:=(List.getElem?_eq_some_iff.1 hp).1;have lq:=(List.getElem?_eq_some_iff.1 hq).1;have lb:=(List.getElem?_eq_some_iff.1 hb).1;have lu:=(List.getElem?_eq_some_iff.1 hu).1;have lc:=(List.getElem?_eq_some_iff.1 hc).1;have lr1:=(List.getElem?_eq_some_iff.1 WL).1;have ep:=fun ext:Mem=>(List.getElem?_append_left (l₂:=ext) lp).trans hp
 have eq:=fun ext:Mem=>(List.getElem?_append_left (l₂:=ext) lq).trans hq
 have eb:=fun ext:Mem=>(List.getElem?_append_left (l₂:=ext) lb).trans hb
 have eu:=fun ext:Mem=>(List.getElem?_append_left (l₂:=ext) lu).trans hu
 have ec:=fun ext:Mem=>(List.getElem?_append_left (l₂:=ext) lc).trans hc
 have er1:=fun ext:Mem=>(List.getElem?_append_left (l₂:=ext) lr1).trans WL
 have Xx:qS prog (ar (de [(80,[.str u0],.int .i64 0),(80,[.str u1],.int .i64 0)])):=fJ fun e he M=>by
  simp only[List.mem_cons,List.not_mem_nil,or_false] at he;rcases he with rfl | rfl
  ·exact cW _ n0 M
  ·exact cW _ n1 M
 have W0:qS prog (iV [(203,[shA s,.slice b 0 Z.length none],.int .i64 0),(45,[.slice u 0 0 none,.str u0],.bool false),(45,[.slice u 0 1 none,.str u1],.bool false),(204,[shA s,.slice b 0 Z.length none,.slice r1 0 Z.length none],.tuple [.bool true,.int .i64 0])] (fun M=>∃ext,M=m++ext)):=ma fun e he M hM=>by
  obtain⟨ext,rfl⟩:=hM;simp only[List.mem_cons,List.not_mem_nil,or_false] at he;rcases he with rfl | rfl | rfl | rfl
  ·exact pF s Z hZ hl hn _ b o1 o2 o3 (ep ext) (eq ext) (eb ext)
  ·exact fl _ u 0 o4 [u0,u1] u0 (eu ext) (by simp) (by simp) (by simp)
  ·exact fl _ u 1 o4 [u0,u1] u1 (eu ext) (by simp) (by simp) (by simp[YL])
  ·have:=pE s Z Y1 hZ YG (by omega) hn Xb W5 (m++ext) b r1 o1 o2 o3 q1 (ep ext) (eq ext) (eb ext) (er1 ext)
   rw[show Y1.length=Z.length by omega] at this;exact this
 have hO:=qS.or' Xx W0;clear Xx W0;refine aY (lv:=jO) (K:=5) hO ?_;clear hO;obtain⟨N,hN⟩:∃N,N=Z.length:=⟨_,rfl⟩
 simp only[←hN] at ec ⊢;simp[ad,acf,f150,aac.or,ar,de,iV,shA,aZ,aR,gl,jO,stC,eu,ec,w1,w2]
theorem F6(s:aaf)(nm:List UInt8)(u0 u1 u2:List UInt8)(n0:u0∈bk)(n1:u1∈bk)(n2:u2∈bk)(YL:u1≠u0)(d02:u2≠u0)(d12:u2≠u1)(Z:List Int)(hZ:∀z∈Z,z.natAbs<1000)(hl:Z.length≤1000)(hn:Z.length=s.P.length)(Y1 Y2:List Int)(YG:∀z∈Y1,z.natAbs<1000)(Xb:Y1.length=s.P.length)(W5:∀(i:Nat) z y,Z[i]? =some z→Y1[i]? =some y→z≤y)(hY2:∀z∈Y2,z.natAbs<1000)(WZ:Y2.length=s.P.length)(YM:∀(i:Nat) z y,Y1[i]? =some z→Y2[i]? =some y→z≤y)(m:Mem)(b u c r1 r2:Nat)(o1 o2 o3 o4 o5 q1 q2:Bool)(hp:m[0]? =some (.cells o1 2 (pC s.P)))(hq:m[1]? =some (.cells o2 3 (tC s.T)))(hb:m[b]? =some (.cells o3 1 (qC (qH Z))))(hu:m[u]? =some (.cells o4 1 (stC [u0,u1,u2])))(hc:m[c]? =some (.cells o5 1 [.slice r1 0 Z.length none,.slice r2 0 Z.length none]))(WL:m[r1]? =some (.cells q1 1 (qC (qH Y1))))(WR:m[r2]? =some (.cells q2 1 (qC (qH Y2)))):
  mB prog 150 [shA s,.agg (aZ nm (.slice b 0 Z.length none) (.slice u 0 3 none) (.slice c 0 2 none))] m (.int .i64 0) m:=by
 have lp:=(List.getElem?_eq_some_iff.1 hp).1;have lq:=(List.getElem?_eq_some_iff.1 hq).1;have lb:=(List.getElem?_eq_some_iff.1 hb).1;have lu:=(List.getElem?_eq_some_iff.1 hu).1;have lc:=(List.getElem?_eq_some_iff.1 hc).1;have lr1:=(List.getElem?_eq_some_iff.1 WL).1;have lr2:=(List.getElem?_eq_some_iff.1 WR).1;have ep:=fun ext:Mem=>(List.getElem?_append_left (l₂:=ext) lp).trans hp
 have eq:=fun ext:Mem=>(List.getElem?_append_left (l₂:=ext) lq).trans hq
 have eb:=fun ext:Mem=>(List.getElem?_append_left (l₂:=ext) lb).trans hb
 have eu:=fun ext:Mem=>(List.getElem?_append_left (l₂:=ext) lu).trans hu
 have ec:=fun ext:Mem=>(List.getElem?_append_left (l₂:=ext) lc).trans hc
 have er1:=fun ext:Mem=>(List.getElem?_append_left (l₂:=ext) lr1).trans WL
 have er2:=fun ext:Mem=>(List.getElem?_append_left (l₂:=ext) lr2).trans WR
 have Xx:qS prog (ar (de [(80,[.str u0],.int .i64 0),(80,[.str u1],.int .i64 0),(80,[.str u2],.int .i64 0)])):=fJ fun e he M=>by
  simp only[List.mem_cons,List.not_mem_nil,or_false] at he;rcases he with rfl | rfl | rfl
  ·exact cW _ n0 M
  ·exact cW _ n1 M
  ·exact cW _ n2 M
 have W0:qS prog (iV [(203,[shA s,.slice b 0 Z.length none],.int .i64 0),(45,[.slice u 0 0 none,.str u0],.bool false),(45,[.slice u 0 1 none,.str u1],.bool false),(45,[.slice u 0 2 none,.str u2],.bool false),(204,[shA s,.slice b 0 Z.length none,.slice r1 0 Z.length none],.tuple [.bool true,.int .i64 0]),(204,[shA s,.slice r1 0 Z.length none,.slice r2 0 Z.length none],.tuple [.bool true,.int .i64 0])] (fun M=>∃ext,M=m++ext)):=ma fun e he M hM=>by
  obtain⟨ext,rfl⟩:=hM;simp only[List.mem_cons,List.not_mem_nil,or_false] at he;rcases he with rfl | rfl | rfl | rfl | rfl | rfl
  ·exact pF s Z hZ hl hn _ b o1 o2 o3 (ep ext) (eq ext) (eb ext)
  ·exact fl _ u 0 o4 [u0,u1,u2] u0 (eu ext) (by simp) (by simp) (by simp)
  ·exact fl _ u 1 o4 [u0,u1,u2] u1 (eu ext) (by simp) (by simp) (by simp[YL])
  ·exact fl _ u 2 o4 [u0,u1,u2] u2 (eu ext) (by simp) (by simp) (by simp[d02,d12])
  ·have:=pE s Z Y1 hZ YG (by omega) hn Xb W5 (m++ext) b r1 o1 o2 o3 q1 (ep ext) (eq ext) (eb ext) (er1 ext)
   rw[show Y1.length=Z.length by omega] at this;exact this
  ·have:=pE s Y1 Y2 YG hY2 (by omega) Xb WZ YM (m++ext) r1 r2 o1 o2 q1 q2 (ep ext) (eq ext) (er1 ext) (er2 ext)
   rw[show Y2.length=Z.length by omega,show Y1.length=Z.length by omega] at this;exact this
 have hO:=qS.or' Xx W0;clear Xx W0;refine aY (lv:=jO) (K:=5) hO ?_;clear hO;obtain⟨N,hN⟩:∃N,N=Z.length:=⟨_,rfl⟩
 simp only[←hN] at ec ⊢;simp[ad,acf,f150,aac.or,ar,de,iV,shA,aZ,aR,gl,jO,stC,eu,ec,w1,w2,w3]
variable{i:Nat}
theorem sJ{L:List (List UInt8)}{s:List UInt8}(h:L[i]? =some s):(stC L)[i]? =some (.str s):=by simp[stC,h]
theorem xP(Q:List Rat):qC Q=stC (Q.map aN):=by simp[qC,stC]
theorem abJ:ba [0,0,3,7,0,0,48,112,255] 8=true:=by decide
def acJ:=bH (rfl:aP f113=_) (ls:=[[0,0,3,7,0,0,48,112,255]]) (by kernel_rfl)
variable{b:Code}
theorem Er{K:Nat}(L:List (List UInt8))(hl:L.length≤1000)(hK:L.length<K)(hb:aj f113=[b]):
  ∃F:Env→Bool→Env,∀y' d,(aa y' 0=.slice 0 0 L.length none∧aa y' 1=.slice 0 0 L.length none∧aa y' 12=.int .i64 L.length∧aa y' 13=.int .i64 0)→
   aQ (aC prog) (fun _=>[13]) bt K 26 1 true (.loop b) ⟨y',[.cells false 1 (stC L)],d⟩=some (.exit 0,⟨F y' d,[.cells false 1 (stC L)],d⟩)∧True:=by
 refine bf (L:=[13]) rfl (fun y'=>aa y' 0=.slice 0 0 L.length none∧aa y' 1=.slice 0 0 L.length none∧aa y' 12=.int .i64 L.length∧aa y' 13=.int .i64 0) (fun _ _=>True) ?_;rintro y' d ⟨h0,h1,h12,h13⟩;have PP:=acJ;simp only[aP,bQ,f113,List.nil_append,List.append_nil,List.map_cons,List.map_nil,List.cons.injEq,and_true] at PP;have e:=fun d x y=>fV d x y
 simp[aj,aD,f113] at hb;have UV:az [13] (ab b) y' ((13,.int .i64 ((0:Nat):Int))::y')=az [13] (ab b) y' y':=by simp[az,h13]
 rw[←UV];refine bA (α:=Nat) (fun n=>⟨az [13] (ab b) y' ((13,.int .i64 (n:Int))::y'),[.cells false 1 (stC L)],d⟩) (fun n=>L.length-n) (fun n=>n≤L.length) (.exit 0) _ d _ (by simp) ?_ K 0 (by omega) (by omega);rintro n Xi;clear UV;subst hb;by_cases AC:n<L.length
 ·obtain⟨z,hz⟩:∃z,L[n]? =some z:=⟨L[n],List.getElem?_eq_getElem AC⟩
  have k1:=sJ hz;have w1:IntKind.i64.wrap ((n:Int)+1)=((n+1:Nat):Int):=by rw[ai (by omega) (by omega)];omega
  left;obtain⟨v,hv⟩:∃v,v=n+1:=⟨_,rfl⟩
  rw[←hv] at w1;refine⟨v,?_⟩;simp[-ay,ag PP,aJ,aG,aH,abJ,h0,h1,h12,AC,k1,w1];omega
 ·right
  simp[h12,AC]
theorem acg:aO prog 113=some f113:=by kernel_rfl
theorem Om(L:List (List UInt8))(hl:L.length≤1000):
  mB prog 113 [.slice 0 0 L.length none,.slice 0 0 L.length none] [.cells false 1 (stC L)] (.bool true) [.cells false 1 (stC L)]:=by
 obtain⟨b,hb⟩:∃b,aj f113=[b]:=⟨_,rfl⟩
 obtain⟨F,hF⟩:=Er (K:=L.length+1) L hl (by omega) hb;have H1:=fun y' d h1 h2 h3 h4=>(hF y' d ⟨h1,h2,h3,h4⟩).1
 clear hF;simp[aj,aD,f113] at hb;subst hb;refine aY (lv:=(fun _=>[13])) (K:=(L.length+1)) (ah _) ?_;simp[ad,acg,f113,H1]
theorem Qu(L:List (List UInt8))(hl:L.length≤1000)(M:Mem)(b:Nat)(o:Bool)(hb:M[b]? =some (.cells o 1 (stC L))):
  mB prog 113 [.slice b 0 L.length none,.slice b 0 L.length none] M (.bool true) M:=by
 have AC:=(List.getElem?_eq_some_iff.1 hb).1;have:=mB.frame (M:=M) (new:=[]) [b] rfl (by simpa using AC) (by rfl) (fun i t hs=>by
  match i with
  |0=>simp at hs;subst hs;exact aV (dA _) hb List.take_length
  |i+1=>simp at hs) rfl (Om L hl)
 simpa [AV.aal,AV.ren,dr] using this
def acK:=bH (rfl:aP f32=_) (ls:=[[0,0,3,7,0,0,48,112,255]]) (by kernel_rfl)
theorem Eu{K:Nat}(L:List (List UInt8))(hl:L.length≤1000)(hK:L.length<K)(hb:aj f32=[b]):
  ∃F:Env→Bool→Env,∀y' d,(aa y' 0=.slice 0 0 L.length none∧aa y' 1=.slice 0 0 L.length none∧aa y' 12=.int .i64 L.length∧aa y' 13=.int .i64 0)→
   aQ (aC prog) (fun _=>[13]) bt K 26 1 true (.loop b) ⟨y',[.cells false 1 (stC L)],d⟩=some (.exit 0,⟨F y' d,[.cells false 1 (stC L)],d⟩)∧True:=by
 refine bf (L:=[13]) rfl (fun y'=>aa y' 0=.slice 0 0 L.length none∧aa y' 1=.slice 0 0 L.length none∧aa y' 12=.int .i64 L.length∧aa y' 13=.int .i64 0) (fun _ _=>True) ?_;rintro y' d ⟨h0,h1,h12,h13⟩;have PP:=acK;simp only[aP,bQ,f32,List.nil_append,List.append_nil,List.map_cons,List.map_nil,List.cons.injEq,and_true] at PP;have e:=fun d x y=>mI d x y
 simp[aj,aD,f32] at hb;have UV:az [13] (ab b) y' ((13,.int .i64 ((0:Nat):Int))::y')=az [13] (ab b) y' y':=by simp[az,h13]
 rw[←UV];refine bA (α:=Nat) (fun n=>⟨az [13] (ab b) y' ((13,.int .i64 (n:Int))::y'),[.cells false 1 (stC L)],d⟩) (fun n=>L.length-n) (fun n=>n≤L.length) (.exit 0) _ d _ (by simp) ?_ K 0 (by omega) (by omega);rintro n Xi;clear UV;subst hb;by_cases AC:n<L.length
 ·obtain⟨z,hz⟩:∃z,L[n]? =some z:=⟨L[n],List.getElem?_eq_getElem AC⟩
  have k1:=sJ hz;have w1:IntKind.i64.wrap ((n:Int)+1)=((n+1:Nat):Int):=by rw[ai (by omega) (by omega)];omega
  left;obtain⟨v,hv⟩:∃v,v=n+1:=⟨_,rfl⟩
  rw[←hv] at w1;refine⟨v,?_⟩;simp[-ay,ag PP,aJ,aG,aH,abJ,h0,h1,h12,AC,k1,w1];omega
 ·right
  simp[h12,AC]
theorem ach:aO prog 32=some f32:=by kernel_rfl
theorem On(L:List (List UInt8))(hl:L.length≤1000):
  mB prog 32 [.slice 0 0 L.length none,.slice 0 0 L.length none] [.cells false 1 (stC L)] (.bool true) [.cells false 1 (stC L)]:=by
 obtain⟨b,hb⟩:∃b,aj f32=[b]:=⟨_,rfl⟩
 obtain⟨F,hF⟩:=Eu (K:=L.length+1) L hl (by omega) hb;have H1:=fun y' d h1 h2 h3 h4=>(hF y' d ⟨h1,h2,h3,h4⟩).1
 clear hF;simp[aj,aD,f32] at hb;subst hb;refine aY (lv:=(fun _=>[13])) (K:=(L.length+1)) (ah _) ?_;simp[ad,ach,f32,H1]
theorem zP(L:List (List UInt8))(hl:L.length≤1000)(M:Mem)(b:Nat)(o:Bool)(hb:M[b]? =some (.cells o 1 (stC L))):
  mB prog 32 [.slice b 0 L.length none,.slice b 0 L.length none] M (.bool true) M:=by
 have AC:=(List.getElem?_eq_some_iff.1 hb).1;have:=mB.frame (M:=M) (new:=[]) [b] rfl (by simpa using AC) (by rfl) (fun i t hs=>by
  match i with
  |0=>simp at hs;subst hs;exact aV (dA _) hb List.take_length
  |i+1=>simp at hs) rfl (On L hl)
 simpa [AV.aal,AV.ren,dr] using this
def aat(N:Mem) (v:AV) (es n:Nat) (C:List AV):Prop:=(v=.kO∧n=0∧C=[])∨∃b o,v=.slice b 0 n none∧0<n∧N[b]? =some (.cells o es C)
variable{N:Mem}{n:Nat}{v:AV}
theorem aat.more{es:Nat}{C:List AV}(h:aat N v es n C)(Z:Mem):aat (N++Z) v es n C:=by
 rcases h with h | ⟨b,o,h1,h2,h3⟩
 ·exact .inl h
 ·exact .inr ⟨b,o,h1,h2,by rw[List.getElem?_append_left (List.getElem?_eq_some_iff.1 h3).1];exact h3⟩
theorem vi:∀l:List (List UInt8×List UInt8),AV.aag (kC l)=true
 | []=>rfl
 |k::l=>by simp[kC,AV.aag,AV.closed,vi l]
theorem VI(f:Nat→Bool):∀l:List (List UInt8×List UInt8),AV.aaa f (kC l)=true
 | []=>rfl
 |k::l=>by simp[kC,AV.aaa,AV.HK,VI f l]
theorem JA{K:Nat}(L:List (List UInt8))(hl:L.length≤1000)(hK:L.length<K)(hb:aj f113=[b]):
  ∃F:Env→Bool→Env,∀y' d,(aa y' 0=.slice 0 0 L.length none∧aa y' 1=.slice 1 0 L.length none∧aa y' 12=.int .i64 L.length∧aa y' 13=.int .i64 0)→
   aQ (aC prog) (fun _=>[13]) bt K 26 2 true (.loop b) ⟨y',[.cells false 1 (stC L),.cells false 1 (stC L)],d⟩=some (.exit 0,⟨F y' d,[.cells false 1 (stC L),.cells false 1 (stC L)],d⟩)∧True:=by
 refine bf (L:=[13]) rfl (fun y'=>aa y' 0=.slice 0 0 L.length none∧aa y' 1=.slice 1 0 L.length none∧aa y' 12=.int .i64 L.length∧aa y' 13=.int .i64 0) (fun _ _=>True) ?_;rintro y' d ⟨h0,h1,h12,h13⟩;have PP:=acJ;simp only[aP,bQ,f113,List.nil_append,List.append_nil,List.map_cons,List.map_nil,List.cons.injEq,and_true] at PP;have e:=fun d=>fV d
 simp[aj,aD,f113] at hb;have UV:az [13] (ab b) y' ((13,.int .i64 ((0:Nat):Int))::y')=az [13] (ab b) y' y':=by simp[az,h13]
 rw[←UV];refine bA (α:=Nat) (fun n=>⟨az [13] (ab b) y' ((13,.int .i64 (n:Int))::y'),[.cells false 1 (stC L),.cells false 1 (stC L)],d⟩) (fun n=>L.length-n) (fun n=>n≤L.length) (.exit 0) _ d _ (by simp) ?_ K 0 (by omega) (by omega);rintro n Xi;clear UV;subst hb;by_cases AC:n<L.length
 ·obtain⟨z,hz⟩:∃z,L[n]? =some z:=⟨L[n],List.getElem?_eq_getElem AC⟩
  have k1:=sJ hz;have k2:=dB L;have w1:IntKind.i64.wrap ((n:Int)+1)=((n+1:Nat):Int):=by rw[ai (by omega) (by omega)];omega
  have k3:n*1+1≤(stC L).length:=by omega
  clear k2;left;obtain⟨v,hv⟩:∃v,v=n+1:=⟨_,rfl⟩
  rw[←hv] at w1;refine⟨v,?_⟩;simp[-ay,ag PP,aJ,aG,aH,abJ,h0,h1,h12,AC,k1,w1];omega
 ·right
  simp[h12,AC]
theorem SJ(L:List (List UInt8))(hl:L.length≤1000):
  mB prog 113 [.slice 0 0 L.length none,.slice 1 0 L.length none] [.cells false 1 (stC L),.cells false 1 (stC L)] (.bool true) [.cells false 1 (stC L),.cells false 1 (stC L)]:=by
 obtain⟨b,hb⟩:∃b,aj f113=[b]:=⟨_,rfl⟩
 obtain⟨F,hF⟩:=JA (K:=L.length+1) L hl (by omega) hb;have H1:=fun y' d h1 h2 h3 h4=>(hF y' d ⟨h1,h2,h3,h4⟩).1
 clear hF;simp[aj,aD,f113] at hb;subst hb;refine aY (lv:=(fun _=>[13])) (K:=(L.length+1)) (ah _) ?_;simp[ad,acg,f113,H1]
theorem SK(M:Mem):mB prog 113 [.kO,.kO] M (.bool true) M:=by refine aB (ah _) (lv:=fun _=>[13]) (K:=3) rfl rfl ?_ M;simp[ad,acg,f113,aR,gl]
theorem Uu{M:Mem}{x y:AV}{L:List (List UInt8)}(hl:L.length≤1000)(hx:aat M x 1 L.length (stC L))(hy:aat M y 1 L.length (stC L)):mB prog 113 [x,y] M (.bool true) M:=by
 rcases hx with⟨rfl,h1,_⟩ | ⟨b,o,rfl,hp,hb⟩
 ·rcases hy with⟨rfl,_,_⟩ | ⟨b',o',_,Zg,_⟩
  ·exact SK M
  ·omega
 ·rcases hy with⟨_,h1,_⟩ | ⟨b',o',rfl,_,J'⟩
  ·omega
  ·exact mB.abH (rest:=[]) (dA L) (dA L) rfl rfl (SJ L hl) ⟨b,o,_,rfl,hb,List.take_length⟩ ⟨b',o',_,rfl,J',List.take_length⟩
theorem JB{K:Nat}(L:List (List UInt8×List UInt8))(hl:L.length≤1000)(hK:L.length<K)(hb:aj f84=[b]):
  ∃F:Env→Bool→Env,∀y' d,(aa y' 0=.slice 0 0 L.length none∧aa y' 1=.slice 1 0 L.length none∧aa y' 12=.int .i64 L.length∧aa y' 13=.int .i64 0)→
   aQ (aC prog) (fun _=>[13]) bt K 26 2 true (.loop b) ⟨y',[.cells false 2 (kC L),.cells false 2 (kC L)],d⟩=some (.exit 0,⟨F y' d,[.cells false 2 (kC L),.cells false 2 (kC L)],d⟩)∧True:=by
 refine bf (L:=[13]) rfl (fun y'=>aa y' 0=.slice 0 0 L.length none∧aa y' 1=.slice 1 0 L.length none∧aa y' 12=.int .i64 L.length∧aa y' 13=.int .i64 0) (fun _ _=>True) ?_;rintro y' d ⟨h0,h1,h12,h13⟩;have PP:=bH (rfl:aP f84=_) (ls:=[[0,0,3,7,0,0,48,112,255]]) (by kernel_rfl);simp only[aP,bQ,f84,List.nil_append,List.append_nil,List.map_cons,List.map_nil,List.cons.injEq,and_true] at PP;have e:=fun d=>Ak d
 simp[aj,aD,f84] at hb;have UV:az [13] (ab b) y' ((13,.int .i64 ((0:Nat):Int))::y')=az [13] (ab b) y' y':=by simp[az,h13]
 rw[←UV];refine bA (α:=Nat) (fun n=>⟨az [13] (ab b) y' ((13,.int .i64 (n:Int))::y'),[.cells false 2 (kC L),.cells false 2 (kC L)],d⟩) (fun n=>L.length-n) (fun n=>n≤L.length) (.exit 0) _ d _ (by simp) ?_ K 0 (by omega) (by omega);rintro n Xi;clear UV;subst hb;by_cases AC:n<L.length
 ·obtain⟨z,hz⟩:∃z,L[n]? =some z:=⟨L[n],List.getElem?_eq_getElem AC⟩
  have k1:=(UO hz).1;have k2:=A9 L;have w1:IntKind.i64.wrap ((n:Int)+1)=((n+1:Nat):Int):=by rw[ai (by omega) (by omega)];omega
  have k3:n*2+2≤(kC L).length:=by omega
  clear k2;left;obtain⟨v,hv⟩:∃v,v=n+1:=⟨_,rfl⟩
  rw[←hv] at w1;refine⟨v,?_⟩;simp[-ay,ag PP,aJ,aG,aH,abJ,h0,h1,h12,AC,k1,k3,w1,e];omega
 ·right
  simp[h12,AC]
theorem SN(L:List (List UInt8×List UInt8))(hl:L.length≤1000):
  mB prog 84 [.slice 0 0 L.length none,.slice 1 0 L.length none] [.cells false 2 (kC L),.cells false 2 (kC L)] (.bool true) [.cells false 2 (kC L),.cells false 2 (kC L)]:=by
 have hG:aO prog 84=some f84:=by kernel_rfl
 obtain⟨b,hb⟩:∃b,aj f84=[b]:=⟨_,rfl⟩
 obtain⟨F,hF⟩:=JB (K:=L.length+1) L hl (by omega) hb;have H1:=fun y' d h1 h2 h3 h4=>(hF y' d ⟨h1,h2,h3,h4⟩).1
 clear hF;simp[aj,aD,f84] at hb;subst hb;refine aY (lv:=(fun _=>[13])) (K:=(L.length+1)) (ah _) ?_;simp[ad,hG,f84,H1]
theorem SO(M:Mem):mB prog 84 [.kO,.kO] M (.bool true) M:=by
 have hG:aO prog 84=some f84:=by kernel_rfl
 refine aB (ah _) (lv:=fun _=>[13]) (K:=3) rfl rfl ?_ M;simp[ad,hG,f84,aR,gl]
theorem Uv{M:Mem}{x y:AV}{L:List (List UInt8×List UInt8)}(hl:L.length≤1000)(hx:aat M x 2 L.length (kC L))(hy:aat M y 2 L.length (kC L)):mB prog 84 [x,y] M (.bool true) M:=by
 rcases hx with⟨rfl,h1,_⟩ | ⟨b,o,rfl,hp,hb⟩
 ·rcases hy with⟨rfl,_,_⟩ | ⟨b',o',_,Zg,_⟩
  ·exact SO M
  ·omega
 ·rcases hy with⟨_,h1,_⟩ | ⟨b',o',rfl,_,J'⟩
  ·omega
  ·exact mB.abH (rest:=[]) (vi L) (vi L) rfl rfl (SN L hl) ⟨b,o,_,rfl,hb,List.take_length⟩ ⟨b',o',_,rfl,J',List.take_length⟩
theorem JC{K:Nat}(L:List (List UInt8))(hl:L.length≤1000)(hK:L.length<K)(hb:aj f32=[b]):
  ∃F:Env→Bool→Env,∀y' d,(aa y' 0=.slice 0 0 L.length none∧aa y' 1=.slice 1 0 L.length none∧aa y' 12=.int .i64 L.length∧aa y' 13=.int .i64 0)→
   aQ (aC prog) (fun _=>[13]) bt K 26 2 true (.loop b) ⟨y',[.cells false 1 (stC L),.cells false 1 (stC L)],d⟩=some (.exit 0,⟨F y' d,[.cells false 1 (stC L),.cells false 1 (stC L)],d⟩)∧True:=by
 refine bf (L:=[13]) rfl (fun y'=>aa y' 0=.slice 0 0 L.length none∧aa y' 1=.slice 1 0 L.length none∧aa y' 12=.int .i64 L.length∧aa y' 13=.int .i64 0) (fun _ _=>True) ?_;rintro y' d ⟨h0,h1,h12,h13⟩;have PP:=acK;simp only[aP,bQ,f32,List.nil_append,List.append_nil,List.map_cons,List.map_nil,List.cons.injEq,and_true] at PP;have e:=fun d x y=>mI d x y
 simp[aj,aD,f32] at hb;have UV:az [13] (ab b) y' ((13,.int .i64 ((0:Nat):Int))::y')=az [13] (ab b) y' y':=by simp[az,h13]
 rw[←UV];refine bA (α:=Nat) (fun n=>⟨az [13] (ab b) y' ((13,.int .i64 (n:Int))::y'),[.cells false 1 (stC L),.cells false 1 (stC L)],d⟩) (fun n=>L.length-n) (fun n=>n≤L.length) (.exit 0) _ d _ (by simp) ?_ K 0 (by omega) (by omega);rintro n Xi;clear UV;subst hb;by_cases AC:n<L.length
 ·obtain⟨z,hz⟩:∃z,L[n]? =some z:=⟨L[n],List.getElem?_eq_getElem AC⟩
  have k1:=sJ hz;have k2:=dB L;have w1:IntKind.i64.wrap ((n:Int)+1)=((n+1:Nat):Int):=by rw[ai (by omega) (by omega)];omega
  have k3:n*1+1≤(stC L).length:=by omega
  clear k2;left;obtain⟨v,hv⟩:∃v,v=n+1:=⟨_,rfl⟩
  rw[←hv] at w1;refine⟨v,?_⟩;simp[-ay,ag PP,aJ,aG,aH,abJ,h0,h1,h12,AC,k1,w1];omega
 ·right
  simp[h12,AC]
theorem SQ(L:List (List UInt8))(hl:L.length≤1000):
  mB prog 32 [.slice 0 0 L.length none,.slice 1 0 L.length none] [.cells false 1 (stC L),.cells false 1 (stC L)] (.bool true) [.cells false 1 (stC L),.cells false 1 (stC L)]:=by
 obtain⟨b,hb⟩:∃b,aj f32=[b]:=⟨_,rfl⟩
 obtain⟨F,hF⟩:=JC (K:=L.length+1) L hl (by omega) hb;have H1:=fun y' d h1 h2 h3 h4=>(hF y' d ⟨h1,h2,h3,h4⟩).1
 clear hF;simp[aj,aD,f32] at hb;subst hb;refine aY (lv:=(fun _=>[13])) (K:=(L.length+1)) (ah _) ?_;simp[ad,ach,f32,H1]
theorem SR(M:Mem):mB prog 32 [.kO,.kO] M (.bool true) M:=by refine aB (ah _) (lv:=fun _=>[13]) (K:=3) rfl rfl ?_ M;simp[ad,ach,f32,aR,gl]
theorem Uw{M:Mem}{x y:AV}{L:List (List UInt8)}(hl:L.length≤1000)(hx:aat M x 1 L.length (stC L))(hy:aat M y 1 L.length (stC L)):mB prog 32 [x,y] M (.bool true) M:=by
 rcases hx with⟨rfl,h1,_⟩ | ⟨b,o,rfl,hp,hb⟩
 ·rcases hy with⟨rfl,_,_⟩ | ⟨b',o',_,Zg,_⟩
  ·exact SR M
  ·omega
 ·rcases hy with⟨_,h1,_⟩ | ⟨b',o',rfl,_,J'⟩
  ·omega
  ·exact mB.abH (rest:=[]) (dA L) (dA L) rfl rfl (SQ L hl) ⟨b,o,_,rfl,hb,List.take_length⟩ ⟨b',o',_,rfl,J',List.take_length⟩
theorem AA{M:Mem}{x y:AV}{L:List (List UInt8)}(hl:L.length≤1000)(hx:aat M x 1 L.length (stC L))(hy:aat M y 1 L.length (stC L)):mB prog 82 [x,y] M (.bool true) M:=by
 have hG:aO prog 82=some f82:=by kernel_rfl
 have hO:qS prog (gP 113 [x,y] (.bool true) (fun N=>N=M)):=ij fun N hN=>by subst hN;exact Uu hl hx hy
 refine aY (K:=1) (lv:=fun _=>[]) hO ?_;clear hO;simp[ad,hG,f82,gP]
def abn(N:Mem) (v:AV) (S:List (List (List UInt8))):Prop:=∃vs,vs.length=S.length∧aat N v 1 S.length vs∧∀(i:Nat) x L,vs[i]? =some x→S[i]? =some L→aat N x 1 L.length (stC L)
theorem abn.more{S:List (List (List UInt8))}(h:abn N v S)(Z:Mem):abn (N++Z) v S:=by obtain⟨vs,h1,h2,h3⟩:=h;exact⟨vs,h1,h2.more Z,fun i x L a b=>(h3 i x L a b).more Z⟩
noncomputable def EY(vs ws:List AV) (m:Mem):aac:=fS fun c a N r=>∃(i:Nat) (x y:AV),vs[i]? =some x∧ws[i]? =some y∧c=.fn 82∧a=[x,y]∧N=m∧r=⟨.bool true,none,[]⟩
variable{m:Mem}{vs ws:List AV}
theorem MI{x y:AV}(h1:vs[i]? =some x)(h2:ws[i]? =some y):EY vs ws m (.fn 82) [x,y] m=some ⟨.bool true,none,[]⟩:=
 eY ⟨i,x,y,h1,h2,rfl,rfl,rfl,rfl⟩ fun r' ⟨_,_,_,_,_,_,_,_,h⟩=>h
variable{w:AV}
theorem JE(lv:vs.length=n)(lw:ws.length=n)(hv:aat m v 1 n vs)(hw:aat m w 1 n ws)(hl:n≤1000){K m0:Nat}(hK:n<K)(hb:aj f114=[b]):
  ∃F:Env→Bool→Env,∀y' d,(aa y' 15=v∧aa y' 1=w∧aa y' 2=.func 82 []∧aa y' 16=.int .i64 n∧aa y' 17=.int .i64 0)→
   aQ (aC prog) (fun _=>[17,17,17]) (EY vs ws m) K 32 m0 true (.loop b) ⟨y',m,d⟩=some (.exit 0,⟨F y' d,m,d⟩)∧True:=by
 refine bf rfl (fun y'=>aa y' 15=v∧aa y' 1=w∧aa y' 2=.func 82 []∧aa y' 16=.int .i64 n∧aa y' 17=.int .i64 0) (fun _ _=>True) ?_;rintro y' d ⟨h15,h1,h2,h16,h17⟩;simp[aj,aD,f114] at hb;have hn:az [17,17,17] (ab b) y' ((17,.int .i64 ((0:Nat):Int))::y')=az [17,17,17] (ab b) y' y':=by simp[az,h17]
 rw[←hn];refine bA (α:=Nat) (fun i=>⟨az [17,17,17] (ab b) y' ((17,.int .i64 (i:Int))::y'),m,d⟩) (fun i=>n-i) (fun i=>i≤n) (.exit 0) _ d _ (by simp) ?_ K 0 (by omega) (by omega);rintro i hi;clear hn;by_cases AC:i<n
 ·obtain⟨x,hx⟩:∃x,vs[i]? =some x:=⟨_,List.getElem?_eq_getElem (by omega)⟩
  obtain⟨y,hy⟩:∃y,ws[i]? =some y:=⟨_,List.getElem?_eq_getElem (by omega)⟩
  have w1:IntKind.i64.wrap ((i:Int)+1)=((i+1:Nat):Int):=by rw[ai (by omega) (by omega)];omega
  have ho:=MI (m:=m) hx hy;have xl:=(List.getElem?_eq_some_iff.1 hx).1;have yl:=(List.getElem?_eq_some_iff.1 hy).1;have YN :∀h,vs[i]'h=x:=fun h=>by rw[List.getElem?_eq_getElem h] at hx;exact Option.some.inj hx
  have hy' :∀h,ws[i]'h=y:=fun h=>by rw[List.getElem?_eq_getElem h] at hy;exact Option.some.inj hy
  rcases hv with⟨_,h,_⟩ | ⟨b1,o1,rfl,_,e1⟩
  ·omega
  rcases hw with⟨_,h,_⟩ | ⟨b2,o2,rfl,_,e2⟩
  ·omega
  left;refine⟨i+1,?_⟩;refine cC (show i+1≤n∧n-(i+1)<n-i from⟨by omega,by omega⟩) ?_;subst hb;simp[h15,h1,h2,h16,AC,e1,e2,YN,hy',xl,yl,ho,w1]
 ·right
  subst hb;simp[h16,AC]
section
variable{S:List (List (List UInt8))}(hv:abn m v S)(hw:abn m w S)(hl:S.length≤1000)(hS:∀L∈S,L.length≤1000)
include S hv hw hl hS
theorem SM:
  mB prog 114 [v,w,.func 82 []] m (.bool true) m:=by
 have hG:aO prog 114=some f114:=by kernel_rfl
 obtain⟨vs,l1,r1,c1⟩:=hv;obtain⟨ws,l2,r2,c2⟩:=hw;have hO:qS prog (EY vs ws m):=vz fun c a N r hr=>by
  obtain⟨i,x,y,hx,hy,rfl,rfl,rfl,rfl⟩:=hr;have AC:=(List.getElem?_eq_some_iff.1 hx).1;obtain⟨L,hL⟩:∃L,S[i]? =some L:=⟨_,List.getElem?_eq_getElem (by omega)⟩
  exact ak (by simpa using AA (hS L (List.mem_of_getElem? hL)) (c1 i x L hx hL) (c2 i y L hy hL))
 obtain⟨b,hb⟩:∃b,aj f114=[b]:=⟨_,rfl⟩
 obtain⟨F,hF⟩:=JE (m0:=m.length) (K:=S.length+1) l1 l2 r1 r2 hl (by omega) hb;have H1:=fun y' d h=>(hF y' d h).1
 clear hF;simp[aj,aD,f114] at hb;subst hb;have XZ:∀N',dY (aC prog) 46 N' v=some (.int .i64 S.length):=fun N' =>by
  rcases r1 with⟨rfl,h,_⟩ | ⟨b,o,rfl,_⟩
  ·rw[h];simp
  ·simp
 have hlw:∀N',dY (aC prog) 46 N' w=some (.int .i64 S.length):=fun N' =>by
  rcases r2 with⟨rfl,h,_⟩ | ⟨b,o,rfl,_⟩
  ·rw[h];simp
  ·simp
 refine aY (lv:=(fun _=>[17,17,17])) (K:=(S.length+1)) hO ?_;clear hO;simp[-dY,XZ,hlw,ad,hG,f114,H1]
theorem Pm:mB prog 83 [v,w] m (.bool true) m:=by
 have hG:aO prog 83=some f83:=by kernel_rfl
 have hO:qS prog (gP 114 [v,w,.func 82 []] (.bool true) (fun N=>N=m)):=ij fun N hN=>by subst hN;exact SM hv hw hl hS
 refine aY (K:=1) (lv:=fun _=>[]) hO ?_;clear hO;simp[ad,hG,f83,gP]
end
structure Evc.Ok (c:Evc):Prop where
 B:c.B.length≤1000
 U:c.U.length≤1000
 S:c.S.length≤2
 SL:∀L∈c.S,L.length≤1000
 K:c.K.length≤1000
def aaI(N:Mem) (ev:List AV) (c:Evc):Prop:=∃b u s kn,ev=c.cells b u s kn∧aat N b 1 c.B.length (stC c.B)∧aat N u 1 c.U.length (stC c.U)∧abn N s c.S∧aat N kn 2 c.K.length (kC c.K)
variable{c:Evc}{ev:List AV}
theorem aaI.more(h:aaI N ev c)(Z:Mem):aaI (N++Z) ev c:=by obtain⟨b,u,s,kn,h1,h2,h3,h4,h5⟩:=h;exact⟨b,u,s,kn,h1,h2.more Z,h3.more Z,h4.more Z,h5.more Z⟩
def uD(b b' u u' s s' kn WT :AV) (m:Mem) (c:Go.Eng.Callee) (a:List AV) (N:Mem) (r:HS):Prop:=(∃Z,N=m++Z)∧((c=.fn 82∧a=[b,b'])∨(c=.fn 32∧a=[u,u'])∨(c=.fn 83∧a=[s,s'])∨(c=.fn 84∧a=[kn,WT]))∧r=⟨.bool true,none,[]⟩
def AR(nm:List UInt8) (n:Z3) (o:Int) (s:Z3):Evc:={ k:=2,nm:=nm,x5:=zS n.1,x6:=zS n.2.1,x7:=zS n.2.2,x8:=zS o,x9:=zS s.1,x10:=zS s.2.1,x11:=zS s.2.2 }
def MP(nm:List UInt8) (n:Z3) (K:List (List UInt8×List UInt8)) (s:Z3):Evc:={ k:=3,nm:=nm,x12:=zS n.1,x13:=zS n.2.1,x14:=zS n.2.2,K:=K,x16:=zS s.1,x17:=zS s.2.1,x18:=zS s.2.2 }
def PH(nm:List UInt8) (n:Z3) (o w:Int) (u:List UInt8):Evc:={ k:=4,nm:=nm,x19:=zS n.1,x20:=zS n.2.1,x21:=zS n.2.2,x22:=zS o,x23:=aN (hQ w),x24:=u }
def J7(nm:List UInt8) (t:Int×Int×Int×Int) (c:Z3):Evc:={ k:=5,nm:=nm,t1:=t.1,t2:=t.2.1,t3:=t.2.2.1,t4:=t.2.2.2,x29:=zS c.1,x30:=zS c.2.1,x31:=zS c.2.2 }
def Fm(nm:List UInt8) (B U:List (List UInt8)) (S:List (List (List UInt8))):Evc:={ k:=1,nm:=nm,B:=B,U:=U,S:=S }
theorem zk(hB:c.B=[])(hU:c.U=[])(hS:c.S=[])(hK:c.K.length≤1000):c.Ok:=⟨by simp[hB],by simp[hU],by simp[hS],by simp[hS],hK⟩
theorem FR(N:Mem):abn N .kO []:=⟨[],rfl,.inl ⟨rfl,rfl,rfl⟩,fun i x L h=>by simp at h⟩
theorem ve(h:ev=c.cells .kO .kO .kO .kO)(hB:c.B=[])(hU:c.U=[])(hS:c.S=[])(hK:c.K=[]):aaI N ev c:=
 ⟨_,_,_,_,h,.inl ⟨rfl,by simp[hB],by simp[hB,stC]⟩,.inl ⟨rfl,by simp[hU],by simp[hU,stC]⟩,by rw[hS];exact FR N,.inl ⟨rfl,by simp[hK],by simp[hK,kC]⟩⟩
variable{nm:List UInt8}{o o2:Bool}
theorem Fv{B U:List (List UInt8)}{S:List (List (List UInt8))}{b u:Nat}{sv:AV}(hB:0<B.length)(hU:0<U.length)(hb:N[b]? =some (.cells o 1 (stC B)))(hu:N[u]? =some (.cells o2 1 (stC U)))(hs:abn N sv S):
  aaI N (aZ nm (.slice b 0 B.length none) (.slice u 0 U.length none) sv) (Fm nm B U S):=⟨_,_,_,.kO,rfl,.inr ⟨b,o,rfl,hB,hb⟩,.inr ⟨u,o2,rfl,hU,hu⟩,hs,.inl ⟨rfl,rfl,rfl⟩⟩
theorem Rx{n s:Z3}{L:List P2}{b:Nat}(hL:0<L.length)(hb:N[b]? =some (.cells o 2 (pC L))):aaI N (cb nm n (.slice b 0 L.length none) s) (MP nm n (kT L) s):=
 ⟨.kO,.kO,.kO,_,rfl,.inl ⟨rfl,rfl,rfl⟩,.inl ⟨rfl,rfl,rfl⟩,FR N,.inr ⟨b,o,by show AV.slice b 0 L.length none=.slice b 0 (kT L).length none;rw[qP],by show 0<(kT L).length;rw[qP];exact hL,by show N[b]? =some (.cells o 2 (kC (kT L)));rw[←R7];exact hb⟩⟩
variable{L1:List (List UInt8)}{o1:Bool}{r1:Nat}
theorem VQ{c:Nat}(hc:N[c]? =some (.cells o 1 [.slice r1 0 L1.length none]))(h1:N[r1]? =some (.cells o1 1 (stC L1)))(l1:0<L1.length):abn N (.slice c 0 1 none) [L1]:=
 ⟨_,rfl,.inr ⟨c,o,rfl,by simp,hc⟩,fun i x L hx hL=>by
  match i,hx,hL with
  |0,hx,hL=>simp at hx hL;subst hx hL;exact .inr ⟨r1,o1,rfl,l1,h1⟩
  |i+1,hx,hL=>simp at hx⟩
theorem VR{c r2:Nat}{L2:List (List UInt8)}(hc:N[c]? =some (.cells o 1 [.slice r1 0 L1.length none,.slice r2 0 L2.length none]))(h1:N[r1]? =some (.cells o1 1 (stC L1)))(h2:N[r2]? =some (.cells o2 1 (stC L2)))(l1:0<L1.length)(l2:0<L2.length):abn N (.slice c 0 2 none) [L1,L2]:=
 ⟨_,rfl,.inr ⟨c,o,rfl,by simp,hc⟩,fun i x L hx hL=>by
  match i,hx,hL with
  |0,hx,hL=>simp at hx hL;subst hx hL;exact .inr ⟨r1,o1,rfl,l1,h1⟩
  |1,hx,hL=>simp at hx hL;subst hx hL;exact .inr ⟨r2,o2,rfl,l2,h2⟩
  |i+2,hx,hL=>simp at hx⟩
def hT(Z:List Int):List (List UInt8):=(qH Z).map aN
theorem dh(Z:List Int):(hT Z).length=Z.length:=by simp[hT,qH]
theorem wH(Z:List Int):jm Z=.cells true 1 (stC (hT Z)):=by rw[jm,xP];rfl
end Go.Proofs
