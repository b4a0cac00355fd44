/- See Q54. -/
import Derived.Test.YtgafjliihahjgaaGreatDoorQ46
set_option linter.all false
namespace Go.Proofs
open Go.Eng
theorem Nz(a b c:List UInt8) (M:Mem):ACallsTo Tryz.prog 125 [.agg [.str a,.str b,.str c]] M (.agg [.str a,.str b,.str c]) M:=by
 have hG:aL Tryz.prog 125=some Tryz.f125:=by kernel_rfl
 refine aq (ao _) (lv:=fun _=>[]) (K:=1) rfl rfl ?_ M;simp[aa,hG,Tryz.f125,bO]
theorem Lh(a b c:List UInt8) (M:Mem):ACallsTo Tryz.prog 180 [.agg [.str a,.str b,.str c]] M (.agg [.str a,.str b,.str c]) M:=by
 have hG:aL Tryz.prog 180=some Tryz.f180:=by kernel_rfl
 refine aq (ao _) (lv:=fun _=>[]) (K:=1) rfl rfl ?_ M;simp[aa,hG,Tryz.f180,bO,aH]
noncomputable def oV(f:FuncId) (args:List AV):Option AV:=
 match f,args with
 |125,[.agg [.str a,.str b,.str c]]=>some (.agg [.str a,.str b,.str c])
 |180,[.agg [.str a,.str b,.str c]]=>some (.agg [.str a,.str b,.str c])
 |f,args=>aX f args
theorem qi:OracleOk Tryz.prog (af oV):=bq fun f args v h mem=>by
 unfold oV at h;split at h
 ·cases h;exact Nz _ _ _ mem
 ·cases h;exact Lh _ _ _ mem
 ·have:=cM.fn _ _ mem ⟨v,none,[]⟩ (by unfold af;simp only;rw[h])
  simpa [CallRes.mem] using this
def afA(r:M3) (s:V3):AV:=.agg (mC r++vL s)
set_option maxRecDepth 8192 in
theorem It(r:M3) (s:V3) (M:Mem):ACallsTo Tryz.prog 123 [afA r s] M (.agg (mC r)) M:=by
 have hG:aL Tryz.prog 123=some Tryz.f123:=by kernel_rfl
 refine aq qi (lv:=fun _=>[]) (K:=1) rfl rfl ?_ M;obtain⟨o1,hops⟩:∃o1,aE Tryz.f123=[o1]:=⟨_,rfl⟩
 have hb1:=cE hops (l:=[0,1,3,7,0,16,48,127,0,256,768,2047,4095,8191]) (by kernel_rfl);have j1:aN [0,1,3,7,0,16,48,127,0,256,768,2047,4095,8191] 13=true:=by decide
 simp[aE,bC,Tryz.f123] at hops;subst hops;simp[aa,hG,Tryz.f123,af,oV,afA,mC,vL,bO,-aD,ai hb1,bc,aW,a8,j1,Nat.testBit]
def apM(r:M3) (v:V3):Mem:=[.cells true 0 (mC r),.cells true 0 (vL v),.cells true 0 [.str [],.str [],.str []],.cells true 0 [.str [],.str [],.str []]]
theorem ns(r:M3) (v:V3) (h:mOk r v) (i:Nat) (hi:i<3):ACallsTo Tryz.prog 182 [.int .i64 i,.ptr 0 0,.ptr 1 0] (apM r v) (.str (ah (ei (if i=0 then r.1 else if i=1 then r.2.1 else r.2.2) v))) (apM r v):=by
 have hG:aL Tryz.prog 182=some Tryz.f182:=by kernel_rfl
 obtain⟨h1,h2,h3⟩:=h;obtain⟨r1,r2,r3⟩:=r;simp only at h1 h2 h3;have hc:i=0∨i=1∨i=2:=by omega
 have h:aa (aM Tryz.prog) (fun _=>[]) (aL Tryz.prog) (af aX) 1 182 [.int .i64 i,.ptr 0 0,.ptr 1 0] (apM (r1,r2,r3) v)=some ⟨.str (ah (ei (if i=0 then r1 else if i=1 then r2 else r3) v)),none,[]⟩:=by rcases hc with rfl | rfl | rfl<;>simp[aa,hG,Tryz.f182,af,aX,apM,mC,vL,nr,h1,h2,h3,Nat.testBit]
 have:=(al ae (aw _) cM (az _) h).1;simpa [CallRes.mem] using this
theorem IB(r:M3) (v:V3) (h:mOk r v):
  ACallsTo Tryz.prog 181 [.func 182 [.ptr 0 0,.ptr 1 0]] [.cells true 0 (mC r),.cells true 0 (vL v),.cells true 0 [.str [],.str [],.str []]] (vA (nb r v)) [.cells true 0 (mC r),.cells true 0 (vL v),.cells true 0 [.str [],.str [],.str []]]:=by
 have hG:aL Tryz.prog 181=some Tryz.f181:=by kernel_rfl
 obtain⟨L,hL⟩:∃L:List (FuncId×List AV×Mem×CallRes),L=[(182,[.int .i64 (0:Nat),.ptr 0 0,.ptr 1 0],apM r v,⟨.str (ah (ei r.1 v)),none,[]⟩),
  (182,[.int .i64 (1:Nat),.ptr 0 0,.ptr 1 0],apM r v,⟨.str (ah (ei r.2.1 v)),none,[]⟩),
  (182,[.int .i64 (2:Nat),.ptr 0 0,.ptr 1 0],apM r v,⟨.str (ah (ei r.2.2 v)),none,[]⟩)]:=⟨_,rfl⟩
 have hO:OracleOk Tryz.prog (dR L):=er fun x hx=>by
  rw[hL] at hx;simp only[List.mem_cons,List.not_mem_nil,or_false] at hx;rcases hx with rfl | rfl | rfl
  ·exact⟨by simpa [CallRes.mem] using ns r v h 0 (by decide),fun p hp=>by cases hp⟩
  ·exact⟨by simpa [CallRes.mem] using ns r v h 1 (by decide),fun p hp=>by cases hp⟩
  ·exact⟨by simpa [CallRes.mem] using ns r v h 2 (by decide),fun p hp=>by cases hp⟩
 refine aZ (K:=1) (lv:=fun _=>[]) hO ?_;clear hO;subst hL;unfold nb;obtain⟨x,hx⟩:∃x,x=ei r.1 v:=⟨_,rfl⟩
 obtain⟨y,hy⟩:∃x,x=ei r.2.1 v:=⟨_,rfl⟩
 obtain⟨z,hz⟩:∃x,x=ei r.2.2 v:=⟨_,rfl⟩
 rw[←hx,←hy,←hz];simp[aa,hG,Tryz.f181,dR,apM,vA,vL,mC,bO]
theorem DZ(r:M3) (v:V3) (h:mOk r v) (M:Mem):ACallsTo Tryz.prog 124 [.agg (mC r),vA v] M (vA (nb r v)) M:=by
 have hG:aL Tryz.prog 124=some Tryz.f124:=by kernel_rfl
 obtain⟨L,hL⟩:∃L:List (FuncId×List AV×Mem×CallRes),L=[(181,[.func 182 [.ptr 0 0,.ptr 1 0]],[.cells true 0 (mC r),.cells true 0 (vL v),.cells true 0 [.str [],.str [],.str []]],⟨vA (nb r v),none,[]⟩)]:=⟨_,rfl⟩
 have hO:OracleOk Tryz.prog (dR L):=er fun x hx=>by rw[hL,List.mem_singleton] at hx;subst hx;exact⟨by simpa [CallRes.mem] using IB r v h,fun p hp=>by cases hp⟩
 refine aq hO (lv:=fun _=>[]) (K:=1) rfl (by rfl) ?_ M;clear hO;subst hL;obtain⟨w,hw⟩:∃w,w=nb r v:=⟨_,rfl⟩
 rw[←hw];simp[aa,hG,Tryz.f124,dR,vA,vL,mC]
def adM(u v:V3):Mem:=[.cells true 0 (vL u),.cells true 0 (vL v),.cells true 0 [.str [],.str [],.str []],.cells true 0 [.str [],.str [],.str []]]
theorem tw(u v:V3) (hu:vF u) (hv:vF v) (i:Nat) (hi:i<3):ACallsTo Tryz.prog 184 [.int .i64 i,.ptr 0 0,.ptr 1 0] (adM u v) (.str (ah (if i=0 then u.1+v.1 else if i=1 then u.2.1+v.2.1 else u.2.2+v.2.2))) (adM u v):=by
 have hG:aL Tryz.prog 184=some Tryz.f184:=by kernel_rfl
 obtain⟨⟨a1,a2⟩,⟨a3,a4⟩,a5,a6⟩:=hu;obtain⟨⟨b1,b2⟩,⟨b3,b4⟩,b5,b6⟩:=hv;have hc:i=0∨i=1∨i=2:=by omega
 refine aZ (K:=1) (lv:=fun _=>[]) bK ?_;rcases hc with rfl | rfl | rfl<;>simp[aa,hG,Tryz.f184,af,aA,aC,ay,adM,vL,a1,a2,a3,a4,a5,a6,b1,b2,b3,b4,b5,b6,Nat.testBit]
theorem IC(u v:V3) (hu:vF u) (hv:vF v):
  ACallsTo Tryz.prog 181 [.func 184 [.ptr 0 0,.ptr 1 0]] [.cells true 0 (vL u),.cells true 0 (vL v),.cells true 0 [.str [],.str [],.str []]] (vA (iT u v)) [.cells true 0 (vL u),.cells true 0 (vL v),.cells true 0 [.str [],.str [],.str []]]:=by
 have hG:aL Tryz.prog 181=some Tryz.f181:=by kernel_rfl
 obtain⟨L,hL⟩:∃L:List (FuncId×List AV×Mem×CallRes),L=[(184,[.int .i64 (0:Nat),.ptr 0 0,.ptr 1 0],adM u v,⟨.str (ah (u.1+v.1)),none,[]⟩),
  (184,[.int .i64 (1:Nat),.ptr 0 0,.ptr 1 0],adM u v,⟨.str (ah (u.2.1+v.2.1)),none,[]⟩),
  (184,[.int .i64 (2:Nat),.ptr 0 0,.ptr 1 0],adM u v,⟨.str (ah (u.2.2+v.2.2)),none,[]⟩)]:=⟨_,rfl⟩
 have hO:OracleOk Tryz.prog (dR L):=er fun x hx=>by
  rw[hL] at hx;simp only[List.mem_cons,List.not_mem_nil,or_false] at hx;rcases hx with rfl | rfl | rfl
  ·exact⟨by simpa [CallRes.mem] using tw u v hu hv 0 (by decide),fun p hp=>by cases hp⟩
  ·exact⟨by simpa [CallRes.mem] using tw u v hu hv 1 (by decide),fun p hp=>by cases hp⟩
  ·exact⟨by simpa [CallRes.mem] using tw u v hu hv 2 (by decide),fun p hp=>by cases hp⟩
 refine aZ (K:=1) (lv:=fun _=>[]) hO ?_;clear hO;subst hL;unfold iT;obtain⟨x,hx⟩:∃x,x=u.1+v.1:=⟨_,rfl⟩
 obtain⟨y,hy⟩:∃x,x=u.2.1+v.2.1:=⟨_,rfl⟩
 obtain⟨z,hz⟩:∃x,x=u.2.2+v.2.2:=⟨_,rfl⟩
 rw[←hx,←hy,←hz];simp[aa,hG,Tryz.f181,dR,adM,vA,vL,bO]
theorem LO(u v:V3) (hu:vF u) (hv:vF v) (M:Mem):ACallsTo Tryz.prog 126 [vA u,vA v] M (vA (iT u v)) M:=by
 have hG:aL Tryz.prog 126=some Tryz.f126:=by kernel_rfl
 obtain⟨L,hL⟩:∃L:List (FuncId×List AV×Mem×CallRes),L=[(181,[.func 184 [.ptr 0 0,.ptr 1 0]],[.cells true 0 (vL u),.cells true 0 (vL v),.cells true 0 [.str [],.str [],.str []]],⟨vA (iT u v),none,[]⟩)]:=⟨_,rfl⟩
 have hO:OracleOk Tryz.prog (dR L):=er fun x hx=>by rw[hL,List.mem_singleton] at hx;subst hx;exact⟨by simpa [CallRes.mem] using IC u v hu hv,fun p hp=>by cases hp⟩
 refine aq hO (lv:=fun _=>[]) (K:=1) rfl rfl ?_ M;clear hO;subst hL;obtain⟨w,hw⟩:∃w,w=iT u v:=⟨_,rfl⟩
 rw[←hw];simp[aa,hG,Tryz.f126,dR,vA,vL]
theorem DI{v:V3}(h:vC v) (M:Mem):ACallsTo Tryz.prog 122 [vA v] M (.tuple [vA v,.int .i64 0]) M:=by
 have hG:aL Tryz.prog 122=some Tryz.f122:=by kernel_rfl
 refine aq qi (lv:=fun _=>[]) (K:=1) rfl rfl ?_ M;obtain⟨h1,h2,h3,h4⟩:=h;simp[aa,hG,Tryz.f122,af,oV,aX,vA,h1,h2,h3,h4]
theorem DY{v:V3}(h:vC v) (M:Mem):ACallsTo Tryz.prog 249 [vA v] M (.bool false) M:=by
 have hG:aL Tryz.prog 249=some Tryz.f249:=by kernel_rfl
 refine aq cM (lv:=fun _=>[]) (K:=1) rfl rfl ?_ M;obtain⟨h1,h2,h3,h4⟩:=h;simp[aa,hG,Tryz.f249,af,aX,vA,h1,h2,h3,h4]
open Classical in
noncomputable def w7(f:FuncId) (args:List AV):Option AV:=
 match f,args with
 |249,[.agg [.str a,.str b,.str c]]=>match v3P a b c with
  |some v=>if vC v then some (.bool false) else none
  |none=>none
 |_,_=>none
theorem yf:OracleOk Tryz.prog (af w7):=bq fun f args v h mem=>by
 unfold w7 at h;split at h
 ·split at h
  ·rename_i v hv
   split at h
   ·rename_i hc
    cases h;obtain⟨rfl,rfl,rfl⟩:=dZ hv;exact DY hc mem
   ·cases h
  ·cases h
 ·cases h
theorem IG{a:V3}(ha:vC a):ACallsTo Tryz.prog 280 [.slice 0 0 1 none,.func 249 []] [.cells false 3 (vL a)] (.int .i64 (-1)) [.cells false 3 (vL a)]:=by
 have hG:aL Tryz.prog 280=some Tryz.f280:=by kernel_rfl
 have w1:IntKind.i64.wrap 1=1:=rfl;refine aZ (lv:=(fun _=>[8])) (K:=6) yf ?_;simp[aa,hG,Tryz.f280,af,w7,vL,nr,ha,aB,dV,w1]
theorem IH{a b c d:V3}(ha:vC a) (hb:vC b) (hc:vC c) (hd:vC d):ACallsTo Tryz.prog 280 [.slice 0 0 4 none,.func 249 []] [.cells false 3 (vL a++(vL b++(vL c++vL d)))] (.int .i64 (-1)) [.cells false 3 (vL a++(vL b++(vL c++vL d)))]:=by
 have hG:aL Tryz.prog 280=some Tryz.f280:=by kernel_rfl
 have w1:IntKind.i64.wrap 1=1:=rfl;have w2:IntKind.i64.wrap 2=2:=rfl;have w3:IntKind.i64.wrap 3=3:=rfl;have w4:IntKind.i64.wrap 4=4:=rfl;refine aZ (lv:=(fun _=>[8])) (K:=6) yf ?_;simp[aa,hG,Tryz.f280,af,w7,vL,nr,ha,hb,hc,hd,aB,dV,w1,w2,w3,w4]
theorem DJ{M:Mem}{b n:Nat}{o:Bool}{C:List AV}(hC:AV.closeds C=true) (hb:M[b]? =some (.cells o 3 C)) (h:ACallsTo Tryz.prog 280 [.slice 0 0 n none,.func 249 []] [.cells false 3 C] (.int .i64 (-1)) [.cells false 3 C]):
  ACallsTo Tryz.prog 179 [.slice b 0 n none] M (.int .i64 0) M:=by
 have hI:=rows1C (rest:=[.func 249 []]) hC rfl rfl hb (List.take_of_length_le (Nat.le_refl _)) h;have hG2:aL Tryz.prog 248=some Tryz.f248:=by kernel_rfl
 have hO2:OracleOk Tryz.prog (cw 280 [.slice b 0 n none,.func 249 []] (.int .i64 (-1)) (fun N=>N=M)):=cS fun N hN=>by subst hN;exact hI
 have h2:aa (aM Tryz.prog) (fun _=>[]) (aL Tryz.prog) (cw 280 [.slice b 0 n none,.func 249 []] (.int .i64 (-1)) (fun N=>N=M)) 1 248 [.slice b 0 n none,.func 249 []] M=some ⟨.bool false,none,[]⟩:=by clear hO2;simp[aa,hG2,Tryz.f248,cw]
 have h3:=(al ae (aw _) hO2 (az _) h2).1;rw[show CallRes.mem ⟨.bool false,none,[]⟩ M=M by simp[CallRes.mem]] at h3;have hG:aL Tryz.prog 179=some Tryz.f179:=by kernel_rfl
 have hO:OracleOk Tryz.prog (cw 248 [.slice b 0 n none,.func 249 []] (.bool false) (fun N=>N=M)):=cS fun N hN=>by subst hN;exact h3
 refine aZ (K:=1) (lv:=fun _=>[]) hO ?_;clear hO;simp[aa,hG,Tryz.f179,cw]
def afC(r:M3) (s:V3):Prop:=vC r.1∧vC r.2.1∧vC r.2.2∧vC s
theorem DH{r:M3}{s:V3}(h:afC r s) (M:Mem):ACallsTo Tryz.prog 178 [afA r s] M (.int .i64 0) M:=by
 have hG:aL Tryz.prog 178=some Tryz.f178:=by kernel_rfl
 obtain⟨h1,h2,h3,h4⟩:=h;obtain⟨L,hL⟩:∃L:List (FuncId×List AV×Mem×CallRes),L=[(179,[.slice 1 0 4 none],[.cells true 0 (mC r++vL s),.cells true 3 (mC r++vL s)],⟨.int .i64 0,none,[]⟩)]:=⟨_,rfl⟩
 have hO:OracleOk Tryz.prog (dR L):=er fun x hx=>by rw[hL,List.mem_singleton] at hx;subst hx;exact⟨by simpa [CallRes.mem] using DJ (M:=[.cells true 0 (mC r++vL s),.cells true 3 (mC r++vL s)]) (b:=1) (C:=vL r.1++(vL r.2.1++(vL r.2.2++vL s))) rfl rfl (IH h1 h2 h3 h4),fun p hp=>by cases hp⟩
 refine aq hO (lv:=fun _=>[]) (K:=1) rfl rfl ?_ M;clear hO;subst hL;simp[aa,hG,Tryz.f178,dR,afA,mC,vL]
theorem vD{r:M3}{s p:V3}(h:afC r s) (hp:vC p) (M:Mem):ACallsTo Tryz.prog 121 [afA r s,vA p] M (.int .i64 0) M:=by
 have hG:aL Tryz.prog 121=some Tryz.f121:=by kernel_rfl
 obtain⟨L,hL⟩:∃L:List (FuncId×List AV×Mem×CallRes),L=[(178,[afA r s],[.cells true 0 (mC r++vL s),.cells true 0 (vL p)],⟨.int .i64 0,none,[]⟩),(179,[.slice 2 0 1 none],[.cells true 0 (mC r++vL s),.cells true 0 (vL p),.cells true 3 (vL p)],⟨.int .i64 0,none,[]⟩)]:=⟨_,rfl⟩
 have hO:OracleOk Tryz.prog (dR L):=er fun x hx=>by
  rw[hL] at hx;simp only[List.mem_cons,List.not_mem_nil,or_false] at hx;rcases hx with rfl | rfl
  ·exact⟨by simpa [CallRes.mem] using DH h _,fun p hp=>by cases hp⟩
  ·exact⟨by simpa [CallRes.mem] using DJ (M:=[.cells true 0 (mC r++vL s),.cells true 0 (vL p),.cells true 3 (vL p)]) (b:=2) (C:=vL p) rfl rfl (IG hp),fun p hp=>by cases hp⟩
 refine aq hO (lv:=fun _=>[]) (K:=1) rfl rfl ?_ M;clear hO;subst hL;simp[aa,hG,Tryz.f121,dR,afA,mC,vL,vA]
structure ApplyOk (r:M3) (s p:V3):Prop where
 ck:afC r s
 pk:vC p
 mm:mOk r p
 fk:vF (nb r p)∧vF s
 rk:vC (iT (nb r p) s)
set_option maxRecDepth 8192 in
set_option maxHeartbeats 3200000 in
theorem DG{r:M3}{s p:V3}(h:ApplyOk r s p) (M:Mem):ACallsTo Tryz.prog 76 [afA r s,vA p] M (.tuple [vA (iT (nb r p) s),.int .i64 0]) M:=by
 have hG:aL Tryz.prog 76=some Tryz.f76:=by kernel_rfl
 obtain⟨hc,hp,hm,⟨hf1,hf2⟩,hr⟩:=h;have hO:OracleOk Tryz.prog (Oracle.or (af (bG [(121,[afA r s,vA p],.int .i64 0),(123,[afA r s],.agg (mC r)),(124,[.agg (mC r),vA p],vA (nb r p)),(126,[vA (nb r p),vA s],vA (iT (nb r p) s)),(122,[vA (iT (nb r p) s)],.tuple [vA (iT (nb r p) s),.int .i64 0])])) (af oV)):=OracleOk.or (cF fun e he M=>by
  simp only[List.mem_cons,List.not_mem_nil,or_false] at he;rcases he with rfl | rfl | rfl | rfl | rfl
  ·exact vD hc hp M
  ·exact It r s M
  ·exact DZ r p hm M
  ·exact LO _ _ hf1 hf2 M
  ·exact DI hr M) qi
 refine aq hO (lv:=fun _=>[]) (K:=1) rfl rfl ?_ M;clear hO;obtain⟨o1,hops⟩:∃o1,aE Tryz.f76=[o1]:=⟨_,rfl⟩
 have hb1:=cE hops (l:=[0,1,0,7,15,0,32,127,255,511,1023,1023,4095,8191]) (by kernel_rfl);have j1:aN [0,1,0,7,15,0,32,127,255,511,1023,1023,4095,8191] 13=true:=by decide
 simp[aE,bC,Tryz.f76] at hops;subst hops;obtain⟨w,hw⟩:∃w,w=nb r p:=⟨_,rfl⟩
 rw[←hw];obtain⟨q,hq⟩:∃q,q=iT w s:=⟨_,rfl⟩
 rw[←hq];simp[aa,hG,Tryz.f76,Oracle.or,bG,af,oV,afA,mC,vL,vA,-aD,bD hb1,dy,gr,gf,dx,cj,kQ,bef,Nat.testBit]
theorem Lc(i:Nat):(bn i).1.natAbs≤3∧(bn i).2.1.natAbs≤3∧(bn i).2.2.1.natAbs≤3∧(bn i).2.2.2.natAbs≤3:=by
 match i with
 |0 | 1 | 2 | 3 | 4 | n+5=>simp[bn]
def sgT(ar:Bool):List UInt8:=if ar then [45,49] else [49]
theorem Iz(nm:List UInt8) (i:Nat) (hi:i≤5) (c:Z3) (ar:Bool) (h:AboutOk (zy (ej (bn i) ar)) (zV c)) (M:Mem):
  ACallsTo Tryz.prog 75 [.agg (cx nm (bn i) c),.str (sgT ar)] M (.tuple [afA (zy (ej (bn i) ar)) (Ku (zV c) (nb (zy (ej (bn i) ar)) (zV c))),.int .i64 0]) M:=by
 have hG:aL Tryz.prog 75=some Tryz.f75:=by kernel_rfl
 obtain⟨r,hr⟩:∃r,r=zy (ej (bn i) ar):=⟨_,rfl⟩
 have hR:=IW i hi ar;have hC:=El i hi ar;rw[←hr] at h hR ⊢;obtain⟨s,hs⟩:∃s,s=Ku (zV c) (nb r (zV c)):=⟨_,rfl⟩
 have hA:=fun M=>Iu (ej (bn i) ar) r hC hR (zV c) h M
 rw[←hs] at hA ⊢;clear hR hC h hr hs;obtain⟨b1,b2,b3,b4⟩:=Lc i;obtain⟨t,ht⟩:∃t,t=bn i:=⟨_,rfl⟩
 rw[←ht] at hA b1 b2 b3 b4 ⊢;clear ht;obtain⟨t1,t2,t3,t4⟩:=t;simp only at b1 b2 b3 b4;have hO:OracleOk Tryz.prog (af (bG [(120,[tA (ej (t1,t2,t3,t4) ar),vA (zV c)],.tuple [afA r s,.int .i64 0])])):=cF fun e he M=>by rw[List.mem_singleton] at he;rw[he];exact hA M
 refine aq hO (lv:=fun _=>[]) (K:=1) rfl rfl ?_ M;clear hO hA;have n2:IntKind.i64.wrap (-t2)= -t2:=by rw[aj (by omega) (by omega)]
 have n3:IntKind.i64.wrap (-t3)= -t3:=by rw[aj (by omega) (by omega)]
 have n4:IntKind.i64.wrap (-t4)= -t4:=by rw[aj (by omega) (by omega)]
 cases ar<;>simp[aa,hG,Tryz.f75,bG,af,cx,sgT,tA,ej,afA,mC,vL,vA,zV,zS,n2,n3,n4]
def pZ(n:Z3) (o:Int) (p:V3):Int:=if (o:Rat)≤ei (zV n) p then 1 else 0
set_option maxRecDepth 8192 in
set_option maxHeartbeats 3200000 in
theorem uQ(a b:Nat) (nm:List UInt8) (n:Z3) (o:Int) (v:Z3) (p:V3) (d:dotOk (zV n) p) (fd:fine (ei (zV n) p)) (fo:fine (o:Rat)):
  ACallsTo Tryz.prog 69 [.agg [.slice 0 0 a none,.slice 1 0 b none],.agg (bm nm n o v),vA p] [.absent,.absent] (.tuple [.int .i64 (pZ n o p),.int .i64 0]) [.absent,.absent]:=by
 have hG:aL Tryz.prog 69=some Tryz.f69:=by kernel_rfl
 obtain⟨fd1,fd2⟩:=fd;obtain⟨o1,o2⟩:=fo;obtain⟨q1,hops⟩:∃o1,aE Tryz.f69=[o1]:=⟨_,rfl⟩
 have hb1:=cE hops (l:=[0,1,3,7,0,31,0,64,192,448,1023,2047]) (by kernel_rfl);have j1:aN [0,1,3,7,0,31,0,64,192,448,1023,2047] 11=true:=by decide
 simp[aE,bC,Tryz.f69] at hops;subst hops;unfold pZ;obtain⟨N,hN⟩:∃N,N=zV n:=⟨_,rfl⟩
 rw[←hN] at d fd1 fd2 ⊢;obtain⟨q,hq⟩:∃q:Rat,q=(o:Rat):=⟨_,rfl⟩
 rw[←hq] at o1 o2 ⊢;obtain⟨dt,hdt⟩:∃k,k=ei N p:=⟨_,rfl⟩
 rw[←hdt] at fd1 fd2 ⊢;unfold zV at hN;have h:aa (aM Tryz.prog) (fun _=>[]) (aL Tryz.prog) (af aX) 1 69 [.agg [.slice 0 0 a none,.slice 1 0 b none],.agg (bm nm n o v),vA p] [.absent,.absent]=some ⟨.tuple [.int .i64 (if q≤dt then 1 else 0),.int .i64 0],none,[]⟩:=by
  by_cases hle:q≤dt
  ·have c:=C7.2 hle
   rw[if_pos hle];simp[aa,hG,Tryz.f69,af,aX,aA,aC,vA,bm,zS,nr,ay,←hN,←hq,←hdt,d,fd1,fd2,o1,o2,c,-aD,ai hb1,bc,aW,a8,j1,Nat.testBit]
  ·have c:¬0≤qY dt q:=fun h=>hle (C7.1 h)
   rw[if_neg hle];simp[aa,hG,Tryz.f69,af,aX,aA,aC,vA,bm,zS,nr,ay,←hN,←hq,←hdt,d,fd1,fd2,o1,o2,c,-aD,ai hb1,bc,aW,a8,j1,Nat.testBit]
 have:=(al ae (aw _) cM (az _) h).1;simpa [CallRes.mem] using this
theorem Ix{M:Mem}{pb tb a b:Nat}(hp:pb<M.length) (ht:tb<M.length) (nm:List UInt8) (n:Z3) (o:Int) (v:Z3) (p:V3) (d:dotOk (zV n) p) (fd:fine (ei (zV n) p)) (fo:fine (o:Rat)):
  ACallsTo Tryz.prog 69 [.agg [.slice pb 0 a none,.slice tb 0 b none],.agg (bm nm n o v),vA p] M (.tuple [.int .i64 (pZ n o p),.int .i64 0]) M:=by
 by_cases hne:pb=tb
 ·subst hne
  have:=ACallsTo.frame (M:=M) (new:=[]) [pb,pb] rfl (by simpa using hp) (by rfl) (fun i t hs=>by
   match i with
   |0=>simp at hs;subst hs;trivial
   |1=>simp at hs;subst hs;trivial
   |i+2=>simp at hs) rfl (uQ a b nm n o v p d fd fo)
  simpa [bm,vA,AV.rens,AV.ren,Go.Eng.ar] using this
 ·have:=ACallsTo.frame (M:=M) (new:=[]) [pb,tb] rfl (by simp[hp,ht]) (by rfl) (fun i t hs=>by
   match i with
   |0=>simp at hs;subst hs;trivial
   |1=>simp at hs;subst hs;trivial
   |i+2=>simp at hs) rfl (uQ a b nm n o v p d fd fo)
  simpa [bm,vA,AV.rens,AV.ren,Go.Eng.ar] using this
theorem jR{M:Mem}{m:AV}{ev:List AV}(hm:∃a b,m=.agg [a,b]∧a.cellOk=true∧b.cellOk=true) (hl:ev.length=32) (hck:∀x∈ev,x.cellOk=true) (hc:∀Z,ACallsTo Tryz.prog 61 [m,.agg ev] (M++Z) (.int .i64 0) (M++Z)) {p:V3}(hp:vC p):
  ACallsTo Tryz.prog 68 [m,.agg ev,vA p] M (.int .i64 0) M:=by
 have hG:aL Tryz.prog 68=some Tryz.f68:=by kernel_rfl
 obtain⟨a,b,rfl,ha,hb⟩:=hm;obtain⟨h1,h2,h3,h4⟩:=hp;have hO:OracleOk Tryz.prog (Oracle.or (cw 61 [.agg [a,b],.agg ev] (.int .i64 0) (fun N=>∃Z,N=M++Z)) (af aX)):=OracleOk.or (cS fun N ⟨Z,hZ⟩=>by subst hZ;exact hc Z) cM;have h:aa (aM Tryz.prog) (fun _=>[]) (aL Tryz.prog) (Oracle.or (cw 61 [.agg [a,b],.agg ev] (.int .i64 0) (fun N=>∃Z,N=M++Z)) (af aX)) 1 68 [.agg [a,b],.agg ev,vA p] M=some ⟨.int .i64 0,none,[]⟩:=by
  clear hO hc;have g1:(∀x:AV,x∈ev→x.cellOk=true)=True:=eq_true hck;have t32:List.take 32 ev=ev:=List.take_of_length_le (by omega);have hcs:∀s,(AV.str s).cellOk=true:=fun _=>rfl
  simp[-AV.cellOk,aa,hG,Tryz.f68,Oracle.or,cw,af,aX,vA,hl,t32,h1,h2,h3,h4]
 have:=(al ae (aw _) hO (az _) h).1;simpa [CallRes.mem] using this
structure FMoveOk (n:Z3) (o:Int) (v:Z3) (ar:Bool) (p:V3):Prop where
 pk:vC p
 dk:dotOk (zV n) p
 fd:fine (ei (zV n) p)
 fo:fine (o:Rat)
 pl:K0 p (zV v) (sgB ar)
 rk:vC (iT p (iM (zV v) (sgB ar)))
theorem tJ{M:Mem}{pb tb a b:Nat}(hp:pb<M.length) (ht:tb<M.length) (nm:List UInt8) (n:Z3) (o:Int) (v:Z3) (ar:Bool) (p:V3) (h:FMoveOk n o v ar p)
  (hc:∀Z,ACallsTo Tryz.prog 61 [.agg [.slice pb 0 a none,.slice tb 0 b none],.agg (bm nm n o v)] (M++Z) (.int .i64 0) (M++Z)):
  ACallsTo Tryz.prog 39 [.agg [.slice pb 0 a none,.slice tb 0 b none],.agg (bm nm n o v),vA p,.str (sgT ar)] M (.tuple [vA (vf n o v ar p),.int .i64 0]) M:=by
 have hG:aL Tryz.prog 39=some Tryz.f39:=by kernel_rfl
 obtain⟨pk,dk,fd,fo,pl,rk⟩:=h;have hO:OracleOk Tryz.prog (Oracle.or (cw 68 [.agg [.slice pb 0 a none,.slice tb 0 b none],.agg (bm nm n o v),vA p] (.int .i64 0) (fun N=>∃Z,N=M++Z)) (Oracle.or (cw 69 [.agg [.slice pb 0 a none,.slice tb 0 b none],.agg (bm nm n o v),vA p] (.tuple [.int .i64 (pZ n o p),.int .i64 0]) (fun N=>∃Z,N=M++Z)) (Oracle.or (af (bG [(70,[vA (iT p (iM (zV v) (sgB ar)))],.tuple [vA (iT p (iM (zV v) (sgB ar))),.int .i64 0])])) (af aX)))):=
  OracleOk.or (cS fun N ⟨Z,hZ⟩=>by subst hZ;exact jR ⟨_,_,rfl,rfl,rfl⟩ rfl (by simp[bm]) (fun Z' =>by rw[List.append_assoc];exact hc _) pk)
  (OracleOk.or (cS fun N ⟨Z,hZ⟩=>by subst hZ;exact Ix (by rw[List.length_append];omega) (by rw[List.length_append];omega) nm n o v p dk fd fo)
  (OracleOk.or (cF fun e he M=>by rw[List.mem_singleton] at he;rw[he];exact uR rk M) cM))
 have one1:cV [49]=some 1:=rfl;have one2:cV [45,49]=some (-1):=rfl;have hmf:vf n o v ar p=if pZ n o p=1 then iT p (iM (zV v) (sgB ar)) else p:=by unfold vf pZ;split<;>simp
 rw[hmf];have hmv:pZ n o p=0∨pZ n o p=1:=by unfold pZ;split<;>simp
 obtain⟨mv,hm⟩:∃mv,mv=pZ n o p:=⟨_,rfl⟩
 rw[←hm] at hO hmv ⊢;obtain⟨S,hS⟩:∃N,N=zV v:=⟨_,rfl⟩
 rw[←hS] at hO pl ⊢;obtain⟨k,hk⟩:∃k,k=sgB ar:=⟨_,rfl⟩
 rw[←hk] at hO pl ⊢;obtain⟨q,hq⟩:∃q,q=iT p (iM S k):=⟨_,rfl⟩
 rw[←hq] at hO ⊢;obtain⟨O,hOO⟩:∃O,O=(Oracle.or (cw 68 [.agg [.slice pb 0 a none,.slice tb 0 b none],.agg (bm nm n o v),vA p] (.int .i64 0) (fun N=>∃Z,N=M++Z)) (Oracle.or (cw 69 [.agg [.slice pb 0 a none,.slice tb 0 b none],.agg (bm nm n o v),vA p] (.tuple [.int .i64 mv,.int .i64 0]) (fun N=>∃Z,N=M++Z)) (Oracle.or (af (bG [(70,[vA q],.tuple [vA q,.int .i64 0])])) (af aX)))):=⟨_,rfl⟩
 rw[←hOO] at hO;unfold zV at hS;unfold sgB at hk;have h:aa (aM Tryz.prog) (fun _=>[]) (aL Tryz.prog) O 1 39 [.agg [.slice pb 0 a none,.slice tb 0 b none],.agg (bm nm n o v),vA p,.str (sgT ar)] M=some ⟨.tuple [vA (if mv=1 then q else p),.int .i64 0],none,[]⟩:=by
  clear hO hc;subst hOO;rcases hmv with rfl | rfl
  ·rw[if_neg (by decide)]
   cases ar<;>simp[aa,hG,Tryz.f39,Oracle.or,cw,bG,vA,bm,zS,sgT]
  ·rw[if_pos rfl]
   cases ar with
   |false=>
    rw[if_neg (by decide)] at hk;rw[←hk] at one1;simp[aa,hG,Tryz.f39,Oracle.or,cw,bG,af,aX,vA,bm,zS,sgT,nr,←hS,←hq,one1,pl]
   |true=>
    rw[if_pos rfl] at hk;rw[←hk] at one2;simp[aa,hG,Tryz.f39,Oracle.or,cw,bG,af,aX,vA,bm,zS,sgT,nr,←hS,←hq,one2,pl]
 have:=(al ae (aw _) hO (az _) h).1;simpa [CallRes.mem] using this
theorem kY{M:Mem}{m:AV}(c:Evc) (hk:c.k=1∨c.k=4) (b u w kn:AV) (hb:b.cellOk=true) (hu:u.cellOk=true) (hs:w.cellOk=true) (hn:kn.cellOk=true) (hm:∃a b,m=.agg [a,b]∧a.cellOk=true∧b.cellOk=true) (ar:Bool) (p:V3) (pk:vC p)
  (hc:∀Z,ACallsTo Tryz.prog 61 [m,.agg (c.cells b u w kn)] (M++Z) (.int .i64 0) (M++Z)):
  ACallsTo Tryz.prog 39 [m,.agg (c.cells b u w kn),vA p,.str (sgT ar)] M (.tuple [vA p,.int .i64 0]) M:=by
 have hG:aL Tryz.prog 39=some Tryz.f39:=by kernel_rfl
 obtain⟨x,y,rfl,hx,hy⟩:=hm;have hO:OracleOk Tryz.prog (cw 68 [.agg [x,y],.agg (c.cells b u w kn),vA p] (.int .i64 0) (fun N=>∃Z,N=M++Z)):=cS fun N ⟨Z,hZ⟩=>by subst hZ;refine jR ⟨_,_,rfl,hx,hy⟩ rfl (fun e he=>?_) (fun Z' =>by rw[List.append_assoc];exact hc _) pk;simp only[Evc.cells,List.mem_cons,List.not_mem_nil,or_false] at he;rcases he with rfl | rfl | rfl | rfl | rfl | rfl | rfl | rfl | rfl | rfl | rfl | rfl | rfl | rfl | rfl | rfl | rfl | rfl | rfl | rfl | rfl | rfl | rfl | rfl | rfl | rfl | rfl | rfl | rfl | rfl | rfl | rfl<;>first | rfl | assumption
 have h:aa (aM Tryz.prog) (fun _=>[]) (aL Tryz.prog) (cw 68 [.agg [x,y],.agg (c.cells b u w kn),vA p] (.int .i64 0) (fun N=>∃Z,N=M++Z)) 1 39 [.agg [x,y],.agg (c.cells b u w kn),vA p,.str (sgT ar)] M=some ⟨.tuple [vA p,.int .i64 0],none,[]⟩:=by
  clear hO hc;have hcs:∀s,(AV.str s).cellOk=true:=fun _=>rfl
  have hci:∀k n,(AV.int k n).cellOk=true:=fun _ _=>rfl
  rcases hk with hk | hk<;>simp[-AV.cellOk,hcs,aa,hG,Tryz.f39,cw,Evc.cells,vA,hk]
 have:=(al ae (aw _) hO (az _) h).1;simpa [CallRes.mem] using this
theorem vP{M:Mem}{pb tb a b:Nat}(nm:List UInt8) (i:Nat) (hi:i≤5) (c:Z3) (ar:Bool) (p:V3) (pk:vC p) (h1:AboutOk (zy (ej (bn i) ar)) (zV c))
  (h2:ApplyOk (zy (ej (bn i) ar)) (Ku (zV c) (nb (zy (ej (bn i) ar)) (zV c))) p)
  (hc:∀Z,ACallsTo Tryz.prog 61 [.agg [.slice pb 0 a none,.slice tb 0 b none],.agg (cx nm (bn i) c)] (M++Z) (.int .i64 0) (M++Z)):
  ACallsTo Tryz.prog 39 [.agg [.slice pb 0 a none,.slice tb 0 b none],.agg (cx nm (bn i) c),vA p,.str (sgT ar)] M (.tuple [vA (iT (nb (zy (ej (bn i) ar)) p) (Ku (zV c) (nb (zy (ej (bn i) ar)) (zV c)))),.int .i64 0]) M:=by
 have hG:aL Tryz.prog 39=some Tryz.f39:=by kernel_rfl
 have hT:=fun M=>Iz nm i hi c ar h1 M
 have hA:=fun M=>DG h2 M
 obtain⟨r,hr⟩:∃r,r=zy (ej (bn i) ar):=⟨_,rfl⟩
 rw[←hr] at hT hA ⊢;obtain⟨s,hs⟩:∃s,s=Ku (zV c) (nb r (zV c)):=⟨_,rfl⟩
 rw[←hs] at hT hA ⊢;obtain⟨q,hq⟩:∃q,q=iT (nb r p) s:=⟨_,rfl⟩
 rw[←hq] at hA ⊢;clear h1 h2 hr hs hq;obtain⟨t,ht⟩:∃t,t=bn i:=⟨_,rfl⟩
 rw[←ht] at hT hc ⊢;have hO:OracleOk Tryz.prog (Oracle.or (cw 68 [.agg [.slice pb 0 a none,.slice tb 0 b none],.agg (cx nm t c),vA p] (.int .i64 0) (fun N=>∃Z,N=M++Z)) (af (bG [(75,[.agg (cx nm t c),.str (sgT ar)],.tuple [afA r s,.int .i64 0]),(76,[afA r s,vA p],.tuple [vA q,.int .i64 0])]))):=
  OracleOk.or (cS fun N ⟨Z,hZ⟩=>by subst hZ;exact jR ⟨_,_,rfl,rfl,rfl⟩ rfl (by simp[cx]) (fun Z' =>by rw[List.append_assoc];exact hc _) pk)
  (cF fun e he M=>by
   simp only[List.mem_cons,List.not_mem_nil,or_false] at he;rcases he with rfl | rfl
   ·exact hT M
   ·exact hA M)
 have h:aa (aM Tryz.prog) (fun _=>[]) (aL Tryz.prog) (Oracle.or (cw 68 [.agg [.slice pb 0 a none,.slice tb 0 b none],.agg (cx nm t c),vA p] (.int .i64 0) (fun N=>∃Z,N=M++Z)) (af (bG [(75,[.agg (cx nm t c),.str (sgT ar)],.tuple [afA r s,.int .i64 0]),(76,[afA r s,vA p],.tuple [vA q,.int .i64 0])]))) 1 39 [.agg [.slice pb 0 a none,.slice tb 0 b none],.agg (cx nm t c),vA p,.str (sgT ar)] M=some ⟨.tuple [vA q,.int .i64 0],none,[]⟩:=by clear hO hc hT hA;simp[aa,hG,Tryz.f39,Oracle.or,cw,bG,af,vA,cx,afA,mC,vL]
 have:=(al ae (aw _) hO (az _) h).1;simpa [CallRes.mem] using this
structure GMoveOk (n:Z3) (L:List P2) (v:Z3) (ar:Bool) (p:V3):Prop where
 pk:vC p
 dk:dotOk (zV n) p
 vk:Qa L (ei (zV n) p)
 fw:fine (dM L (ei (zV n) p))
 fk:fine (sgB ar)
 pl:K0 p (zV v) (sgB ar*dM L (ei (zV n) p))
 rk:vC (iT p (iM (zV v) (sgB ar*dM L (ei (zV n) p))))
def fdM(s:Sheet) (L:List P2):Mem:=[.cells false 2 (pC s.P),.cells false 3 (tC s.T),.cells false 2 (kC (kT L))]
set_option maxRecDepth 8192 in
set_option maxHeartbeats 6400000 in
theorem tK(s:Sheet) (nm:List UInt8) (n:Z3) (L:List P2) (v:Z3) (ar:Bool) (p:V3) (h:GMoveOk n L v ar p) (hp:0<L.length) (hl:L.length≤1000) (hc:rK s (Au nm n (kT L) v)):
  ACallsTo Tryz.prog 39 [.agg [.slice 0 0 s.P.length none,.slice 1 0 s.T.length none],.agg (bt nm n (.slice 2 0 L.length none) v),vA p,.str (sgT ar)] (fdM s L) (.tuple [vA (Dh n L v ar p),.int .i64 0]) (fdM s L):=by
 have hG:aL Tryz.prog 39=some Tryz.f39:=by kernel_rfl
 obtain⟨pk,dk,vk,⟨w1,w2⟩,⟨k1,k2⟩,pl,rk⟩:=h;have hE:∀Z,EvAt (fdM s L++Z) (bt nm n (.slice 2 0 L.length none) v) (Au nm n (kT L) v):=fun Z=>
  ⟨.nilslice,.nilslice,.nilslice,_,rfl,.inl ⟨rfl,rfl,rfl⟩,.inl ⟨rfl,rfl,rfl⟩,xn _,.inr ⟨2,false,by show AV.slice 2 0 L.length none=.slice 2 0 (kT L).length none;rw[di],by show 0<(kT L).length;rw[di];exact hp,rfl⟩⟩
 have hO:OracleOk Tryz.prog (Oracle.or (cw 68 [.agg [.slice 0 0 s.P.length none,.slice 1 0 s.T.length none],.agg (bt nm n (.slice 2 0 L.length none) v),vA p] (.int .i64 0) (fun N=>∃Z,N=fdM s L++Z)) (Oracle.or (cw 72 [.slice 2 0 L.length none,.str (ah (ei (zV n) p))] (.str (ah (dM L (ei (zV n) p)))) (fun N=>∃Z,N=fdM s L++Z)) (Oracle.or (af (bG [(70,[vA (iT p (iM (zV v) (sgB ar*dM L (ei (zV n) p))))],.tuple [vA (iT p (iM (zV v) (sgB ar*dM L (ei (zV n) p)))),.int .i64 0])])) (af aX)))):=
  OracleOk.or (cS fun N ⟨Z,hZ⟩=>by subst hZ;refine jR ⟨_,_,rfl,rfl,rfl⟩ rfl (by simp[bt]) (fun Z' =>?_) pk;rw[List.append_assoc];exact hc (fdM s L++(Z++Z')) 0 1 false false _ rfl rfl (hE _))
  (OracleOk.or (cS fun N ⟨Z,hZ⟩=>by subst hZ;exact DW hp hl (b:=2) (o:=false) rfl vk)
  (OracleOk.or (cF fun e he M=>by rw[List.mem_singleton] at he;rw[he];exact uR rk M) cM))
 obtain⟨os,hops⟩:∃os,aE Tryz.f39=os:=⟨_,rfl⟩
 have hbs:=br hops (ls:=[[0,1,3,0,8,24,0,120,255,511],[0,0,2,6,0,0,48,127,255,511,511,2047,4095]]) (by kernel_rfl);simp only[aE,bC,Tryz.f39,List.nil_append,List.append_nil,List.cons_append] at hops;subst hops;simp only[List.map_cons,List.map_nil,List.cons.injEq,and_true] at hbs;obtain⟨hb0,hb1⟩:=hbs;have j0:aN [0,1,3,0,8,24,0,120,255,511] 9=true:=by decide
 have one1:cV [49]=some 1:=rfl;have one2:cV [45,49]=some (-1):=rfl;unfold Dh;obtain⟨N,hN⟩:∃N,N=zV n:=⟨_,rfl⟩
 obtain⟨S,hS⟩:∃N,N=zV v:=⟨_,rfl⟩
 rw[←hN] at dk w1 w2 pl hO ⊢;rw[←hS] at pl hO ⊢;obtain⟨u,hu⟩:∃u,u=ei N p:=⟨_,rfl⟩
 rw[←hu] at w1 w2 pl hO ⊢;obtain⟨x,hx⟩:∃x,x=dM L u:=⟨_,rfl⟩
 rw[←hx] at w1 w2 pl hO ⊢;obtain⟨k,hk⟩:∃k,k=sgB ar:=⟨_,rfl⟩
 rw[←hk] at k1 k2 pl hO ⊢;obtain⟨y,hy⟩:∃y,y=k*x:=⟨_,rfl⟩
 rw[←hy] at pl hO ⊢;obtain⟨q,hq⟩:∃q,q=iT p (iM S y):=⟨_,rfl⟩
 rw[←hq] at hO ⊢;unfold fdM at hO ⊢;obtain⟨CP,hCP⟩:∃C,C=pC s.P:=⟨_,rfl⟩
 obtain⟨CT,hCT⟩:∃C,C=tC s.T:=⟨_,rfl⟩
 obtain⟨CK,hCK⟩:∃C,C=kC (kT L):=⟨_,rfl⟩
 have e1:=fun n=>dK n s.P
 have e2:=fun f=>fz f s.P
 have e3:=fun n=>dT n s.T
 have e4:=fun f=>gG f s.T
 have e5:=fun n=>uz n (kT L)
 have e6:=fun f=>Pj f (kT L)
 rw[←hCP] at hO e1 e2 ⊢;rw[←hCT] at hO e3 e4 ⊢;rw[←hCK] at hO e5 e6 ⊢;simp only[List.cons_append,List.nil_append] at hO;unfold zV at hN hS;unfold sgB at hk;obtain⟨O,hOO⟩:∃O,O=(Oracle.or (cw 68 [.agg [.slice 0 0 s.P.length none,.slice 1 0 s.T.length none],.agg (bt nm n (.slice 2 0 L.length none) v),vA p] (.int .i64 0) (fun N=>∃Z,N=Slot.cells false 2 CP::Slot.cells false 3 CT::Slot.cells false 2 CK::Z)) (Oracle.or (cw 72 [.slice 2 0 L.length none,.str (ah u)] (.str (ah x)) (fun N=>∃Z,N=Slot.cells false 2 CP::Slot.cells false 3 CT::Slot.cells false 2 CK::Z)) (Oracle.or (af (bG [(70,[vA q],.tuple [vA q,.int .i64 0])])) (af aX)))):=⟨_,rfl⟩
 rw[←hOO] at hO;have h:aa (aM Tryz.prog) (fun _=>[]) (aL Tryz.prog) O 1 39 [.agg [.slice 0 0 s.P.length none,.slice 1 0 s.T.length none],.agg (bt nm n (.slice 2 0 L.length none) v),vA p,.str (sgT ar)] [.cells false 2 CP,.cells false 3 CT,.cells false 2 CK]=some ⟨.tuple [vA q,.int .i64 0],none,[]⟩:=by
  clear hO hc hE;subst hOO;cases ar with
  |false=>
   rw[if_neg (by decide)] at hk;rw[←hk] at one1;simp[aa,hG,Tryz.f39,Oracle.or,cw,bG,af,aX,aA,aC,vA,bt,zS,sgT,nr,ay,←hN,←hS,←hu,←hy,←hq,one1,dk,w1,w2,k1,k2,pl,-aD,ai hb0,bc,aW,a8,j0,bD hb1,dy,gr,gf,dx,cj,kQ,bef,Nat.testBit]
  |true=>
   rw[if_pos rfl] at hk;rw[←hk] at one2;simp[aa,hG,Tryz.f39,Oracle.or,cw,bG,af,aX,aA,aC,vA,bt,zS,sgT,nr,ay,←hN,←hS,←hu,←hy,←hq,one2,dk,w1,w2,k1,k2,pl,-aD,ai hb0,bc,aW,a8,j0,bD hb1,dy,gr,gf,dx,cj,kQ,bef,Nat.testBit]
 have:=(al ae (aw _) hO (az _) h).1;simpa [CallRes.mem] using this
theorem vO{M:Mem}{pb tb b:Nat}{o1 o2 o3:Bool}(s:Sheet) (nm:List UInt8) (n:Z3) (L:List P2) (v:Z3) (ar:Bool) (p:V3) (h:GMoveOk n L v ar p) (hp:0<L.length) (hl:L.length≤1000) (hc:rK s (Au nm n (kT L) v))
  (m1:M[pb]? =some (.cells o1 2 (pC s.P))) (m2:M[tb]? =some (.cells o2 3 (tC s.T))) (m3:M[b]? =some (.cells o3 2 (kC (kT L)))):
  ACallsTo Tryz.prog 39 [.agg [.slice pb 0 s.P.length none,.slice tb 0 s.T.length none],.agg (bt nm n (.slice b 0 L.length none) v),vA p,.str (sgT ar)] M (.tuple [vA (Dh n L v ar p),.int .i64 0]) M:=by
 have l1:=(List.getElem?_eq_some_iff.1 m1).1;have l2:=(List.getElem?_eq_some_iff.1 m2).1;have l3:=(List.getElem?_eq_some_iff.1 m3).1;have:=ACallsTo.frame (M:=M) (new:=[]) [pb,tb,b] rfl (by simp[l1,l2,l3]) (by rfl) (fun i t hs=>by
  match i with
  |0=>simp[fdM] at hs;subst hs;exact TM (dr _) m1 (List.take_of_length_le (Nat.le_refl _))
  |1=>simp[fdM] at hs;subst hs;exact TM (eK _) m2 (List.take_of_length_le (Nat.le_refl _))
  |2=>simp[fdM] at hs;subst hs;exact zz (o:=o3) m3 (List.take_of_length_le (by rw[fK];rw[di];omega))
  |i+3=>simp[fdM] at hs) rfl (tK s nm n L v ar p h hp hl hc)
 simpa [bt,vA,AV.rens,AV.ren,Go.Eng.ar] using this
theorem IA{M:Mem}{m:AV}{ev:List AV}{p q:V3}(hm:∃a b,m=.agg [a,b]∧a.cellOk=true∧b.cellOk=true) (hl:ev.length=32) (hck:∀x∈ev,x.cellOk=true) (ar:Bool)
  (h:∀Z,ACallsTo Tryz.prog 39 [m,.agg ev,vA p,.str (sgT ar)] (M++Z) (.tuple [vA q,.int .i64 0]) (M++Z)):
  ACallsTo Tryz.prog (if ar then 20 else 21) [m,.agg ev,vA p] M (.tuple [vA q,.int .i64 0]) M:=by
 obtain⟨a,b,rfl,ha,hb⟩:=hm;have g1:(∀x:AV,x∈ev→x.cellOk=true)=True:=eq_true hck;have t32:List.take 32 ev=ev:=List.take_of_length_le (by omega);have hcs:∀s,(AV.str s).cellOk=true:=fun _=>rfl
 have hO:OracleOk Tryz.prog (cw 39 [.agg [a,b],.agg ev,vA p,.str (sgT ar)] (.tuple [vA q,.int .i64 0]) (fun N=>∃Z,N=M++Z)):=cS fun N ⟨Z,hZ⟩=>by subst hZ;exact h Z
 clear h;cases ar with
 |true=>
  have hG:aL Tryz.prog 20=some Tryz.f20:=by kernel_rfl
  have h:aa (aM Tryz.prog) (fun _=>[]) (aL Tryz.prog) (cw 39 [.agg [a,b],.agg ev,vA p,.str (sgT true)] (.tuple [vA q,.int .i64 0]) (fun N=>∃Z,N=M++Z)) 1 20 [.agg [a,b],.agg ev,vA p] M=some ⟨.tuple [vA q,.int .i64 0],none,[]⟩:=by clear hO;simp[-AV.cellOk,hcs,aa,hG,Tryz.f20,cw,vA,sgT,hl,t32]
  have:=(al ae (aw _) hO (az _) h).1;simpa [CallRes.mem] using this
 |false=>
  have hG:aL Tryz.prog 21=some Tryz.f21:=by kernel_rfl
  have h:aa (aM Tryz.prog) (fun _=>[]) (aL Tryz.prog) (cw 39 [.agg [a,b],.agg ev,vA p,.str (sgT false)] (.tuple [vA q,.int .i64 0]) (fun N=>∃Z,N=M++Z)) 1 21 [.agg [a,b],.agg ev,vA p] M=some ⟨.tuple [vA q,.int .i64 0],none,[]⟩:=by clear hO;simp[-AV.cellOk,hcs,aa,hG,Tryz.f21,cw,vA,sgT,hl,t32]
  have:=(al ae (aw _) hO (az _) h).1;simpa [CallRes.mem] using this
end Go.Proofs
