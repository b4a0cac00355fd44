/- See K51. -/
import Derived.Test.YtffdedmakncfmaaGreatDoorK39
set_option linter.all false
namespace Go.Proofs
open Go.Eng
theorem MN(a b c:List UInt8) (M:Mem):ACallsTo Tryz.prog 58 [.agg [.str a,.str b,.str c]] M (.agg [.str a,.str b,.str c]) M:=by
 have hG:aN Tryz.prog 58=some Tryz.f58:=by kernel_rfl
 refine aq (ak _) (lv:=fun _=>[]) (K:=1) rfl rfl ?_ M
 simp[aa,hG,Tryz.f58,bx]
theorem Kv(a b c:List UInt8) (M:Mem):ACallsTo Tryz.prog 99 [.agg [.str a,.str b,.str c]] M (.agg [.str a,.str b,.str c]) M:=by
 have hG:aN Tryz.prog 99=some Tryz.f99:=by kernel_rfl
 refine aq (ak _) (lv:=fun _=>[]) (K:=1) rfl rfl ?_ M
 simp[aa,hG,Tryz.f99,bx,aG]
noncomputable def xq(f:FuncId) (args:List AV):Option AV:=
 match f,args with
 |58,[.agg [.str a,.str b,.str c]]=>some (.agg [.str a,.str b,.str c])
 |99,[.agg [.str a,.str b,.str c]]=>some (.agg [.str a,.str b,.str c])
 |f,args=>eG f args
theorem Ib:OracleOk Tryz.prog (ai xq):=bM fun f args v h mem=>by
 unfold xq at h
 split at h
 ·cases h;exact MN _ _ _ mem
 ·cases h;exact Kv _ _ _ mem
 ·have:=gJ.fn _ _ mem ⟨v,none,[]⟩ (by unfold ai;simp only;rw[h])
  simpa [CallRes.mem] using this
def afA(r:M3) (s:V3):AV:=.agg (mC r++vL s)
theorem Dl{v:V3}(h:vC v) (M:Mem):ACallsTo Tryz.prog 148 [vA v] M (.bool false) M:=by
 have hG:aN Tryz.prog 148=some Tryz.f148:=by kernel_rfl
 refine aq gJ (lv:=fun _=>[]) (K:=1) rfl rfl ?_ M
 obtain⟨h1,h2,h3,h4⟩:=h
 simp[aa,hG,Tryz.f148,ai,eG,vA,h1,h2,h3,h4]
open Classical in
noncomputable def xr(f:FuncId) (args:List AV):Option AV:=
 match f,args with
 |148,[.agg [.str a,.str b,.str c]]=>match v3P a b c with
  |some v=>if vC v then some (.bool false) else none
  |none=>none
 |_,_=>none
theorem Iu:OracleOk Tryz.prog (ai xr):=bM fun f args v h mem=>by
 unfold xr at h
 split at h
 ·split at h
  ·rename_i v hv
   split at h
   ·rename_i hc
    cases h
    obtain⟨rfl,rfl,rfl⟩:=iS hv
    exact Dl hc mem
   ·cases h
  ·cases h
 ·cases h
theorem HM{a b c d:V3}(ha:vC a) (hb:vC b) (hc:vC c) (hd:vC d):ACallsTo Tryz.prog 215 [.slice 0 0 4 none,.func 148 []] [.cells false 3 (vL a++(vL b++(vL c++vL d)))] (.int .i64 (-1)) [.cells false 3 (vL a++(vL b++(vL c++vL d)))]:=by
 have hG:aN Tryz.prog 215=some Tryz.f215:=by kernel_rfl
 have w1:IntKind.i64.wrap 1=1:=rfl
 have w2:IntKind.i64.wrap 2=2:=rfl
 have w3:IntKind.i64.wrap 3=3:=rfl
 have w4:IntKind.i64.wrap 4=4:=rfl
 have h:aa (aO Tryz.prog) (fun _=>[8]) (aN Tryz.prog) (ai xr) 6 215 [.slice 0 0 4 none,.func 148 []] [.cells false 3 (vL a++(vL b++(vL c++vL d)))]=some ⟨.int .i64 (-1),none,[]⟩:=by
  simp[aa,hG,Tryz.f215,ai,xr,vL,R4,ha,hb,hc,hd,aZ,fA,w1,w2,w3,w4]
 have:=(af ae (aw _) Iu (ax _) h).1
 simpa [CallRes.mem] using this
theorem MO{M:Mem}{b n:Nat}{o:Bool}{C:List AV}(hC:AV.closeds C=true) (hb:M[b]? =some (.cells o 3 C)) (h:ACallsTo Tryz.prog 215 [.slice 0 0 n none,.func 148 []] [.cells false 3 C] (.int .i64 (-1)) [.cells false 3 C]):
  ACallsTo Tryz.prog 95 [.slice b 0 n none] M (.int .i64 0) M:=by
 have hI:=rows1C (rest:=[.func 148 []]) hC rfl rfl hb (List.take_of_length_le (Nat.le_refl _)) h
 have hG2:aN Tryz.prog 147=some Tryz.f147:=by kernel_rfl
 have hO2:OracleOk Tryz.prog (cJ 215 [.slice b 0 n none,.func 148 []] (.int .i64 (-1)) (fun N=>N=M)):=dT fun N hN=>by subst hN;exact hI
 have h2:aa (aO Tryz.prog) (fun _=>[]) (aN Tryz.prog) (cJ 215 [.slice b 0 n none,.func 148 []] (.int .i64 (-1)) (fun N=>N=M)) 1 147 [.slice b 0 n none,.func 148 []] M=some ⟨.bool false,none,[]⟩:=by
  clear hO2
  simp[aa,hG2,Tryz.f147,cJ]
 have h3:=(af ae (aw _) hO2 (ax _) h2).1
 rw[show CallRes.mem ⟨.bool false,none,[]⟩ M=M by simp[CallRes.mem]] at h3
 have hG:aN Tryz.prog 95=some Tryz.f95:=by kernel_rfl
 have hO:OracleOk Tryz.prog (cJ 147 [.slice b 0 n none,.func 148 []] (.bool false) (fun N=>N=M)):=dT fun N hN=>by subst hN;exact h3
 have h:aa (aO Tryz.prog) (fun _=>[]) (aN Tryz.prog) (cJ 147 [.slice b 0 n none,.func 148 []] (.bool false) (fun N=>N=M)) 1 95 [.slice b 0 n none] M=some ⟨.int .i64 0,none,[]⟩:=by
  clear hO
  simp[aa,hG,Tryz.f95,cJ]
 have:=(af ae (aw _) hO (ax _) h).1
 simpa [CallRes.mem] using this
def afC(r:M3) (s:V3):Prop:=vC r.1∧vC r.2.1∧vC r.2.2∧vC s
theorem jK{r:M3}{s:V3}(h:afC r s) (M:Mem):ACallsTo Tryz.prog 49 [afA r s] M (.int .i64 0) M:=by
 have hG:aN Tryz.prog 49=some Tryz.f49:=by kernel_rfl
 obtain⟨h1,h2,h3,h4⟩:=h
 obtain⟨L,hL⟩:∃L:List (FuncId×List AV×Mem×CallRes),L=[(95,[.slice 1 0 4 none],[.cells true 0 (mC r++vL s),.cells true 3 (mC r++vL s)],⟨.int .i64 0,none,[]⟩)]:=⟨_,rfl⟩
 have hO:OracleOk Tryz.prog (oz L):=sR fun x hx=>by
  rw[hL,List.mem_singleton] at hx
  subst hx
  exact⟨by simpa [CallRes.mem] using MO (M:=[.cells true 0 (mC r++vL s),.cells true 3 (mC r++vL s)]) (b:=1) (C:=vL r.1++(vL r.2.1++(vL r.2.2++vL s))) rfl rfl (HM h1 h2 h3 h4),fun p hp=>by cases hp⟩
 refine aq hO (lv:=fun _=>[]) (K:=1) rfl rfl ?_ M
 clear hO
 subst hL
 simp[aa,hG,Tryz.f49,oz,afA,mC,vL]
structure ApplyOk (r:M3) (s p:V3):Prop where
 ck:afC r s
 pk:vC p
 mm:mOk r p
 fk:vF (G6 r p)∧vF s
 rk:vC (AU (G6 r p) s)
def Rx(k:Nat) (Q:List (Rat×Rat)):Prop:=∀q∈Q,big k q.1∧big k q.2
theorem uN{Q:List (Rat×Rat)}{i:Nat}{q:Rat×Rat}(h:Q[i]? =some q):Q.getD i (0,0)=q:=by simp[List.getD,h]
set_option maxHeartbeats 1600000 in
theorem HL(Q:List (Rat×Rat)) (n:Nat) (hn:n≤Q.length) (hQ:Rx 40 Q) (hl:Q.length≤1000000000)
  (hd:∀i a b,Q[i]? =some a→Q[i+1]? =some b→b.1-a.1≠0):
  ACallsTo Tryz.prog 45 [.slice 0 0 Q.length none,.int .i64 n] [.cells false 2 (kC (kT Q))] (.tuple [.str (aB (sX Q n).1),.str (aB (sX Q n).2)]) [.cells false 2 (kC (kT Q))]:=by
 have hG:aN Tryz.prog 45=some Tryz.f45:=by kernel_rfl
 have z:aB 0=[48]:=rfl
 have h:aa (aO Tryz.prog) (fun _=>[]) (aN Tryz.prog) (ai aP) 1 45 [.slice 0 0 Q.length none,.int .i64 n] [.cells false 2 (kC (kT Q))]=some ⟨.tuple [.str (aB (sX Q n).1),.str (aB (sX Q n).2)],none,[]⟩:=by
  have kl:(kC (kT Q)).length=2*Q.length:=by rw[sU,kS]
  unfold sX
  by_cases h0:Q=[]
  ·subst h0
   simp[aa,hG,Tryz.f45,z]
  ·have hp:0<Q.length:=List.length_pos_iff.2 h0
   have hp' :¬Q.length=0:=by omega
   rw[if_neg h0]
   by_cases hz:n=0
   ·subst hz
    obtain⟨q,hq⟩:∃q,Q[0]? =some q:=⟨Q[0],List.getElem?_eq_getElem hp⟩
    obtain⟨k1,k2,k3⟩:=Md (Q0 hq)
    rw[if_pos rfl,uN hq]
    simp at k3
    simp[aa,hG,Tryz.f45,z,h0,hp,k3]
   ·rw[if_neg hz]
    obtain⟨m,rfl⟩:∃m,n=m+1:=⟨n-1,by omega⟩
    obtain⟨a,ha⟩:∃q,Q[m]? =some q:=⟨Q[m],List.getElem?_eq_getElem (by omega)⟩
    obtain⟨a1,a2,a3⟩:=Md (Q0 ha)
    have w2:IntKind.i64.wrap (((m+1:Nat):Int)-1)=(m:Int):=by rw[ag (by omega) (by omega)];omega
    have e1:m+1-1=m:=by omega
    rw[e1,uN ha]
    have hm:m<Q.length:=by omega
    by_cases hE:m+1=Q.length
    ·rw[if_pos hE]
     rw[hE] at w2 ⊢
     simp[aa,hG,Tryz.f45,z,hp',hm,a3,w2]
    ·rw[if_neg hE]
     have hE' :¬((m:Int)+1=Q.length):=by omega
     obtain⟨b,hb⟩:∃q,Q[m+1]? =some q:=⟨Q[m+1],List.getElem?_eq_getElem (by omega)⟩
     obtain⟨b1,b2,b3⟩:=Md (Q0 hb)
     rw[uN hb]
     have hnz:=hd m a b ha hb
     obtain⟨A1,A2⟩:=hQ a (List.mem_of_getElem? ha)
     obtain⟨B1,B2⟩:=hQ b (List.mem_of_getElem? hb)
     have D1:=yR B2 A2
     have D2:=yR B1 A1
     have D3:=No D1 D2
     have D4:=IW D3 (A1.mono (by omega))
     unfold Kj
     obtain⟨⟨f1,f2⟩,f3,f4⟩:ky a.1∧ky a.2:=⟨fe (by decide) (by decide) A1,fe (by decide) (by decide) A2⟩
     obtain⟨⟨g1,g2⟩,g3,g4⟩:ky b.1∧ky b.2:=⟨fe (by decide) (by decide) B1,fe (by decide) (by decide) B2⟩
     obtain⟨⟨i1,i2⟩,i3,i4⟩:ky (b.2-a.2)∧ky (b.1-a.1):=⟨fe (by decide) (by decide) D1,fe (by decide) (by decide) D2⟩
     obtain⟨⟨j1,j2⟩,j3,j4⟩:ky ((b.2-a.2) / (b.1-a.1))∧ky ((b.2-a.2) / (b.1-a.1)*a.1):=⟨fe (by decide) (by decide) D3,fe (by decide) (by decide) D4⟩
     clear D1 D2 D3 D4 A1 A2 B1 B2
     obtain⟨x,hx⟩:∃x,x=b.2-a.2:=⟨_,rfl⟩
     obtain⟨y,hy⟩:∃y,y=b.1-a.1:=⟨_,rfl⟩
     rw[←hx] at i1 i2 j1 j2 j3 j4 ⊢
     rw[←hy] at i3 i4 j1 j2 j3 j4 hnz ⊢
     obtain⟨s,hs⟩:∃s,s=x / y:=⟨_,rfl⟩
     rw[←hs] at j1 j2 j3 j4 ⊢
     obtain⟨t,ht⟩:∃t,t=s*a.1:=⟨_,rfl⟩
     rw[←ht] at j3 j4 ⊢
     have ka:m*2+2≤(kC (kT Q)).length:=by omega
     have kb:(m+1)*2+2≤(kC (kT Q)).length:=by omega
     obtain⟨v,hv⟩:∃v,v=m+1:=⟨_,rfl⟩
     rw[←hv] at hE b1 kb w2 ⊢
     have hEI:¬(v:Int)=Q.length:=by omega
     have v0:¬v=0:=by omega
     have vl:v<Q.length:=by omega
     simp[aa,hG,Tryz.f45,hp',hm,hEI,v0,vl,a1,b1,ka,kb,w2,ai,aP,aY,aC,f1,f2,f3,f4,g1,g2,g3,g4,←hx,←hy,i1,i2,i3,i4,hnz,←hs,j1,j2,j3,j4,←ht,Nat.testBit]
 have:=(af ae (aw _) cA (ax _) h).1
 simpa [CallRes.mem] using this
end Go.Proofs
namespace Go.Proofs
open Go.Eng
end Go.Proofs
namespace Go.Proofs
open Go.Eng
end Go.Proofs
