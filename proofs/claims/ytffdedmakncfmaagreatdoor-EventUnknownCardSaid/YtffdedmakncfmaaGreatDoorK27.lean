/- See K51. -/
import Derived.Test.YtffdedmakncfmaaGreatDoorK22
set_option linter.all false
namespace Go.Proofs
open Go.Eng
def AU(a b:V3):V3:=(a.1+b.1,a.2.1+b.2.1,a.2.2+b.2.2)
def By(a:V3) (k:Rat):V3:=(a.1*k,a.2.1*k,a.2.2*k)
def vF(a:V3):Prop:=ky a.1∧ky a.2.1∧ky a.2.2
def AI(a b:V3):Prop:=vF a∧vF b∧Hz [a.1*b.1,a.2.1*b.2.1,a.2.2*b.2.2] 0
def vC(v:V3):Prop:=tS [aB v.1,aB v.2.1,aB v.2.2]=0∧(aB v.1).length≤1000000000∧(aB v.2.1).length≤1000000000∧(aB v.2.2).length≤1000000000
theorem NI:ky 0:=⟨by decide,by decide⟩
theorem gO{n:Nat}{q:Rat}(h:dg n n q) (h0:0<n) (h1:n≤40000):ky q:=cj h h0 h0 h1 h1
theorem MC{n:Nat}{v:V3}(h:vDg n v) (h0:0<n) (h1:n≤40000):vF v:=⟨gO h.1 h0 h1,gO h.2.1 h0 h1,gO h.2.2 h0 h1⟩
theorem zU{v:V3}(h:vDg 200 v):vC v:=⟨N8 h,jt h.1 (by decide) (by decide),jt h.2.1 (by decide) (by decide),jt h.2.2 (by decide) (by decide)⟩
theorem CG{n:Nat}{a b:V3}(ha:vDg n a) (hb:vDg n b) (h0:0<n) (h1:n≤4000):AI a b:=by
 obtain⟨A1,A2,A3⟩:=ha
 obtain⟨B1,B2,B3⟩:=hb
 have P1:=gb A1 B1
 have P2:=gb A2 B2
 have P3:=gb A3 B3
 have Z:dg 1 1 0:=⟨by decide,by decide⟩
 have S1:=ot Z P1 (m:=3*n+3) (by omega) (by omega)
 have S2:=ot S1 P2 (m:=6*n+6) (by omega) (by omega)
 have S3:=ot S2 P3 (m:=9*n+9) (by omega) (by omega)
 have f:∀{x y:Nat}{q:Rat},dg x y q→0<x→0<y→x≤40000→y≤40000→ky q:=fun h p q r s=>cj h p q r s
 exact⟨MC ⟨A1,A2,A3⟩ h0 (by omega),MC ⟨B1,B2,B3⟩ h0 (by omega),NI,f P1 (by omega) (by omega) (by omega) (by omega),f S1 (by omega) (by omega) (by omega) (by omega),f P2 (by omega) (by omega) (by omega) (by omega),f S2 (by omega) (by omega) (by omega) (by omega),f P3 (by omega) (by omega) (by omega) (by omega),f S3 (by omega) (by omega) (by omega) (by omega)⟩
def v3P(a b c:List UInt8):Option V3:=match dU a,dU b,dU c with
 |some x,some y,some z=>some (x,y,z)
 |_,_,_=>none
theorem R4(x y z:Rat):v3P (aB x) (aB y) (aB z)=some (x,y,z):=by simp only[v3P,aC]
theorem iS{a b c:List UInt8}{v:V3}(h:v3P a b c=some v):a=aB v.1∧b=aB v.2.1∧c=aB v.2.2:=by
 unfold v3P at h
 split at h
 ·rename_i x y z hx hy hz
  cases h
  exact⟨aD hx,aD hy,aD hz⟩
 ·cases h
set_option maxHeartbeats 1600000 in
theorem KC(a b:V3) (h:AI a b) (M:Mem):ACallsTo Tryz.prog 75 [vA a,vA b] M (.str (aB (vW a b))) M:=by
 have hG:aN Tryz.prog 75=some Tryz.f75:=by kernel_rfl
 obtain⟨a1,a2,a3⟩:=a
 obtain⟨b1,b2,b3⟩:=b
 obtain⟨⟨⟨f1,f2⟩,⟨f3,f4⟩,f5,f6⟩,⟨⟨g1,g2⟩,⟨g3,g4⟩,g5,g6⟩,hs⟩:=h
 simp only at f1 f2 f3 f4 f5 f6 g1 g2 g3 g4 g5 g6 hs
 have hsum:zX [a1*b1,a2*b2,a3*b3] 0=a1*b1+a2*b2+a3*b3:=by simp[zX,Rat.zero_add]
 unfold vW
 simp only
 obtain⟨p,hp⟩:∃p,p=a1*b1:=⟨_,rfl⟩
 obtain⟨q,hq⟩:∃p,p=a2*b2:=⟨_,rfl⟩
 obtain⟨r,hr⟩:∃p,p=a3*b3:=⟨_,rfl⟩
 rw[←hp,←hq,←hr] at hs hsum ⊢
 refine aq fb (lv:=fun _=>[]) (K:=1) rfl rfl ?_ M
 obtain⟨ops,hops⟩:∃ops,aV Tryz.f75=[ops]:=⟨_,rfl⟩
 have hbs:=di hops (l:=[0,1,0,4,15,0,32,0,128,511,0,1024,0,4096,16383,32767,65535,131071]) (by kernel_rfl)
 have hba:LN [0,1,0,4,15,0,32,0,128,511,0,1024,0,4096,16383,32767,65535,131071] 18 15=true:=by decide
 simp[aV,cc,Tryz.f75] at hops
 subst hops
 simp[aa,hG,Tryz.f75,-aQ,mB hbs,mz,sL,A5,cS,hba,vA,fG,mM,pe,Hl,aC,ai,aP,aY,f1,f2,f3,f4,f5,f6,g1,g2,g3,g4,g5,g6,←hp,←hq,←hr,hs,hsum,Nat.testBit]
set_option maxHeartbeats 1600000 in
theorem KD(a b:V3) (h:AI a b) (M:Mem):ACallsTo Tryz.prog 213 [vA a,vA b] M (.str (aB (vW a b))) M:=by
 have hG:aN Tryz.prog 213=some Tryz.f213:=by kernel_rfl
 obtain⟨a1,a2,a3⟩:=a
 obtain⟨b1,b2,b3⟩:=b
 obtain⟨⟨⟨f1,f2⟩,⟨f3,f4⟩,f5,f6⟩,⟨⟨g1,g2⟩,⟨g3,g4⟩,g5,g6⟩,hs⟩:=h
 simp only at f1 f2 f3 f4 f5 f6 g1 g2 g3 g4 g5 g6 hs
 have hsum:zX [a1*b1,a2*b2,a3*b3] 0=a1*b1+a2*b2+a3*b3:=by simp[zX,Rat.zero_add]
 unfold vW
 simp only
 obtain⟨p,hp⟩:∃p,p=a1*b1:=⟨_,rfl⟩
 obtain⟨q,hq⟩:∃p,p=a2*b2:=⟨_,rfl⟩
 obtain⟨r,hr⟩:∃p,p=a3*b3:=⟨_,rfl⟩
 rw[←hp,←hq,←hr] at hs hsum ⊢
 refine aq fb (lv:=fun _=>[]) (K:=1) rfl rfl ?_ M
 obtain⟨ops,hops⟩:∃ops,aV Tryz.f213=[ops]:=⟨_,rfl⟩
 have hbs:=di hops (l:=[0,1,0,4,15,0,32,0,128,511,0,1024,0,4096,16383,32767,65535,131071]) (by kernel_rfl)
 have hba:LN [0,1,0,4,15,0,32,0,128,511,0,1024,0,4096,16383,32767,65535,131071] 18 15=true:=by decide
 simp[aV,cc,Tryz.f213] at hops
 subst hops
 simp[aa,hG,Tryz.f213,-aQ,mB hbs,mz,sL,A5,cS,hba,vA,fG,mM,pe,Hl,aC,ai,aP,aY,f1,f2,f3,f4,f5,f6,g1,g2,g3,g4,g5,g6,←hp,←hq,←hr,hs,hsum,Nat.testBit]
set_option maxHeartbeats 1600000 in
theorem KE(a b:V3) (h:AI a b) (M:Mem):ACallsTo Tryz.prog 103 [vA a,vA b] M (.str (aB (vW a b))) M:=by
 have hG:aN Tryz.prog 103=some Tryz.f103:=by kernel_rfl
 obtain⟨a1,a2,a3⟩:=a
 obtain⟨b1,b2,b3⟩:=b
 obtain⟨⟨⟨f1,f2⟩,⟨f3,f4⟩,f5,f6⟩,⟨⟨g1,g2⟩,⟨g3,g4⟩,g5,g6⟩,hs⟩:=h
 simp only at f1 f2 f3 f4 f5 f6 g1 g2 g3 g4 g5 g6 hs
 have hsum:zX [a1*b1,a2*b2,a3*b3] 0=a1*b1+a2*b2+a3*b3:=by simp[zX,Rat.zero_add]
 unfold vW
 simp only
 obtain⟨p,hp⟩:∃p,p=a1*b1:=⟨_,rfl⟩
 obtain⟨q,hq⟩:∃p,p=a2*b2:=⟨_,rfl⟩
 obtain⟨r,hr⟩:∃p,p=a3*b3:=⟨_,rfl⟩
 rw[←hp,←hq,←hr] at hs hsum ⊢
 refine aq fb (lv:=fun _=>[]) (K:=1) rfl rfl ?_ M
 obtain⟨ops,hops⟩:∃ops,aV Tryz.f103=[ops]:=⟨_,rfl⟩
 have hbs:=di hops (l:=[0,1,0,4,15,0,32,0,128,511,0,1024,0,4096,16383,32767,65535,131071]) (by kernel_rfl)
 have hba:LN [0,1,0,4,15,0,32,0,128,511,0,1024,0,4096,16383,32767,65535,131071] 18 15=true:=by decide
 simp[aV,cc,Tryz.f103] at hops
 subst hops
 simp[aa,hG,Tryz.f103,-aQ,mB hbs,mz,sL,A5,cS,hba,vA,fG,mM,pe,Hl,aC,ai,aP,aY,f1,f2,f3,f4,f5,f6,g1,g2,g3,g4,g5,g6,←hp,←hq,←hr,hs,hsum,Nat.testBit]
def vQ(p v:V3) (k:Rat):Prop:=(vF p∧vF v∧ky k)∧ky (k*v.1)∧ky (k*v.2.1)∧ky (k*v.2.2)
theorem Qq(p v:V3) (k:Rat):AU p (By v k)=(p.1+k*v.1,p.2.1+k*v.2.1,p.2.2+k*v.2.2):=by
 unfold AU By
 simp only[Rat.mul_comm]
set_option maxHeartbeats 1600000 in
theorem xP(p v:V3) (k:Rat) (h:vQ p v k) (M:Mem):ACallsTo Tryz.prog 44 [vA p,vA v,.str (aB k)] M (vA (AU p (By v k))) M:=by
 have hG:aN Tryz.prog 44=some Tryz.f44:=by kernel_rfl
 rw[Qq]
 obtain⟨a1,a2,a3⟩:=p
 obtain⟨b1,b2,b3⟩:=v
 obtain⟨⟨⟨⟨f1,f2⟩,⟨f3,f4⟩,f5,f6⟩,⟨⟨g1,g2⟩,⟨g3,g4⟩,g5,g6⟩,k1,k2⟩,⟨i1,i2⟩,⟨i3,i4⟩,i5,i6⟩:=h
 simp only at f1 f2 f3 f4 f5 f6 g1 g2 g3 g4 g5 g6 i1 i2 i3 i4 i5 i6 ⊢
 obtain⟨x,hx⟩:∃x,x=k*b1:=⟨_,rfl⟩
 obtain⟨y,hy⟩:∃x,x=k*b2:=⟨_,rfl⟩
 obtain⟨z,hz⟩:∃x,x=k*b3:=⟨_,rfl⟩
 rw[←hx] at i1 i2 ⊢
 rw[←hy] at i3 i4 ⊢
 rw[←hz] at i5 i6 ⊢
 refine aq cA (lv:=fun _=>[]) (K:=1) rfl rfl ?_ M
 obtain⟨o1,hops⟩:∃o1,aV Tryz.f44=[o1]:=⟨_,rfl⟩
 have hb1:=di hops (l:=[0,1,0,0,8,28,63,0,128,0,0,1024,3711,8191,0,16384,0,0,131072,475135,1048575,2097151,4194303]) (by kernel_rfl)
 have j1:cU [0,1,0,0,8,28,63,0,128,0,0,1024,3711,8191,0,16384,0,0,131072,475135,1048575,2097151,4194303] 22=true:=by decide
 simp[aV,cc,Tryz.f44] at hops
 subst hops
 simp[aa,hG,Tryz.f44,-aQ,aA hb1,bN,bF,bL,j1,vA,bx,aG,aC,ai,aP,aY,f1,f2,f3,f4,f5,f6,g1,g2,g3,g4,g5,g6,k1,k2,i1,i2,i3,i4,i5,i6,←hx,←hy,←hz,Nat.testBit]
open Classical in
noncomputable def eG(f:FuncId) (args:List AV):Option AV:=
 match f,args with
 |75,[.agg [.str a,.str b,.str c],.agg [.str d,.str e,.str g]]=>match v3P a b c,v3P d e g with
  |some u,some v=>if AI u v then some (.str (aB (vW u v))) else none
  |_,_=>none
 |213,[.agg [.str a,.str b,.str c],.agg [.str d,.str e,.str g]]=>match v3P a b c,v3P d e g with
  |some u,some v=>if AI u v then some (.str (aB (vW u v))) else none
  |_,_=>none
 |103,[.agg [.str a,.str b,.str c],.agg [.str d,.str e,.str g]]=>match v3P a b c,v3P d e g with
  |some u,some v=>if AI u v then some (.str (aB (vW u v))) else none
  |_,_=>none
 |44,[.agg [.str a,.str b,.str c],.agg [.str d,.str e,.str g],.str k]=>match v3P a b c,v3P d e g,dU k with
  |some u,some v,some x=>if vQ u v x then some (vA (AU u (By v x))) else none
  |_,_,_=>none
 |100,[.agg [.str a,.str b,.str c]]=>if a.length≤1000000000∧b.length≤1000000000∧c.length≤1000000000 then some (.int .i64 (tS [a,b,c])) else none
 |f,args=>aP f args
theorem gJ:OracleOk Tryz.prog (ai eG):=bM fun f args v h mem=>by
 unfold eG at h
 split at h
 ·split at h
  ·rename_i u v hu hv
   split at h
   ·rename_i hc
    cases h
    obtain⟨rfl,rfl,rfl⟩:=iS hu
    obtain⟨rfl,rfl,rfl⟩:=iS hv
    exact KC u v hc mem
   ·cases h
  ·cases h
 ·split at h
  ·rename_i u v hu hv
   split at h
   ·rename_i hc
    cases h
    obtain⟨rfl,rfl,rfl⟩:=iS hu
    obtain⟨rfl,rfl,rfl⟩:=iS hv
    exact KD u v hc mem
   ·cases h
  ·cases h
 ·split at h
  ·rename_i u v hu hv
   split at h
   ·rename_i hc
    cases h
    obtain⟨rfl,rfl,rfl⟩:=iS hu
    obtain⟨rfl,rfl,rfl⟩:=iS hv
    exact KE u v hc mem
   ·cases h
  ·cases h
 ·split at h
  ·rename_i u v x hu hv hx
   split at h
   ·rename_i hc
    cases h
    obtain⟨rfl,rfl,rfl⟩:=iS hu
    obtain⟨rfl,rfl,rfl⟩:=iS hv
    rw[aD hx]
    exact xP u v x hc mem
   ·cases h
  ·cases h
 ·split at h
  ·rename_i hc;cases h;exact jM _ _ _ hc.1 hc.2.1 hc.2.2 mem
  ·cases h
 ·have:=cA.fn _ _ mem ⟨v,none,[]⟩ (by unfold ai;simp only;rw[h])
  simpa [CallRes.mem] using this
end Go.Proofs
