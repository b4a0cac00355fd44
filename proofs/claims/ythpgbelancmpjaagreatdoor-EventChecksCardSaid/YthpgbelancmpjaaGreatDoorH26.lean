/- See H38. -/
import Derived.Test.YthpgbelancmpjaaGreatDoorH25
set_option linter.all false
set_option maxRecDepth 100000
set_option maxHeartbeats 40000000
namespace Go.Proofs
open Go.Eng
open Tryz
abbrev T3:=List UInt8×List UInt8×List UInt8
def xB(a b:T3):Bool:=(a.1==b.1)&&((a.2.1==b.2.1)&&(a.2.2==b.2.2))
def RW(c c' :Evc):Bool:=((xB (c.x5,c.x6,c.x7) (c'.x5,c'.x6,c'.x7))&&(c.x8==c'.x8))&&xB (c.x9,c.x10,c.x11) (c'.x9,c'.x10,c'.x11)
def T8(c c' :Evc):Bool:=((xB (c.x19,c.x20,c.x21) (c'.x19,c'.x20,c'.x21))&&(c.x22==c'.x22))&&((c.x23==c'.x23)&&(c.x24==c'.x24))
def Ve(c c' :Evc):Bool:=(decide (c.t1=c'.t1)&&(decide (c.t2=c'.t2)&&(decide (c.t3=c'.t3)&&decide (c.t4=c'.t4))))&&xB (c.x29,c.x30,c.x31) (c'.x29,c'.x30,c'.x31)
section
variable (d:Nat)
theorem fH(a b c a' b' c' :List UInt8):kS (aL prog) (d+2) 54 (.agg [.str a,.str b,.str c]) (.agg [.str a',.str b',.str c'])=some ((a==a')&&((b==b')&&(c==c'))):=by have i:=nT d;rw[kS];simp[RV,jJ,TyI.isAgg,i]
theorem vZ(a b c o a' b' c' H :List UInt8):kS (aL prog) (d+3) 56 (.agg [.str a,.str b,.str c,.str o]) (.agg [.str a',.str b',.str c',.str H])=some (((a==a')&&((b==b')&&(c==c')))&&(o==H)):=by have i:=nT (d+1);have j:=fH d;rw[kS];simp[RV,jJ,TyI.isAgg,i,j]
theorem pe(a b c o e f g a' b' c' H I J W :List UInt8):kS (aL prog) (d+4) 58 (.agg [.str a,.str b,.str c,.str o,.str e,.str f,.str g]) (.agg [.str a',.str b',.str c',.str H,.str I,.str J,.str W])=some ((((a==a')&&((b==b')&&(c==c')))&&(o==H))&&((e==I)&&((f==J)&&(g==W)))):=by have j:=fH (d+1);have k:=vZ d;rw[kS];simp[RV,jJ,TyI.isAgg,j,k]
theorem rh(a b c o w u a' b' c' H w' u' :List UInt8):kS (aL prog) (d+4) 63 (.agg [.str a,.str b,.str c,.str o,.str w,.str u]) (.agg [.str a',.str b',.str c',.str H,.str w',.str u'])=some ((((a==a')&&((b==b')&&(c==c')))&&(o==H))&&((w==w')&&(u==u'))):=by have i:=nT (d+2);have Z:=BI (d+2);have k:=vZ d;rw[kS];simp[RV,jJ,TyI.isAgg,i,Z,k]
theorem IK(t u v w H u' I w' :Int):kS (aL prog) (d+2) 64 (.agg [.int .i64 t,.int .i64 u,.int .i64 v,.int .i64 w]) (.agg [.int .i64 H,.int .i64 u',.int .i64 I,.int .i64 w'])=some (decide (t=H)&&(decide (u=u')&&(decide (v=I)&&decide (w=w')))):=by have r:List.range' 0 4=[0,1,2,3]:=rfl;have i:=BH d;rw[kS];simp only[GP,GO,r,Xb];simp[jJ,TyI.isAgg,i]
theorem rn(t u v w H u' I w' :Int)(a b c a' b' c' :List UInt8):kS (aL prog) (d+3) 66 (.agg [.int .i64 t,.int .i64 u,.int .i64 v,.int .i64 w,.str a,.str b,.str c]) (.agg [.int .i64 H,.int .i64 u',.int .i64 I,.int .i64 w',.str a',.str b',.str c'])=some ((decide (t=H)&&(decide (u=u')&&(decide (v=I)&&decide (w=w'))))&&((a==a')&&((b==b')&&(c==c')))):=by have j:=fH (d+0);have k:=IK d t u v w H u' I w';rw[kS];simp[RV,jJ,TyI.isAgg,j,k]
end
section
variable {O:afu}{m0:Nat}{ops:Array Oper}{env:Env}{mem:Mem}{d:Bool}{p q:Nat}{c c' :Evc}{b u s kn b' u' s' kn' :AV}{f r2 r3 r4 r7:Bool}(h2:aa env 2=.ptr p 0)(h3:aa env 3=.ptr q 0)(hp:mem[p]? =some (.cells true 0 (c.cells b u s kn)))(hq:mem[q]? =some (.cells true 0 (c'.cells b' u' s' kn')))
include h2 h3 hp hq
theorem Ss:
  ∃Z,cr (aL prog) O 92 m0 ops mK ⟨env,mem,d⟩=some ⟨Z,mem,d⟩/\aa Z 2=.ptr p 0/\aa Z 3=.ptr q 0/\aa Z 10=.bool (decide (c.k=c'.k)):=by
 have e:=fun d=>BH d
 simp only[Evc.cells] at hp hq;simp[mK,aG,f26,h2,h3,hp,hq]
theorem Su(hg:(ops[5]?).bind (fun x=>x.dst)=some 10)(h1:aa env 10=.bool f):
  ∃Z,cr (aL prog) O 92 m0 ops kh ⟨env,mem,d⟩=some ⟨Z,mem,d⟩/\aa Z 2=.ptr p 0/\aa Z 3=.ptr q 0/\aa Z 17=.bool (f&&(c.nm==c'.nm)):=by
 have e:=fun d=>BI d
 simp only[Evc.cells] at hp hq;cases f
 .simp[kh,aG,f26,h2,h3,hg,h1]
 .simp[kh,aG,f26,h2,h3,hp,hq,hg,h1]
theorem Sv(hg:(ops[12]?).bind (fun x=>x.dst)=some 17)(h1:aa env 17=.bool f)(H:f=true->O (.fn 72) [b,b'] mem=some ⟨.bool r2,none,[]⟩):
  ∃Z,cr (aL prog) O 92 m0 ops kj ⟨env,mem,d⟩=some ⟨Z,mem,d⟩/\aa Z 2=.ptr p 0/\aa Z 3=.ptr q 0/\aa Z 26=.bool (f&&r2):=by
 simp only[Evc.cells] at hp hq;cases f
 .simp[kj,aG,f26,h2,h3,hg,h1]
 .have H:=H rfl
  simp[kj,aG,f26,h2,h3,hp,hq,hg,h1,H]
theorem Sw(hg:(ops[21]?).bind (fun x=>x.dst)=some 26)(h1:aa env 26=.bool f)(H:f=true->O (.fn 73) [u,u'] mem=some ⟨.bool r3,none,[]⟩):
  ∃Z,cr (aL prog) O 92 m0 ops km ⟨env,mem,d⟩=some ⟨Z,mem,d⟩/\aa Z 2=.ptr p 0/\aa Z 3=.ptr q 0/\aa Z 35=.bool (f&&r3):=by
 simp only[Evc.cells] at hp hq;cases f
 .simp[km,aG,f26,h2,h3,hg,h1]
 .have H:=H rfl
  simp[km,aG,f26,h2,h3,hp,hq,hg,h1,H]
theorem Sx(hg:(ops[30]?).bind (fun x=>x.dst)=some 35)(h1:aa env 35=.bool f)(H:f=true->O (.fn 74) [s,s'] mem=some ⟨.bool r4,none,[]⟩):
  ∃Z,cr (aL prog) O 92 m0 ops ko ⟨env,mem,d⟩=some ⟨Z,mem,d⟩/\aa Z 2=.ptr p 0/\aa Z 3=.ptr q 0/\aa Z 44=.bool (f&&r4):=by
 simp only[Evc.cells] at hp hq;cases f
 .simp[ko,aG,f26,h2,h3,hg,h1]
 .have H:=H rfl
  simp[ko,aG,f26,h2,h3,hp,hq,hg,h1,H]
theorem Sy(hg:(ops[39]?).bind (fun x=>x.dst)=some 44)(h1:aa env 44=.bool f):
  ∃Z,cr (aL prog) O 92 m0 ops kq ⟨env,mem,d⟩=some ⟨Z,mem,d⟩/\aa Z 2=.ptr p 0/\aa Z 3=.ptr q 0/\aa Z 51=.bool (f&&RW c c'):=by
 have e:=fun d=>pe d c.x5 c.x6 c.x7 c.x8 c.x9 c.x10 c.x11 c'.x5 c'.x6 c'.x7 c'.x8 c'.x9 c'.x10 c'.x11
 simp only[Evc.cells] at hp hq;cases f
 .simp[kq,aG,f26,h2,h3,hg,h1]
 .simp[kq,aG,f26,h2,h3,hp,hq,hg,h1,e,RW,xB]
theorem Sz(hg:(ops[46]?).bind (fun x=>x.dst)=some 51)(h1:aa env 51=.bool f):
  ∃Z,cr (aL prog) O 92 m0 ops kz ⟨env,mem,d⟩=some ⟨Z,mem,d⟩/\aa Z 2=.ptr p 0/\aa Z 3=.ptr q 0/\aa Z 60=.bool (f&&xB (c.x12,c.x13,c.x14) (c'.x12,c'.x13,c'.x14)):=by
 have e:=fun d=>fH d c.x12 c.x13 c.x14 c'.x12 c'.x13 c'.x14
 simp only[Evc.cells] at hp hq;cases f
 .simp[kz,aG,f26,h2,h3,hg,h1]
 .simp[kz,aG,f26,h2,h3,hp,hq,hg,h1,e,xB]
theorem SA(hg:(ops[55]?).bind (fun x=>x.dst)=some 60)(h1:aa env 60=.bool f)(H:f=true->O (.fn 75) [kn,kn'] mem=some ⟨.bool r7,none,[]⟩):
  ∃Z,cr (aL prog) O 92 m0 ops kA ⟨env,mem,d⟩=some ⟨Z,mem,d⟩/\aa Z 2=.ptr p 0/\aa Z 3=.ptr q 0/\aa Z 69=.bool (f&&r7):=by
 simp only[Evc.cells] at hp hq;cases f
 .simp[kA,aG,f26,h2,h3,hg,h1]
 .have H:=H rfl
  simp[kA,aG,f26,h2,h3,hp,hq,hg,h1,H]
theorem SB(hg:(ops[64]?).bind (fun x=>x.dst)=some 69)(h1:aa env 69=.bool f):
  ∃Z,cr (aL prog) O 92 m0 ops kB ⟨env,mem,d⟩=some ⟨Z,mem,d⟩/\aa Z 2=.ptr p 0/\aa Z 3=.ptr q 0/\aa Z 78=.bool (f&&xB (c.x16,c.x17,c.x18) (c'.x16,c'.x17,c'.x18)):=by
 have e:=fun d=>fH d c.x16 c.x17 c.x18 c'.x16 c'.x17 c'.x18
 simp only[Evc.cells] at hp hq;cases f
 .simp[kB,aG,f26,h2,h3,hg,h1]
 .simp[kB,aG,f26,h2,h3,hp,hq,hg,h1,e,xB]
theorem SC(hg:(ops[73]?).bind (fun x=>x.dst)=some 78)(h1:aa env 78=.bool f):
  ∃Z,cr (aL prog) O 92 m0 ops kD ⟨env,mem,d⟩=some ⟨Z,mem,d⟩/\aa Z 2=.ptr p 0/\aa Z 3=.ptr q 0/\aa Z 85=.bool (f&&T8 c c'):=by
 have e:=fun d=>rh d c.x19 c.x20 c.x21 c.x22 c.x23 c.x24 c'.x19 c'.x20 c'.x21 c'.x22 c'.x23 c'.x24
 simp only[Evc.cells] at hp hq;cases f
 .simp[kD,aG,f26,h2,h3,hg,h1]
 .simp[kD,aG,f26,h2,h3,hp,hq,hg,h1,e,T8,xB]
theorem Qw(hg:(ops[80]?).bind (fun x=>x.dst)=some 85)(h1:aa env 85=.bool f):
  ∃Z,cr (aL prog) O 92 m0 ops jm ⟨env,mem,d⟩=some ⟨Z,mem,d⟩/\aa Z 2=.ptr p 0/\aa Z 3=.ptr q 0/\aa Z 4=.bool (f&&Ve c c'):=by
 have e:=fun d=>rn d c.t1 c.t2 c.t3 c.t4 c'.t1 c'.t2 c'.t3 c'.t4 c.x29 c.x30 c.x31 c'.x29 c'.x30 c'.x31
 simp only[Evc.cells] at hp hq;cases f
 .simp[jm,aG,f26,h2,h3,hg,h1]
 .simp[jm,aG,f26,h2,h3,hp,hq,hg,h1,e,Ve,xB]
end
theorem SF:(aG[5]?).bind (fun x=>x.dst)=some 10:=by kernel_rfl
theorem SG:(aG[12]?).bind (fun x=>x.dst)=some 17:=by kernel_rfl
theorem SH:(aG[21]?).bind (fun x=>x.dst)=some 26:=by kernel_rfl
theorem SI:(aG[30]?).bind (fun x=>x.dst)=some 35:=by kernel_rfl
theorem SJ:(aG[39]?).bind (fun x=>x.dst)=some 44:=by kernel_rfl
theorem SK:(aG[46]?).bind (fun x=>x.dst)=some 51:=by kernel_rfl
theorem SM:(aG[55]?).bind (fun x=>x.dst)=some 60:=by kernel_rfl
theorem SN:(aG[64]?).bind (fun x=>x.dst)=some 69:=by kernel_rfl
theorem SO:(aG[73]?).bind (fun x=>x.dst)=some 78:=by kernel_rfl
theorem Qx:(aG[80]?).bind (fun x=>x.dst)=some 85:=by kernel_rfl
theorem Py{O:afu}{r:Bool}(H:afs prog O){m:Mem}{c c' :Evc}{b u s kn b' u' s' kn' :AV}(hr:∀env,aa env 2=.ptr m.length 0->aa env 3=.ptr (m.length+1) 0->(m++[.cells true 0 (c.cells b u s kn),.cells true 0 (c'.cells b' u' s' kn')])[m.length]? =some (.cells true 0 (c.cells b u s kn))->(m++[.cells true 0 (c.cells b u s kn),.cells true 0 (c'.cells b' u' s' kn')])[m.length+1]? =some (.cells true 0 (c'.cells b' u' s' kn'))->∃X,cr (aL prog) O 92 m.length aG (mK++(kh++(kj++(km++(ko++(kq++(kz++(kA++(kB++(kD++jm)))))))))) ⟨env,(m++[.cells true 0 (c.cells b u s kn),.cells true 0 (c'.cells b' u' s' kn')]),false⟩=some ⟨X,(m++[.cells true 0 (c.cells b u s kn),.cells true 0 (c'.cells b' u' s' kn')]),false⟩/\aa X 4=.bool r):
  bz prog 26 [.agg (c.cells b u s kn),.agg (c'.cells b' u' s' kn')] m (.bool r) m:=by
 have N:bq prog 26=some f26:=by kernel_rfl
 rw[<-II] at hr;obtain⟨Z,S⟩:=xE aG;rw[<-S] at hr;obtain⟨F,V⟩:=vy (p:=fun e (_:Bool)=>aa e 2=.ptr m.length 0/\aa e 3=.ptr (m.length+1) 0) (q:=fun env (_:Bool) X =>cr (aL prog) O 92 m.length Z Z.toList ⟨env,(m++[.cells true 0 (c.cells b u s kn),.cells true 0 (c'.cells b' u' s' kn')]),false⟩=some ⟨X,(m++[.cells true 0 (c.cells b u s kn),.cells true 0 (c'.cells b' u' s' kn')]),false⟩/\aa X 4=.bool r) (fun env _ h=>hr env h.1 h.2 (by simp) (by simp));have R:=fun env U h3=>(V env false ⟨U,h3⟩).1
 have Q:=fun env U h3=>(V env false ⟨U,h3⟩).2
 refine wz H ?_;have M:f26.body=some (.seq (.region 0 BG false) (.seq (.region 1 Z false) .ret)):=by rw[S];kernel_rfl
 clear V hr;unfold ad;rw[N];dsimp only;rw[M];dsimp only;simp only[Evc.cells] at R Q |-;simp[R,Q,BG,f26]
def evB(c c' :Evc)(r2 H I J:Bool):Bool:=(((((((((decide (c.k=c'.k)&&(c.nm==c'.nm))&&r2)&&H)&&I)&&RW c c')&&xB (c.x12,c.x13,c.x14) (c'.x12,c'.x13,c'.x14))&&J)&&xB (c.x16,c.x17,c.x18) (c'.x16,c'.x17,c'.x18))&&T8 c c')&&Ve c c'
theorem Px{O:afu}{r2 H I W:Bool}(J:afs prog O){m:Mem}{c c' :Evc}{b u s kn b' u' s' kn' :AV}(y2:(decide (c.k=c'.k)&&(c.nm==c'.nm))=true->O (.fn 72) [b,b'] (m++[.cells true 0 (c.cells b u s kn),.cells true 0 (c'.cells b' u' s' kn')])=some ⟨.bool r2,none,[]⟩)(y3:((decide (c.k=c'.k)&&(c.nm==c'.nm))&&r2)=true->O (.fn 73) [u,u'] (m++[.cells true 0 (c.cells b u s kn),.cells true 0 (c'.cells b' u' s' kn')])=some ⟨.bool H,none,[]⟩)(y4:(((decide (c.k=c'.k)&&(c.nm==c'.nm))&&r2)&&H)=true->O (.fn 74) [s,s'] (m++[.cells true 0 (c.cells b u s kn),.cells true 0 (c'.cells b' u' s' kn')])=some ⟨.bool I,none,[]⟩)(y7:((((((decide (c.k=c'.k)&&(c.nm==c'.nm))&&r2)&&H)&&I)&&RW c c')&&xB (c.x12,c.x13,c.x14) (c'.x12,c'.x13,c'.x14))=true->O (.fn 75) [kn,kn'] (m++[.cells true 0 (c.cells b u s kn),.cells true 0 (c'.cells b' u' s' kn')])=some ⟨.bool W,none,[]⟩):
  bz prog 26 [.agg (c.cells b u s kn),.agg (c'.cells b' u' s' kn')] m (.bool (evB c c' r2 H I W)) m:=Py J fun env R h3 Z X=>by
 obtain⟨e0,Q,N,M,K⟩:=Ss (O:=O) (m0:=m.length) (ops:=aG) (d:=false) R h3 Z X;obtain⟨e1,G,F,D,C⟩:=Su (O:=O) (m0:=m.length) (ops:=aG) (d:=false) N M Z X SF K;obtain⟨e2,B,y,o,j⟩:=Sv (O:=O) (m0:=m.length) (ops:=aG) (d:=false) F D Z X SG C y2;obtain⟨e3,Y,k3,l3,b3⟩:=Sw (O:=O) (m0:=m.length) (ops:=aG) (d:=false) y o Z X SH j y3;obtain⟨e4,s4,k4,l4,b4⟩:=Sx (O:=O) (m0:=m.length) (ops:=aG) (d:=false) k3 l3 Z X SI b3 y4;obtain⟨e5,s5,k5,l5,b5⟩:=Sy (O:=O) (m0:=m.length) (ops:=aG) (d:=false) k4 l4 Z X SJ b4;obtain⟨e6,s6,k6,l6,b6⟩:=Sz (O:=O) (m0:=m.length) (ops:=aG) (d:=false) k5 l5 Z X SK b5;obtain⟨e7,s7,k7,l7,b7⟩:=SA (O:=O) (m0:=m.length) (ops:=aG) (d:=false) k6 l6 Z X SM b6 y7;obtain⟨e8,s8,k8,l8,b8⟩:=SB (O:=O) (m0:=m.length) (ops:=aG) (d:=false) k7 l7 Z X SN b7;obtain⟨e9,s9,k9,l9,b9⟩:=SC (O:=O) (m0:=m.length) (ops:=aG) (d:=false) k8 l8 Z X SO b8;obtain⟨V,U,k10,l10,S⟩:=Qw (O:=O) (m0:=m.length) (ops:=aG) (d:=false) k9 l9 Z X Qx b9;exact⟨V,cg Q (cg G (cg B (cg Y (cg s4 (cg s5 (cg s6 (cg s7 (cg s8 (cg s9 (U)))))))))),S⟩
abbrev I4:=Int×Int×Int×Int
def tA(t:I4):AV:=.agg [.int .i64 t.1,.int .i64 t.2.1,.int .i64 t.2.2.1,.int .i64 t.2.2.2]
abbrev M3:=V3×V3×V3
def vL(v:V3):List AV:=[.str (aJ v.1),.str (aJ v.2.1),.str (aJ v.2.2)]
def Zs(r:M3)(v:V3):V3:=(xA r.1 v,xA r.2.1 v,xA r.2.2 v)
def aai(a b:V3):V3:=(a.1-b.1,a.2.1-b.2.1,a.2.2-b.2.2)
def mOk(r:M3)(v:V3):Prop:=NL r.1 v/\NL r.2.1 v/\NL r.2.2 v
structure ah4 (r:M3)(c:V3):Prop where
 ck:vC c
 m:mOk r c
 f:vF c/\vF (Zs r c)
 s:vC (aai c (Zs r c))
theorem SD(d:Nat)(x y:Int):kS (aL prog) (d+1) 3 (.int .i64 x) (.int .i64 y)=some (decide (x=y)):=by rw[kS];simp
theorem IJ(d:Nat)(t u v w a b c e:Int):kS (aL prog) (d+2) 64 (.agg [.int .i64 t,.int .i64 u,.int .i64 v,.int .i64 w]) (.agg [.int .i64 a,.int .i64 b,.int .i64 c,.int .i64 e])=some (decide (t=a)&&(decide (u=b)&&(decide (v=c)&&decide (w=e)))):=by have r:List.range' 0 4=[0,1,2,3]:=rfl;have i:=SD d;rw[kS];simp only[GP,GO,r,Xb];simp[jJ,TyI.isAgg,i]
def tLe(n:Nat)(t:I4):Prop:=t.1.natAbs<=n/\t.2.1.natAbs<=n/\t.2.2.1.natAbs<=n/\t.2.2.2.natAbs<=n
def ZP(t:I4):Prop:=t.1=0/\t.2.1=0/\t.2.2.1=0/\t.2.2.2=0
def RM(t:I4):I4:=if t=(0,0,0,0) then (1,0,0,0) else t
def oO(x:afv):I4:=RM ((x.t 0).tmod 21,(x.t 1).tmod 21,(x.t 2).tmod 21,(x.t 3).tmod 21)
theorem Pc(n:Int):(n.tmod 21).natAbs<=20:=by have:=AF n 21 (by decide);simp only[Int.cast_ofNat_Int] at this;omega
theorem Pd(x:afv):tLe 20 (oO x):=by
 unfold oO RM;split
 .exact⟨by decide,by decide,by decide,by decide⟩
 .exact⟨Pc _,Pc _,Pc _,Pc _⟩
theorem W6(x:afv):¬ZP (oO x):=by
 unfold oO RM;split
 .rintro ⟨h,_⟩;exact absurd h (by decide)
 .rename_i h
  rintro ⟨Z,X,h3,V⟩;exact h (Prod.ext Z (Prod.ext X (Prod.ext h3 V)))
theorem M5(a b c d:Int)(I:AS a)(H:AS b)(hc:AS c)(hd:AS d)(M:Mem):bz prog 42 [.agg [.int .i8 a,.int .i8 b,.int .i8 c,.int .i8 d]] M (tA (RM (a.tmod 21,b.tmod 21,c.tmod 21,d.tmod 21))) M:=by
 have R:bq prog 42=some f42:=by kernel_rfl
 have W:∀z,AS z->IntKind.i64.wrap z=z:=fun z Z=>kX (by have:=Z.1;have:=Z.2;omega) (by have:=Z.1;have:=Z.2;omega)
 have Q:=W a I;have O:=W b H;have N:=W c hc;have G:=W d hd;obtain⟨p,X⟩:=xE (a.tmod 21);obtain⟨q,V⟩:=xE (b.tmod 21);obtain⟨r,U⟩:=xE (c.tmod 21);obtain⟨s,S⟩:=xE (d.tmod 21);rw[<-X,<-V,<-U,<-S];have F:∀t u v w a b c e:Int,kS (aL prog) 20 64 (.agg [.int .i64 t,.int .i64 u,.int .i64 v,.int .i64 w]) (.agg [.int .i64 a,.int .i64 b,.int .i64 c,.int .i64 e])=some (decide (t=a)&&(decide (u=b)&&(decide (v=c)&&decide (w=e)))):=IJ 18
 refine dE (ar _) (lv:=fun _=>[4]) (K:=5) rfl rfl ?_ M;by_cases h:p=0/\q=0/\r=0/\s=0
 .obtain⟨D,C,h3,B⟩:=h
  subst D C h3 B;simp[ad,R,f42,bw,ga,Q,O,N,G,<-X,<-V,<-U,<-S,w1,w2,w3,w4,tA,RM,F,aD]
 .have e:(decide (p=0)&&(decide (q=0)&&(decide (r=0)&&decide (s=0))))=false:=by
   cases hh:(decide (p=0)&&(decide (q=0)&&(decide (r=0)&&decide (s=0)))) with
   |false=>rfl
   |true=>
    simp only[Ar,Cs] at hh;exact absurd hh h
  have H:RM (p,q,r,s)=(p,q,r,s):=if_neg fun e=>h (by simpa using e)
  rw[H];simp[ad,R,f42,bw,ga,Q,O,N,G,<-X,<-V,<-U,<-S,w1,w2,w3,w4,tA,F,e,-Bool.and_eq_false_imp,aD]
def ctN(x:afv):Nat:=(ct3 (x.n 0)).toNat
theorem fC(x:afv):ctN x=1\/ctN x=2\/ctN x=3:=by have:=OE (x.n 0);unfold ctN;omega
variable{x:afv}
theorem T5{c:Nat}(h:ctN x=c):ct3 (x.n 0)=c:=by have:=OE (x.n 0);unfold ctN at h;omega
def dqS(m n:Nat):Nat->AV
 |1=>.kO
 |2=>.slice (m+2) 0 1 none
 |_=>.slice (m+2) 0 2 none
def dqN(m:Nat)(x:afv)(n:Nat):Nat->Mem
 |1=>[.cells true 1 (qC (qH (x.base.l n))),.cells true 1 (stC (uNm 1))]
 |2=>[.cells true 1 (qC (qH (x.base.l n))),.cells true 1 (stC (uNm 2)),.cells true 1 [.slice (m+3) 0 n none],.cells true 1 (qC (qH (upL x.s0 (x.base.l n) n)))]
 |_=>[.cells true 1 (qC (qH (x.base.l n))),.cells true 1 (stC (uNm 3)),.cells true 1 [.slice (m+3) 0 n none,.slice (m+4) 0 n none],.cells true 1 (qC (qH (upL x.s0 (x.base.l n) n))),.cells true 1 (qC (qH (upL x.s1 (upL x.s0 (x.base.l n) n) n)))]
theorem MZ(x:afv)(hx:x.Ok)(n k:Nat)(H:0<n)(I:n<=1000)(M:Mem)(p t:Nat)(J:p<M.length)(W:t<M.length):
  bz prog 35 [.agg [.slice p 0 n none,.slice t 0 k none],.agg x.cells,.str [110]] M (.agg [.slice M.length 0 n none,.slice (M.length+1) 0 (ctN x) none,dqS M.length n (ctN x)]) (M++dqN M.length x n (ctN x)):=by
 have U:=fun f=>aS (ρ:=f) x.closed
 have X:bz prog 35 [.agg [.slice 0 0 n none,.slice 1 0 k none],.agg x.cells,.str [110]] [.y9,.y9] (.agg [.slice 2 0 n none,.slice 3 0 (ctN x) none,dqS 2 n (ctN x)]) ([.y9,.y9]++dqN 2 x n (ctN x)):=by
  rcases fC x with h | h | h
  .rw[h];exact Ip x hx n k H I (T5 h)
  .rw[h];exact Iq x hx n k H I (T5 h)
  .rw[h];exact Ir x hx n k H I (T5 h)
 have h3:=fC x;obtain⟨c,S⟩:=xE (ctN x);rw[<-S] at X h3 |-;have:=bz.frame (M:=M) (new:=dqN 2 x n c) [p,t] (m:=[.y9,.y9]) rfl (by
  intro k V;simp only[lM] at V;rcases V with rfl | rfl
  .exact J
  .exact W) (by simp[AV.afB,AV.under,bx x.closed]) (fun i s Z=>by
  match i with
  |0=>simp at Z;subst Z;trivial
  |1=>simp at Z;subst Z;trivial
  |i+2=>simp at Z) (by rcases h3 with rfl | rfl | rfl<;>rfl) X
 rcases h3 with rfl | rfl | rfl<;>simpa [AV.afR,AV.ren,back,afz.ren,dqS,dqN,kN,uNm,nmE,stC,U] using this
theorem Ym(x:afv)(hx:x.Ok)(M:Mem):bz prog 42 [.agg (i8C x.T)] M (tA (oO x)) M:=by
 have X:=hx.tl;have Z:=hx.tk;unfold oO afv.t;obtain⟨T,hT⟩:=xE x.T;rw[<-hT] at X Z |-
 match T,X with
 | [a,b,c,d],_=>exact M5 a b c d (Z _ (by simp)) (Z _ (by simp)) (Z _ (by simp)) (Z _ (by simp)) M
open Classical in
noncomputable def fB(x:afv)(f:FuncId)(args:List AV):Option AV:=
 match f,args with
 |40,[.agg cs]=>if cs=x.cells then some (zA (DO x)) else none
 |39,[.agg a,.str s]=>if .agg a=zA (DO x)/\s=[49,47,50] then some (vA (hV (DO x))) else none
 |42,[.agg cs]=>if cs=i8C x.T then some (tA (oO x)) else none
 |f,args=>iF x f args
theorem jS(hx:x.Ok):afs prog (ai (fB x)):=bT fun f X v h mem=>by
 unfold fB at h;split at h
 .split at h
  next Z=>cases h;rw[Z];exact F8 x hx mem
  .cases h
 .split at h
  next Z=>cases h;rw[Z.1,Z.2];exact M1 _ (Cw x) mem
  .cases h
 .split at h
  next Z=>cases h;rw[Z];exact Ym x hx mem
  .cases h
 .have:=(Ck hx).fn _ _ mem ⟨v,none,[]⟩ (by unfold ai;simp only;rw[h])
  simpa [afw.mem] using this
end Go.Proofs
namespace Go.Proofs
open Go.Eng
open Tryz
open Classical in
noncomputable def ie:List (FuncId×List AV×(Mem->Prop)×afw)->afu
 | [],_,_,_=>none
 |x::L,c,args,M=>if c=.fn x.1/\args=x.2.1/\x.2.2.1 M then some x.2.2.2 else ie L c args M
variable{L:List (FuncId×List AV×(Mem->Prop)×afw)}
theorem wU{P:Program}(h:∀x∈L,∀M,x.2.2.1 M->oQ P (.fn x.1) x.2.1 M x.2.2.2):afs P (ie L):=cG fun c a M r Z=>by
 induction L with
 |nil=>simp[ie] at Z
 |cons x L ih=>
  rw[ie] at Z;split at Z
  .rename_i X
   obtain⟨rfl,rfl,V⟩:=X;cases Z;exact h x (by simp) M V
  .exact ih (fun y U=>h y (by simp[U])) Z
variable{a:List AV}
theorem dn{f:FuncId}{p:Mem->Prop}{r:afw}{m:Mem}(h:p m):ie ((f,a,p,r)::L) (.fn f) a m=some r:=by rw[ie,if_pos ⟨rfl,rfl,h⟩]
theorem bE{f g:FuncId}{b:List AV}{p:Mem->Prop}{r:afw}{m:Mem}(h:f≠g\/¬p m):ie ((f,a,p,r)::L) (.fn g) b m=ie L (.fn g) b m:=by rw[ie,if_neg (fun e=>h.elim (fun h=>h (by have:=e.1;cases this;rfl)) fun h=>h e.2.2)]
theorem cK{g:FuncId}{b:List AV}{m:Mem}{H I J W:FuncId×List AV×(Mem->Prop)×afw}(h:H.1≠g/\I.1≠g/\J.1≠g/\W.1≠g):ie (H::I::J::W::L) (.fn g) b m=ie L (.fn g) b m:=
 (bE (.inl h.1)).trans ((bE (.inl h.2.1)).trans ((bE (.inl h.2.2.1)).trans (bE (.inl h.2.2.2))))
def qA(s:afz):Bool:=s.own||match s with | .y9=>true | _=>false
theorem cW(k:Nat)(M:Mem)(H n:Nat)(h:k<H):(((bB (fun b=>decide (b=k)) 0 M).drop H).take n).all qI=true:=
 Fz _ M H n fun b Z _=>by simp;omega
theorem Rj(a b:Nat):(!decide (a<=b)|| !decide (b<a))=true:=by
 rcases Nat.lt_or_ge b a with h | h
 .simp[Nat.not_le.2 h]
 .simp[Nat.not_lt.2 h]
section
variable (bs:List Nat)(j:Nat)(acc:List (Nat×Rec))
include bs j acc
theorem bD(r:Rec)(rest:List Rec):gi bs j acc (r::rest)=(r.v.aft (fun b=>decide (b<r.nx.length))&&(cF r||(dy bs j r (j+1) rest&&(r.wr.isEmpty||(eI bs j r acc&&r.wr.all (fun b=>dj r.tm b&&(match r.nx[b]? with | some s=>s.aft (fun b=>decide (b<r.nx.length)) | none=>true))))&&
   (r.nx.drop r.mem.length).all fun s=>qA s&&s.aft (fun b=>decide (b<r.nx.length))))&&gi bs (j+1) ((j,r)::acc) rest):=rfl
theorem fJ:gi bs j acc []=true:=rfl
end
theorem sk(f:Nat->Bool)(s:afz)(new:Mem)(M:Mem)(k:Nat):bb [k] 0 M ((bB f 0 M).set k s++new)=M.set k s++new:=by
 have Z:∀(i:Nat) (M:Mem) (k:Nat),bb [i+k] i M ((bB f i M).set k s++new)=M.set k s++new:=by
  intro i M;induction M generalizing i with
  |nil=>intro k;rfl
  |cons x M ih=>
   intro k;cases k with
   |zero=>
    have h:∀(j:Nat) (M:Mem),i<j->bb [i] j M (bB f j M++new)=M++new:=by
     intro j M X;induction M generalizing j with
     |nil=>rfl
     |cons y M ih=>simp[bB,bb,ih (j+1) (by omega),show¬j=i by omega]
    simp[bB,bb,h (i+1) M (by omega)]
   |succ k=>
    have:=ih (i+1) k;rw[show i+1+k=i+(k+1) by omega] at this;simp[bB,bb,this,show¬i=i+(k+1) by omega]
 have:=Z 0 M k
 rwa [QQY] at this
theorem vS:((∀a,(AV.str a).known=true)/\(∀k i,(AV.int k i).known=true)/\(∀b o n c,(AV.slice b o n c).known=true)/\AV.kO.known=true/\(∀b o,(AV.ptr b o).known=true)/\(∀Z,(AV.agg Z).known=true))/\
  ((∀a,(AV.str a).cells=[.str a])/\(∀k i,(AV.int k i).cells=[.int k i])/\(∀b o n c,(AV.slice b o n c).cells=[.slice b o n c])/\AV.kO.cells=[.kO]/\(∀b o,(AV.ptr b o).cells=[.ptr b o])/\∀Z,(AV.agg Z).cells=Z)/\
  ((∀b o n c,(AV.slice b o n c).adM=true)/\(∀a,(AV.str a).adM=true)/\(∀k i,(AV.int k i).adM=true)/\(∀b,(AV.bool b).adM=true)/\AV.kO.adM=true/\∀b o,(AV.ptr b o).adM=true):=
 ⟨⟨fun _=>rfl,fun _ _=>rfl,fun _ _ _ _=>rfl,rfl,fun _ _=>rfl,fun _=>rfl⟩,⟨fun _=>rfl,fun _ _=>rfl,fun _ _ _ _=>rfl,rfl,fun _ _=>rfl,fun _=>rfl⟩,⟨fun _ _ _ _=>rfl,fun _=>rfl,fun _ _=>rfl,fun _=>rfl,rfl,fun _ _=>rfl⟩⟩
theorem rS(f:Nat->Bool):AV.kO.aft f=true/\(∀b o n c,(AV.slice b o n c).aft f=f b)/\(∀b o,(AV.ptr b o).aft f=f b)/\(∀a,(AV.str a).aft f=true)/\(∀k i,(AV.int k i).aft f=true)/\(∀b,(AV.bool b).aft f=true)/\(∀Z,(AV.agg Z).aft f=AV.afD f Z)/\(∀Z,(AV.tuple Z).aft f=AV.afD f Z)/\AV.undef.aft f=true/\
  afz.aft f .y9=true/\(∀o es Z,afz.aft f (.cells o es Z)=AV.afD f Z):=⟨rfl,fun _ _ _ _=>rfl,fun _ _=>rfl,fun _=>rfl,fun _ _=>rfl,fun _=>rfl,fun _=>rfl,fun _=>rfl,rfl,rfl,fun _ _ _=>rfl⟩
theorem mS:((∀(M X:Mem) k,(M++X)[M.length+k]? =X[k]?)/\(∀M X:Mem,(M++X)[M.length]? =X[0]?)/\(∀(M X:Mem) k s,(M++X).set (M.length+k) s=M++X.set k s)/\(∀(M X:Mem) s,(M++X).set M.length s=M++X.set 0 s)/\(∀(M X:Mem) k,(M++X).drop (M.length+k)=X.drop k)/\(∀M X:Mem,(M++X).drop M.length=X))/\
  ((∀(α:Type) (s:α) l,(s::l)[0]? =some s)/\(∀(α:Type) (s:α) l (i:Nat),(s::l)[i+1]? =l[i]?))/\((∀es U,qA (.cells true es U)=true)/\qA .y9=true)/\
  ((∀f i M,bb [] i M (bB f i M)=M)/\(∀i M,bb [] i M M=M)/\(∀f Z i M,bb [] i M (bB f i M++Z)=M++Z)/\(∀Z i M,bb [] i M (M++Z)=M++Z)/\(∀f s M k,bb [k] 0 M ((bB f 0 M).set k s)=M.set k s)/\(∀f s Z M k,bb [k] 0 M ((bB f 0 M).set k s++Z)=M.set k s++Z)/\(∀wr i M,bb wr i [] M=M)/\(∀i s s' r V,bb [] i (s::r) (s' ::V)=s::bb [] (i+1) r V)/\(∀i N X Y,bb [] i (N++X) (N++Y)=N++bb [] (i+N.length) X Y))/\
  ((∀f i M b,(bB f i M)[b]? =(M[b]?).map fun s=>if f (i+b) then s else .y9)/\(∀i M,bB (fun _=>true) i M=M)/\(∀f i M,(bB f i M).length=M.length)/\(∀M S n,(((bB (fun _=>false) 0 M).drop S).take n).all qI=true)/\(∀a b:Nat,(a<=b/\b<a)=False)/\(∀a b:Nat,(!decide (a<=b)|| !decide (b<a))=true))/\
  ((∀b o n c,ay (.slice b o n c)=[b])/\ay .kO=[])/\(∀R j acc,gi R j acc []=true):=
 ⟨⟨jz,qc,UG,WJ,XJ,Ww⟩,⟨fun _ _ _=>rfl,fun _ _ _ _=>rfl⟩,⟨fun _ _=>rfl,rfl⟩,⟨xe,zx,Dg,zw,sj,sk,fun _ _ _=>rfl,xd,Dh⟩,⟨mg,FA,FB,NY,NW,Rj⟩,⟨fun _ _ _ _=>rfl,rfl⟩,fun _ _ _=>rfl⟩
noncomputable def Ov:Field:=bh 125 0
noncomputable def VA:Field:=bh 125 1
noncomputable def VB:Field:=bh 125 2
noncomputable def VC:Field:=bh 125 3
noncomputable def VD:Field:=bh 125 4
theorem SU:Ov.type=123:=by kernel_rfl
theorem Wj:aL prog 123=some ⟨.func #[68,154] #[] false,1,8,.nilFunc,true⟩:=by kernel_rfl
theorem QV:aL prog 125=some ⟨.struct #[Ov,VA,VB,VC,VD],5,40,.agg #[.nilFunc,.nilFunc,.nilFunc,.nilFunc,.nilFunc],true⟩:=by kernel_rfl
theorem NB:aL prog 179=some ⟨.array 5 125,25,200,.agg #[.nilFunc,.nilFunc,.nilFunc,.nilFunc,.nilFunc,.nilFunc,.nilFunc,.nilFunc,.nilFunc,.nilFunc,.nilFunc,.nilFunc,.nilFunc,.nilFunc,.nilFunc,.nilFunc,.nilFunc,.nilFunc,.nilFunc,.nilFunc,.nilFunc,.nilFunc,.nilFunc,.nilFunc,.nilFunc],true⟩:=by kernel_rfl
theorem QB:xX=[.func 154 [],.func 155 [],.func 156 [],.func 157 [],.func 158 [],.func 159 [],.func 160 [],.func 161 [],.func 111 [],.func 162 [],.func 163 [],.func 164 [],.func 165 [],.func 166 [],.func 167 [],.func 168 [],.func 169 [],.func 170 [],.func 171 [],.func 172 [],.func 173 [],.func 174 [],.func 175 [],.func 176 [],.func 177 []]:=by kernel_rfl
theorem fnS:(∀f,(AV.func f []).adM=true)/\(∀f,(AV.func f []).known=true)/\(∀f,(AV.func f []).cells=[.func f []])/\(∀g f,(AV.func f []).aft g=true):=⟨fun _=>rfl,fun _=>rfl,fun _=>rfl,fun _ _=>rfl⟩
def Evc.ag9(c:Evc):Evc:={ k:=1,nm:=c.nm,B:=c.B,U:=c.U,S:=c.S }
def Evc.aha(c:Evc):Evc:={ k:=2,nm:=c.nm,x5:=c.x5,x6:=c.x6,x7:=c.x7,x8:=c.x8,x9:=c.x9,x10:=c.x10,x11:=c.x11 }
def Evc.ahb(c:Evc):Evc:={ k:=3,nm:=c.nm,x12:=c.x12,x13:=c.x13,x14:=c.x14,K:=c.K,x16:=c.x16,x17:=c.x17,x18:=c.x18 }
def Evc.ahc(c:Evc):Evc:={ k:=4,nm:=c.nm,x19:=c.x19,x20:=c.x20,x21:=c.x21,x22:=c.x22,x23:=c.x23,x24:=c.x24 }
def Evc.ahd(c:Evc):Evc:={ k:=5,nm:=c.nm,t1:=c.t1,t2:=c.t2,t3:=c.t3,t4:=c.t4,x29:=c.x29,x30:=c.x30,x31:=c.x31 }
def Evc.kd(c:Evc)(k:Int):Evc:={ c with k:=k }
def sG(x:Bool)(b:AV):AV:=bif x then b else .kO
structure Tryz.agC (K:Int)(g g1 g2 g3 g4:FuncId)(onl:Evc->Evc)(x y:Bool):Prop where
 ne:46≠g/\71≠g/\44≠g/\26≠g
 rng:¬K<1/\¬5<K
 of:∀{N:Mem}{nm:List UInt8}{R:List AV},R.length=30->R.all AV.adM=true->∃new,ao (aL prog) (fun _=>[]) (bq prog) GC 1 44 [.agg (.int .i64 K::.str nm::R)] N=some (.agg [.func g [],.func g1 [],.func g2 [],.func g3 [],.func g4 []],N++new)
 al:∀{N:Mem}{X0 X1:afz}{c:Evc}{b u s kn:AV}(hb:b.adM=true/\u.adM=true/\s.adM=true/\kn.adM=true) (kb:(b.known=true/\b.cells=[b])/\(u.known=true/\u.cells=[u])/\(s.known=true/\s.cells=[s])/\(kn.known=true/\kn.cells=[kn])),ao (aL prog) (fun _=>[]) (bq prog) bC 1 g [.agg ((c.kd K).cells b u s kn),.ptr (N.length+2) 0] (N++[X0,X1,.cells true 0 (({ k:=K,nm:=c.nm }:Evc).cells .kO .kO .kO .kO)])=some (.tuple [],N++[X0,X1,.cells true 0 ((onl c).cells (sG x b) (sG x u) (sG x s) (sG y kn)),.cells true 0 ((c.kd K).cells b u s kn)])
theorem QC:agC 1 154 155 156 157 158 Evc.ag9 true false/\agC 2 159 160 161 111 162 Evc.aha false false/\agC 3 163 164 165 166 167 Evc.ahb false true/\agC 4 168 169 170 171 172 Evc.ahc false false/\agC 5 173 174 175 176 177 Evc.ahd false false:=by
 have K:bq prog 44=some f44:=by kernel_rfl
 obtain⟨Z,X⟩:∃Z,bn f44=Z :=⟨_,rfl⟩
 have M :=cR X (ls:=[[0,0,2,6,15,31]]) (by kernel_rfl);simp only[bn,cU,f44,List.nil_append,List.append_nil] at X;subst X;simp only[lB] at M;have w0:∀n:Int,n=0\/n=1\/n=2\/n=3\/n=4->IntKind.i64.wrap n=n:=fun n h=>af
 have V:=w0 0 (by simp);have U:=w0 1 (by simp);have S:=w0 2 (by simp);have Q:=w0 3 (by simp);have O:=w0 4 (by simp);have G:bq prog 154=some f154:=by kernel_rfl
 have F:bq prog 159=some f159:=by kernel_rfl
 have D:bq prog 163=some f163:=by kernel_rfl
 have h3:bq prog 168=some f168:=by kernel_rfl
 have C:bq prog 173=some f173:=by kernel_rfl
 refine⟨?_,?_,?_,?_,?_⟩<;>(
  refine⟨by decide,by decide,fun {N W R} hl hc=>?_,fun {N J I c b u s kn} hb kb=>?_⟩
  .have B:(∀y:AV,y∈R->y.adM=true)=True:=eq_true (List.all_eq_true.1 hc)
   simp[-getElem?_pos,-AV.adM,-AV.known,-AV.cells,-ay,-bB,-bb,-aN,-AV.aft,-afz.aft,-List.all_eq_true,vS,rS,mS,aK M,bU,bD,dy,bL,cF,eI,bef,Nat.testBit,ao,K,f44,GC,QB,ai,fnS,QV,NB,SU,Wj,V,U,S,Q,O]
  .obtain⟨o,m,j,Y⟩:=hb
   obtain⟨⟨H,m1⟩,⟨k2,m2⟩,⟨k3,m3⟩,⟨k4,m4⟩⟩:=kb;simp[-getElem?_pos,-AV.adM,-AV.known,-AV.cells,-List.all_eq_true,vS,mS,ao,G,F,D,h3,C,f154,f159,f163,f168,f173,Evc.cells,Evc.kd,Evc.ag9,Evc.aha,Evc.ahb,Evc.ahc,Evc.ahd,sG,o,m,j,Y])
section
variable {K:Int}{g g1 g2 g3 g4:FuncId}{onl:Evc->Evc}{x y:Bool}{N:Mem}{c:Evc}{b u s kn:AV}
section
variable (h:agC K g g1 g2 g3 g4 onl x y)
include h
theorem VF{nm:List UInt8}{R:List AV}(H:R.length=30)(hc:R.all AV.adM=true):bz prog 44 [.agg (.int .i64 K::.str nm::R)] N (.agg [.func g [],.func g1 [],.func g2 [],.func g3 [],.func g4 []]) N:=by obtain⟨Z,h⟩:=h.of (N:=N) (nm:=nm) H hc;exact(aX ak (aI _) Nk (aQ _) h).forget rfl
theorem M9{X0 X1:afz}(H:b.adM=true/\u.adM=true/\s.adM=true/\kn.adM=true)(I:(b.known=true/\b.cells=[b])/\(u.known=true/\u.cells=[u])/\(s.known=true/\s.cells=[s])/\(kn.known=true/\kn.cells=[kn]))(J:AV.under (N.length+3) b=true/\AV.under (N.length+3) u=true/\AV.under (N.length+3) s=true/\AV.under (N.length+3) kn=true):
  bz prog g [.agg ((c.kd K).cells b u s kn),.ptr (N.length+2) 0] (N++[X0,X1,.cells true 0 (({ k:=K,nm:=c.nm }:Evc).cells .kO .kO .kO .kO)]) (.tuple []) (N++[X0,X1,.cells true 0 ((onl c).cells (sG x b) (sG x u) (sG x s) (sG y kn))]):=by
 have X:=aX ak (aI _) (ar _) (aQ _) (h.al (N:=N) (X0:=X0) (X1:=X1) (c:=c) H I);have e:∀A B C D:afz,N++[A,B,C,D]=(N++[A,B,C])++[D]:=fun A B C D=>by simp
 rw[e] at X;refine X.aho rfl (by simp) fun i x Z=>?_
 by_cases V:i<N.length
 .left;rw[GE V] at Z |-;exact Z
 .obtain⟨j,rfl⟩:∃j,i=N.length+j:=⟨i-N.length,by omega⟩
  rw[jz] at Z |-
  match j,Z with
  |0,Z=>left;exact Z
  |1,Z=>left;exact Z
  |2,Z=>
   right;refine⟨true,0,_,(QQc Z).symm,?_⟩;have U:∀(z:Bool) (v:AV),AV.under (N.length+3) v=true->AV.under (N.length+3) (sG z v)=true:=fun z v h=>by cases z;rfl;exact h
   simp[Evc.cells,AV.afB,U,J]
  |j+3,Z=>simp at Z
end
end
end Go.Proofs
namespace Go.Proofs
open Go.Eng
variable{N:Mem}
theorem afO.ck{v:AV}{es n:Nat}{C:List AV}(h:afO N v es n C):v.adM=true:=by rcases h with⟨rfl,_⟩ | ⟨b,o,rfl,_⟩<;>rfl
variable{c:Evc}
theorem agO.l32{e:List AV}(h:agO N e c):e.length=32:=by obtain⟨b,u,s,kn,rfl,_⟩:=h;rfl
theorem agO.cok{e:List AV}(h:agO N e c):∀x∈e,x.adM=true:=by obtain⟨b,u,s,kn,rfl,X,V,⟨_,_,h3,_⟩,U⟩:=h;intro x Z;simp only[Evc.cells,lM] at Z;rcases Z with rfl | rfl | rfl | rfl | rfl | rfl | rfl | rfl | rfl | rfl | rfl | rfl | rfl | rfl | rfl | rfl | rfl | rfl | rfl | rfl | rfl | rfl | rfl | rfl | rfl | rfl | rfl | rfl | rfl | rfl | rfl | rfl<;>first | rfl | exact X.ck | exact V.ck | exact h3.ck | exact U.ck
end Go.Proofs
namespace Go.Proofs
open Go.Eng
end Go.Proofs
namespace Go.Proofs
open Go.Eng
open Tryz
variable{M:Mem}
theorem Ox(L:List (FuncId×List AV×AV))(H:(L.map (·.1)).Nodup)(I:∀x∈L,∀Z,bz prog x.1 x.2.1 (M++Z) x.2.2 (M++Z)):
  ∃O,afs prog O/\∀x∈L,∀Z,O (.fn x.1) x.2.1 (M++Z)=some ⟨x.2.2,none,[]⟩:=by
 refine⟨ie (L.map fun x=>(x.1,x.2.1,(fun N=>∃Z,N=M++Z),⟨x.2.2,none,[]⟩)),wU fun z V N U=>?_,?_⟩
 .obtain⟨x,X,rfl⟩:=QQd.1 V
  obtain⟨Z,rfl⟩:=U;exact cC (I x X Z)
 .induction L with
  |nil=>intro x h;cases h
  |cons y L ih=>
   intro x X Z;rw[List.map_cons,List.nodup_cons] at H;rw[List.map_cons];rcases List.mem_cons.1 X with rfl | X
   .exact dn ⟨Z,rfl⟩
   .rw[bE (.inl fun h=>H.1 (by rw[h];exact List.mem_map_of_mem (f:=fun z:FuncId×List AV×AV=>z.1) X))]
    exact ih H.2 (fun z V=>I z (List.mem_cons_of_mem _ V)) x X Z
theorem iK{f:FuncId}{a:List AV}{v:AV}(L:List (FuncId×List AV×AV))(H:(L.map (·.1)).Nodup)(I:∀x∈L,∀Z,bz prog x.1 x.2.1 (M++Z) x.2.2 (M++Z))(J:v.closed=true)(h:∀O:afu,(∀x∈L,∀Z,O (.fn x.1) x.2.1 (M++Z)=some ⟨x.2.2,none,[]⟩)->∃X,ao (aL prog) (fun _=>[]) (bq prog) O 1 f a M=some (v,M++X)):bz prog f a M v M:=by obtain⟨O,V,e⟩:=Ox L H I;obtain⟨X,U⟩:=h O e;exact bz.forget J (aX ak (aI _) V (aQ _) U)
theorem IB{B:afu}(H:afs prog B){f:FuncId}{a:List AV}{v:AV}(L:List (FuncId×List AV×AV))(I:(L.map (·.1)).Nodup)(J:∀x∈L,∀Z,bz prog x.1 x.2.1 (M++Z) x.2.2 (M++Z))(W:v.closed=true)(h:∀O:afu,(∀x∈L,∀Z,O (.fn x.1) x.2.1 (M++Z)=some ⟨x.2.2,none,[]⟩)->∃X,ao (aL prog) (fun _=>[]) (bq prog) (afu.or B O) 1 f a M=some (v,M++X)):bz prog f a M v M:=by obtain⟨O,V,e⟩:=Ox L I J;obtain⟨X,U⟩:=h O e;exact bz.forget W (aX ak (aI _) (afs.or H V) (aQ _) U)
def Z7(N:Mem)(pv:AV)(L:List AV)(H:Mem):Prop:=(pv=.kO/\L=[]/\H=N)\/∃b,pv=.slice b 0 L.length none/\N[b]? =some (.cells true 1 L)/\H=N.set b .y9
section
variable {O:afu}{N N1:Mem}{pv tv w:AV}{n i bm bp:Nat}{q A B C:P2}{L:List AV}
end
end Go.Proofs
namespace Go.Proofs
open Go.Eng
def Ue(N:Mem):AV->List AV
 |.slice b _ _ _=>match N[b]? with
  |some (.cells _ _ cs)=>cs
  |_=>[]
 |_=>[]
def Wz(N:Mem):AV->Mem
 |.slice b _ _ _=>N.set b .y9
 |_=>N
def Z4(N:Mem)(w:AV)(i:Nat):Mem×AV:=(Wz N w++[.cells true 1 [.int .i64 (i:Int)],.cells true 1 (Ue N w++[.int .i64 (i:Int)])],.slice (N.length+1) 0 ((Ue N w).length+1) none)
structure LmI (P:List P2)(T:List Tr)(q:P2)(M N:Mem)(pb tb bm bp:Nat)(w:AV)(L:List AV):Prop where
 p:∃o,N[pb]? =some (.cells o 2 (pC P))
 t:∃o,N[tb]? =some (.cells o 3 (tC T))
 m:N[bm]? =some (.cells true 0 [.slice pb 0 P.length none,.slice tb 0 T.length none])
 v:N[bp]? =some (.cells true 0 [.str (aJ q.1),.str (aJ q.2)])
 e:∃Y,N=M++Y
 g:Z7 N w L (Wz N w)
 r:Ue N w=L
 b:∀b n,w=.slice b 0 n none->M.length<=b
 z:w=.kO\/L≠[]
section
variable {P:List P2}{T:List Tr}{q:P2}{M N:Mem}{pb tb bm bp i:Nat}{w:AV}{L:List AV}
variable {O:afu}
end
section
variable {P:List P2}{T:List Tr}{q:P2}{pb tb:Nat}
end
def GrN(es:Nat)(N:Mem)(pv:AV)(k:Nat)(L:List AV)(H:Mem):Prop:=(pv=.kO/\L=[]/\k=0/\H=N)\/∃b,pv=.slice b 0 k none/\N[b]? =some (.cells true es L)/\L.length=k*es/\H=N.set b .y9
section
variable {O:afu}{N N1:Mem}{w:AV}{n i j bm fr pb tb fb:Nat}{oF o1 o2 o3:Bool}{F L:List AV}{P:List P2}{T:List Tr}{Q:List Rat}{t:Tr}{A:P2}{f off:Rat}{nv:V3}
end
def Z5(N:Mem)(w:AV)(i:Nat)(x:V3×Rat):Mem×AV:=(Wz N w++[.cells true 0 (vL x.1),.cells true 4 (vL x.1++[.str (aJ x.2)]),.cells true 4 (Ue N w++(vL x.1++[.str (aJ x.2)]))],.slice (N.length+2) 0 (i+1) none)
structure PdI (M N:Mem)(w:AV)(i:Nat)(L:List AV):Prop where
 e:∃Y,N=M++Y
 g:GrN 4 N w i L (Wz N w)
 r:Ue N w=L
 b:∀b n,w=.slice b 0 n none->M.length<=b
 z:w=.kO\/0<i
section
variable {M N:Mem}{w:AV}{L:List AV}{i:Nat}
end
structure ain (O:afu)(M:Mem)(nF dF:Go.Eng.Callee)(bm fr pb tb j:Nat)(P:List P2)(T:List Tr)(t:Tr)(A:P2)(F:List AV)(X:List (V3×Rat)):Prop where
 m:M[bm]? =some (.cells true 0 [.slice pb 0 P.length none,.slice tb 0 T.length none])
 r:∃o,M[fr]? =some (.cells o 1 F)
 l:F.length=X.length/\X.length<=3
 pp:∃o,M[pb]? =some (.cells o 2 (pC P))
 tt:∃o,M[tb]? =some (.cells o 3 (tC T))
 hi:T[j]? =some t
 hA:P[t.1]? =some A
 f:∀(i:Nat) x,X[i]? =some x->∃fb o Q f,F[i]? =some (.slice fb 0 (Q:List Rat).length none)/\M[fb]? =some (.cells o 1 (qC Q))/\Q[t.1]? =some f/\
  (∀Y,O nF [.agg [.slice pb 0 P.length none,.slice tb 0 T.length none],.slice fb 0 Q.length none,.int .i64 (j:Int)] (M++Y)=some ⟨.tuple [vA x.1,.int .i64 0],none,[]⟩)/\∀Y,O dF [vA x.1,.agg [.str (aJ A.1),.str (aJ A.2),.str (aJ f)]] (M++Y)=some ⟨.str (aJ x.2),none,[]⟩
section
variable {O:afu}{M N:Mem}{w:AV}{bm fr pb tb j:Nat}{P:List P2}{T:List Tr}{t:Tr}{A:P2}{F:List AV}{X:List (V3×Rat)}
end
section
variable {O:afu}{M:Mem}{pb tb fr j:Nat}{P:List P2}{T:List Tr}{t:Tr}{A:P2}{F:List AV}{X:List (V3×Rat)}
variable {fb n0 cb m:Nat}{u kn:AV}{c:Evc}{vs:List AV}
end
end Go.Proofs
namespace Go.Eng
end Go.Eng
namespace Go.Proofs
open Go.Eng
end Go.Proofs
