/- See P53. -/
import Derived.Test.YtmhkeaphiadacaaGreatDoorP40
import Derived.Test.YtmhkeaphiadacaaGreatDoorP47
import Derived.Test.YtmhkeaphiadacaaGreatDoorP48
set_option linter.all false
set_option maxRecDepth 100000
set_option maxHeartbeats 40000000
namespace Go.Proofs
open Go.Eng
open Tryz
open Classical in
noncomputable def qI:List (FuncId×List AV×(Mem→Prop)×HS)→aac
 | [],_,_,_=>none
 |x::L,c,args,M=>if c=.fn x.1∧args=x.2.1∧x.2.2.1 M then some x.2.2.2 else qI L c args M
variable{L:List (FuncId×List AV×(Mem→Prop)×HS)}
theorem NO{P:Program}(h:∀x∈L,∀M,x.2.2.1 M→pw P (.fn x.1) x.2.1 M x.2.2.2):qS P (qI L):=cJ fun c a M r hr=>by
 induction L with
 |nil=>simp[qI] at hr
 |cons x L ih=>
  rw[qI] at hr;split at hr
  ·rename_i hc
   obtain⟨rfl,rfl,hp⟩:=hc;cases hr;exact h x (by simp) M hp
  ·exact ih (fun y hy=>h y (by simp[hy])) hr
variable{a:List AV}{f:FuncId}{m:Mem}{p:Mem→Prop}{r:HS}
theorem cG(h:p m):qI ((f,a,p,r)::L) (.fn f) a m=some r:=by rw[qI,if_pos ⟨rfl,rfl,h⟩]
theorem bP{g:FuncId}{b:List AV}(h:f≠g∨¬p m):qI ((f,a,p,r)::L) (.fn g) b m=qI L (.fn g) b m:=by rw[qI,if_neg (fun e=>h.elim (fun h=>h (by have:=e.1;cases this;rfl)) fun h=>h e.2.2)]
noncomputable def Nz:Field:=match prog.underlying 169 with | some (.struct fs)=>fs.getD 0 default | _=>default
noncomputable def SC:Field:=match prog.underlying 169 with | some (.struct fs)=>fs.getD 1 default | _=>default
noncomputable def SD:Field:=match prog.underlying 169 with | some (.struct fs)=>fs.getD 2 default | _=>default
noncomputable def SE:Field:=match prog.underlying 169 with | some (.struct fs)=>fs.getD 3 default | _=>default
noncomputable def SF:Field:=match prog.underlying 169 with | some (.struct fs)=>fs.getD 4 default | _=>default
theorem Q4:Nz.type=164:=by kernel_rfl
theorem Tu:aC prog 164=some ⟨.func #[65,171] #[] false,1,8,.nilFunc,true⟩:=by kernel_rfl
theorem Ps:aC prog 169=some ⟨.struct #[Nz,SC,SD,SE,SF],5,40,.agg #[.nilFunc,.nilFunc,.nilFunc,.nilFunc,.nilFunc],true⟩:=by kernel_rfl
theorem MN:aC prog 210=some ⟨.array 5 169,25,200,.agg #[.nilFunc,.nilFunc,.nilFunc,.nilFunc,.nilFunc,.nilFunc,.nilFunc,.nilFunc,.nilFunc,.nilFunc,.nilFunc,.nilFunc,.nilFunc,.nilFunc,.nilFunc,.nilFunc,.nilFunc,.nilFunc,.nilFunc,.nilFunc,.nilFunc,.nilFunc,.nilFunc,.nilFunc,.nilFunc],true⟩:=by kernel_rfl
theorem O2:jQ=[.func 149 [],.func 150 [],.func 151 [],.func 152 [],.func 153 [],.func 154 [],.func 155 [],.func 156 [],.func 157 [],.func 158 [],.func 159 [],.func 160 [],.func 161 [],.func 162 [],.func 163 [],.func 164 [],.func 165 [],.func 166 [],.func 167 [],.func 168 [],.func 169 [],.func 170 [],.func 171 [],.func 172 [],.func 173 []]:=by kernel_rfl
theorem zu{v:AV}(h:v.under 8=true):v.under 11=true:=xa (by omega) h
theorem fnS:(∀f,(AV.func f []).qK=true)∧(∀f,(AV.func f []).known=true)∧(∀f,(AV.func f []).cells=[.func f []])∧(∀g f,(AV.func f []).HK g=true):=⟨fun _=>rfl,fun _=>rfl,fun _=>rfl,fun _ _=>rfl⟩
def Evc.acp(c:Evc):Evc:={ k:=1,nm:=c.nm,B:=c.B,U:=c.U,S:=c.S }
def Evc.acq(c:Evc):Evc:={ k:=2,nm:=c.nm,x5:=c.x5,x6:=c.x6,x7:=c.x7,x8:=c.x8,x9:=c.x9,x10:=c.x10,x11:=c.x11 }
def Evc.acr(c:Evc):Evc:={ k:=3,nm:=c.nm,x12:=c.x12,x13:=c.x13,x14:=c.x14,K:=c.K,x16:=c.x16,x17:=c.x17,x18:=c.x18 }
def Evc.acs(c:Evc):Evc:={ k:=4,nm:=c.nm,x19:=c.x19,x20:=c.x20,x21:=c.x21,x22:=c.x22,x23:=c.x23,x24:=c.x24 }
def Evc.acu(c:Evc):Evc:={ k:=5,nm:=c.nm,t1:=c.t1,t2:=c.t2,t3:=c.t3,t4:=c.t4,x29:=c.x29,x30:=c.x30,x31:=c.x31 }
def Evc.kd(c:Evc) (k:Int):Evc:={ c with k:=k }
def uh(x:Bool) (b:AV):AV:=bif x then b else .kO
structure Tryz.abt (K:Int) (g g1 g2 g3 g4:FuncId) (onl:Evc→Evc) (x y:Bool):Prop where
 ne:41≠g∧80≠g∧81≠g∧49≠g
 rng:¬K<1∧¬5<K
 of:∀{N:Mem}{nm:List UInt8}{R:List AV},R.length=30→R.all AV.qK=true→∃new,aK (aC prog) (fun _=>[]) (aO prog) og 1 81 [.agg (.int .i64 K::.str nm::R)] N=some (.agg [.func g [],.func g1 [],.func g2 [],.func g3 [],.func g4 []],N++new)
 al:∀{N:Mem}{X0 X1:aae}{c:Evc}{b u s kn:AV}(hb:b.qK=true∧u.qK=true∧s.qK=true∧kn.qK=true) (kb:(b.known=true∧b.cells=[b])∧(u.known=true∧u.cells=[u])∧(s.known=true∧s.cells=[s])∧(kn.known=true∧kn.cells=[kn])),aK (aC prog) (fun _=>[]) (aO prog) bt 1 g [.agg ((c.kd K).cells b u s kn),.ptr (N.length+2) 0] (N++[X0,X1,.cells true 0 (({ k:=K,nm:=c.nm }:Evc).cells .kO .kO .kO .kO)])=some (.tuple [],N++[X0,X1,.cells true 0 ((onl c).cells (uh x b) (uh x u) (uh x s) (uh y kn)),.cells true 0 ((c.kd K).cells b u s kn)])
theorem gD:abt 1 149 150 151 152 153 Evc.acp true false∧abt 2 154 155 156 157 158 Evc.acq false false∧abt 3 159 160 161 162 163 Evc.acr false true∧abt 4 164 165 166 167 168 Evc.acs false false∧abt 5 169 170 171 172 173 Evc.acu false false:=by
 have hG:aO prog 81=some f81:=by kernel_rfl
 have WM :=bH (rfl:aP f81=_) (ls:=[[0,0,2,6,15,31]]) (by kernel_rfl);simp only[aP,bQ,f81,List.nil_append,List.append_nil,List.map_cons,List.map_nil,List.cons.injEq,and_true] at WM;have w0:∀n:Int,n=0∨n=1∨n=2∨n=3∨n=4→IntKind.i64.wrap n=n:=fun n h=>ai (by omega) (by omega)
 have w00:=w0 0 (by simp);have w01:=w0 1 (by simp);have w02:=w0 2 (by simp);have w03:=w0 3 (by simp);have w04:=w0 4 (by simp);have h0:aO prog 149=some f149:=by kernel_rfl
 have h1:aO prog 154=some f154:=by kernel_rfl
 have h2:aO prog 159=some f159:=by kernel_rfl
 have h3:aO prog 164=some f164:=by kernel_rfl
 have h4:aO prog 169=some f169:=by kernel_rfl
 refine⟨?_,?_,?_,?_,?_⟩<;>(
  refine⟨by decide,by decide,fun {N nm R} hl hc=>?_,fun {N X0 X1 c b u s kn} hb kb=>?_⟩
  ·have hc2:(∀y:AV,y∈R→y.qK=true)=True:=eq_true (List.all_eq_true.1 hc)
   simp[-getElem?_pos,-AV.qK,-AV.known,-AV.cells,-eI,-bD,-bh,-ay,-AV.HK,-aae.HK,-List.all_eq_true,vS,rS,mS,br WM,cO,eB,fg,cY,cj,iT,bef,Nat.testBit,aK,hG,f81,og,O2,ar,fnS,Ps,MN,Q4,Tu,w00,w01,w02,w03,w04]
  ·obtain⟨b1,b2,b3,b4⟩:=hb
   obtain⟨⟨k1,m1⟩,⟨k2,m2⟩,⟨k3,m3⟩,⟨k4,m4⟩⟩:=kb;simp[-getElem?_pos,-AV.qK,-AV.known,-AV.cells,-List.all_eq_true,vS,mS,aK,h0,h1,h2,h3,h4,f149,f154,f159,f164,f169,Evc.cells,Evc.kd,Evc.acp,Evc.acq,Evc.acr,Evc.acs,Evc.acu,uh,b1,b2,b3,b4])
section
variable {K:Int}{g g1 g2 g3 g4:FuncId}{onl:Evc→Evc}{x y:Bool}{N:Mem}{c:Evc}{b u s kn:AV}
section
variable (h:abt K g g1 g2 g3 g4 onl x y)
include h
theorem SI{nm:List UInt8}{R:List AV}(hl:R.length=30)(hc:R.all AV.qK=true):mB prog 81 [.agg (.int .i64 K::.str nm::R)] N (.agg [.func g [],.func g1 [],.func g2 [],.func g3 [],.func g4 []]) N:=by obtain⟨new,h⟩:=h.of (N:=N) (nm:=nm) hl hc;exact(bn af (aw _) gp (ax _) h).forget rfl
theorem LG{X0 X1:aae}(hb:b.qK=true∧u.qK=true∧s.qK=true∧kn.qK=true)(kb:(b.known=true∧b.cells=[b])∧(u.known=true∧u.cells=[u])∧(s.known=true∧s.cells=[s])∧(kn.known=true∧kn.cells=[kn]))(ub:AV.under (N.length+3) b=true∧AV.under (N.length+3) u=true∧AV.under (N.length+3) s=true∧AV.under (N.length+3) kn=true):
  mB prog g [.agg ((c.kd K).cells b u s kn),.ptr (N.length+2) 0] (N++[X0,X1,.cells true 0 (({ k:=K,nm:=c.nm }:Evc).cells .kO .kO .kO .kO)]) (.tuple []) (N++[X0,X1,.cells true 0 ((onl c).cells (uh x b) (uh x u) (uh x s) (uh y kn))]):=by
 have h2:=bn af (aw _) (ah _) (ax _) (h.al (N:=N) (X0:=X0) (X1:=X1) (c:=c) hb kb);have e:∀A B C D:aae,N++[A,B,C,D]=(N++[A,B,C])++[D]:=fun A B C D=>by simp
 rw[e] at h2;refine h2.ab9 rfl (by simp) fun i x hi=>?_
 by_cases hl:i<N.length
 ·left;rw[List.getElem?_append_left hl] at hi ⊢;exact hi
 ·obtain⟨j,rfl⟩:∃j,i=N.length+j:=⟨i-N.length,by omega⟩
  rw[dO] at hi ⊢
  match j,hi with
  |0,hi=>left;exact hi
  |1,hi=>left;exact hi
  |2,hi=>
   right;refine⟨true,0,_,(Option.some.inj hi).symm,?_⟩;have un:∀(z:Bool) (v:AV),AV.under (N.length+3) v=true→AV.under (N.length+3) (uh z v)=true:=fun z v h=>by cases z;rfl;exact h
   simp[Evc.cells,AV.aah,un,ub]
  |j+3,hi=>simp at hi
end
theorem eN(kp:abt K g g1 g2 g3 g4 onl x y){n0 n1 n2 n3 n4 n5 n6 n7:Nat}{C0 C1 C2 C3 C4 C5 C6 C7:List AV}{pv tv:AV}(hN:N=[.cells false n0 C0,.cells false n1 C1,.cells false n2 C2,.cells false n3 C3,.cells false n4 C4,.cells false n5 C5,.cells false n6 C6,.cells false n7 C7])(hU:AV.aah 8 C0=true∧AV.aah 8 C1=true∧AV.aah 8 C2=true∧AV.aah 8 C3=true∧AV.aah 8 C4=true∧AV.aah 8 C5=true∧AV.aah 8 C6=true∧AV.aah 8 C7=true)(c1:pv.qK=true)(c2:tv.qK=true)(hb:b.qK=true∧u.qK=true∧s.qK=true∧kn.qK=true)(kb:(b.known=true∧b.cells=[b])∧(u.known=true∧u.cells=[u])∧(s.known=true∧s.cells=[s])∧(kn.known=true∧kn.cells=[kn]))(ub:(pv.under 8=true∧tv.under 8=true)∧b.under 8=true∧u.under 8=true∧s.under 8=true∧kn.under 8=true)(hC:∀Z,mB prog 41 [.agg [pv,tv]] (N++Z) (.int .i64 0) (N++Z))(hn:c.nm∈bk)(hE:∀Z,mB prog 49 [.agg ((onl c).cells (uh x b) (uh x u) (uh x s) (uh y kn)),.agg ((c.kd K).cells b u s kn)] (N++Z) (.bool false) (N++Z)):
  mB prog 43 [.agg [pv,tv],.agg ((c.kd K).cells b u s kn)] N (.int .i64 7) N:=by
 have hG:aO prog 43=some f43:=by kernel_rfl
 have hN8:N.length=8:=by rw[hN];rfl
 obtain⟨L,hL⟩:∃L:List (FuncId×List AV×(Mem→Prop)×HS),L=[(41,[.agg [pv,tv]],fun M=>∃Z,M=N++Z,⟨.int .i64 0,none,[]⟩),(80,[.str c.nm],fun _=>True,⟨.int .i64 0,none,[]⟩),(81,[.agg ((c.kd K).cells b u s kn)],fun _=>True,⟨.agg [.func g [],.func g1 [],.func g2 [],.func g3 [],.func g4 []],none,[]⟩),(49,[.agg ((onl c).cells (uh x b) (uh x u) (uh x s) (uh y kn)),.agg ((c.kd K).cells b u s kn)],fun M=>∃Z,M=N++Z,⟨.bool false,none,[]⟩),(g,[.agg ((c.kd K).cells b u s kn),.ptr 10 0],fun M=>M=N++[.cells true 0 [pv,tv],.cells true 0 ((c.kd K).cells b u s kn),.cells true 0 (({ k:=K,nm:=c.nm }:Evc).cells .kO .kO .kO .kO)],⟨.tuple [],some (N++[.cells true 0 [pv,tv],.cells true 0 ((c.kd K).cells b u s kn),.cells true 0 ((onl c).cells (uh x b) (uh x u) (uh x s) (uh y kn))]),[]⟩)]:=⟨_,rfl⟩
 have hO:qS prog (qI L):=NO fun z hz M hp=>by
  rw[hL] at hz;simp only[List.mem_cons,List.not_mem_nil,or_false] at hz;rcases hz with rfl | rfl | rfl | rfl | rfl
  ·obtain⟨Z,rfl⟩:=hp
   exact ak (by simpa using hC Z)
  ·exact ak (by simpa using cW _ hn M)
  ·refine ak ?_
   rw[List.append_nil];exact SI kp (R:=((c.kd K).cells b u s kn).drop 2) rfl (by simp[Evc.cells,hb,vS,-AV.qK])
  ·obtain⟨Z,rfl⟩:=hp
   exact ak (by simpa using hE Z)
  ·refine⟨?_,fun q hq=>by cases hq;rw[show M=_ from hp];simp⟩
   have:=LG kp (N:=N) (X0:=.cells true 0 [pv,tv]) (X1:=.cells true 0 ((c.kd K).cells b u s kn)) (c:=c) hb kb (by rw[hN8];exact⟨zu ub.2.1,zu ub.2.2.1,zu ub.2.2.2.1,zu ub.2.2.2.2⟩);rw[hN8] at this;rw[show M=_ from hp];simpa [HS.mem] using this
 have e1:∀Z,qI L (.fn 41) [.agg [pv,tv]] (N++Z)=some ⟨.int .i64 0,none,[]⟩:=fun Z=>by rw[hL];exact cG ⟨Z,rfl⟩
 have e2:∀M,qI L (.fn 80) [.str c.nm] (M)=some ⟨.int .i64 0,none,[]⟩:=fun M=>by rw[hL,bP (.inl (by decide))];exact cG trivial
 have e3:∀M,qI L (.fn 81) [.agg ((c.kd K).cells b u s kn)] (M)=some ⟨.agg [.func g [],.func g1 [],.func g2 [],.func g3 [],.func g4 []],none,[]⟩:=fun M=>by rw[hL,bP (.inl (by decide)),bP (.inl (by decide))];exact cG trivial
 have e4:∀Z,qI L (.fn 49) [.agg ((onl c).cells (uh x b) (uh x u) (uh x s) (uh y kn)),.agg ((c.kd K).cells b u s kn)] (N++Z)=some ⟨.bool false,none,[]⟩:=fun Z=>by rw[hL,bP (.inl (by decide)),bP (.inl (by decide)),bP (.inl (by decide))];exact cG ⟨Z,rfl⟩
 have e5:qI L (.fn g) [.agg ((c.kd K).cells b u s kn),.ptr 10 0] (N++[.cells true 0 [pv,tv],.cells true 0 ((c.kd K).cells b u s kn),.cells true 0 (({ k:=K,nm:=c.nm }:Evc).cells .kO .kO .kO .kO)])=some ⟨.tuple [],some (N++[.cells true 0 [pv,tv],.cells true 0 ((c.kd K).cells b u s kn),.cells true 0 ((onl c).cells (uh x b) (uh x u) (uh x s) (uh y kn))]),[]⟩:=by rw[hL,bP (.inl kp.ne.1),bP (.inl kp.ne.2.1),bP (.inl kp.ne.2.2.1),bP (.inl kp.ne.2.2.2)];exact cG rfl
 obtain⟨O,Ye⟩:∃O,O=qI L:=⟨_,rfl⟩
 rw[←Ye] at hO e5;simp only[←Ye] at e1 e2 e3 e4;clear Ye hL;have sel:∀(z:Bool) (v:AV),v.qK=true→(v.known=true∧v.cells=[v])→v.under 8=true→∃v',uh z v=v' ∧v'.qK=true∧(v'.known=true∧v'.cells=[v'])∧v'.under 8=true:=fun z v h1 h2 h3=>by
  cases z
  ·exact⟨_,rfl,rfl,⟨rfl,rfl⟩,rfl⟩
  ·exact⟨_,rfl,h1,h2,h3⟩
 obtain⟨b1,b2,b3,b4⟩:=hb;obtain⟨⟨q5,q6⟩,q1,q2,q3,q4⟩:=ub;obtain⟨z1,s1,t1,⟨v1,x1⟩,y1⟩:=sel x b b1 kb.1 q1;obtain⟨z2,s2,t2,⟨v2,x2⟩,y2⟩:=sel x u b2 kb.2.1 q2;obtain⟨z3,s3,t3,⟨v3,x3⟩,y3⟩:=sel x s b3 kb.2.2.1 q3;obtain⟨z4,s4,t4,⟨v4,x4⟩,y4⟩:=sel y kn b4 kb.2.2.2 q4;rw[s1,s2,s3,s4] at e5;simp only[s1,s2,s3,s4] at e4;obtain⟨⟨k1,m1⟩,⟨k2,m2⟩,⟨k3,m3⟩,⟨k4,m4⟩⟩:=kb;subst hN;simp only[List.cons_append,List.nil_append] at e1 e2 e3 e4 e5;have WM :=bH (rfl:aP f43=_) (ls:=[[0,1,3,0,15],[0,1,3,0,0,31,63]]) (by kernel_rfl);simp only[aP,bQ,f43,List.nil_append,List.append_nil,List.cons_append,List.map_cons,List.map_nil,List.cons.injEq,and_true] at WM;obtain⟨WS,hb1⟩:=WM;obtain⟨u0,u1,u2,u3,u4,u5,u6,u7⟩:=hU;have f0:=(fD u0).2;have f1:=(fD u1).2;have f2:=(fD u2).2;have f3:=(fD u3).2;have f4:=(fD u4).2;have f5:=(fD u5).2;have f6:=(fD u6).2;have f7:=(fD u7).2;have r1:=(ff q1).2;have r2:=(ff q2).2;have r3:=(ff q3).2;have r4:=(ff q4).2;have r5:=(ff q5).2;have r6:=(ff q6).2;have p1:=(ff y1).2;have p2:=(ff y2).2;have p3:=(ff y3).2;have p4:=(ff y4).2;have a0:ba [0,1,3,0,15] 4=true:=by decide
 have h:∃new,aK (aC prog) (fun _=>[]) (aO prog) O 1 43 [.agg [pv,tv],.agg ((c.kd K).cells b u s kn)] [.cells false n0 C0,.cells false n1 C1,.cells false n2 C2,.cells false n3 C3,.cells false n4 C4,.cells false n5 C5,.cells false n6 C6,.cells false n7 C7]=some (.int .i64 7,[.cells false n0 C0,.cells false n1 C1,.cells false n2 C2,.cells false n3 C3,.cells false n4 C4,.cells false n5 C5,.cells false n6 C6,.cells false n7 C7]++new):=by obtain⟨kr1,kr2⟩:=kp.rng;clear hO hE hC kp;simp only[Evc.cells,Evc.kd] at e1 e2 e3 e4 e5 ⊢;simp[cf,-AV.qK,-AV.known,-AV.cells,-ay,-AV.HK,-List.all_eq_true,vS,rS,fnS,ag WS,aJ,aG,aH,a0,Nat.testBit,-lY,fz,bO,aL,aK,hG,f43,e1,e2,e3,e4,e5,kr1,kr2,f0,f1,f2,f3,f4,f5,f6,f7,r1,r2,r3,r4,r5,r6,p1,p2,p3,p4]
 obtain⟨new,h⟩:=h;exact(bn af (aw _) hO (ax _) h).forget rfl
end
end Go.Proofs
namespace Go.Proofs
open Go.Eng
open Tryz
theorem Ud(n:Int):([]:List UInt8)≠zS n:=by intro h;have:=aM (n:Rat);unfold zS at h;rw[←h] at this;rw[show ef []=none from rfl] at this;cases this
variable{M:Mem}{n:Nat}
theorem Oo{b:Nat}(hn:0<n):mB prog 82 [.kO,.slice b 0 n none] M (.bool false) M:=by
 have h1:¬(0:Int)=(n:Int):=by omega
 have h2:¬(n:Int)=0:=by omega
 have h3:¬n=0:=by omega
 have h4:¬0=n:=by omega
 have h0:∀M,mB prog 113 [.kO,.slice b 0 n none] M (.bool false) M:=fun M=>by
  have hG:aO prog 113=some f113:=by kernel_rfl
  have h:ad (aC prog) (fun _=>[13]) (aO prog) bt 3 113 [.kO,.slice b 0 n none] M=some ⟨.bool false,none,[]⟩:=by simp[ad,hG,f113,h1]
  have:=(au af (aw _) (ah _) (ax _) h).1;simpa [HS.mem] using this
 have hO:qS prog (gP 113 [.kO,.slice b 0 n none] (.bool false) (fun N=>True)):=ij fun N hN=>h0 N
 have hG:aO prog 82=some f82:=by kernel_rfl
 refine aY (K:=1) (lv:=fun _=>[]) hO ?_;simp[ad,hG,f82,gP]
variable{N:Mem}{b kn u:AV}{c:Evc}
theorem ju{s:AV}(hE:aaI N (c.cells b u s kn) c)(hf:Lh c)(K:Int):mB prog 49 [.agg (({ k:=K,nm:=c.nm }:Evc).cells .kO .kO .kO .kO),.agg ((c.kd K).cells b u s kn)] N (.bool false) N:=by
 obtain⟨b',u',s',WT,e,h1,h2,h3,h4⟩:=hE;simp only[Evc.cells,List.cons.injEq,true_and,and_true] at e;obtain⟨rfl,rfl,rfl,rfl⟩:=e;rcases hf with⟨nm,B,U,S,rfl,hB⟩ | ⟨nm,n,o,v,rfl⟩ | ⟨nm,n,L,v,rfl⟩ | ⟨nm,n,o,w,x,rfl⟩ | ⟨nm,t,x,rfl⟩
 ·obtain⟨b,o,rfl,-⟩:=h1.pos (List.length_pos_iff.2 hB)
  have hO:qS prog (gP 82 [.kO,.slice b 0 (Fm nm B U S).B.length none] (.bool false) (fun _=>True)):=ij fun M _=>Oo (List.length_pos_iff.2 hB)
  exact Lj hO rfl rfl (by simp[gP])
 ·obtain rfl:=h1.aaD rfl;obtain rfl:=h2.aaD rfl;obtain rfl:=h3.aaD rfl;obtain rfl:=h4.aaD rfl
  exact Lk eA rfl rfl rfl rfl rfl (Ud _)
 ·obtain rfl:=h1.aaD rfl;obtain rfl:=h2.aaD rfl;obtain rfl:=h3.aaD rfl
  exact Ll eA rfl rfl rfl rfl rfl ⟨rfl,rfl,rfl,rfl,rfl,rfl,rfl⟩ (Ud _)
 ·obtain rfl:=h1.aaD rfl;obtain rfl:=h2.aaD rfl;obtain rfl:=h3.aaD rfl;obtain rfl:=h4.aaD rfl
  exact zI eA rfl rfl rfl rfl rfl ⟨rfl,rfl,rfl,rfl,rfl,rfl,rfl⟩ ⟨rfl,rfl,rfl⟩ rfl ⟨rfl,rfl,rfl⟩ (.inl (Ud _))
 ·obtain rfl:=h1.aaD rfl;obtain rfl:=h2.aaD rfl;obtain rfl:=h3.aaD rfl;obtain rfl:=h4.aaD rfl
  exact Gc eA rfl rfl rfl rfl rfl ⟨rfl,rfl,rfl,rfl,rfl,rfl,rfl⟩ ⟨rfl,rfl,rfl⟩ rfl ⟨rfl,rfl,rfl⟩ ⟨rfl,rfl,rfl,rfl,rfl,rfl⟩ (Ud _)
theorem LO{s:AV}{z:List UInt8}(hc:c.Ok)(hE:aaI N (c.cells b u s kn) c)(hz:c.x24≠z):mB prog 49 [.agg (c.cells b u s kn),.agg (({ c with x24:=z }:Evc).cells b u s kn)] N (.bool false) N:=by
 obtain⟨b',u',s',WT,e,h1,h2,h3,h4⟩:=hE;simp only[Evc.cells,List.cons.injEq,true_and,and_true] at e;obtain⟨rfl,rfl,rfl,rfl⟩:=e;have hO:qS prog (fS (uD b b u u s s kn kn N)):=vz fun f a N' r hr=>by
  obtain⟨⟨Z,rfl⟩,hr,rfl⟩:=hr;rcases hr with⟨rfl,rfl⟩ | ⟨rfl,rfl⟩ | ⟨rfl,rfl⟩ | ⟨rfl,rfl⟩
  ·exact ak (by simpa using AA hc.B (h1.more Z) (h1.more Z))
  ·exact ak (by simpa using Uw hc.U (h2.more Z) (h2.more Z))
  ·exact ak (by simpa using Pm (h3.more Z) (h3.more Z) (by have:=hc.S;omega) hc.SL)
  ·exact ak (by simpa using Uv hc.K (h4.more Z) (h4.more Z))
 exact zI hO rfl rfl (eY (S:=uD b b u u s s kn kn N) ⟨⟨_,rfl⟩,.inl ⟨rfl,rfl⟩,rfl⟩ fun r' h=>h.2.2) (eY (S:=uD b b u u s s kn kn N) ⟨⟨_,rfl⟩,.inr (.inl ⟨rfl,rfl⟩),rfl⟩ fun r' h=>h.2.2)
  (eY (S:=uD b b u u s s kn kn N) ⟨⟨_,rfl⟩,.inr (.inr (.inl ⟨rfl,rfl⟩)),rfl⟩ fun r' h=>h.2.2) ⟨rfl,rfl,rfl,rfl,rfl,rfl,rfl⟩ ⟨rfl,rfl,rfl⟩ (eY (S:=uD b b u u s s kn kn N) ⟨⟨_,rfl⟩,.inr (.inr (.inr ⟨rfl,rfl⟩)),rfl⟩ fun r' h=>h.2.2) ⟨rfl,rfl,rfl⟩ (.inr hz)
def sl8(j n:Nat):AV:=if n=0 then .kO else .slice j 0 n none
theorem bo(j n:Nat):(sl8 j n).qK=true∧((sl8 j n).known=true∧(sl8 j n).cells=[sl8 j n]):=by unfold sl8;split<;>exact⟨rfl,rfl,rfl⟩
variable{j:Nat}
theorem bc(hj:j<8):(sl8 j n).under 8=true:=by
 unfold sl8;split
 ·rfl
 ·simp only[AV.under,decide_eq_true_eq];exact hj
variable{C D0:List AV}{e0 es:Nat}{o:Bool}{x:AV}
theorem sc(h:aat M x es n C)(hC:AV.aag C=true){p:Nat}(hp:M[p]? =some (.cells o e0 D0))(h0:AV.aag D0=true):
  ∃k e D,(∃o,M[k]? =some (.cells o e D))∧AV.aag D=true∧((x=.kO∧n=0∧C=[])∨(x=.slice k 0 n none∧0<n∧e=es∧D=C)):=by
 rcases h with⟨h1,h2,h3⟩ | ⟨b,o',h1,h2,h3⟩
 ·exact⟨p,e0,D0,⟨o,hp⟩,h0,.inl ⟨h1,h2,h3⟩⟩
 ·exact⟨b,es,C,⟨o',h3⟩,hC,.inr ⟨h1,h2,rfl,rfl⟩⟩
variable{D:List AV}{e k:Nat}
theorem nn{m:Mem}(h:(x=.kO∧n=0∧C=[])∨(x=.slice k 0 n none∧0<n∧e=es∧D=C))(hm:m[j]? =some (.cells false e D)):aat m (sl8 j n) es n C:=by
 rcases h with⟨_,h2,h3⟩ | ⟨_,h2,rfl,rfl⟩
 ·subst h2;exact .inl ⟨rfl,rfl,h3⟩
 ·exact .inr ⟨j,false,by unfold sl8;rw[if_neg (by omega)],h2,hm⟩
theorem wY{ks:List Nat}{L:Nat}(h:(x=.kO∧n=0∧C=[])∨(x=.slice k 0 n none∧0<n∧e=es∧D=C))(hj:j<ks.length)(hk:ks.getD j 0=k):(sl8 j n).ren (dr ks L)=x:=by
 rcases h with⟨h1,h2,_⟩ | ⟨h1,h2,_⟩
 ·subst h2;rw[h1];rfl
 ·unfold sl8;rw[if_neg (by omega),h1];simp only[AV.ren,dr,hj,if_true,hk]
theorem UU{v:AV}{S:List (List (List UInt8))}(h:abn M v S)(hS:S.length≤2){p:Nat}(hp:M[p]? =some (.cells o e0 D0))(h0:AV.aag D0=true):
  ∃k5 e5 D5 D5' k6 e6 D6 k7 e7 D7,(∃o,M[k5]? =some (.cells o e5 D5'))∧((∃o,M[k6]? =some (.cells o e6 D6))∧AV.aag D6=true)∧((∃o,M[k7]? =some (.cells o e7 D7))∧AV.aag D7=true)∧AV.aah 8 D5=true∧
   (∀(ks:List Nat) L,ks.length=8→ks.getD 6 0=k6→ks.getD 7 0=k7→∀(j:Nat) w,D5[j]? =some w→D5'[j]? =some (w.ren (dr ks L)))∧
   (∀(ks:List Nat) L,ks.length=8→ks.getD 5 0=k5→(sl8 5 S.length).ren (dr ks L)=v)∧
   ∀m:Mem,m[5]? =some (.cells false e5 D5)→m[6]? =some (.cells false e6 D6)→m[7]? =some (.cells false e7 D7)→abn m (sl8 5 S.length) S:=by
 obtain⟨vs,lv,hv,hr⟩:=h
 match S,hS,lv with
 | [],_,lv=>
  have hvn:=hv.aaD rfl;refine⟨p,e0,D0,D0,p,e0,D0,p,e0,D0,⟨o,hp⟩,⟨⟨o,hp⟩,h0⟩,⟨⟨o,hp⟩,h0⟩,bB h0,fun ks L _ _ _ j w hw=>?_,fun ks L _ _=>hvn.symm,fun m _ _ _=>⟨[],rfl,.inl ⟨rfl,rfl,rfl⟩,fun i x L h=>by simp at h⟩⟩;have:=bR (ρ:=dr ks L) h0;rw[fN] at this;have h2:(D0.map (AV.ren (dr ks L)))[j]? =D0[j]? :=by rw[this]
  rw[List.getElem?_map,hw] at h2;rw[hw];exact h2.symm
 | [L1],_,lv=>
  match vs,lv with
  | [x1],_=>
   obtain⟨k5,o5,rfl,h5⟩:=hv.pos (by simp);obtain⟨k6,e6,D6,h6,c6,g6⟩:=sc (hr 0 x1 L1 rfl rfl) (dA L1) hp h0;refine⟨k5,1,[sl8 6 L1.length],[x1],k6,e6,D6,p,e0,D0,⟨o5,h5⟩,⟨h6,c6⟩,⟨⟨o,hp⟩,h0⟩,by simp only[AV.aah,bc (show 6<8 by omega),Bool.and_self],fun ks L hl h6' _ j w hw=>?_,fun ks L hl h5' =>?_,fun m m5 m6 m7=>⟨[sl8 6 L1.length],rfl,.inr ⟨5,false,rfl,by simp,m5⟩,fun i x L hx hL=>?_⟩⟩
   ·match j,hw with
    |0,hw=>cases hw;rw[wY g6 (by omega) h6'];rfl
    |j+1,hw=>simp at hw
   ·show(AV.slice 5 0 1 none).ren (dr ks L)=_
    simp only[AV.ren,dr,hl,h5'];rfl
   ·match i,hx,hL with
    |0,hx,hL=>cases hx;cases hL;exact nn g6 m6
    |i+1,hx,_=>simp at hx
 | [L1,L2],_,lv=>
  match vs,lv with
  | [x1,x2],_=>
   obtain⟨k5,o5,rfl,h5⟩:=hv.pos (by simp);obtain⟨k6,e6,D6,h6,c6,g6⟩:=sc (hr 0 x1 L1 rfl rfl) (dA L1) hp h0;obtain⟨k7,e7,D7,h7,c7,g7⟩:=sc (hr 1 x2 L2 rfl rfl) (dA L2) hp h0;refine⟨k5,1,[sl8 6 L1.length,sl8 7 L2.length],[x1,x2],k6,e6,D6,k7,e7,D7,⟨o5,h5⟩,⟨h6,c6⟩,⟨h7,c7⟩,by simp only[AV.aah,bc (show 6<8 by omega),bc (show 7<8 by omega),Bool.and_self],fun ks L hl h6' h7' j w hw=>?_,fun ks L hl h5' =>?_,fun m m5 m6 m7=>⟨[sl8 6 L1.length,sl8 7 L2.length],rfl,.inr ⟨5,false,rfl,by simp,m5⟩,fun i x L hx hL=>?_⟩⟩
   ·match j,hw with
    |0,hw=>cases hw;rw[wY g6 (by omega) h6'];rfl
    |1,hw=>cases hw;rw[wY g7 (by omega) h7'];rfl
    |j+2,hw=>simp at hw
   ·show(AV.slice 5 0 2 none).ren (dr ks L)=_
    simp only[AV.ren,dr,hl,h5'];rfl
   ·match i,hx,hL with
    |0,hx,hL=>cases hx;cases hL;exact nn g6 m6
    |1,hx,hL=>cases hx;cases hL;exact nn g7 m7
    |i+2,hx,_=>simp at hx
variable{s:aaf}{sv:AV}
theorem jP{p t:Nat}{d:Evc}{e:Int}(hp:∃o,M[p]? =some (.cells o 2 (pC s.P)))(ht:∃o,M[t]? =some (.cells o 3 (tC s.T)))(WN:c.Ok)(hE:aaI M (c.cells b u sv kn) c)(hS:∀(n2 n3 n4 n5 n6 n7:Nat) (C2 C3 C4 C5 C6 C7:List AV) (m:Mem),m=[.cells false 2 (pC s.P),.cells false 3 (tC s.T),.cells false n2 C2,.cells false n3 C3,.cells false n4 C4,.cells false n5 C5,.cells false n6 C6,.cells false n7 C7]→(AV.aah 8 (pC s.P)=true∧AV.aah 8 (tC s.T)=true∧AV.aah 8 C2=true∧AV.aah 8 C3=true∧AV.aah 8 C4=true∧AV.aah 8 C5=true∧AV.aah 8 C6=true∧AV.aah 8 C7=true)→
   aaI m (c.cells (sl8 2 c.B.length) (sl8 3 c.U.length) (sl8 5 c.S.length) (sl8 4 c.K.length)) c→mB prog 43 [.agg [.slice 0 0 s.P.length none,.slice 1 0 s.T.length none],.agg (d.cells (sl8 2 c.B.length) (sl8 3 c.U.length) (sl8 5 c.S.length) (sl8 4 c.K.length))] m (.int .i64 e) m):
  mB prog 43 [.agg [.slice p 0 s.P.length none,.slice t 0 s.T.length none],.agg (d.cells b u sv kn)] M (.int .i64 e) M:=by
 obtain⟨o,hp⟩:=hp;obtain⟨o',ht⟩:=ht;obtain⟨b',u',s',WT,eq,h1,h2,h3,h4⟩:=hE;simp only[Evc.cells,List.cons.injEq,true_and,and_true] at eq;obtain⟨rfl,rfl,rfl,rfl⟩:=eq;obtain⟨k2,e2,D2,⟨o2,m2⟩,c2,g2⟩:=sc h1 (dA _) hp (bV _);obtain⟨k3,e3,D3,⟨o3,m3⟩,c3,g3⟩:=sc h2 (dA _) hp (bV _);obtain⟨k4,e4,D4,⟨o4,m4⟩,c4,g4⟩:=sc h4 (vi _) hp (bV _);obtain⟨k5,e5,D5,D5',k6,e6,D6,k7,e7,D7,⟨o5,m5⟩,⟨⟨o6,m6⟩,c6⟩,⟨⟨o7,m7⟩,c7⟩,u5,r5,rv,f5⟩:=UU h3 WN.S hp (bV _);obtain⟨m,hm⟩:∃m:Mem,m=[.cells false 2 (pC s.P),.cells false 3 (tC s.T),.cells false e2 D2,.cells false e3 D3,.cells false e4 D4,.cells false e5 D5,.cells false e6 D6,.cells false e7 D7]:=⟨_,rfl⟩
 have WQ:aaI m (c.cells (sl8 2 c.B.length) (sl8 3 c.U.length) (sl8 5 c.S.length) (sl8 4 c.K.length)) c:=
  ⟨_,_,_,_,rfl,nn g2 (by rw[hm];rfl),nn g3 (by rw[hm];rfl),f5 m (by rw[hm];rfl) (by rw[hm];rfl) (by rw[hm];rfl),nn g4 (by rw[hm];rfl)⟩
 have h:=hS e2 e3 e4 e5 e6 e7 D2 D3 D4 D5 D6 D7 m hm ⟨bB (bV _),bB (dp _),bB c2,bB c3,bB c4,u5,bB c6,bB c7⟩ WQ;have:=mB.frame (M:=M) (new:=[]) (args:=[.agg [.slice 0 0 s.P.length none,.slice 1 0 s.T.length none],.agg (d.cells (sl8 2 c.B.length) (sl8 3 c.U.length) (sl8 5 c.S.length) (sl8 4 c.K.length))]) [p,t,k2,k3,k4,k5,k6,k7] (m:=m) (by rw[hm];rfl) (by
  intro k hk;simp only[List.mem_cons,List.not_mem_nil,or_false] at hk;rcases hk with rfl | rfl | rfl | rfl | rfl | rfl | rfl | rfl
  ·exact bL hp
  ·exact bL ht
  ·exact bL m2
  ·exact bL m3
  ·exact bL m4
  ·exact bL m5
  ·exact bL m6
  ·exact bL m7) (by simp[AV.aah,AV.under,Evc.cells,bc]) (fun i x hs=>by
  subst hm
  match i,hs with
  |0,hs=>cases hs;exact aV (bV _) hp List.take_length
  |1,hs=>cases hs;exact aV (dp _) ht List.take_length
  |2,hs=>cases hs;exact aV c2 m2 List.take_length
  |3,hs=>cases hs;exact aV c3 m3 List.take_length
  |4,hs=>cases hs;exact aV c4 m4 List.take_length
  |5,hs=>cases hs;exact⟨u5,o5,D5',m5,r5 _ _ rfl rfl rfl⟩
  |6,hs=>cases hs;exact aV c6 m6 List.take_length
  |7,hs=>cases hs;exact aV c7 m7 List.take_length
  |i+8,hs=>simp at hs) rfl (by simpa using h)
 have q2:=wY (j:=2) (ks:=[p,t,k2,k3,k4,k5,k6,k7]) (L:=M.length) g2 (by simp) rfl;have q3:=wY (j:=3) (ks:=[p,t,k2,k3,k4,k5,k6,k7]) (L:=M.length) g3 (by simp) rfl;have q4:=wY (j:=4) (ks:=[p,t,k2,k3,k4,k5,k6,k7]) (L:=M.length) g4 (by simp) rfl;have q5:=rv [p,t,k2,k3,k4,k5,k6,k7] M.length rfl rfl;simp only[AV.aal,AV.ren,Evc.cells,q2,q3,q4,q5,List.map_nil,List.append_nil] at this;simpa [dr,Evc.cells] using this
theorem Vo(hf:Lh c)(hk:c.k≠1):c.acp={ k:=1,nm:=c.nm }∧c.B=[]∧c.U=[]∧c.S=[]:=by
 rcases hf with⟨nm,B,U,S,rfl,hB⟩ | ⟨nm,n,o,v,rfl⟩ | ⟨nm,n,L,v,rfl⟩ | ⟨nm,n,o,w,x,rfl⟩ | ⟨nm,t,x,rfl⟩
 ·exact absurd rfl hk
 ·exact⟨rfl,rfl,rfl,rfl⟩
 ·exact⟨rfl,rfl,rfl,rfl⟩
 ·exact⟨rfl,rfl,rfl,rfl⟩
 ·exact⟨rfl,rfl,rfl,rfl⟩
theorem Ee{p t:Nat}(hp:∃o,M[p]? =some (.cells o 2 (pC s.P)))(ht:∃o,M[t]? =some (.cells o 3 (tC s.T)))(G:Tryz.Good s c)(hE:aaI M (c.cells b u sv kn) c)(hk:c.k≠1):
  mB prog 43 [.agg [.slice p 0 s.P.length none,.slice t 0 s.T.length none],.agg ((c.kd 1).cells b u sv kn)] M (.int .i64 7) M:=by
 refine jP hp ht G.ok hE fun n2 n3 n4 n5 n6 n7 C2 C3 C4 C5 C6 C7 m hm hu WQ=>?_
 subst hm;obtain⟨e1,e2,e3,e4⟩:=Vo G.form hk;have h:=fun Z=>ju (WQ.more Z) G.form 1
 refine eN gD.1 rfl hu rfl rfl ⟨(bo _ _).1,(bo _ _).1,(bo _ _).1,(bo _ _).1⟩ ⟨(bo _ _).2,(bo _ _).2,(bo _ _).2,(bo _ _).2⟩ ⟨⟨rfl,rfl⟩,bc (by omega),bc (by omega),bc (by omega),bc (by omega)⟩ (fun Z=>bl s _ 0 1 false false rfl rfl) G.nmo fun Z=>?_
 rw[e1];have h:=h Z;rw[show sl8 2 c.B.length=.kO by rw[e2];rfl,show sl8 3 c.U.length=.kO by rw[e3];rfl,show sl8 5 c.S.length=.kO by rw[e4];rfl] at h ⊢;exact h
theorem Vp(hf:Lh c)(hk:c.k≠2):c.acq={ k:=2,nm:=c.nm }∧True:=by
 rcases hf with⟨nm,B,U,S,rfl,hB⟩ | ⟨nm,n,o,v,rfl⟩ | ⟨nm,n,L,v,rfl⟩ | ⟨nm,n,o,w,x,rfl⟩ | ⟨nm,t,x,rfl⟩
 ·exact⟨rfl,trivial⟩
 ·exact absurd rfl hk
 ·exact⟨rfl,trivial⟩
 ·exact⟨rfl,trivial⟩
 ·exact⟨rfl,trivial⟩
theorem Ef{p t:Nat}(hp:∃o,M[p]? =some (.cells o 2 (pC s.P)))(ht:∃o,M[t]? =some (.cells o 3 (tC s.T)))(G:Tryz.Good s c)(hE:aaI M (c.cells b u sv kn) c)(hk:c.k≠2):
  mB prog 43 [.agg [.slice p 0 s.P.length none,.slice t 0 s.T.length none],.agg ((c.kd 2).cells b u sv kn)] M (.int .i64 7) M:=by
 refine jP hp ht G.ok hE fun n2 n3 n4 n5 n6 n7 C2 C3 C4 C5 C6 C7 m hm hu WQ=>?_
 subst hm;obtain⟨e1,-⟩:=Vp G.form hk;have h:=fun Z=>ju (WQ.more Z) G.form 2
 refine eN gD.2.1 rfl hu rfl rfl ⟨(bo _ _).1,(bo _ _).1,(bo _ _).1,(bo _ _).1⟩ ⟨(bo _ _).2,(bo _ _).2,(bo _ _).2,(bo _ _).2⟩ ⟨⟨rfl,rfl⟩,bc (by omega),bc (by omega),bc (by omega),bc (by omega)⟩ (fun Z=>bl s _ 0 1 false false rfl rfl) G.nmo fun Z=>?_
 rw[e1];have h:=h Z;exact h
theorem Vq(hf:Lh c)(hk:c.k≠3):c.acr={ k:=3,nm:=c.nm }∧c.K=[]:=by
 rcases hf with⟨nm,B,U,S,rfl,hB⟩ | ⟨nm,n,o,v,rfl⟩ | ⟨nm,n,L,v,rfl⟩ | ⟨nm,n,o,w,x,rfl⟩ | ⟨nm,t,x,rfl⟩
 ·exact⟨rfl,rfl⟩
 ·exact⟨rfl,rfl⟩
 ·exact absurd rfl hk
 ·exact⟨rfl,rfl⟩
 ·exact⟨rfl,rfl⟩
theorem Eg{p t:Nat}(hp:∃o,M[p]? =some (.cells o 2 (pC s.P)))(ht:∃o,M[t]? =some (.cells o 3 (tC s.T)))(G:Tryz.Good s c)(hE:aaI M (c.cells b u sv kn) c)(hk:c.k≠3):
  mB prog 43 [.agg [.slice p 0 s.P.length none,.slice t 0 s.T.length none],.agg ((c.kd 3).cells b u sv kn)] M (.int .i64 7) M:=by
 refine jP hp ht G.ok hE fun n2 n3 n4 n5 n6 n7 C2 C3 C4 C5 C6 C7 m hm hu WQ=>?_
 subst hm;obtain⟨e1,e2⟩:=Vq G.form hk;have h:=fun Z=>ju (WQ.more Z) G.form 3
 refine eN gD.2.2.1 rfl hu rfl rfl ⟨(bo _ _).1,(bo _ _).1,(bo _ _).1,(bo _ _).1⟩ ⟨(bo _ _).2,(bo _ _).2,(bo _ _).2,(bo _ _).2⟩ ⟨⟨rfl,rfl⟩,bc (by omega),bc (by omega),bc (by omega),bc (by omega)⟩ (fun Z=>bl s _ 0 1 false false rfl rfl) G.nmo fun Z=>?_
 rw[e1];have h:=h Z;rw[show sl8 4 c.K.length=.kO by rw[e2];rfl] at h ⊢;exact h
theorem Vr(hf:Lh c)(hk:c.k≠4):c.acs={ k:=4,nm:=c.nm }∧True:=by
 rcases hf with⟨nm,B,U,S,rfl,hB⟩ | ⟨nm,n,o,v,rfl⟩ | ⟨nm,n,L,v,rfl⟩ | ⟨nm,n,o,w,x,rfl⟩ | ⟨nm,t,x,rfl⟩
 ·exact⟨rfl,trivial⟩
 ·exact⟨rfl,trivial⟩
 ·exact⟨rfl,trivial⟩
 ·exact absurd rfl hk
 ·exact⟨rfl,trivial⟩
theorem Eh{p t:Nat}(hp:∃o,M[p]? =some (.cells o 2 (pC s.P)))(ht:∃o,M[t]? =some (.cells o 3 (tC s.T)))(G:Tryz.Good s c)(hE:aaI M (c.cells b u sv kn) c)(hk:c.k≠4):
  mB prog 43 [.agg [.slice p 0 s.P.length none,.slice t 0 s.T.length none],.agg ((c.kd 4).cells b u sv kn)] M (.int .i64 7) M:=by
 refine jP hp ht G.ok hE fun n2 n3 n4 n5 n6 n7 C2 C3 C4 C5 C6 C7 m hm hu WQ=>?_
 subst hm;obtain⟨e1,-⟩:=Vr G.form hk;have h:=fun Z=>ju (WQ.more Z) G.form 4
 refine eN gD.2.2.2.1 rfl hu rfl rfl ⟨(bo _ _).1,(bo _ _).1,(bo _ _).1,(bo _ _).1⟩ ⟨(bo _ _).2,(bo _ _).2,(bo _ _).2,(bo _ _).2⟩ ⟨⟨rfl,rfl⟩,bc (by omega),bc (by omega),bc (by omega),bc (by omega)⟩ (fun Z=>bl s _ 0 1 false false rfl rfl) G.nmo fun Z=>?_
 rw[e1];have h:=h Z;exact h
theorem Vt(hf:Lh c)(hk:c.k≠5):c.acu={ k:=5,nm:=c.nm }∧True:=by
 rcases hf with⟨nm,B,U,S,rfl,hB⟩ | ⟨nm,n,o,v,rfl⟩ | ⟨nm,n,L,v,rfl⟩ | ⟨nm,n,o,w,x,rfl⟩ | ⟨nm,t,x,rfl⟩
 ·exact⟨rfl,trivial⟩
 ·exact⟨rfl,trivial⟩
 ·exact⟨rfl,trivial⟩
 ·exact⟨rfl,trivial⟩
 ·exact absurd rfl hk
theorem Ei{p t:Nat}(hp:∃o,M[p]? =some (.cells o 2 (pC s.P)))(ht:∃o,M[t]? =some (.cells o 3 (tC s.T)))(G:Tryz.Good s c)(hE:aaI M (c.cells b u sv kn) c)(hk:c.k≠5):
  mB prog 43 [.agg [.slice p 0 s.P.length none,.slice t 0 s.T.length none],.agg ((c.kd 5).cells b u sv kn)] M (.int .i64 7) M:=by
 refine jP hp ht G.ok hE fun n2 n3 n4 n5 n6 n7 C2 C3 C4 C5 C6 C7 m hm hu WQ=>?_
 subst hm;obtain⟨e1,-⟩:=Vt G.form hk;have h:=fun Z=>ju (WQ.more Z) G.form 5
 refine eN gD.2.2.2.2 rfl hu rfl rfl ⟨(bo _ _).1,(bo _ _).1,(bo _ _).1,(bo _ _).1⟩ ⟨(bo _ _).2,(bo _ _).2,(bo _ _).2,(bo _ _).2⟩ ⟨⟨rfl,rfl⟩,bc (by omega),bc (by omega),bc (by omega),bc (by omega)⟩ (fun Z=>bl s _ 0 1 false false rfl rfl) G.nmo fun Z=>?_
 rw[e1];have h:=h Z;exact h
theorem Gz{p t:Nat}(hp:∃o,M[p]? =some (.cells o 2 (pC s.P)))(ht:∃o,M[t]? =some (.cells o 3 (tC s.T)))(G:Tryz.Good s c)(hE:aaI M (c.cells b u sv kn) c){K:Int}(h1:1≤K)(h5:K≤5)(hk:c.k≠K):
  mB prog 43 [.agg [.slice p 0 s.P.length none,.slice t 0 s.T.length none],.agg ((c.kd K).cells b u sv kn)] M (.int .i64 7) M:=by
 obtain rfl | rfl | rfl | rfl | rfl:K=1∨K=2∨K=3∨K=4∨K=5:=by omega
 ·exact Ee hp ht G hE hk
 ·exact Ef hp ht G hE hk
 ·exact Eg hp ht G hE hk
 ·exact Eh hp ht G hE hk
 ·exact Ei hp ht G hE hk
theorem GA{p t:Nat}(hp:∃o,M[p]? =some (.cells o 2 (pC s.P)))(ht:∃o,M[t]? =some (.cells o 3 (tC s.T)))(G:Tryz.Good s c)(hE:aaI M (c.cells b u sv kn) c)(hk:c.k≠4):
  mB prog 43 [.agg [.slice p 0 s.P.length none,.slice t 0 s.T.length none],.agg (({ c with x24:=[122] }:Evc).cells b u sv kn)] M (.int .i64 7) M:=by
 refine jP hp ht G.ok hE fun n2 n3 n4 n5 n6 n7 C2 C3 C4 C5 C6 C7 m hm hu WQ=>?_
 subst hm;have hf:=G.form;have hn:=G.nmo;have h:=fun Z (hz:c.x24≠[122])=>LO G.ok (WQ.more Z) hz
 rcases hf with⟨nm,B,U,S,rfl,hB⟩ | ⟨nm,n,o,v,rfl⟩ | ⟨nm,n,L,v,rfl⟩ | ⟨nm,n,o,w,x,rfl⟩ | ⟨nm,t,x,rfl⟩
 ·exact eN gD.1 (c:={ Fm nm B U S with x24:=[122] }) rfl hu rfl rfl ⟨(bo _ _).1,(bo _ _).1,(bo _ _).1,(bo _ _).1⟩ ⟨(bo _ _).2,(bo _ _).2,(bo _ _).2,(bo _ _).2⟩ ⟨⟨rfl,rfl⟩,bc (by omega),bc (by omega),bc (by omega),bc (by omega)⟩ (fun Z=>bl s _ 0 1 false false rfl rfl) hn fun Z=>h Z (by show([]:List UInt8)≠[122];decide)
 ·exact eN gD.2.1 (c:={ AR nm n o v with x24:=[122] }) rfl hu rfl rfl ⟨(bo _ _).1,(bo _ _).1,(bo _ _).1,(bo _ _).1⟩ ⟨(bo _ _).2,(bo _ _).2,(bo _ _).2,(bo _ _).2⟩ ⟨⟨rfl,rfl⟩,bc (by omega),bc (by omega),bc (by omega),bc (by omega)⟩ (fun Z=>bl s _ 0 1 false false rfl rfl) hn fun Z=>h Z (by show([]:List UInt8)≠[122];decide)
 ·exact eN gD.2.2.1 (c:={ MP nm n L v with x24:=[122] }) rfl hu rfl rfl ⟨(bo _ _).1,(bo _ _).1,(bo _ _).1,(bo _ _).1⟩ ⟨(bo _ _).2,(bo _ _).2,(bo _ _).2,(bo _ _).2⟩ ⟨⟨rfl,rfl⟩,bc (by omega),bc (by omega),bc (by omega),bc (by omega)⟩ (fun Z=>bl s _ 0 1 false false rfl rfl) hn fun Z=>h Z (by show([]:List UInt8)≠[122];decide)
 ·exact absurd rfl hk
 ·exact eN gD.2.2.2.2 (c:={ J7 nm t x with x24:=[122] }) rfl hu rfl rfl ⟨(bo _ _).1,(bo _ _).1,(bo _ _).1,(bo _ _).1⟩ ⟨(bo _ _).2,(bo _ _).2,(bo _ _).2,(bo _ _).2⟩ ⟨⟨rfl,rfl⟩,bc (by omega),bc (by omega),bc (by omega),bc (by omega)⟩ (fun Z=>bl s _ 0 1 false false rfl rfl) hn fun Z=>h Z (by show([]:List UInt8)≠[122];decide)
end Go.Proofs
namespace Go.Proofs
open Go.Eng
open Tryz
theorem N8{α:Type}:∀{e:List α}{j:Nat}(b:α),j<e.length→e.take j++b::e.drop (j+1)=e.set j b
 | [],j,b,h=>by simp at h
 |y::e,0,b,_=>by simp
 |y::e,j+1,b,h=>by have:=N8 (e:=e) (j:=j) b (by simpa using h);simp[this]
theorem qJ:∀{evs:List (List AV)}{x j:Nat}{e:List AV}(b:AV),(∀e∈evs,e.length=32)→evs[x]? =some e→j<32→evs.flatten.take (x*32+j)++b::evs.flatten.drop (x*32+j+1)=(evs.set x (e.set j b)).flatten
 | [],x,j,_,_,_,h,_=>by simp at h
 |y::l,0,j,e,b,hl,h,hj=>by simp at h;subst h;have hy:=hl y (by simp);simp only[Nat.zero_mul,Nat.zero_add,List.set_cons_zero,List.flatten_cons];rw[List.take_append_of_le_length (by omega),List.drop_append_of_le_length (by omega),←List.cons_append,←List.append_assoc,N8 b (by omega)]
 |y::l,x+1,j,e,b,hl,h,hj=>by have hy:=hl y (by simp);have:=qJ (evs:=l) (x:=x) (j:=j) (e:=e) b (fun w hw=>hl w (by simp[hw])) (by simpa using h) hj;rw[List.set_cons_succ,List.flatten_cons,List.flatten_cons,←this];rw[List.take_append,List.drop_append,List.take_of_length_le (by omega),List.drop_of_length_le (by omega),List.nil_append,List.append_assoc,show(x+1)*32+j-y.length=x*32+j by omega,show(x+1)*32+j+1-y.length=x*32+j+1 by omega]
section
variable {s:aaf}{c:Evc}
theorem Tryz.Good.name(G:Tryz.Good s c){nm:List UInt8}(h:nm∈bk):Tryz.Good s { c with nm:=nm } where
 toabd:=G.ren nm h
 form:=by
  rcases G.form with⟨_,B,U,S,e,hB⟩ | ⟨_,n,o,v,e⟩ | ⟨_,n,L,v,e⟩ | ⟨_,n,o,w,x,e⟩ | ⟨_,t,x,e⟩
  ·rw[e];exact .inl ⟨nm,B,U,S,rfl,hB⟩
  ·rw[e];exact .inr (.inl ⟨nm,n,o,v,rfl⟩)
  ·rw[e];exact .inr (.inr (.inl ⟨nm,n,L,v,rfl⟩))
  ·rw[e];exact .inr (.inr (.inr (.inl ⟨nm,n,o,w,x,rfl⟩)))
  ·rw[e];exact .inr (.inr (.inr (.inr ⟨nm,t,x,rfl⟩)))
 nmo:=h
 ren:=fun Yz h' =>G.ren Yz h'
 dk:=fun hk Yz h' =>G.dk hk Yz h'
theorem Tryz.Good.unit(G:Tryz.Good s c)(hk:c.k=4):Tryz.Good s { c with x24:=[122] } where
 toabd:=G.dk hk c.nm G.nmo
 form:=by
  rcases G.form with⟨_,B,U,S,e,hB⟩ | ⟨_,n,o,v,e⟩ | ⟨_,n,L,v,e⟩ | ⟨nm,n,o,w,x,e⟩ | ⟨_,t,x,e⟩
  ·rw[e] at hk;exact absurd hk (by show¬((1:Int)=4);decide)
  ·rw[e] at hk;exact absurd hk (by show¬((2:Int)=4);decide)
  ·rw[e] at hk;exact absurd hk (by show¬((3:Int)=4);decide)
  ·rw[e];exact .inr (.inr (.inr (.inl ⟨nm,n,o,w,[122],rfl⟩)))
  ·rw[e] at hk;exact absurd hk (by show¬((5:Int)=4);decide)
 nmo:=G.nmo
 ren:=fun Yz h' =>G.dk hk Yz h'
 dk:=fun _ Yz h' =>G.dk hk Yz h'
end
section
variable {s:aaf}{p t q q' x:Nat}{evs:List (List AV)}{cs:List Evc}{M nw:Mem}{v:List AV}{c' :Evc}
theorem Tryz.aaE.acM(H:aaE s p t q evs cs M)(hx:x<evs.length)(G:Tryz.Good s c')(hv:aaI (M++nw) v c')(hq:∃o,(M++nw)[q']? =some (.cells o 32 (evs.set x v).flatten)):aaE s p t q' (evs.set x v) (cs.set x c') (M++nw) where
 hp:=(H.more _).hp
 ht:=(H.more _).ht
 hq:=fun _=>hq
 len:=by rw[List.length_set,List.length_set];exact H.len
 small:=by rw[List.length_set];exact H.small
 abf:=fun c hc=>by
  rcases List.mem_or_eq_of_mem_set hc with h | h
  ·exact H.abf c h
  ·rw[h];exact G
 con:=fun i e c h1 h2=>by
  by_cases hi:x=i
  ·subst hi
   rw[List.getElem?_set_self hx] at h1;rw[List.getElem?_set_self (by rw[←H.len];exact hx)] at h2;cases h1;cases h2;exact hv
  ·rw[List.getElem?_set_ne hi] at h1 h2
   exact(H.more nw).con i e c h1 h2
theorem Tryz.aaE.abY(H:aaE s p t q evs cs M){T:Nat}(hT:M.length≤T)(h0:0<cs.length){h' :List AV}(k i:Nat)(rh:aaZ T h'){e:List AV}(he:evs[x]? =some e){b:AV}(hb:∀f,b.HK f=true){j:Nat}:OkN T [.cells true 0 h',.cells true 0 [.int .u8 (k:Int),.int .u8 (i:Int)],.cells true 0 h',.qF,.cells true 32 (evs.set x (e.set j b)).flatten]:=fun f hf=>by
 have key:∀u∈evs,AV.aaa f u=true:=fun u hu=>by obtain⟨j,hj⟩:=List.getElem?_of_mem hu;have hl:=(List.getElem?_eq_some_iff.1 hj).1;have:=(H.con j u _ hj (List.getElem?_eq_getElem (by rw[←H.len];exact hl))).refs 0;exact AV.aan (fun b hb=>hf b (by simp only[decide_eq_true_eq] at hb;omega)) u this
 have hset:∀(e:List AV) (j:Nat),AV.aaa f e=true→AV.aaa f (e.set j b)=true:=by
  intro e;induction e with
  |nil=>intro j h;exact h
  |cons y e ih=>
   intro j h;simp only[AV.aaa,Bool.and_eq_true] at h;cases j with
   |zero=>simp only[List.set_cons_zero,AV.aaa,hb f,h.2,Bool.and_self]
   |succ j=>simp only[List.set_cons_succ,AV.aaa,h.1,ih j h.2,Bool.and_self]
 have h1:=rh f hf;have h2:AV.aaa f (evs.set x (e.set j b)).flatten=true:=dI fun w hw=>by
  rcases List.mem_or_eq_of_mem_set hw with h | h
  ·exact key w h
  ·rw[h];exact hset e j (key e (List.mem_of_getElem? he))
 have h4:fj .qF=true:=rfl;simp only[List.all_cons,List.all_nil,h1,h2,h4,du,gw,AV.aaa,AV.HK,nr,Bool.and_self]
end
theorem Jv{s:aaf}{p t q:Nat}{evs:List (List AV)}{cs:List Evc}{M:Mem}(H:aaE s p t q evs cs M)(hd:zm [bm] (cs.map unE)=false)(k i:Nat)(hi:i<256)(h0:0<cs.length){c:Evc}(hc:cs[i%cs.length]? =some c)(h1:2≤i)(h5:i≤6)(H':c.k≠(i:Int)-1)(hk:(k:Int).tmod 8=5):eg (cI s p t q cs.length) k i M:=by
 obtain⟨O,hO,eK⟩:=H.aaQ [.cells true 0 (cI s p t q cs.length),.cells true 0 [.int .u8 (k:Int),.int .u8 (i:Int)],.cells true 0 [.kO,.kO,.str [],.kO]] rfl;have YU:=H.small;have A':∀N,dY (aC prog) 39 N (clV (M.length+3) cs.length)=some (.int .i64 cs.length):=fun N=>cB (M.length+4) cs.length N
 have c4:=mZ (M.length+3) cs.length;obtain⟨x,hx⟩:∃x,x=i%cs.length:=⟨_,rfl⟩
 rw[←hx] at hc;have XO:x<evs.length:=by rw[H.len,hx];exact Nat.mod_lt _ h0
 obtain⟨e,he⟩:∃e,evs[x]? =some e:=⟨_,List.getElem?_eq_getElem XO⟩
 have hE:=H.con x e c he hc;have G:=H.abf c (List.mem_of_getElem? hc);obtain⟨b,u,sv,kn,rfl,e1,e2,e3,e4⟩:=hE;have WQ:aaI M (c.cells b u sv kn) c:=⟨b,u,sv,kn,rfl,e1,e2,e3,e4⟩;have hr:=pK (k:=k) (i:=i) (x:=x) (D:=evs.flatten) (rfl:(AV.slice p 0 s.P.length none).qK=true) (rfl:(AV.slice t 0 s.T.length none).qK=true) (dn q cs.length) c4 (kx (M.length+3) cs.length) (ky (M.length+3) cs.length) (by omega) hi A' eK (by unfold clV;rw[if_neg (by omega)]) (by unfold clX;rw[if_neg (by omega)]) H.flat h0 hx hk;have hs:=bn af (aw _) hO (ax _) hr;have YV:=qJ (j:=0) (.int .i64 ((i:Int)-1)) H.l32 he (by omega);rw[Nat.add_zero] at YV;rw[YV] at hs;obtain⟨h',hh⟩:∃h',h' =cI s p t (M.length+4) cs.length:=⟨_,rfl⟩
 have e0:[AV.slice p 0 s.P.length none,.slice t 0 s.T.length none,.str bm,clV (M.length+3) cs.length]=h' :=by rw[hh];rfl
 rw[e0] at hs;obtain⟨nw,Xm⟩:∃nw:Mem,nw=[.cells true 0 h',.cells true 0 [.int .u8 (k:Int),.int .u8 (i:Int)],.cells true 0 h',.qF,.cells true 32 (evs.set x ((c.cells b u sv kn).set 0 (.int .i64 ((i:Int)-1)))).flatten]:=⟨_,rfl⟩
 rw[←Xm] at hs;have rh:aaZ (M.length+5) h' :=by
  have:=(H.aaS (.cells true 0 h') (.cells true 0 h') (.cells true 0 h') []).refs
  rwa [List.length_append,←hh] at this
 have ok:OkN (M.length+5) nw:=by rw[Xm];exact H.abY (by omega) h0 k i rh he (fun _=>rfl)
 have lv:((c.cells b u sv kn).set 0 (.int .i64 ((i:Int)-1))).length=32:=rfl;have cv:∀y∈(c.cells b u sv kn).set 0 (.int .i64 ((i:Int)-1)),y.qK=true:=fun y hy=>by
  rcases List.mem_or_eq_of_mem_set hy with h | h
  ·exact H.cok _ (List.mem_of_getElem? he) y h
  ·rw[h];rfl
 have H2:=H.more nw;have hb:∀Z,_:=fun Z=>jF (q' :=M.length+4) (e:=7) (H2.more Z) hd rfl rfl XO lv cv ⟨true,by rw[List.append_assoc,Xm,dO];rfl⟩ (fun X=>Gz (((H2.more Z).more X).hp) (((H2.more Z).more X).ht) G (((WQ.more nw).more Z).more X) (by omega) (by omega) H') (by decide)
 rw[H.len] at hb;refine⟨_,_,evV (M.length+4) cs.length,bm,nw,7,by rw[hh] at hs;exact hs,⟨rfl,rfl,dn _ _,rfl,rfl,jE _ _⟩,fun Z=>(hb Z).1,fun Z=>(hb Z).2,by rw[Xm] at ok ⊢;exact ok,?_⟩;rw[hh] at rh;rw[Xm];exact rh
theorem Jz{s:aaf}{p t q:Nat}{evs:List (List AV)}{cs:List Evc}{M:Mem}(H:aaE s p t q evs cs M)(hd:zm [bm] (cs.map unE)=false)(k i:Nat)(hi:i<256)(h0:0<cs.length){c:Evc}(hc:cs[i%cs.length]? =some c)(H':c.k≠4)(hk:(k:Int).tmod 8=7):eg (cI s p t q cs.length) k i M:=by
 obtain⟨O,hO,eK⟩:=H.aaQ [.cells true 0 (cI s p t q cs.length),.cells true 0 [.int .u8 (k:Int),.int .u8 (i:Int)],.cells true 0 [.kO,.kO,.str [],.kO]] rfl;have YU:=H.small;have A':∀N,dY (aC prog) 39 N (clV (M.length+3) cs.length)=some (.int .i64 cs.length):=fun N=>cB (M.length+4) cs.length N
 have c4:=mZ (M.length+3) cs.length;obtain⟨x,hx⟩:∃x,x=i%cs.length:=⟨_,rfl⟩
 rw[←hx] at hc;have XO:x<evs.length:=by rw[H.len,hx];exact Nat.mod_lt _ h0
 obtain⟨e,he⟩:∃e,evs[x]? =some e:=⟨_,List.getElem?_eq_getElem XO⟩
 have hE:=H.con x e c he hc;have G:=H.abf c (List.mem_of_getElem? hc);obtain⟨b,u,sv,kn,rfl,e1,e2,e3,e4⟩:=hE;have WQ:aaI M (c.cells b u sv kn) c:=⟨b,u,sv,kn,rfl,e1,e2,e3,e4⟩;have hr:=xf (k:=k) (i:=i) (x:=x) (D:=evs.flatten) (rfl:(AV.slice p 0 s.P.length none).qK=true) (rfl:(AV.slice t 0 s.T.length none).qK=true) (dn q cs.length) c4 (kx (M.length+3) cs.length) (ky (M.length+3) cs.length) (by omega) hi A' eK (by unfold clV;rw[if_neg (by omega)]) (by unfold clX;rw[if_neg (by omega)]) H.flat h0 hx hk;have hs:=bn af (aw _) hO (ax _) hr;have YV:=qJ (j:=24) (.str [122]) H.l32 he (by omega);rw[YV] at hs;obtain⟨h',hh⟩:∃h',h' =cI s p t (M.length+4) cs.length:=⟨_,rfl⟩
 have e0:[AV.slice p 0 s.P.length none,.slice t 0 s.T.length none,.str bm,clV (M.length+3) cs.length]=h' :=by rw[hh];rfl
 rw[e0] at hs;obtain⟨nw,Xm⟩:∃nw:Mem,nw=[.cells true 0 h',.cells true 0 [.int .u8 (k:Int),.int .u8 (i:Int)],.cells true 0 h',.qF,.cells true 32 (evs.set x ((c.cells b u sv kn).set 24 (.str [122]))).flatten]:=⟨_,rfl⟩
 rw[←Xm] at hs;have rh:aaZ (M.length+5) h' :=by
  have:=(H.aaS (.cells true 0 h') (.cells true 0 h') (.cells true 0 h') []).refs
  rwa [List.length_append,←hh] at this
 have ok:OkN (M.length+5) nw:=by rw[Xm];exact H.abY (by omega) h0 k i rh he (fun _=>rfl)
 have lv:((c.cells b u sv kn).set 24 (.str [122])).length=32:=rfl;have cv:∀y∈(c.cells b u sv kn).set 24 (.str [122]),y.qK=true:=fun y hy=>by
  rcases List.mem_or_eq_of_mem_set hy with h | h
  ·exact H.cok _ (List.mem_of_getElem? he) y h
  ·rw[h];rfl
 have H2:=H.more nw;have hb:∀Z,_:=fun Z=>jF (q' :=M.length+4) (e:=7) (H2.more Z) hd rfl rfl XO lv cv ⟨true,by rw[List.append_assoc,Xm,dO];rfl⟩ (fun X=>GA (((H2.more Z).more X).hp) (((H2.more Z).more X).ht) G (((WQ.more nw).more Z).more X) H') (by decide)
 rw[H.len] at hb;refine⟨_,_,evV (M.length+4) cs.length,bm,nw,7,by rw[hh] at hs;exact hs,⟨rfl,rfl,dn _ _,rfl,rfl,jE _ _⟩,fun Z=>(hb Z).1,fun Z=>(hb Z).2,by rw[Xm] at ok ⊢;exact ok,?_⟩;rw[hh] at rh;rw[Xm];exact rh
theorem Jt{s:aaf}{p t q:Nat}{evs:List (List AV)}{cs:List Evc}{M:Mem}(H:aaE s p t q evs cs M)(hd:zm [bm] (cs.map unE)=false)(k i:Nat)(hi:i<256)(h0:0<cs.length){c:Evc}(hc:cs[i%cs.length]? =some c)(hke:c.k=4)(hk:(k:Int).tmod 8=7):eg (cI s p t q cs.length) k i M:=by
 obtain⟨O,hO,eK⟩:=H.aaQ [.cells true 0 (cI s p t q cs.length),.cells true 0 [.int .u8 (k:Int),.int .u8 (i:Int)],.cells true 0 [.kO,.kO,.str [],.kO]] rfl;have YU:=H.small;have A':∀N,dY (aC prog) 39 N (clV (M.length+3) cs.length)=some (.int .i64 cs.length):=fun N=>cB (M.length+4) cs.length N
 have c4:=mZ (M.length+3) cs.length;obtain⟨x,hx⟩:∃x,x=i%cs.length:=⟨_,rfl⟩
 rw[←hx] at hc;have XO:x<evs.length:=by rw[H.len,hx];exact Nat.mod_lt _ h0
 obtain⟨e,he⟩:∃e,evs[x]? =some e:=⟨_,List.getElem?_eq_getElem XO⟩
 have hE:=H.con x e c he hc;have G:=H.abf c (List.mem_of_getElem? hc);obtain⟨b,u,sv,kn,rfl,e1,e2,e3,e4⟩:=hE;have WQ:aaI M (c.cells b u sv kn) c:=⟨b,u,sv,kn,rfl,e1,e2,e3,e4⟩;have hr:=xf (k:=k) (i:=i) (x:=x) (D:=evs.flatten) (rfl:(AV.slice p 0 s.P.length none).qK=true) (rfl:(AV.slice t 0 s.T.length none).qK=true) (dn q cs.length) c4 (kx (M.length+3) cs.length) (ky (M.length+3) cs.length) (by omega) hi A' eK (by unfold clV;rw[if_neg (by omega)]) (by unfold clX;rw[if_neg (by omega)]) H.flat h0 hx hk;have hs:=bn af (aw _) hO (ax _) hr;have YV:=qJ (j:=24) (.str [122]) H.l32 he (by omega);rw[YV] at hs;obtain⟨h',hh⟩:∃h',h' =cI s p t (M.length+4) cs.length:=⟨_,rfl⟩
 have e0:[AV.slice p 0 s.P.length none,.slice t 0 s.T.length none,.str bm,clV (M.length+3) cs.length]=h' :=by rw[hh];rfl
 rw[e0] at hs;obtain⟨nw,Xm⟩:∃nw:Mem,nw=[.cells true 0 h',.cells true 0 [.int .u8 (k:Int),.int .u8 (i:Int)],.cells true 0 h',.qF,.cells true 32 (evs.set x ((c.cells b u sv kn).set 24 (.str [122]))).flatten]:=⟨_,rfl⟩
 rw[←Xm] at hs;have rh:aaZ (M.length+5) h' :=by
  have:=(H.aaS (.cells true 0 h') (.cells true 0 h') (.cells true 0 h') []).refs
  rwa [List.length_append,←hh] at this
 have ok:OkN (M.length+5) nw:=by rw[Xm];exact H.abY (by omega) h0 k i rh he (fun _=>rfl)
 have hev' :aaI (M++nw) ((c.cells b u sv kn).set 24 (.str [122])) { c with x24:=[122] }:=⟨b,u,sv,kn,rfl,e1.more nw,e2.more nw,e3.more nw,e4.more nw⟩;have H2:=H.acM (q' :=M.length+4) XO (G.unit hke) hev' ⟨true,by rw[Xm,dO];rfl⟩;have WZ:(cs.set x { c with x24:=[122] }).length=cs.length:=List.length_set;refine⟨_,_,evV (M.length+4) cs.length,bm,nw,bif zm [bm] ((cs.set x { c with x24:=[122] }).map unE) then 9 else 0,by rw[hh] at hs;exact hs,⟨rfl,rfl,dn _ _,rfl,rfl,jE _ _⟩,fun Z=>?_,fun Z=>?_,by rw[Xm] at ok ⊢;exact ok,?_⟩
 ·have:=((H2.more Z).aaP bm cr cn).1
  rwa [WZ] at this
 ·have:=((H2.more Z).aaP bm cr cn).2
  rwa [WZ] at this
 ·rw[hh] at rh
  rw[Xm];exact rh
end Go.Proofs
namespace Go.Proofs
open Go.Eng
open Tryz
variable{M:Mem}{cs:List Evc}{evs:List (List AV)}{p q t:Nat}{s:aaf}
theorem Ju(H:aaE s p t q evs cs M)(k i:Nat)(hi:i<256)(h0:0<cs.length){c:Evc}(hc:cs[i%cs.length]? =some c)(hi3:i%4=3)(hk:(k:Int).tmod 8=6):eg (cI s p t q cs.length) k i M:=by
 obtain⟨O,hO,eK⟩:=H.aaQ [.cells true 0 (cI s p t q cs.length),.cells true 0 [.int .u8 (k:Int),.int .u8 (i:Int)],.cells true 0 [.kO,.kO,.str [],.kO]] rfl;have YU:=H.small;have A':∀N,dY (aC prog) 39 N (clV (M.length+3) cs.length)=some (.int .i64 cs.length):=fun N=>cB (M.length+4) cs.length N
 have c4:=mZ (M.length+3) cs.length;obtain⟨x,hx⟩:∃x,x=i%cs.length:=⟨_,rfl⟩
 rw[←hx] at hc;have XO:x<evs.length:=by rw[H.len,hx];exact Nat.mod_lt _ h0
 obtain⟨e,he⟩:∃e,evs[x]? =some e:=⟨_,List.getElem?_eq_getElem XO⟩
 have hE:=H.con x e c he hc;have G:=H.abf c (List.mem_of_getElem? hc);obtain⟨b,u,sv,kn,rfl,e1,e2,e3,e4⟩:=hE;have rD:∀j,AV.aaa (fun b=>decide (b<M.length+j)) evs.flatten=true:=fun j=>dI fun u hu=>by obtain⟨l,hl⟩:=List.getElem?_of_mem hu;have WZ:=(List.getElem?_eq_some_iff.1 hl).1;exact(H.con l u _ hl (List.getElem?_eq_getElem (by rw[←H.len];exact WZ))).refs j
 have h5:(i:Int).tmod 4=3:=by have:(i:Int).tmod 4=((i%4:Nat):Int):=rfl;rw[this,hi3];rfl
 have hr:=Ca (k:=k) (i:=i) (x:=x) (D:=evs.flatten) (rfl:(AV.slice p 0 s.P.length none).qK=true) (rfl:(AV.slice t 0 s.T.length none).qK=true) (dn q cs.length) c4 (kx (M.length+3) cs.length) (ky (M.length+3) cs.length) (by omega) hi A' eK (by unfold clV;rw[if_neg (by omega)]) (by unfold clX;rw[if_neg (by omega)]) H.flat h0 hx H.acQ.refs H.acR.refs rD hk h5;have hs:=bn af (aw _) hO (ax _) hr;have YV:=qJ (j:=1) (.str [102,105,110,101]) H.l32 he (by omega);rw[YV] at hs;obtain⟨NS,hNS⟩:∃x:aae,x=.cells true 1 [.str [],.str [57],.str [120,45],.str [102,105,110,101]]:=⟨_,rfl⟩
 obtain⟨h',hh⟩:∃h',h' =cI s p t (M.length+4) cs.length:=⟨_,rfl⟩
 have e0:[AV.slice p 0 s.P.length none,.slice t 0 s.T.length none,.str bm,clV (M.length+3) cs.length]=h' :=by rw[hh];rfl
 rw[e0,←hNS] at hs;obtain⟨nw,Xm⟩:∃nw:Mem,nw=[.cells true 0 h',.cells true 0 [.int .u8 (k:Int),.int .u8 (i:Int)],.cells true 0 h',.qF,.cells true 32 (evs.set x ((c.cells b u sv kn).set 1 (.str [102,105,110,101]))).flatten]++[NS]:=⟨_,rfl⟩
 have hnw' :nw=[.cells true 0 h',.cells true 0 [.int .u8 (k:Int),.int .u8 (i:Int)],.cells true 0 h',.qF,.cells true 32 (evs.set x ((c.cells b u sv kn).set 1 (.str [102,105,110,101]))).flatten,NS]:=Xm;rw[←hnw'] at hs;have rh:aaZ (M.length+6) h' :=by have:=(H.aaS (.cells true 0 h') (.cells true 0 h') (.cells true 0 h') []).refs;rw[List.length_append,←hh] at this;exact this.up (by simp)
 have ok:OkN (M.length+6) nw:=by rw[Xm];exact(H.abY (by omega) h0 k i rh he (fun _=>rfl)).append fun f _=>by rw[hNS];rfl
 have hev' :aaI (M++nw) ((c.cells b u sv kn).set 1 (.str [102,105,110,101])) { c with nm:=[102,105,110,101] }:=⟨b,u,sv,kn,rfl,e1.more nw,e2.more nw,e3.more nw,e4.more nw⟩;have H2:=H.acM (q' :=M.length+4) XO (G.name (nm:=[102,105,110,101]) (by decide)) hev' ⟨true,by rw[hnw',dO];rfl⟩;have WZ:(cs.set x { c with nm:=[102,105,110,101] }).length=cs.length:=List.length_set;refine⟨_,_,evV (M.length+4) cs.length,bm,nw,bif zm [bm] ((cs.set x { c with nm:=[102,105,110,101] }).map unE) then 9 else 0,by rw[hh] at hs;exact hs,⟨rfl,rfl,dn _ _,rfl,rfl,jE _ _⟩,fun Z=>?_,fun Z=>?_,by rw[hnw'] at ok ⊢;exact ok,?_⟩
 ·have:=((H2.more Z).aaP bm cr cn).1
  rwa [WZ] at this
 ·have:=((H2.more Z).aaP bm cr cn).2
  rwa [WZ] at this
 ·rw[hh] at rh
  rw[hnw'];exact rh
def Qk:Evc:=J7 [116] (1,0,0,0) (0,0,0)
def U8:List AV:=Qk.cells .kO .kO .kO .kO
theorem T8(N:Mem):aaI N U8 Qk:=ve rfl rfl rfl rfl rfl
theorem Co(s:aaf):Tryz.Good s Qk:=sB s [116] 5 (0,0,0) (by decide) (by decide)
variable{N0:Mem}{O:aac}{i k n:Nat}{w:Code}
theorem JG{N:Mem}{kc K m1:Nat}{E:AV}{T:List AV}(hkM:M.length≤kc)(hk0:kc<N0.length)(hp:p<N.length)(ht:t<N.length)(hi:i<256)(I:CpI N0 kc (.slice p 0 s.P.length none) (.slice t 0 s.T.length none) cs N n E evs)(Zj:∀x∈evs,x.length=32)(hER:∀m,AV.aaa (fun b=>decide (b<N.length+m)) evs.flatten=true)(YB:N[kc+1]? =some (.cells true 0 [.int .u8 (k:Int),.int .u8 (i:Int)]))(AC:n<11+i%4)(hO:∀N,O (.fn 21) [.int .i64 0,.int .i64 0,.int .i64 0] N=some ⟨.agg [.str [48],.str [48],.str [48]],none,[]⟩)(hT:T=U8)(hw:aj f19=[w]){y':Env}{dd:Bool}(h2:aa y' 2=.ptr kc 0)(h3:aa y' 3=.ptr (kc+1) 0):
  ∃N2 s',N2.length=N.length∧((n=0∧N2=N)∨∃kr,E=.slice kr 0 n none∧0<n∧N2=N.set kr .qF)∧aQ (aC prog) (fun _=>[5,5,5]) O K 119 M.length true w ⟨az [5,5,5] (ab w) y' y',N,dd⟩=some (.normal,s')∧
   qV [5,5,5] (ab w) y' m1 s' =⟨az [5,5,5] (ab w) y' y',N2.set kc (.cells true 0 [.slice p 0 s.P.length none,.slice t 0 s.T.length none,.str bm,.slice (N.length+1) 0 (n+1) none])++[.cells true 32 T,.cells true 32 (evs.flatten++T)],dd⟩:=by
 have hll:=I.len;have hkN:kc<N.length:=by omega
 have hkN1:=(List.getElem?_eq_some_iff.1 YB).1;have YV:evs.flatten.length=n*32:=by rw[NP Zj,I.evl]
 have WM :=bH (rfl:aP f19=_) (ls:=[[0,1,0,0,12,28,60,127,255,511],[0,1,0,4,0,28,60,124,255,511,1023],[0,1,0,0,0,16,48,120,248,511,1023,2047]]) (by kernel_rfl);simp only[aP,bQ,f19,List.nil_append,List.append_nil,List.cons_append,List.map_cons,List.map_nil,List.cons.injEq,and_true] at WM;obtain⟨WS,hb1,WE⟩:=WM;have ti:(i:Int).tmod 4=((i%4:Nat):Int):=rfl;obtain⟨j,hj⟩:∃j,j=i%4:=⟨_,rfl⟩
 have hj4:j<4:=by omega
 rw[←hj] at ti AC;have wj:IntKind.i64.wrap (j:Int)=(j:Int):=ai (by omega) (by omega);have wj2:IntKind.i64.wrap (11+(j:Int))=11+(j:Int):=ai (by omega) (by omega);have WD :(n:Int)<11+(j:Int):=by omega
 have hlt0:(0:Int)<11+(j:Int):=by omega
 have hd:decide ((n:Int)<11+(j:Int))=true:=decide_eq_true WD;have hd0:decide ((0:Int)<11+(j:Int))=true:=decide_eq_true hlt0;have WB:∀j,(N.length+j<M.length)=False:=fun j=>by rw[eq_iff_iff,iff_false];omega
 have Z0:(N.length<M.length)=False:=by rw[eq_iff_iff,iff_false];omega
 have hkm:¬kc<M.length:=by omega
 have lT:T.length=32:=by rw[hT];rfl
 have cT:T.all AV.qK=true:=by rw[hT];rfl
 have gT:(∀y:AV,y∈T→y.qK=true)=True:=eq_true (List.all_eq_true.1 cT);have t32:T.take 32=T:=List.take_of_length_le (by omega);have rT:∀f,AV.aaa f T=true:=fun f=>by rw[hT];rfl
 have eT:[AV.int .i64 5,.str [116],.kO,.kO,.kO,.str [],.str [],.str [],.str [],.str [],.str [],.str [],.str [],.str [],.str [],.kO,.str [],.str [],.str [],.str [],.str [],.str [],.str [],.str [],.str [],.int .i64 1,.int .i64 0,.int .i64 0,.int .i64 0,.str [48],.str [48],.str [48]]=T:=by rw[hT];rfl
 have p2:∀j,(p<N.length+j)=True:=fun j=>by rw[eq_iff_iff,iff_true];omega
 have t2:∀j,(t<N.length+j)=True:=fun j=>by rw[eq_iff_iff,iff_true];omega
 have k2:∀j,(kc<N.length+j)=True:=fun j=>by rw[eq_iff_iff,iff_true];omega
 have k5:∀j,(N.length+j≤kc)=False:=fun j=>by rw[eq_iff_iff,iff_false];omega
 have k3:∀j,(kc=N.length+j)=False:=fun j=>by rw[eq_iff_iff,iff_false];omega
 have k4:(kc=N.length)=False:=by rw[eq_iff_iff,iff_false];omega
 have k6:∀j,(N.length+j=kc)=False:=fun j=>by rw[eq_iff_iff,iff_false];omega
 have k7:(N.length=kc)=False:=by rw[eq_iff_iff,iff_false];omega
 have k8:(N.length≤kc)=False:=by rw[eq_iff_iff,iff_false];omega
 obtain⟨Fl,hFl⟩:∃Fl,Fl=evs.flatten:=⟨_,rfl⟩
 rw[←hFl] at YV hER ⊢;have WK:=I.cell;have hc1:∀Z,(N++Z)[kc]? =some (.cells true 0 [.slice p 0 s.P.length none,.slice t 0 s.T.length none,.str bm,E]):=fun Z=>by rw[List.getElem?_append_left hkN];exact WK
 have XJ:∀Z,(N++Z)[kc+1]? =some (.cells true 0 [.int .u8 (k:Int),.int .u8 (i:Int)]):=fun Z=>by rw[List.getElem?_append_left hkN1];exact YB
 simp[aj,aD,f19] at hw;have row:=I.row;rw[←hFl] at row;clear I hp ht hT;subst hw;rcases row with⟨rfl,rfl⟩ | ⟨kr,rfl,h0,hkr0,ZL⟩
 ·have:Fl=[]:=List.eq_nil_of_length_eq_zero (by omega)
  subst this;have Zn:∀Z s,(N++Z).set kc s=N.set kc s++Z:=fun Z s=>List.set_append_left _ _ hkN
  refine⟨N,?_⟩;have gS:∀x Z,(N.set kc x++Z)[kc]? =some x:=fun x Z=>by rw[List.getElem?_append_left (by rw[List.length_set];exact hkN),List.getElem?_set_self hkN]
  have dS:∀(x:aae) (Z:Mem) (j:Nat),(N.set kc x++Z).drop (N.length+j)=Z.drop j:=fun x Z j=>by rw[List.drop_append,List.drop_of_length_le (by rw[List.length_set];omega),List.length_set,Nat.add_sub_cancel_left,List.nil_append]
  refine zo rfl (.inl ⟨rfl,rfl⟩) ?_;simp[-getElem?_pos,-AV.qK,-AV.known,-AV.cells,-eI,-bD,-bh,-ay,-AV.HK,-aae.HK,-List.all_eq_true,vS,rS,mS,fa,br WS,cO,eB,fg,cY,cj,iT,bef,Nat.testBit,bO,aL,h2,h3,WK,YB,ti,wj,wj2,hlt0,hkN,hc1,Zn,gS,dS,hO,eT,lT,cT,t32,rT,p2,t2,k2,k4,k5,k8,hkm]
 ·have lkr:=(List.getElem?_eq_some_iff.1 ZL).1
  have hkr' :∀Z,(N++Z)[kr]? =some (.cells true 32 Fl):=fun Z=>by rw[List.getElem?_append_left lkr];exact ZL
  have tF:Fl.take (n*32)=Fl:=List.take_of_length_le (by omega);have lF:n*32≤Fl.length:=by omega
  have n1:(n+1)*504≤140737488355328:=by omega
  have n2:n+1≤140737488355328:=by omega
  have E1:=hER 1;have E2:=hER 2;obtain⟨N2,Xp⟩:∃N2,N2=N.set kr .qF:=⟨_,rfl⟩
  have Zm:N2.length=N.length:=by rw[Xp,List.length_set]
  have Zn:∀Z,(N++Z).set kr .qF=N2++Z:=fun Z=>by rw[Xp];exact List.set_append_left _ _ lkr
  have Yj:∀Z s,(N2++Z).set kc s=N2.set kc s++Z:=fun Z s=>List.set_append_left _ _ (by omega)
  have hkk:kr≠kc:=by omega
  have hc2:∀Z,(N2++Z)[kc]? =some (.cells true 0 [.slice p 0 s.P.length none,.slice t 0 s.T.length none,.str bm,.slice kr 0 n none]):=fun Z=>by rw[List.getElem?_append_left (by omega),Xp,List.getElem?_set_ne hkk];exact WK
  have q2:∀j,(kr<N.length+j)=True:=fun j=>by rw[eq_iff_iff,iff_true];omega
  have q3:∀j,(kr=N.length+j)=False:=fun j=>by rw[eq_iff_iff,iff_false];omega
  have q4:(kr=N.length)=False:=by rw[eq_iff_iff,iff_false];omega
  have q5:∀j,(N.length+j≤kr)=False:=fun j=>by rw[eq_iff_iff,iff_false];omega
  have q6:(kc=kr)=False:=by rw[eq_iff_iff,iff_false];omega
  have q7:¬kr<M.length:=by omega
  have q8:(N.length≤kr)=False:=by rw[eq_iff_iff,iff_false];omega
  have m2:∀j Z,(N2++Z)[N.length+j]? =Z[j]? :=fun j Z=>by rw[←Zm];exact dO _ _ _
  have m3:∀Z,(N2++Z)[N.length]? =Z[0]? :=fun Z=>by rw[←Zm];exact FE _ _
  refine⟨N2,?_⟩;have gS:∀x Z,(N2.set kc x++Z)[kc]? =some x:=fun x Z=>by rw[List.getElem?_append_left (by rw[List.length_set];omega),List.getElem?_set_self (by omega)]
  have dS:∀(x:aae) (Z:Mem) (j:Nat),(N2.set kc x++Z).drop (N.length+j)=Z.drop j:=fun x Z j=>by rw[List.drop_append,List.drop_of_length_le (by rw[List.length_set];omega),List.length_set,Zm,Nat.add_sub_cancel_left,List.nil_append]
  have gK:∀Z,(N2++Z)[kr]? =some .qF:=fun Z=>by rw[List.getElem?_append_left (by omega),Xp,List.getElem?_set_self (by omega)]
  have dN:∀(Z:Mem) (j:Nat),(N2++Z).drop (N.length+j)=Z.drop j:=fun Z j=>by rw[List.drop_append,List.drop_of_length_le (by omega),Zm,Nat.add_sub_cancel_left,List.nil_append]
  refine zo Zm (.inr ⟨kr,rfl,h0,Xp⟩) ?_;simp[-getElem?_pos,-AV.qK,-AV.known,-AV.cells,-eI,-bD,-bh,-ay,-AV.HK,-aae.HK,-List.all_eq_true,vS,rS,mS,fa,br WS,cO,eB,fg,cY,cj,iT,bef,Nat.testBit,bO,aL,h2,h3,WK,YB,ti,wj,wj2,WD,hkN,lkr,hc1,hc2,Zn,Yj,hkr',tF,lF,n1,n2,Zm,gS,dS,gK,dN,hO,eT,lT,cT,t32,rT,E2,p2,t2,k2,k4,k5,k8,q4,q6,q7,hkm]
def tlC(cs:List Evc):List Evc:=cs++List.replicate 14 Qk
theorem VT(h1:cs.length≤n)(h2:n<cs.length+14):(tlC cs)[n]? =some Qk:=by unfold tlC;rw[List.getElem?_append_right h1,List.getElem?_replicate,if_pos (by omega)]
theorem U9(h:n<cs.length):(tlC cs)[n]? =cs[n]? :=List.getElem?_append_left h
theorem JF{N1:Mem}{n0:Nat}{X0 X1 X2 X3:aae}{E0:AV}{acL:List (List AV)}(Xq:N0=M++[X0,X1,X2,X3])(hX1:X1=.cells true 0 [.int .u8 (k:Int),.int .u8 (i:Int)])(hi:i<256)(UV:cs.length=n0)(h4:n0≤4)(hp:p<M.length)(ht:t<M.length)(I0:CpI N0 M.length (.slice p 0 s.P.length none) (.slice t 0 s.T.length none) (tlC cs) N1 n0 E0 acL)(hO:∀N,O (.fn 21) [.int .i64 0,.int .i64 0,.int .i64 0] N=some ⟨.agg [.str [48],.str [48],.str [48]],none,[]⟩)(hw:aj f19=[w]):
  ∃F:Env→Bool→Env×Mem×(AV×List (List AV)),∀y' d,(aa y' 2=.ptr M.length 0∧aa y' 3=.ptr (M.length+1) 0)→
   aQ (aC prog) (fun _=>[5,5,5]) O 20 119 M.length true (.loop w) ⟨y',N1,d⟩=some (.exit 1,⟨(F y' d).1,(F y' d).2.1,d⟩)∧
    (CpI N0 M.length (.slice p 0 s.P.length none) (.slice t 0 s.T.length none) (tlC cs) (F y' d).2.1 (11+i%4) (F y' d).2.2.1 (F y' d).2.2.2∧aa (F y' d).1 2=.ptr M.length 0∧aa (F y' d).1 4=aa y' 4):=by
 have lN0:N0.length=M.length+4:=by rw[Xq];simp
 refine kF (L:=[5,5,5]) rfl (fun y'=>aa y' 2=.ptr M.length 0∧aa y' 3=.ptr (M.length+1) 0)
  (fun y' z' N' (x:AV×List (List AV))=>CpI N0 M.length (.slice p 0 s.P.length none) (.slice t 0 s.T.length none) (tlC cs) N' (11+i%4) x.1 x.2∧aa z' 2=.ptr M.length 0∧aa z' 4=aa y' 4) ?_
 rintro y' d ⟨h2,h3⟩;refine jS (α:=Nat×Mem×AV×List (List AV)) (fun a=>⟨az [5,5,5] (ab w) y' y',a.2.1,d⟩) (fun a=>11+i%4-a.1)
  (fun a=>n0≤a.1∧a.1≤11+i%4∧CpI N0 M.length (.slice p 0 s.P.length none) (.slice t 0 s.T.length none) (tlC cs) a.2.1 a.1 a.2.2.1 a.2.2.2) (.exit 1) d
  (fun z' N' =>∃x:AV×List (List AV),CpI N0 M.length (.slice p 0 s.P.length none) (.slice t 0 s.T.length none) (tlC cs) N' (11+i%4) x.1 x.2∧aa z' 2=.ptr M.length 0∧aa z' 4=aa y' 4) (by simp) ?_ 20 (n0,N1,E0,acL) ⟨Nat.le_refl _,by simp only;omega,I0⟩ (by simp only;omega)
 rintro ⟨n,N,E,evs⟩ ⟨g1,g2,I⟩;simp only at g1 g2 I;have hll:=I.len;have YB:N[M.length+1]? =some (.cells true 0 [.int .u8 (k:Int),.int .u8 (i:Int)]):=by rw[I.same _ (by omega) (by omega),Xq,dO,hX1];rfl
 have hcon:∀x∈evs,∃c,aaI N x c:=fun x hx=>by
  obtain⟨j,hj⟩:=List.getElem?_of_mem hx;have h1:=(List.getElem?_eq_some_iff.1 hj).1;rw[I.evl] at h1;have AC:j<(tlC cs).length:=by unfold tlC;rw[List.length_append,List.length_replicate];omega
  exact⟨_,I.con j x _ hj (List.getElem?_eq_getElem AC)⟩
 have Zj:∀x∈evs,x.length=32:=fun x hx=>by obtain⟨c,h⟩:=hcon x hx;exact h.l32
 have hER:∀m,AV.aaa (fun b=>decide (b<N.length+m)) evs.flatten=true:=fun m=>dI fun x hx=>by obtain⟨c,h⟩:=hcon x hx;exact h.refs m
 by_cases AC:n<11+i%4
 ·left
  obtain⟨N2,s',Zm,Xp,k1,k2⟩:=JG (K:=20) (m1:=N1.length) (Nat.le_refl _) (by omega) (by omega) (by omega) hi I Zj hER YB AC hO rfl hw h2 h3 (dd:=d);obtain⟨T,hT⟩:∃T,T=U8:=⟨_,rfl⟩
  rw[←hT] at k2;have hat:∀(x:aae) (Z:Mem) (k:Nat),(N2.set M.length x++Z)[N.length+k]? =Z[k]? :=fun x Z k=>by rw[List.getElem?_append_right (by rw[List.length_set,Zm];omega),List.length_set,Zm,Nat.add_sub_cancel_left]
  refine⟨(n+1,_,.slice (N.length+1) 0 (n+1) none,evs++[T]),s',k1,k2,⟨by simp only;omega,by simp only;omega,?_⟩,by simp only;omega⟩;refine I.step (Z:=[.cells true 32 T,.cells true 32 (evs.flatten++T)]) (by omega) (VT (by omega) (by omega)) _ (N.length+1) ⟨fun h0=>?_,fun kr hE=>?_⟩ ⟨by omega,by rw[hat];rfl⟩ (by rw[hT];exact T8 _) ?_
  ·rcases Xp with⟨_,rfl⟩ | ⟨kr,_,h1,_⟩
   ·rfl
   ·omega
  ·rcases Xp with⟨h1,rfl⟩ | ⟨kr',h,_,rfl⟩
   ·rcases I.row with⟨_,h⟩ | ⟨_,_,h,_⟩
    ·rw[h] at hE;cases hE
    ·omega
   ·rw[h] at hE;cases hE;rfl
  ·have f2:=hER 2
   have rT:AV.aaa (fun b=>decide (b<N.length+2)) T=true:=by rw[hT];rfl
   show List.all _ (fun x=>fj x&&x.HK (fun b=>decide (b<N.length+2)))=true
   simp only[List.all_cons,List.all_nil,gw,du,dm,rT,f2,Bool.and_self]
 ·right
  have e:n=11+i%4:=by omega
  have WK:=I.cell;obtain⟨j,hj⟩:∃j,j=i%4:=⟨_,rfl⟩
  have:∃z',aQ (aC prog) (fun _=>[5,5,5]) O 20 119 M.length true w ⟨az [5,5,5] (ab w) y' y',N,d⟩=some (.exit 1,⟨z',N,d⟩)∧aa z' 2=.ptr M.length 0∧aa z' 4=aa y' 4:=by
   have ti:(i:Int).tmod 4=((i%4:Nat):Int):=rfl;rw[←hj] at ti e;have A':∀N',dY (aC prog) 39 N' E=some (.int .i64 n):=fun N' =>by
    rcases I.row with⟨h0,rfl⟩ | ⟨kr,rfl,_⟩
    ·rw[h0];simp
    ·simp
   have cE:E.qK=true:=by rcases I.row with⟨_,rfl⟩ | ⟨kr,rfl,_⟩<;>rfl
   have wj:IntKind.i64.wrap (j:Int)=(j:Int):=ai (by omega) (by omega);have wj2:IntKind.i64.wrap (11+(j:Int))=11+(j:Int):=ai (by omega) (by omega);have hd:decide ((n:Int)<11+(j:Int))=false:=decide_eq_false (by omega);have hd' :¬(n:Int)<11+(j:Int):=by omega
   clear I I0 hO hcon;simp[aj,aD,f19] at hw;subst hw;simp[-AV.qK,-dY,A',h2,h3,WK,YB,ti,wj,wj2,hd']
  obtain⟨z',k1,k2,k3⟩:=this;exact⟨z',N,k1,(E,evs),by rw[←e];exact I,k2,k3⟩
theorem GF{ev cv:AV}{XC:aae}{F:Env→Bool→Env×Mem×(AV×List (List AV))}(hw:aj f19=[w])(c3:ev.qK=true)(c4:cv.qK=true)(d4:cv.cells=[cv])(k4:cv.known=true)(hn:n≤1000)(hi:i<256)(A':∀N,dY (aC prog) 39 N cv=some (.int .i64 n))(eK:O (.fn 11) [ev] (M++[.cells true 0 [.slice p 0 s.P.length none,.slice t 0 s.T.length none,.str bm,ev],.cells true 0 [.int .u8 k,.int .u8 i],.cells true 0 [.kO,.kO,.str [],.kO]])=some ⟨cv,none,[.qF,XC]⟩)(H1:∀y' d,(aa y' 2=.ptr M.length 0∧aa y' 3=.ptr (M.length+1) 0)→aQ (aC prog) (fun _=>[5,5,5]) O 20 119 M.length true (.loop w) ⟨y',M++[.cells true 0 [.slice p 0 s.P.length none,.slice t 0 s.T.length none,.str bm,cv],.cells true 0 [.int .u8 k,.int .u8 i],.cells true 0 [.kO,.kO,.str [],.kO],.qF,XC],d⟩=some (.exit 1,⟨(F y' d).1,(F y' d).2.1,d⟩))(P':∀y' d,(aa y' 2=.ptr M.length 0∧aa y' 3=.ptr (M.length+1) 0)→(F y' d).2.1[M.length]? =some (.cells true 0 [.slice p 0 s.P.length none,.slice t 0 s.T.length none,.str bm,(F y' d).2.2.1]))(Xv:∀y' d,(aa y' 2=.ptr M.length 0∧aa y' 3=.ptr (M.length+1) 0)→(F y' d).2.1[M.length+2]? =some (.cells true 0 [.kO,.kO,.str [],.kO]))(hF4:∀y' d,(aa y' 2=.ptr M.length 0∧aa y' 3=.ptr (M.length+1) 0)→(F y' d).2.2.1.qK=true∧(F y' d).2.2.1.known=true)(hF5:∀y' d,(aa y' 2=.ptr M.length 0∧aa y' 3=.ptr (M.length+1) 0)→aa (F y' d).1 2=.ptr M.length 0)(hF6:∀y' d,(aa y' 2=.ptr M.length 0∧aa y' 3=.ptr (M.length+1) 0)→aa (F y' d).1 4=aa y' 4)(hF7:∀y' d,(aa y' 2=.ptr M.length 0∧aa y' 3=.ptr (M.length+1) 0)→M.length+2<(F y' d).2.1.length)(hr:(k:Int).tmod 8=3):
  ∃y' d,(aa y' 2=.ptr M.length 0∧aa y' 3=.ptr (M.length+1) 0)∧aK (aC prog) (fun _=>[5,5,5]) (aO prog) O 20 19 [.agg [.slice p 0 s.P.length none,.slice t 0 s.T.length none,.str bm,ev],.agg [.int .u8 k,.int .u8 i]] M=some (.agg [.slice p 0 s.P.length none,.slice t 0 s.T.length none,.str bm,(F y' d).2.2.1],(F y' d).2.1.set (M.length+2) (.cells true 0 [.slice p 0 s.P.length none,.slice t 0 s.T.length none,.str bm,(F y' d).2.2.1])):=by
 have hG:aO prog 19=some f19:=by kernel_rfl
 simp[aj,aD,f19] at hw;subst hw;have WB:∀j,(M.length+j<M.length)=False:=fun j=>bK _ _
 have hF8:∀y' d,(aa y' 2=.ptr M.length 0∧aa y' 3=.ptr (M.length+1) 0)→∀s,((F y' d).2.1.set (M.length+2) s)[M.length+2]? =some s:=fun y' d h s=>List.getElem?_set_self (hF7 y' d h)
 have Zy:=fun y' d h=>(hF4 y' d h).1
 have Zz:=fun y' d h=>(hF4 y' d h).2
 have w0:IntKind.u8.wrap 0=0:=rfl;have wi:IntKind.i64.wrap (i:Int)=(i:Int):=ai (by omega) (by omega);have h:∃r,aK (aC prog) (fun _=>[5,5,5]) (aO prog) O 20 19 [.agg [.slice p 0 s.P.length none,.slice t 0 s.T.length none,.str bm,ev],.agg [.int .u8 k,.int .u8 i]] M=some r∧∃y' d,(aa y' 2=.ptr M.length 0∧aa y' 3=.ptr (M.length+1) 0)∧r=(.agg [.slice p 0 s.P.length none,.slice t 0 s.T.length none,.str bm,(F y' d).2.2.1],(F y' d).2.1.set (M.length+2) (.cells true 0 [.slice p 0 s.P.length none,.slice t 0 s.T.length none,.str bm,(F y' d).2.2.1])):=by
  clear hF4 hF7;by_cases UV:n=0
  ·subst UV
   simp[-Bool.exists_bool,-getElem?_pos,-AV.qK,-AV.known,-AV.cells,-eI,-List.all_eq_true,vS,mS,-dY,A',aK,hG,f19,eK,c4,d4,k4,WB,wi,hr,H1,P',Xv,hF5,hF6,hF8,Zy];refine⟨_,⟨?_,?_⟩,_,rfl,rfl⟩<;>rfl
  ·have m1:¬(n:Int)<1:=by omega
   have m2:¬(n:Int)=0:=by omega
   have m3:0<n:=by omega
   simp[-Bool.exists_bool,-getElem?_pos,-AV.qK,-AV.known,-AV.cells,-eI,-List.all_eq_true,vS,mS,-dY,A',aK,hG,f19,eK,c4,d4,k4,WB,wi,hr,m1,UV,H1,P',Xv,hF5,hF6,hF8,Zy];refine⟨_,⟨?_,?_⟩,_,rfl,rfl⟩<;>rfl
 obtain⟨r,h1,y',d,h2,rfl⟩:=h;exact⟨y',d,h2,h1⟩
theorem GH(hp:∃o,M[p]? =some (.cells o 2 (pC s.P)))(ht:∃o,M[t]? =some (.cells o 3 (tC s.T)))(hq:evs≠[]→∃o,M[q]? =some (.cells o 32 evs.flatten))(len:evs.length=cs.length)(small:cs.length≤12)(abf:∀c∈cs,Tryz.Good s c)(con:∀(i:Nat) ev c,evs[i]? =some ev→cs[i]? =some c→aaI M ev c):aby (.slice p 0 s.P.length none) (.slice t 0 s.T.length none) bm q evs (cs.map unE) (List.replicate (cs.map unE).length 0) M:=by
 have get:∀e∈evs,∃c∈cs,aaI M e c:=fun e he=>by obtain⟨i,hi⟩:=List.getElem?_of_mem he;have hl:=(List.getElem?_eq_some_iff.1 hi).1;have hc:=List.getElem?_eq_getElem (l:=cs) (i:=i) (by omega);exact⟨_,List.mem_of_getElem? hc,con i e _ hi hc⟩
 exact {
  cp:=rfl
  ct:=rfl
  hq:=hq
  len:=by rw[List.length_map,len]
  aco:=by rw[List.length_replicate,List.length_map,len]
  small:=by omega
  l32:=fun e he=>by obtain⟨c,_,h⟩:=get e he;exact h.l32
  cok:=fun e he=>by obtain⟨c,_,h⟩:=get e he;exact h.cok
  abx:=fun U hU=>by obtain⟨c,hc,rfl⟩:=List.mem_map.1 hU;exact(abf c hc).le
  nd:=fun i j ev U U' e e' h1 h2 h3 h4 h5 h6=>⟨by
   have a:=List.eq_of_mem_replicate (List.mem_of_getElem? h5);have b:=List.eq_of_mem_replicate (List.mem_of_getElem? h6);rw[a,b],fun _=>by
   rw[List.getElem?_map] at h3 h4;simp only[Option.map_eq_some_iff] at h3 h4;obtain⟨c,c1,rfl⟩:=h3;obtain⟨d,d1,rfl⟩:=h4;exact Sn (con i ev c h1 c1) (con j ev d h2 d1)⟩
  acS:=fun X=>by obtain⟨o,hp⟩:=hp;obtain⟨o',ht⟩:=ht;have:=bl s (M++X) p t o o' (by rw[List.getElem?_append_left (bL hp)];exact hp) (by rw[List.getElem?_append_left (bL ht)];exact ht);simpa [shB] using this
  nmR:=cr
  nmL:=cn
  chk:=fun i ev e h1 h2 X=>by have a:=List.eq_of_mem_replicate (List.mem_of_getElem? h2);rw[a];obtain⟨c,hc,h⟩:=get ev (List.mem_of_getElem? h1);obtain⟨o,hp⟩:=hp;obtain⟨o',ht⟩:=ht;exact(abf c hc).chk (M++X) p t o o' ev (by rw[List.getElem?_append_left (bL hp)];exact hp) (by rw[List.getElem?_append_left (bL ht)];exact ht) (h.more X)
  un:=fun i ev U h1 h2 _ X=>by rw[List.getElem?_map] at h2;simp only[Option.map_eq_some_iff] at h2;obtain⟨c,c1,rfl⟩:=h2;exact(abf c (List.mem_of_getElem? c1)).un (M++X) ev ((con i ev c h1 c1).more X) }
theorem Po:qS prog (gP 21 [.int .i64 0,.int .i64 0,.int .i64 0] (.agg [.str [48],.str [48],.str [48]]) (fun _=>True)):=ij fun N _=>nu (0,0,0) (by decide) N
theorem xr(H:aaE s p t q evs cs M)(k i:Nat)(hi:i<256)(hk:(k:Int).tmod 8=3):eg (cI s p t q cs.length) k i M:=by
 obtain⟨pv,YW⟩:∃pv,pv=AV.slice p 0 s.P.length none:=⟨_,rfl⟩
 obtain⟨tv,Yi⟩:∃pv,pv=AV.slice t 0 s.T.length none:=⟨_,rfl⟩
 obtain⟨X1,hX1⟩:∃X:aae,X=.cells true 0 [.int .u8 (k:Int),.int .u8 (i:Int)]:=⟨_,rfl⟩
 obtain⟨X2,hX2⟩:∃X:aae,X=.cells true 0 [.kO,.kO,.str [],.kO]:=⟨_,rfl⟩
 obtain⟨X0,hX0⟩:∃X:aae,X=.cells true 0 [pv,tv,.str bm,clV (M.length+3) cs.length]:=⟨_,rfl⟩
 obtain⟨O1,Xx,eK1⟩:=H.aaQ [.cells true 0 (cI s p t q cs.length),X1,X2] rfl;obtain⟨O,Ye⟩:∃O,O=aac.or (gP 21 [.int .i64 0,.int .i64 0,.int .i64 0] (.agg [.str [48],.str [48],.str [48]]) (fun _=>True)) O1:=⟨_,rfl⟩
 have hO:qS prog O:=by rw[Ye];exact qS.or' Po Xx
 have eS:∀N,O (.fn 21) [.int .i64 0,.int .i64 0,.int .i64 0] N=some ⟨.agg [.str [48],.str [48],.str [48]],none,[]⟩:=fun N=>by rw[Ye];simp[aac.or,gP]
 have eK:O (.fn 11) [evV q cs.length] (M++[.cells true 0 (cI s p t q cs.length),X1,X2])=some ⟨clV (M.length+3) cs.length,none,[.qF,clX 32 cs.length evs.flatten]⟩:=by rw[Ye];simp only[aac.or];rw[show gP 21 [.int .i64 0,.int .i64 0,.int .i64 0] (.agg [.str [48],.str [48],.str [48]]) (fun _=>True) (.fn 11) [evV q cs.length] (M++[.cells true 0 (cI s p t q cs.length),X1,X2])=none by simp[gP]];exact eK1
 have YU:=H.small;have A':∀N,dY (aC prog) 39 N (clV (M.length+3) cs.length)=some (.int .i64 cs.length):=fun N=>cB (M.length+4) cs.length N
 obtain⟨op,hp⟩:=H.hp;obtain⟨ot,ht⟩:=H.ht;have lp:=bL hp;have lt:=bL ht;obtain⟨XC,Z1⟩:∃X,X=clX 32 cs.length evs.flatten:=⟨_,rfl⟩
 rw[←Z1] at eK;obtain⟨N0,Xq⟩:∃N0,N0=M++[X0,X1,X2,.qF]:=⟨_,rfl⟩
 have hl0:N0.length=M.length+4:=by rw[Xq];simp
 have hN1:M++[X0,X1,X2,.qF,XC]=N0++[XC]:=by rw[Xq];simp
 have rD:∀f:Nat→Bool,(∀b,b<M.length→f b=true)→AV.aaa f evs.flatten=true:=fun f hf=>dI fun u hu=>by obtain⟨l,hl⟩:=List.getElem?_of_mem hu;have WZ:=(List.getElem?_eq_some_iff.1 hl).1;have:=(H.con l u _ hl (List.getElem?_eq_getElem (by rw[←H.len];exact WZ))).refs 0;exact AV.aan (fun b hb=>hf b (by simp only[decide_eq_true_eq] at hb;omega)) u this
 have I0:CpI N0 M.length (.slice p 0 s.P.length none) (.slice t 0 s.T.length none) (tlC cs) (N0++[XC]) cs.length (clV (M.length+3) cs.length) evs:=by
  refine⟨by simp,fun k hk _=>List.getElem?_append_left hk,by rw[Xq,List.append_assoc,FE,hX0,YW,Yi];rfl,H.len,?_,fun k e c h1 h2=>?_,aaH.app _ _,fun k x hk hx=>?_⟩
  ·by_cases h0:cs.length=0
   ·left;exact⟨h0,by unfold clV;rw[if_pos h0]⟩
   ·right
    refine⟨M.length+4,by unfold clV;rw[if_neg h0],by omega,by omega,?_⟩;rw[←hl0,List.getElem?_append_right (Nat.le_refl _),Nat.sub_self,Z1];unfold clX;rw[if_neg h0];rfl
  ·have hl:=(List.getElem?_eq_some_iff.1 h1).1
   rw[U9 (by rw[←H.len];exact hl)] at h2;rw[Xq,List.append_assoc];exact(H.con k e c h1 h2).more _
  ·have hk2:=(List.getElem?_eq_some_iff.1 hx).1
   simp only[List.length_append,List.length_singleton] at hk2;have:k=N0.length:=by omega
   subst this;rw[List.getElem?_append_right (Nat.le_refl _),Nat.sub_self] at hx;cases hx;rw[Z1];refine⟨Rq _ _ _,?_⟩;unfold clX;split
   ·rfl
   ·rw[du];exact rD _ fun b hb=>by simp only[List.length_append,decide_eq_true_eq];omega
 obtain⟨w,hw⟩:∃w,aj f19=[w]:=⟨_,rfl⟩
 obtain⟨F,hF⟩:=JF Xq hX1 hi rfl YU lp lt I0 eS hw;have hE:∀{N n E evs},CpI N0 M.length (.slice p 0 s.P.length none) (.slice t 0 s.T.length none) (tlC cs) N n E evs→E.qK=true∧E.known=true:=fun I=>by rcases I.row with⟨_,rfl⟩ | ⟨_,rfl,_⟩<;>exact⟨rfl,rfl⟩
 have hz:N0[M.length+2]? =some X2:=by rw[Xq,dO];rfl
 rw[hX1,hX2] at eK;obtain⟨y',d,Xa,hr⟩:=GF (F:=F) (M:=M) (s:=s) (p:=p) (t:=t) (k:=k) (n:=cs.length) hw (dn q cs.length) (mZ _ _) (kx _ _) (ky _ _) (by omega) hi A' eK (fun y' d h=>by have:=(hF y' d h).1;rw[←hN1,hX0,hX1,hX2,YW,Yi] at this;exact this) (fun y' d h=>(hF y' d h).2.1.cell)
  (fun y' d h=>by rw[(hF y' d h).2.1.same _ (by omega) (by omega),hz,hX2]) (fun y' d h=>hE (hF y' d h).2.1) (fun y' d h=>(hF y' d h).2.2.1) (fun y' d h=>(hF y' d h).2.2.2) (fun y' d h=>by have:=(hF y' d h).2.1.len;omega) hk
 have I:=(hF y' d Xa).2.1;have W6:=bn af (aw _) hO (ax _) hr;obtain⟨E,hEe⟩:∃E,E=(F y' d).2.2.1:=⟨_,rfl⟩
 obtain⟨evs',Zj⟩:∃x,x=(F y' d).2.2.2:=⟨_,rfl⟩
 obtain⟨N,hN⟩:∃x,x=(F y' d).2.1:=⟨_,rfl⟩
 rw[←hEe,←hN] at W6;rw[←hEe,←Zj,←hN] at I;obtain⟨cE,kE⟩:=hE I;obtain⟨T,hT⟩:∃T,T=11+i%4:=⟨_,rfl⟩
 rw[←hT] at I;have hNz:N[M.length+2]? =some (.cells true 0 [.kO,.kO,.str [],.kO]):=by rw[I.same _ (by omega) (by omega),hz,hX2]
 obtain⟨N',YH⟩:∃x,x=N.set (M.length+2) (.cells true 0 [.slice p 0 s.P.length none,.slice t 0 s.T.length none,.str bm,E]):=⟨_,rfl⟩
 rw[←YH] at W6;have XI:aaH N N' :=by rw[YH];exact aaH.set hNz (.inl rfl) _
 have hge:=I.len;have hpre' :∃new,N' =M++new:=by
  refine⟨N'.drop M.length,?_⟩;refine List.ext_getElem? fun i=>?_
  by_cases hi:i<M.length
  ·rw[List.getElem?_append_left hi,YH,List.getElem?_set_ne (by omega),I.same i (by omega) (by omega),Xq,List.getElem?_append_left hi]
  ·rw[List.getElem?_append_right (by omega),List.getElem?_drop]
   rw[Nat.add_sub_cancel' (Nat.le_of_not_lt hi)]
 obtain⟨new,Xc⟩:=hpre';have hTp:T≠0:=by omega
 obtain⟨kr,rfl,-,ZL,Zo⟩:∃kr,E=.slice kr 0 T none∧0<T∧N0.length≤kr∧N[kr]? =some (.cells true 32 evs'.flatten):=by
  rcases I.row with⟨h,_⟩ | h
  ·exact absurd h hTp
  ·exact h
 have eEv:AV.slice kr 0 T none=evV kr T:=by unfold evV;rw[if_neg hTp]
 have lenN:N'.length=N.length:=by rw[YH,List.length_set]
 have lNn:N'.length=M.length+new.length:=by rw[Xc,List.length_append]
 have lkr:=bL Zo;have G':∀(k:Nat) x,M.length≤k→N'[k]? =some x→fj x=true∧x.HK (fun b=>decide (b<N'.length))=true:=by
  intro k' x hk' hx;rw[lenN];have er:(AV.slice kr 0 T none).HK (fun b=>decide (b<N.length))=true:=by simp only[AV.HK,decide_eq_true_eq];exact lkr
  have pr:(AV.slice p 0 s.P.length none).HK (fun b=>decide (b<N.length))=true:=by simp only[AV.HK,decide_eq_true_eq];omega
  have tr:(AV.slice t 0 s.T.length none).HK (fun b=>decide (b<N.length))=true:=by simp only[AV.HK,decide_eq_true_eq];omega
  have YD:∀y,y=aae.cells true 0 [.slice p 0 s.P.length none,.slice t 0 s.T.length none,.str bm,.slice kr 0 T none]→fj y=true∧y.HK (fun b=>decide (b<N.length))=true:=by rintro y rfl;exact⟨rfl,by simp only[du,AV.aaa,jV,pr,tr,er,Bool.and_self]⟩
  by_cases k1:k' =M.length+2
  ·subst k1
   rw[YH,List.getElem?_set_self (by omega)] at hx;exact YD x (Option.some.inj hx).symm
  rw[YH,List.getElem?_set_ne (by omega)] at hx;by_cases k2:k' =M.length
  ·subst k2
   rw[I.cell] at hx;exact YD x (Option.some.inj hx).symm
  by_cases k0:k' <N0.length
  ·rw[I.same k' k0 k2,Xq] at hx
   obtain⟨j,rfl⟩:∃j,k' =M.length+j:=⟨k' -M.length,by omega⟩
   rw[dO] at hx
   match j,hx with
   |0,_=>omega
   |1,hx=>cases hx;rw[hX1];exact⟨rfl,rfl⟩
   |2,_=>omega
   |3,hx=>cases hx;exact⟨rfl,rfl⟩
   |j+4,hx=>simp at hx
  ·exact I.ok k' x (by omega) hx
 have lds:((tlC cs).take T).length=T:=by rw[List.length_take];unfold tlC;rw[List.length_append,List.length_replicate];omega
 have abf:∀c∈(tlC cs).take T,Tryz.Good s c:=fun c hc=>by
  have hm:c∈cs++List.replicate 14 Qk:=List.mem_of_mem_take hc;rcases List.mem_append.1 hm with h | h
  ·exact H.abf c h
  ·rw[List.eq_of_mem_replicate h];exact Co s
 have con:∀(i:Nat) ev c,evs'[i]? =some ev→((tlC cs).take T)[i]? =some c→aaI N' ev c:=fun i ev c h1 h2=>by have hl:=(List.getElem?_eq_some_iff.1 h2).1;rw[List.getElem?_take_of_lt (by omega)] at h2;exact(I.con i ev c h1 h2).upd XI
 have keep0:∀(k:Nat) o es C,es=1∨es=2∨es=3→M[k]? =some (.cells o es C)→N'[k]? =some (.cells o es C):=fun k o es C he h=>XI k o es C he (I.aa3 k o es C he (by rw[Xq,List.getElem?_append_left (bL h)];exact h))
 have Zg :=keep0 p op 2 _ (.inr (.inl rfl)) hp;have XX :=keep0 t ot 3 _ (.inr (.inr rfl)) ht;have Zl :N'[kr]? =some (.cells true 32 evs'.flatten):=by rw[YH,List.getElem?_set_ne (by omega)];exact Zo
 have okn:OkN (M.length+new.length) new:=.of fun x hx=>by
  obtain⟨i,hi⟩:=List.getElem?_of_mem hx;have:=G' (M.length+i) x (by omega) (by rw[Xc,dO];exact hi)
  rwa [lNn] at this
 have rh:aaZ (M.length+new.length) [AV.slice p 0 s.P.length none,.slice t 0 s.T.length none,.str bm,.slice kr 0 T none]:=fun f hf=>by simp only[AV.aaa,AV.HK,Bool.and_true,Bool.true_and,Bool.and_eq_true];exact⟨hf _ (by omega),hf _ (by omega),hf _ (by omega)⟩
 have more:∀{k:Nat}{x:aae}(Z:Mem),N'[k]? =some x→(N' ++Z)[k]? =some x:=fun {k x} Z h=>by rw[List.getElem?_append_left (bL h)];exact h
 rw[Xc] at W6;by_cases h12:T≤12
 ·have K:=fun Z=>GH (M:=N' ++Z) (q:=kr) ⟨op,more Z Zg⟩ ⟨ot,more Z XX⟩ (fun _=>⟨true,more Z Zl⟩) (by rw[I.evl,lds]) (by rw[lds];exact h12) abf fun i ev c h1 h2=>(con i ev c h1 h2).more Z
  have a:=fun Z=>mj (K Z)
  have b:=fun Z=>ml (K Z)
  simp only[dH,I.evl,←eEv,Xc] at a b;exact⟨_,_,_,_,new,_,W6,⟨rfl,rfl,rfl,rfl,rfl,rfl⟩,a,b,okn,rh⟩
 ·have hm:∀Z,mB prog 41 [.agg [.slice p 0 s.P.length none,.slice t 0 s.T.length none]] (N' ++Z) (.int .i64 0) (N' ++Z):=fun Z=>by have:=bl s (N' ++Z) p t op ot (more Z Zg) (more Z XX);simpa [shB] using this
  have hl:∀N,dY (aC prog) 39 N (.slice kr 0 T none)=some (.int .i64 T):=fun N=>by simp
  have a:=fun Z=>Ml (M:=N') (a3:=bm) (by omega) hl (rfl:(AV.slice p 0 s.P.length none).qK=true) (rfl:(AV.slice t 0 s.T.length none).qK=true) rfl rfl rfl rfl hm (fun Z=>cr _) Z
  have b:=fun Z=>Mu (M:=N') (a3:=bm) (by omega) hl (rfl:(AV.slice p 0 s.P.length none).qK=true) (rfl:(AV.slice t 0 s.T.length none).qK=true) rfl rfl rfl rfl hm (fun Z=>cn _) Z
  simp only[Xc] at a b;exact⟨_,_,_,_,new,_,W6,⟨rfl,rfl,rfl,rfl,rfl,rfl⟩,a,b,okn,rh⟩
theorem MB(H:aaE s p t q evs cs M)(hd:zm [bm] (cs.map unE)=false)(h3:cs.length≤3)(k i:Nat)(hk:k<256)(hi:i<256):eg (cI s p t q cs.length) k i M:=by
 have e8:(k:Int).tmod 8=((k%8:Nat):Int):=rfl;have h8:k%8<8:=Nat.mod_lt _ (by omega);obtain⟨m,hm⟩:∃m,m=k%8:=⟨_,rfl⟩
 rw[←hm] at e8 h8;by_cases h0:0<cs.length
 ·have AC:i%cs.length<cs.length:=Nat.mod_lt _ h0
  obtain⟨c,hc⟩:∃c,cs[i%cs.length]? =some c:=⟨_,List.getElem?_eq_getElem AC⟩
  match m,h8,e8 with
  |0,_,e8=>exact iA H hd k i hi (.inl e8)
  |1,_,e8=>exact xp H k i hi e8
  |2,_,e8=>exact xq H k i hi e8
  |3,_,e8=>exact xr H k i hi e8
  |4,_,e8=>exact Js H h3 k i hi h0 e8
  |5,_,e8=>
   by_cases h2:i<2∨6<i
   ·exact Jw H hd k i hi h0 h2 e8
   ·by_cases hke:(i:Int)-1=c.k
    ·exact MC H hd k i hi h0 hc hke e8
    ·exact Jv H hd k i hi h0 hc (by omega) (by omega) (fun h=>hke h.symm) e8
  |6,_,e8=>
   by_cases h2:i%4<3
   ·exact Jx H hd k i hi h0 h2 e8
   ·exact Ju H k i hi h0 hc (by omega) e8
  |7,_,e8=>
   by_cases h4:c.k=4
   ·exact Jt H hd k i hi h0 hc h4 e8
   ·exact Jz H hd k i hi h0 hc h4 e8
  |m+8,h,_=>omega
 ·have hz:cs.length=0:=by omega
  match m,h8,e8 with
  |0,_,e8=>exact iA H hd k i hi (.inl e8)
  |1,_,e8=>exact xp H k i hi e8
  |2,_,e8=>exact xq H k i hi e8
  |3,_,e8=>exact xr H k i hi e8
  |4,_,e8=>exact iA H hd k i hi (.inr ⟨hz,.inl e8⟩)
  |5,_,e8=>exact iA H hd k i hi (.inr ⟨hz,.inr (.inl e8)⟩)
  |6,_,e8=>exact iA H hd k i hi (.inr ⟨hz,.inr (.inr (.inl e8))⟩)
  |7,_,e8=>exact iA H hd k i hi (.inr ⟨hz,.inr (.inr (.inr e8))⟩)
  |m+8,h,_=>omega
end Go.Proofs
