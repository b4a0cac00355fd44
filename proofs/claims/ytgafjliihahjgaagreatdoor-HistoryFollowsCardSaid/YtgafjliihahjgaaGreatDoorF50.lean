/- See F54. -/
import Derived.Test.YtgafjliihahjgaaGreatDoorF49
set_option linter.all false
set_option maxRecDepth 100000
set_option maxHeartbeats 40000000
namespace Go.Proofs
open Go.Eng
open Tryz
def gP:EvD→FuncId
 |.dep ..=>187
 |.fault ..=>192
 |.fold ..=>196
 |.afW ..=>201
 |.afZ ..=>206
def Aa(w:EvD)(A G H:FuncId):AV:=.agg [.func A [],.func G [],.func (gP w) [],.func (kg w) [],.func H []]
section
variable {s:aeX}{w:EvD}
theorem DS(G:w.Ok s)(H:0<s.P.length)(nm:List UInt8):∃I V O,∀(M:Mem) (A:List AV),afv M A (w.con nm)→kO prog 77 [.agg A] M (Aa w I V O) M:=by
 cases w with
 |fault n o v=>
  refine⟨190,191,193,fun M A h=>?_⟩;obtain rfl:=h.flat rfl rfl rfl rfl;exact pO nm n o v M
 |afW n o w u=>
  refine⟨199,200,203,fun M A h=>?_⟩;obtain rfl:=h.flat rfl rfl rfl rfl;exact sW nm n o w _ M
 |afZ i c=>
  refine⟨204,205,208,fun M A h=>?_⟩;obtain rfl:=h.flat rfl rfl rfl rfl;exact sX nm (bC i) c M
 |fold n d c v=>
  refine⟨194,195,198,fun M A h=>?_⟩;obtain⟨b,u,sv,kn,rfl,V,J,F,O⟩:=h;obtain rfl:=V.afm rfl;obtain rfl:=J.afm rfl;obtain rfl:=F.afm rfl;have e:(EvD.con nm (.fold n d c v)).K.length=(bQ d c).length:=cM _;have hl:0<(bQ d c).length:=by rw[bP];exact G.2.2.1
  rw[e] at O;obtain⟨kb,q,rfl,D⟩:=O.pos hl;exact mP nm n _ v M kb (gL D)
 |dep Z us Ys=>
  refine⟨185,186,189,fun M A h=>?_⟩;obtain⟨b,u,sv,kn,rfl,V,J,F,O⟩:=h;obtain⟨vs,hv1,W,_⟩:=F;obtain rfl:=O.afm rfl;have e1:(EvD.con nm (.dep Z us Ys)).B.length=Z.length:=cS Z;have e3:(EvD.con nm (.dep Z us Ys)).S.length=Ys.length:=by show(Ys.map hT).length=_;simp
  rw[e1] at V;rw[e3] at W;obtain⟨C,q1,rfl,D⟩:=V.pos (by rw[G.1];exact H);obtain⟨z,q2,rfl,hu⟩:=J.pos (by show 0<us.length;have:=G.2.1;omega);have m:=gL D;have j:=gL hu;have h3:=G.2.2.1
  match hY:Ys.length,W with
  |0,W=>
   obtain rfl:=W.afm rfl;have:=kO.frame (M:=M) (new:=[]) [C,z] rfl (by simp[m,j]) (by rfl) (fun i t X=>by
    match i with
    |0=>simp at X;subst X;trivial
    |1=>simp at X;subst X;trivial
    |i+2=>simp at X) rfl (pL nm Z.length us.length)
   simpa [bf,AV.ae3,AV.ren,dL,bA,Aa,gP,kg,EvD.con,xu,Evc.cells] using this
  |1,W=>
   obtain⟨Y,q3,rfl,hc⟩:=W.pos (by omega);have R:=gL hc;have:=kO.frame (M:=M) (new:=[]) [C,z,Y] rfl (by simp[m,j,R]) (by rfl) (fun i t X=>by
    match i with
    |0=>simp at X;subst X;trivial
    |1=>simp at X;subst X;trivial
    |2=>simp at X;subst X;trivial
    |i+3=>simp at X) rfl (pM nm Z.length us.length)
   simpa [bf,AV.ae3,AV.ren,dL,bA,Aa,gP,kg,EvD.con,xu,Evc.cells] using this
  |2,W=>
   obtain⟨Y,q3,rfl,hc⟩:=W.pos (by omega);have R:=gL hc;have:=kO.frame (M:=M) (new:=[]) [C,z,Y] rfl (by simp[m,j,R]) (by rfl) (fun i t X=>by
    match i with
    |0=>simp at X;subst X;trivial
    |1=>simp at X;subst X;trivial
    |2=>simp at X;subst X;trivial
    |i+3=>simp at X) rfl (pN nm Z.length us.length)
   simpa [bf,AV.ae3,AV.ren,dL,bA,Aa,gP,kg,EvD.con,xu,Evc.cells] using this
  |k+3,W=>omega
end
noncomputable def mr:Field:=aV 168 0
theorem FT:mr.type=164:=by kernel_rfl
theorem FR:mr.offset=0:=by kernel_rfl
theorem FQ:(mr.name = "_")=False:=eq_false (by decide +kernel)
noncomputable def mu:Field:=aV 168 1
theorem FW:mu.type=143:=by kernel_rfl
theorem FV:mu.offset=1:=by kernel_rfl
theorem FU:(mu.name = "_")=False:=eq_false (by decide +kernel)
noncomputable def mw:Field:=aV 168 2
theorem FZ:mw.type=165:=by kernel_rfl
theorem FY:mw.offset=2:=by kernel_rfl
theorem FX:(mw.name = "_")=False:=eq_false (by decide +kernel)
noncomputable def my:Field:=aV 168 3
theorem F3:my.type=110:=by kernel_rfl
theorem F1:my.offset=3:=by kernel_rfl
theorem F0:(my.name = "_")=False:=eq_false (by decide +kernel)
noncomputable def mz:Field:=aV 168 4
theorem F6:mz.type=166:=by kernel_rfl
theorem F5:mz.offset=4:=by kernel_rfl
theorem F4:(mz.name = "_")=False:=eq_false (by decide +kernel)
theorem Ro:aN prog 168=some ⟨.struct #[mr,mu,mw,my,mz],5,40,.agg #[.nilFunc,.nilFunc,.nilFunc,.nilFunc,.nilFunc],true⟩:=by kernel_rfl
theorem Rm:aN prog 110=some ⟨.func #[37,83,31] #[3,42] false,1,8,.nilFunc,true⟩:=by kernel_rfl
theorem Rn:aN prog 165=some ⟨.func #[83] #[3] false,1,8,.nilFunc,true⟩:=by kernel_rfl
attribute [simp] Rm Rn FT FR FQ FW FV FU FZ FY FX F3 F1 F0 F6 F5 F4 Ro
section
variable {M:Mem}{pv tv:AV}{ev:List AV}{p:V3}{n:Int}{k0 k1 k2 nf k4:FuncId}
theorem Ir:(aC f40).map (fun o=>dB o.toList)=[[0,1,3,0,0,0,63,127,127,511,1023]]:=by kernel_rfl
theorem E5(R:pv.aeS=true∧tv.aeS=true)(Y:ev.length=32)(hck:ev.all AV.aeS=true)(rp:∀x,pv.aeR (fun b=>decide (b<M.length+x))=true)(rt:∀x,tv.aeR (fun b=>decide (b<M.length+x))=true)(A:∀x,AV.aeW (fun b=>decide (b<M.length+x)) ev=true)(G:∀Z,kO prog 68 [.agg [pv,tv],.agg ev,vA p] (M++Z) (.int .i64 0) (M++Z))(H:∀Z,kO prog 77 [.agg ev] (M++Z) (.agg [.func k0 [],.func k1 [],.func k2 [],.func nf [],.func k4 []]) (M++Z))(I:∀Z,kO prog nf [.agg [pv,tv],.agg ev,vA p] (M++Z) (.tuple [.int .i64 n,.int .i64 0]) (M++Z))(n1:68≠nf)(n2:77≠nf):
  kO prog 40 [.agg [pv,tv],.agg ev,vA p] M (.tuple [.int .i64 n,.int .i64 0]) M:=by
 have u:aK prog 40=some f40:=by kernel_rfl
 have m:∀s,(AV.str s).aeS=true:=fun _=>rfl
 obtain⟨c1,c2⟩:=R;obtain⟨L,X⟩:=xE (α:=List (FuncId×List AV×(Mem→Prop)×aeQ)) [(68,[.agg [pv,tv],.agg ev,vA p],(fun N=>∃Z,N=M++Z),⟨.int .i64 0,none,[]⟩),(77,[.agg ev],(fun N=>∃Z,N=M++Z),⟨.agg [.func k0 [],.func k1 [],.func k2 [],.func nf [],.func k4 []],none,[]⟩),(nf,[.agg [pv,tv],.agg ev,vA p],(fun N=>∃Z,N=M++Z),⟨.tuple [.int .i64 n,.int .i64 0],none,[]⟩)];have F:HS prog (ei L):=ja fun y S N K=>by
  rw[X] at S;simp only[lM] at S;rcases S with rfl | rfl | rfl
  ·obtain⟨Z,rfl⟩:=K;exact aU (G Z)
  ·obtain⟨Z,rfl⟩:=K;exact aU (H Z)
  ·obtain⟨Z,rfl⟩:=K;exact aU (I Z)
 have D:∀Z,ei L (.fn 68) [.agg [pv,tv],.agg ev,vA p] (M++Z)=some ⟨.int .i64 0,none,[]⟩:=fun Z=>by rw[X];exact db ⟨Z,rfl⟩
 have C:∀Z,ei L (.fn 77) [.agg ev] (M++Z)=some ⟨.agg [.func k0 [],.func k1 [],.func k2 [],.func nf [],.func k4 []],none,[]⟩:=fun Z=>by rw[X,de (.inl (by decide))];exact db ⟨Z,rfl⟩
 have B:∀Z,ei L (.fn nf) [.agg [pv,tv],.agg ev,vA p] (M++Z)=some ⟨.tuple [.int .i64 n,.int .i64 0],none,[]⟩:=fun Z=>by rw[X,de (.inl n1),de (.inl n2)];exact db ⟨Z,rfl⟩
 obtain⟨O,W⟩:=xE (ei L);rw[←W] at F D C B;clear W X G H I;have j:∀f k,AV.aeR f (.func k [])=true:=fun _ _=>rfl
 have t0:ev.take 32=ev:=List.take_of_length_le (by omega);obtain⟨V,J⟩:∃V,aC f40=V :=⟨_,rfl⟩
 have z :=be J Ir;simp only[aC,bn,f40,List.nil_append,List.append_nil] at J;subst J;simp only[lB] at z;have X':cB (aN prog) (fun _=>[]) (aK prog) O 1 40 [.agg [pv,tv],.agg ev,vA p] M=some (.tuple [.int .i64 n,.int .i64 0],M++[.cells true 0 [pv,tv],.cells true 0 ev,.cells true 0 (vL p)]):=by unfold vA vL at*;simp[-getElem?_pos,-AV.aeS,-AV.known,-AV.cells,-bL,-List.all_eq_true,vS,rS,mS,cB,u,f40,Y,t0,j,rp,rt,A,D,C,B,-bl,-aW,-aB,-AV.aeR,-aeY.aeR,aF z,bX,bK,dH,cj,bR,gd,bef,Nat.testBit]
 exact kO.forget rfl (bZ ae (ar _) F (au _) X')
end
def moE:EvD→Int
 |.dep _ us _=>(us.length:Int)-1
 |.fault ..=>1
 |.fold _ _ c _=>(c:Int)
 |.afW ..=>2
 |.afZ ..=>0
def lwE:EvD→Int
 |.dep ..=> -2
 |_=>0
theorem gl(u:Rat):∀Q:List (Rat×Rat),bc Q u≤Q.length
 | []=>Nat.le_refl 0
 |q::Q=>by rw[bc,List.length_cons];have:=gl u Q;split<;>omega
theorem Za{s:aeX}{w:EvD}(A:w.Ok s)(p:V3):lwE w≤nuE s w p∧nuE s w p≤moE w:=by
 cases w with
 |dep Z us Ys=>
  have hu:OE s Z Ys p<(us.length:Int):=Cq (w:=.dep Z us Ys) A p;have W:(-2:Int)≤OE s Z Ys p:=by
   unfold OE;split
   ·omega
   ·split<;>omega
  show(-2:Int)≤OE s Z Ys p∧OE s Z Ys p≤(us.length:Int)-1
  omega
 |fault n o v=>show(0:Int)≤(if _ then 1 else 0)∧(if _ then 1 else 0)≤(1:Int);split<;>omega
 |fold n d c v=>
  have:=gl (da (zV n) p) (bQ d c);rw[bP] at this;show(0:Int)≤(bc (bQ d c) (da (zV n) p):Int)∧(bc (bQ d c) (da (zV n) p):Int)≤(c:Int)
  omega
 |afW n o w u=>
  have X:∀(P Q:Prop) [Decidable P] [Decidable Q],(0:Int)≤(if P then 0 else if Q then 1 else 2)∧(if P then 0 else if Q then 1 else 2)≤(2:Int):=fun P Q _ _=>by by_cases V:P<;>by_cases hQ:Q<;>simp[V,hQ]
  exact X _ _
 |afZ i c=>exact⟨Int.le_refl 0,Int.le_refl 0⟩
section
variable {s:aeX}{w:EvD}
theorem MT(A:w.Ok s)(nm:List UInt8){M:Mem}{G:List AV}(h:afv M G (w.con nm)):kO prog (gP w) [.agg G] M (.int .i64 (moE w)) M:=by
 obtain⟨b,u,W,V,rfl,J,S,F,O⟩:=h;have D:∀s,(AV.str s).aeS=true:=fun _=>rfl
 have C:∀k n,(AV.int k n).aeS=true:=fun _ _=>rfl
 have Y:=J.ck;have R:=S.ck;have I:W.aeS=true:=by obtain⟨_,_,h3,_⟩:=F;exact h3.ck
 have H:=O.ck;cases w with
 |dep Z us Ys=>
  have X:aK prog 187=some f187:=by kernel_rfl
  obtain⟨B,q,rfl,hu⟩:=S.pos (by show 0<us.length;have:=A.2.1;omega);have z:us.length≤1000:=by have:=A.2.1;have:=A.2.2.1;omega
  have w1:IntKind.i64.wrap ((us.length:Int)-1)=(us.length:Int)-1:=aq;have m:(EvD.con nm (.dep Z us Ys)).U.length=us.length:=rfl;rw[m];have h:aa (aN prog) (fun _=>[]) (aK prog) bM 1 187 [.agg ((EvD.con nm (.dep Z us Ys)).cells b (.slice B 0 us.length none) W V)] M=some ⟨.int .i64 ((us.length:Int)-1),none,[]⟩:=by simp[-AV.aeS,aa,X,f187,Evc.cells,w1]
  have:=(ah ae (ar _) (al _) (au _) h).1;simpa [aeQ.mem,gP,moE] using this
 |fault n o v=>
  have X:aK prog 192=some f192:=by kernel_rfl
  have h:aa (aN prog) (fun _=>[]) (aK prog) bM 1 192 [.agg ((EvD.con nm (.fault n o v)).cells b u W V)] M=some ⟨.int .i64 1,none,[]⟩:=by simp[-AV.aeS,aa,X,f192,Evc.cells]
  have:=(ah ae (ar _) (al _) (au _) h).1;simpa [aeQ.mem,gP,moE] using this
 |fold n d c v=>
  have X:aK prog 196=some f196:=by kernel_rfl
  have e:(EvD.con nm (.fold n d c v)).K.length=c:=by rw[show(EvD.con nm (.fold n d c v)).K.length=(bQ d c).length from cM _,bP]
  obtain⟨j,q,rfl,hb⟩:=O.pos (by rw[e];exact A.2.2.1);rw[e];have h:aa (aN prog) (fun _=>[]) (aK prog) bM 1 196 [.agg ((EvD.con nm (.fold n d c v)).cells b u W (.slice j 0 c none))] M=some ⟨.int .i64 (c:Int),none,[]⟩:=by simp[-AV.aeS,aa,X,f196,Evc.cells]
  have:=(ah ae (ar _) (al _) (au _) h).1;simpa [aeQ.mem,gP,moE] using this
 |afW n o w u' =>
  have X:aK prog 201=some f201:=by kernel_rfl
  have h:aa (aN prog) (fun _=>[]) (aK prog) bM 1 201 [.agg ((EvD.con nm (.afW n o w u')).cells b u W V)] M=some ⟨.int .i64 2,none,[]⟩:=by simp[-AV.aeS,aa,X,f201,Evc.cells]
  have:=(ah ae (ar _) (al _) (au _) h).1;simpa [aeQ.mem,gP,moE] using this
 |afZ i c=>
  have X:aK prog 206=some f206:=by kernel_rfl
  have h:aa (aN prog) (fun _=>[]) (aK prog) bM 1 206 [.agg ((EvD.con nm (.afZ i c)).cells b u W V)] M=some ⟨.int .i64 0,none,[]⟩:=by simp[-AV.aeS,aa,X,f206,Evc.cells]
  have:=(ah ae (ar _) (al _) (au _) h).1;simpa [aeQ.mem,gP,moE] using this
end
section
variable {M:Mem}{pv tv:AV}{ev:List AV}{n mo lo kd:Int}{k0 k1 mf k3 k4:FuncId}
theorem Is:(aC f78).map (fun o=>dB o.toList)=[[0,0,3,7,15,15,47,111,15,495,1023,2047]]:=by kernel_rfl
theorem AL(cp:pv.aeS=true∧tv.aeS=true)(H:ev.length=32)(hck:ev.all AV.aeS=true)(rp:∀x,pv.aeR (fun b=>decide (b<M.length+x))=true)(rt:∀x,tv.aeR (fun b=>decide (b<M.length+x))=true)(A:∀x,AV.aeW (fun b=>decide (b<M.length+x)) ev=true)(h0:ev[0]? =some (.int .i64 kd))(G:lo=if kd=1 then -2 else 0)(hn:lo≤n∧n≤mo)(I:∀Z,kO prog 61 [.agg [pv,tv],.agg ev] (M++Z) (.int .i64 0) (M++Z))(R:∀Z,kO prog 77 [.agg ev] (M++Z) (.agg [.func k0 [],.func k1 [],.func mf [],.func k3 [],.func k4 []]) (M++Z))(Y:∀Z,kO prog mf [.agg ev] (M++Z) (.int .i64 mo) (M++Z))(n1:61≠mf)(n2:77≠mf):
  kO prog 78 [.agg [pv,tv],.agg ev,.int .i64 n] M (.int .i64 0) M:=by
 have j:aK prog 78=some f78:=by kernel_rfl
 obtain⟨c1,c2⟩:=cp;obtain⟨L,W⟩:=xE (α:=List (FuncId×List AV×(Mem→Prop)×aeQ)) [(61,[.agg [pv,tv],.agg ev],(fun N=>∃Z,N=M++Z),⟨.int .i64 0,none,[]⟩),(77,[.agg ev],(fun N=>∃Z,N=M++Z),⟨.agg [.func k0 [],.func k1 [],.func mf [],.func k3 [],.func k4 []],none,[]⟩),(mf,[.agg ev],(fun N=>∃Z,N=M++Z),⟨.int .i64 mo,none,[]⟩)];have hO:HS prog (ei L):=ja fun y F N D=>by
  rw[W] at F;simp only[lM] at F;rcases F with rfl | rfl | rfl
  ·obtain⟨Z,rfl⟩:=D;exact aU (I Z)
  ·obtain⟨Z,rfl⟩:=D;exact aU (R Z)
  ·obtain⟨Z,rfl⟩:=D;exact aU (Y Z)
 have C:∀Z,ei L (.fn 61) [.agg [pv,tv],.agg ev] (M++Z)=some ⟨.int .i64 0,none,[]⟩:=fun Z=>by rw[W];exact db ⟨Z,rfl⟩
 have B:∀Z,ei L (.fn 77) [.agg ev] (M++Z)=some ⟨.agg [.func k0 [],.func k1 [],.func mf [],.func k3 [],.func k4 []],none,[]⟩:=fun Z=>by rw[W,de (.inl (by decide))];exact db ⟨Z,rfl⟩
 have z:∀Z,ei L (.fn mf) [.agg ev] (M++Z)=some ⟨.int .i64 mo,none,[]⟩:=fun Z=>by rw[W,de (.inl n1),de (.inl n2)];exact db ⟨Z,rfl⟩
 obtain⟨O,V⟩:=xE (ei L);rw[←V] at hO C B z;clear V W I R Y;have fr:∀f k,AV.aeR f (.func k [])=true:=fun _ _=>rfl
 have t0:ev.take 32=ev:=List.take_of_length_le (by omega);obtain⟨S,u⟩:∃S,aC f78=S :=⟨_,rfl⟩
 have m :=be u Is;simp only[aC,bn,f78,List.nil_append,List.append_nil] at u;subst u;simp only[lB] at m;obtain⟨q1,q2⟩:=hn;have K :¬mo<n:=by omega
 have w2:IntKind.i64.wrap (-2)= -2:=rfl;have X':cB (aN prog) (fun _=>[]) (aK prog) O 1 78 [.agg [pv,tv],.agg ev,.int .i64 n] M=some (.int .i64 0,M++[.cells true 0 [pv,tv],.cells true 0 ev]):=by
  by_cases J:kd=1
  ·rw[if_pos J] at G
   have X :¬n< -2:=by omega
   simp[-getElem?_pos,-AV.aeS,-AV.known,-AV.cells,-bL,-List.all_eq_true,vS,rS,mS,cB,j,f78,H,t0,fr,A,h0,J,X,K,C,B,z,-bl,-aW,-aB,-AV.aeR,-aeY.aeR,aF m,bX,bK,dH,cj,bR,gd,bef,Nat.testBit]
  ·rw[if_neg J] at G
   have X :¬n<0:=by omega
   simp[-getElem?_pos,-AV.aeS,-AV.known,-AV.cells,-bL,-List.all_eq_true,vS,rS,mS,cB,j,f78,H,t0,fr,A,h0,J,X,K,C,B,z,-bl,-aW,-aB,-AV.aeR,-aeY.aeR,aF m,bX,bK,dH,cj,bR,gd,bef,Nat.testBit]
 exact kO.forget rfl (bZ ae (ar _) hO (au _) X')
end
def RG:Option (List UInt8)→AV
 |none=>.tuple [.str [],.bool false,.int .i64 0]
 |some u=>.tuple [.str u,.bool true,.int .i64 0]
section
variable {pv tv b u sv kn:AV}{c:Evc}{x:Int}{M:Mem}{us:List (List UInt8)}{ub:Nat}{o:Bool}
theorem agl:aK prog 41=some f41:=by kernel_rfl
section
variable (cp:pv.aeS=true∧tv.aeS=true)
include cp
theorem AF(A:c.k=1)(I:b.aeS=true)(hu:u=.slice ub 0 us.length none)(hs:sv.aeS=true)(R:kn.aeS=true)(G:M[ub]? =some (.cells o 1 (stC us)))(Y:x<us.length)(hl:us.length≤1000)(H:∀Z,kO prog 78 [.agg [pv,tv],.agg (c.cells b u sv kn),.int .i64 x] (M++Z) (.int .i64 0) (M++Z)):
  kO prog 41 [.agg [pv,tv],.agg (c.cells b u sv kn),.int .i64 x] M (RG (if x= -2 then some [] else if 0≤x then some (us.getD x.toNat []) else none)) M:=by
 have w2:IntKind.i64.wrap (-2)= -2:=rfl;have J:∀s,(AV.str s).aeS=true:=fun _=>rfl
 have F:∀k n,(AV.int k n).aeS=true:=fun _ _=>rfl
 have D:∀b o n c,(AV.slice b o n c).aeS=true:=fun _ _ _ _=>rfl
 subst hu;obtain⟨z,m⟩:=cp;have O:HS prog (bT 78 [.agg [pv,tv],.agg (c.cells b (.slice ub 0 us.length none) sv kn),.int .i64 x] (.int .i64 0) (fun N=>∃Z,N=M++Z)):=cf fun N ⟨Z,hZ⟩=>by subst hZ;exact H Z
 clear H;have j:=gL G;have W :∀Z,(M++Z)[ub]? =some (.cells o 1 (stC us)):=fun Z=>gU G _
 have h:aa (aN prog) (fun _=>[]) (aK prog) (bT 78 [.agg [pv,tv],.agg (c.cells b (.slice ub 0 us.length none) sv kn),.int .i64 x] (.int .i64 0) (fun N=>∃Z,N=M++Z)) 1 41 [.agg [pv,tv],.agg (c.cells b (.slice ub 0 us.length none) sv kn),.int .i64 x] M=some ⟨RG (if x= -2 then some [] else if 0≤x then some (us.getD x.toNat []) else none),none,[]⟩:=by
  clear O;by_cases K:x= -2
  ·subst K
   simp[-AV.aeS,aa,agl,f41,bT,Evc.cells,RG,A]
  ·by_cases C:0≤x
   ·obtain⟨k,rfl⟩:∃k:Nat,x=k:=⟨x.toNat,by omega⟩
    have X:k<us.length:=by omega
    obtain⟨y,V⟩:∃y,us[k]? =some y:=⟨_,List.getElem?_eq_getElem X⟩
    have hg:us.getD k []=y:=by simp[List.getD,V]
    have S:(stC us)[k]? =some (.str y):=rP V;have B:k+1≤(stC us).length:=by rw[fe];omega
    have h3:¬((k:Int)= -2):=by omega
    simp[-AV.aeS,aa,agl,f41,bT,Evc.cells,RG,A,W,X,S,h3];exact((List.getElem?_eq_some_iff.1 V).2).symm
   ·simp[-AV.aeS,aa,agl,f41,bT,Evc.cells,RG,A,K,C]
 have:=(ah ae (ar _) O (au _) h).1;simpa [aeQ.mem] using this
theorem mO(G:c.k≠1∧c.k≠4)(H:b.aeS=true)(hu:u.aeS=true)(hs:sv.aeS=true)(I:kn.aeS=true)(A:∀Z,kO prog 78 [.agg [pv,tv],.agg (c.cells b u sv kn),.int .i64 x] (M++Z) (.int .i64 0) (M++Z)):
  kO prog 41 [.agg [pv,tv],.agg (c.cells b u sv kn),.int .i64 x] M (RG none) M:=by
 have W:∀s,(AV.str s).aeS=true:=fun _=>rfl
 have V:∀k n,(AV.int k n).aeS=true:=fun _ _=>rfl
 obtain⟨S,O⟩:=G;obtain⟨K,J⟩:=cp;have X:HS prog (bT 78 [.agg [pv,tv],.agg (c.cells b u sv kn),.int .i64 x] (.int .i64 0) (fun N=>∃Z,N=M++Z)):=cf fun N ⟨Z,hZ⟩=>by subst hZ;exact A Z
 clear A;refine cd X ?_;clear X;simp[-AV.aeS,aa,agl,f41,bT,Evc.cells,RG,S,O]
theorem zd(A:c.k=4)(H:b.aeS=true)(hu:u.aeS=true)(hs:sv.aeS=true)(I:kn.aeS=true)(G:∀Z,kO prog 78 [.agg [pv,tv],.agg (c.cells b u sv kn),.int .i64 x] (M++Z) (.int .i64 0) (M++Z)):
  kO prog 41 [.agg [pv,tv],.agg (c.cells b u sv kn),.int .i64 x] M (RG (if x=1 then some c.x24 else none)) M:=by
 have V:∀s,(AV.str s).aeS=true:=fun _=>rfl
 have S:∀k n,(AV.int k n).aeS=true:=fun _ _=>rfl
 obtain⟨O,K⟩:=cp;have X:HS prog (bT 78 [.agg [pv,tv],.agg (c.cells b u sv kn),.int .i64 x] (.int .i64 0) (fun N=>∃Z,N=M++Z)):=cf fun N ⟨Z,hZ⟩=>by subst hZ;exact G Z
 clear G;refine cd X ?_;clear X;by_cases W:x=1
 ·subst W
  simp[-AV.aeS,aa,agl,f41,bT,Evc.cells,RG,A]
 ·simp[-AV.aeS,aa,agl,f41,bT,Evc.cells,RG,A,W]
end
end
section
variable {s:aeX}{w:EvD}{D:Nat}{p:V3}{M:Mem}{pb tb:Nat}{o1 o2:Bool}{ev:List AV}{nm:List UInt8}
theorem Bq(w:EvD):(68≠kg w∧77≠kg w)∧61≠gP w∧77≠gP w:=by cases w<;>simp[kg,gP]
section
variable (h:afv M ev (w.con nm))(hc:lL s (w.con nm))(hw:w.Ok s)
include h hc hw
theorem MW(H:w.Fin)(G:vSm D 344 p)(I:D≤100)(m1:M[pb]? =some (.cells o1 2 (pC s.P)))(A:M[tb]? =some (.cells o2 3 (tC s.T))):
  kO prog 40 [.agg [.slice pb 0 s.P.length none,.slice tb 0 s.T.length none],.agg ev,vA p] M (.tuple [.int .i64 (nuE s w p),.int .i64 0]) M:=by
 have F:=gL m1;have C:=gL A;obtain⟨W,V⟩:=fR s;obtain⟨B,z,u,O⟩:=DS hw W nm;have X:vC p:=G.vC;have up:∀(Z:Mem) {b:Nat}{S:aeY},M[b]? =some S→(M++Z)[b]? =some S:=fun Z {b S} hb=>gU hb _
 obtain⟨⟨K,J⟩,_⟩:=Bq w;exact E5 (p:=p) ⟨rfl,rfl⟩ h.l32 (List.all_eq_true.2 h.cok) (fun x=>by simp only[AV.aeR,decide_eq_true_eq];omega) (fun x=>by simp only[AV.aeR,decide_eq_true_eq];omega) (fun x=>h.refs x)
  (fun Z=>jF ⟨_,_,rfl,rfl,rfl⟩ h.l32 h.cok (fun Y=>hc _ pb tb o1 o2 ev (by rw[List.append_assoc];exact up _ m1) (by rw[List.append_assoc];exact up _ A) ((h.more Z).more Y)) X)
  (fun Z=>O _ _ (h.more Z)) (fun Z=>MV V (h.more Z) hw H G I (up Z m1) (up Z A)) K J
section
variable (x:V3)(m1:M[pb]? =some (.cells o1 2 (pC s.P)))(m2:M[tb]? =some (.cells o2 3 (tC s.T)))
include x m1 m2
theorem HH:
  kO prog 78 [.agg [.slice pb 0 s.P.length none,.slice tb 0 s.T.length none],.agg ev,.int .i64 (nuE s w x)] M (.int .i64 0) M:=by
 have J:=gL m1;have F:=gL m2;obtain⟨W,C⟩:=fR s;obtain⟨B,z,m,V⟩:=DS hw W nm;have up:∀(Z:Mem) {b:Nat}{S:aeY},M[b]? =some S→(M++Z)[b]? =some S:=fun Z {b S} hb=>gU hb _
 obtain⟨_,O,K⟩:=Bq w;have X:ev[0]? =some (.int .i64 (w.con nm).k)∧lwE w=if (w.con nm).k=1 then -2 else 0:=by obtain⟨b,u,j,Y,rfl,_⟩:=h;refine⟨rfl,?_⟩;cases w<;>rfl
 exact AL ⟨rfl,rfl⟩ h.l32 (List.all_eq_true.2 h.cok) (fun y=>by simp only[AV.aeR,decide_eq_true_eq];omega) (fun y=>by simp only[AV.aeR,decide_eq_true_eq];omega) (fun y=>h.refs y) X.1 X.2 (Za hw x)
  (fun Z=>hc _ pb tb o1 o2 ev (up _ m1) (up _ m2) (h.more Z)) (fun Z=>V _ _ (h.more Z)) (fun Z=>MT hw nm (h.more Z)) O K
theorem HE:
  kO prog 41 [.agg [.slice pb 0 s.P.length none,.slice tb 0 s.T.length none],.agg ev,.int .i64 (nuE s w x)] M (RG (GL w (nuE s w x))) M:=by
 have up:∀(Z:Mem) {b:Nat}{S:aeY},M[b]? =some S→(M++Z)[b]? =some S:=fun Z {b S} hb=>gU hb _
 have X:∀Z,kO prog 78 [.agg [.slice pb 0 s.P.length none,.slice tb 0 s.T.length none],.agg ev,.int .i64 (nuE s w x)] (M++Z) (.int .i64 0) (M++Z):=fun Z=>HH (h.more Z) hc hw x (up Z m1) (up Z m2)
 obtain⟨b,u,J,C,rfl,W,V,F,O⟩:=h;have K:J.aeS=true:=by obtain⟨_,_,h3,_⟩:=F;exact h3.ck
 cases w with
 |dep Z us Ys=>
  obtain⟨B,q,rfl,hu⟩:=V.pos (by show 0<us.length;have:=hw.2.1;omega);exact AF ⟨rfl,rfl⟩ rfl W.ck rfl K O.ck hu (Cq (w:=.dep Z us Ys) hw x) (by have:=hw.2.1;have:=hw.2.2.1;omega) X
 |afW n o w u' =>exact zd ⟨rfl,rfl⟩ rfl W.ck V.ck K O.ck X
 |fault n o v=>exact mO ⟨rfl,rfl⟩ ⟨by show¬((2:Int)=1);decide,by show¬((2:Int)=4);decide⟩ W.ck V.ck K O.ck X
 |fold n d c v=>exact mO ⟨rfl,rfl⟩ ⟨by show¬((3:Int)=1);decide,by show¬((3:Int)=4);decide⟩ W.ck V.ck K O.ck X
 |afZ i c=>exact mO ⟨rfl,rfl⟩ ⟨by show¬((5:Int)=1);decide,by show¬((5:Int)=4);decide⟩ W.ck V.ck K O.ck X
end
end
end
end Go.Proofs
