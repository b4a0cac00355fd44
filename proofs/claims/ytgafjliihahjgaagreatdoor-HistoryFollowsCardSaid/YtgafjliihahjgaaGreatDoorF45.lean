/- See F54. -/
import Derived.Test.YtgafjliihahjgaaGreatDoorF44
set_option linter.all false
set_option maxRecDepth 100000
set_option maxHeartbeats 40000000
namespace Go.Proofs
open Go.Eng
end Go.Proofs
namespace Go.Proofs
open Go.Eng
open Tryz
structure Fol where
 u:List UInt8
 l:List Int
 e:Int
 q:V3
noncomputable def jf(s:aeX):List EvD→V3→Fol
 | [],p=>⟨bk,[],-1,p⟩
 |w::r,p=>match GL w (nuE s w p) with
  |some u=>⟨u,[nuE s w p],r.length,p⟩
  |none=>⟨(jf s r (w.mv true p)).u,nuE s w p::(jf s r (w.mv true p)).l,(jf s r (w.mv true p)).e,(jf s r (w.mv true p)).q⟩
variable{r:List EvD}{s:aeX}
theorem nI{w:EvD}{p:V3}{u:List UInt8}(h:GL w (nuE s w p)=some u):jf s (w::r) p=⟨u,[nuE s w p],r.length,p⟩:=by rw[jf,h]
theorem nH{w:EvD}{p:V3}(h:GL w (nuE s w p)=none):jf s (w::r) p=⟨(jf s r (w.mv true p)).u,nuE s w p::(jf s r (w.mv true p)).l,(jf s r (w.mv true p)).e,(jf s r (w.mv true p)).q⟩:=by rw[jf,h]
theorem YT(s:aeX):∀(l:List EvD) (p:V3),-1≤(jf s l p).e∧(jf s l p).e<l.length
 | [],p=>by simp[jf]
 |w::r,p=>by
  have:=YT s r (w.mv true p);cases h:GL w (nuE s w p) with
  |some u=>rw[nI h];simp only[List.length_cons];omega
  |none=>rw[nH h];simp only[List.length_cons];omega
theorem Um(s:aeX):∀(l:List EvD) (p:V3),((jf s l p).l.length:Int)=l.length-max (jf s l p).e 0
 | [],p=>by show((0:Nat):Int)=((0:Nat):Int)-max (-1) 0;omega
 |w::r,p=>by
  have:=Um s r (w.mv true p);have:=YT s r (w.mv true p);cases h:GL w (nuE s w p) with
  |some u=>rw[nI h];simp only[List.length_cons,List.length_nil];omega
  |none=>rw[nH h];simp only[List.length_cons];omega
theorem YU{s:aeX}:∀{l:List EvD} {p:V3},plL true l p→plK 3 (jf s l p).q
 | [],p,h=>h
 |w::r,p,h=>by
  cases he:GL w (nuE s w p) with
  |some u=>rw[nI he];exact h.1
  |none=>rw[nH he];exact YU h.2
theorem Sr{M:Mem}{v:AV}(H:v.aeS=true)(G:v.cells=[v])(A:v.known=true):kO prog 49 [v] M (.func 83 [.ptr M.length 0]) (M++[.cells true 0 [v]]):=by
 have Z:aK prog 49=some f49:=by kernel_rfl
 have h:cB (aN prog) (fun _=>[]) (aK prog) bM 1 49 [v] M=some (.func 83 [.ptr M.length 0],M++[.cells true 0 [v]]):=by simp[-getElem?_pos,-AV.aeS,-AV.known,-AV.cells,-bL,-List.all_eq_true,cB,Z,f49,G,A]
 exact bZ ae (ar _) (al _) (au _) h
variable{b:Code}{env:Env}{g:Bool}
section
variable {O:aeT}{N:Mem}{yb bs q n j:Nat}{o:Bool}{C e:List AV}{v:AV}
theorem Io{m0:Nat}(A:ai f83=[b])(G:ad env 0=.yield yb)(H:ad env 1=.ptr bs 0)(I:ad env 3=.int .i64 j)(R:j<n)(hn:n≤1000)(Y:N[bs]? =some (.cells true 0 [.slice q 0 n none]))(h2:N[q]? =some (.cells o 32 C))(hC:C.length=n*32)(he:(C.drop (j*32)).take 32=e)(ha:e.all AV.aeS=true){p new:Mem}(hO:O (.yld yb) [.int .i64 j,.agg e] N=some ⟨.bool g,some p,new⟩)(d:Bool):
  ∃Z,aM (aN prog) (fun _=>[3,3,3]) O 9 19 m0 true b ⟨env,N,d⟩=some (if g then .normal else .ret,Z)∧Z.mem=p++new∧(g=true→ad Z.env 3=.int .i64 ((j:Int)-1)):=by
 simp[ai,aG,f83] at A;subst A;have w1:IntKind.i64.wrap ((j:Int)-1)=(j:Int)-1:=aq;have hc:j*32+32≤C.length:=by omega
 cases g<;>simp[-List.all_eq_true,aeQ.mem,G,H,I,Y,h2,R,hc,he,hO,w1]
theorem A4(A:ai f83=[b])(G:ad env 3=.int .i64 (-1))(m0:Nat)(d:Bool):
  ∃Z,aM (aN prog) (fun _=>[3,3,3]) O 9 19 m0 true b ⟨env,N,d⟩=some (.exit 0,⟨Z,N,d⟩):=by
 simp[ai,aG,f83] at A;subst A;simp[G]
theorem pS(G:ai f83=[b])(A env:Env):ad (aD [3,3,3] (ab b) A env) 3=ad env 3∧ad (aD [3,3,3] (ab b) A env) 0=ad A 0∧ad (aD [3,3,3] (ab b) A env) 1=ad A 1:=by simp[ai,aG,f83] at G;subst G;simp[aD]
theorem A5{G :Mem}(H:N[bs]? =some (.cells true 0 [v]))(I:∀N,DB (aN prog) 38 N v=some (.int .i64 n))(R:n≤1000)(h:∀b,ai f83=[b]→∀(A:Env)(d:Bool),(ad A 0=.yield yb∧ad A 1=.ptr bs 0∧ad A 3=.int .i64 ((n:Int)-1))→∃r:Env×Bool,er [3,3,3] (ab b) A N.length (aM (aN prog) (fun _=>[3,3,3]) O 9 19 N.length true b) 9 ⟨aD [3,3,3] (ab b) A A,N,d⟩=some (if g then .ret else .exit 0,⟨r.1,G,r.2⟩)):
  cB (aN prog) (fun _=>[3,3,3]) (aK prog) O 9 83 [.yield yb,.ptr bs 0] N=some (.tuple [],G):=by
 have X:aK prog 83=some f83:=by kernel_rfl
 obtain⟨b,Z⟩:∃b,ai f83=[b]:=⟨_,rfl⟩
 obtain⟨F,W⟩:=jW (β:=Env×Bool) (fun env d V=>by
  have:=h b Z env d V
  rwa [show er [3,3,3] (ab b) env N.length (aM (aN prog) (fun _=>[3,3,3]) O 9 19 N.length true b) 9 ⟨aD [3,3,3] (ab b) env env,N,d⟩=aM (aN prog) (fun _=>[3,3,3]) O 9 19 N.length true (.loop b) ⟨env,N,d⟩ from rfl] at this)
 have w1:IntKind.i64.wrap ((n:Int)-1)=(n:Int)-1:=aq;clear h;simp[ai,aG,f83] at Z;subst Z;cases g<;>simp[-DB,cB,X,f83,H,I,w1,W]
end
def foM(M:Mem)(h T4 BX:aeY)(p:V3)(A:List AV)(G:afT)(Z:Mem):Mem:=M++(h::.cells true 0 (vL p)::T4::.cells true 0 A::BX::.loop G::Z)
section
variable (M:Mem)(h T4 BX:aeY)(p:V3)(T5:List AV)(lp:afT)
include M h T4 BX p T5 lp
theorem OH(Z Y:Mem):foM M h T4 BX p T5 lp Z++Y=foM M h T4 BX p T5 lp (Z++Y):=by simp[foM]
theorem GO(Z:Mem):(foM M h T4 BX p T5 lp Z).length=M.length+(Z.length+6):=by simp[foM]
theorem Uk(Z:Mem):(foM M h T4 BX p T5 lp Z)[M.length+4]? =some BX:=by unfold foM;rw[fV];rfl
end
theorem Ya{M:Mem}{q:Nat}{x:aeY}(hq:M[q]? =some x)(h T4 BX:aeY)(p:V3)(A:List AV)(G:afT)(Z:Mem):(foM M h T4 BX p A G Z)[q]? =some x:=by unfold foM;rw[List.getElem?_append_left (gL hq)];exact hq
def foT(u:List UInt8)(pv:AV)(e:Int):List AV:=[.str u,pv,.int .i64 e,.str [],.str [],.str []]
def wK(M Z:Mem)(pv:AV)(L:List AV)(A:Mem):Prop:=(pv=.y9∧L=[]∧A=Z)∨∃i,pv=.slice (M.length+(i+6)) 0 L.length none∧Z[i]? =some (.cells true 1 L)∧A=Z.set i .aeP∧0<L.length
section
variable {O:aeT}{M Z Z1:Mem}{pv tv E w:AV}{nm u0:List UInt8}{p p1:V3}{T4 BX:aeY}{z':Env}{ps:Array Tmp}{asg body:Code}{ev L:List AV}{j n:Int}
theorem QV{o:Option (List UInt8)}(G:wK M Z w L Z1)(H:L.length≤1000)(A:rE f30=[(ps,asg,body)])(I:ad z' 2=.ptr M.length 0)(R:ad z' 3=.ptr (M.length+1) 0)(l5:ad z' 5=.ptr (M.length+3) 0)(cp:pv.aeS=true)(ct:tv.aeS=true)(eN:∀X,O (.fn 50) [.agg [pv,tv],.agg ev,vA p] (M++X)=some ⟨.int .i64 n,none,[]⟩)(eE:∀X,O (.fn 51) [.agg ev,.int .i64 n] (M++X)=some ⟨.tuple [.str (o.getD []),.bool o.isSome],none,[]⟩)(eM:∀X,O (.fn 52) [.agg ev,vA p,.bool true] (M++X)=some ⟨vA p1,none,[]⟩)(l0:ev.length=32)(g0:ev.all AV.aeS=true):
  si (aN prog) (fun _=>[]) O 2 (M.length+5) [.int .i64 j,.agg ev] (foM M (.cells true 0 [pv,tv,.str nm,E]) T4 BX p (foT u0 w (-1)) ⟨.ready,none,z',47,ps,asg,body⟩ Z)=
   some (.bool (!o.isSome),foM M (.cells true 0 [pv,tv,.str nm,E]) T4 BX (if o.isSome then p else p1) (foT (o.getD u0) (.slice (M.length+(Z.length+8)) 0 (L.length+1) none) (if o.isSome then j else -1)) (if o.isSome then⟨mW (some (.exit 0)),some (.exit 0),z',47,ps,asg,body⟩ else⟨.ready,none,z',47,ps,asg,body⟩) (Z1++[.cells true 0 ev,.cells true 1 [.int .i64 n],.cells true 1 (L++[.int .i64 n])])):=by
 have t0:ev.take 32=ev:=List.take_of_length_le (by omega);have K:dK asg=true∧dK body=true∧ps= #[17,18]:=by simp[rE,na,f30] at A;obtain⟨rfl,rfl,rfl⟩:=A;exact⟨by decide,by decide,rfl⟩
 obtain⟨W,V,rfl⟩:=K;have w1:IntKind.i64.wrap (-1)= -1:=rfl;unfold vA at*;unfold foM foT;simp only[vL];simp[si,W,V];simp[rE,na,f30] at A;obtain⟨rfl,rfl⟩:=A;clear W V;have D:(L.length+1)*8≤140737488355328:=by omega
 have C:L.length+1≤140737488355328:=by omega
 have J:∀i,Z[i]? =some (.cells true 1 L)→(∀Y:Mem,(Z++Y)[i]? =some (.cells true 1 L))∧∀Y:Mem,(Z++Y).set i .aeP=Z.set i .aeP++Y:=fun i S=>by have F:=gL S;exact⟨fun Y=>gU S _,fun Y=>List.set_append_left _ _ F⟩
 rcases G with⟨rfl,rfl,rfl⟩ | ⟨i,rfl,S,rfl,_⟩
 rotate_left
 obtain⟨B,z⟩:=J i S;have u:∀Y:Mem,(Z.set i .aeP++Y)[Z.length]? =Y[0]? :=fun Y=>by have:=jU (Z.set i .aeP) Y;rwa [List.length_set] at this
 all_goals cases o<;>simp[-getElem?_pos,-AV.aeS,-AV.known,-AV.cells,-bL,-List.all_eq_true,vS,mS, *,B9,mW,Nat.add_assoc]
end
end Go.Proofs
namespace Go.Proofs
open Go.Eng
open Tryz
def foI(M:Mem):AV→Option Nat
 |.slice b _ _ _=>some (b-(M.length+6))
 |_=>none
def WE(M Z:Mem)(pv:AV):List AV:=match foI M pv with
 |some i=>match Z[i]? with
  |some (.cells _ _ cs)=>cs
  |_=>[]
 |none=>[]
def LO(M Z:Mem)(pv:AV):Mem:=match foI M pv with
 |some i=>Z.set i .aeP
 |none=>Z
def LN(M Z:Mem)(pv:AV)(A:List AV)(n:Int):Mem:=[.cells true 0 A,.cells true 1 [.int .i64 n],.cells true 1 (WE M Z pv++[.int .i64 n])]
def Xo(M Z:Mem)(pv:AV):AV:=.slice (M.length+(Z.length+8)) 0 ((WE M Z pv).length+1) none
variable{L:List AV}{Z1:Mem}
section
variable{M Z:Mem}{pv:AV}(h:wK M Z pv L Z1)
include M Z pv h
theorem XE:WE M Z pv=L∧LO M Z pv=Z1∧Z1.length=Z.length:=by
 rcases h with⟨rfl,rfl,rfl⟩ | ⟨i,rfl,X,rfl,_⟩
 ·exact⟨rfl,rfl,rfl⟩
 ·have e:foI M (.slice (M.length+(i+6)) 0 L.length none)=some i:=by show some _=some _;congr 1;omega
  exact⟨by unfold WE;rw[e];simp only[X],by unfold LO;rw[e],by rw[List.length_set]⟩
theorem P0(A:List AV)(n:Int):∃X,wK M (LO M Z pv++LN M Z pv A n) (Xo M Z pv) (L++[.int .i64 n]) X:=by obtain⟨W,V,h3⟩:=XE h;unfold Xo LN;rw[W,V];refine⟨_,.inr ⟨Z.length+2,by simp[Nat.add_assoc],?_,rfl,by simp⟩⟩;rw[List.getElem?_append_right (by omega),h3,Nat.add_sub_cancel_left];rfl
theorem Yn:(pv.aeS=true∧pv.known=true∧pv.cells=[pv])∧∀a:Mem,a.length=6→afb (M++(a++Z)) pv 1 L.length L:=by
 rcases h with⟨rfl,rfl,rfl⟩ | ⟨i,rfl,X,rfl,W⟩
 ·exact⟨⟨rfl,rfl,rfl⟩,fun a V=>.inl ⟨rfl,rfl,rfl⟩⟩
 ·exact⟨⟨rfl,rfl,rfl⟩,fun a V=>.inr ⟨_,true,rfl,W,by rw[fV,show i+6=a.length+i by omega,List.getElem?_append_right (by omega),Nat.add_sub_cancel_left];exact X⟩⟩
end
structure FoR where
 Z:Mem
 pv:AV
 st:LoopState
 afy:Option Code
noncomputable def vR(s:aeX)(M:Mem):List (EvD×List AV)→V3→Mem→AV→FoR
 | [],_,Z,pv=>⟨Z,pv,.ready,none⟩
 |x::r,p,Z,pv=>match GL x.1 (nuE s x.1 p) with
  |some _=>⟨LO M Z pv++LN M Z pv x.2 (nuE s x.1 p),Xo M Z pv,mW (some (.exit 0)),some (.exit 0)⟩
  |none=>vR s M r (x.1.mv true p) (LO M Z pv++LN M Z pv x.2 (nuE s x.1 p)) (Xo M Z pv)
theorem PH{s:aeX}{M:Mem}:∀(l:List (EvD×List AV)) (p:V3) (Z:Mem) (pv:AV) (L:List AV) (Z1:Mem),wK M Z pv L Z1→
  ((vR s M l p Z pv).st== .busy)=false∧(qV (vR s M l p Z pv).afy=some .normal∨qV (vR s M l p Z pv).afy=some (.exit 0))∧∃X,wK M (vR s M l p Z pv).Z (vR s M l p Z pv).pv (L++(jf s (l.map Prod.fst) p).l.map fun n=>.int .i64 n) X
 | [],p,Z,pv,L,Z1,h=>⟨rfl,.inl rfl,Z1,by show wK M Z pv (L++[]) Z1;rw[List.append_nil];exact h⟩
 |x::r,p,Z,pv,L,Z1,h=>by
  obtain⟨X,W⟩:=P0 h x.2 (nuE s x.1 p);rw[List.map_cons,vR];cases e:GL x.1 (nuE s x.1 p) with
  |some u=>
   rw[nI e];exact⟨rfl,.inr rfl,X,W⟩
  |none=>
   rw[nH e];have:=PH (s:=s) r (x.1.mv true p) _ _ _ _ W;simpa using this
variable{ev:List AV}{w:AV}
section
variable {M:Mem}{s:aeX}{pv tv E:AV}{p p1:V3}{h T4 BX:aeY}{z':Env}{ps:Array Tmp}{asg body:Code}
def Ul(M:Mem)(h T4 BX:aeY)(z':Env)(ps:Array Tmp)(asg body:Code)(o:Option (List UInt8))(p p1:V3)(j:Int)(ev:List AV)(n:Int)(Z:Mem)(pv:AV):aeQ:=
 ⟨.bool (!o.isSome),some (foM M h T4 BX (if o.isSome then p else p1) (foT (o.getD bk) (Xo M Z pv) (if o.isSome then j else -1)) (if o.isSome then⟨mW (some (.exit 0)),some (.exit 0),z',47,ps,asg,body⟩ else⟨.ready,none,z',47,ps,asg,body⟩) (LO M Z pv)),LN M Z pv ev n⟩
theorem F7{Z:Mem}{o:Option (List UInt8)}{j n:Int}(A:wK M Z w L Z1)(H:L.length≤1000)(I:rE f30=[(ps,asg,body)])(R:ad z' 2=.ptr M.length 0)(Y:ad z' 3=.ptr (M.length+1) 0)(l5:ad z' 5=.ptr (M.length+3) 0)(cp:pv.aeS=true)(ct:tv.aeS=true)(hN:∀X,kO prog 50 [.agg [pv,tv],.agg ev,vA p] (M++X) (.int .i64 n) (M++X))(G:∀X,kO prog 51 [.agg ev,.int .i64 n] (M++X) (PE o) (M++X))(hM:∀X,kO prog 52 [.agg ev,vA p,.bool true] (M++X) (vA p1) (M++X))(l0:ev.length=32)(g0:ev.all AV.aeS=true):
  jS prog (.yld (M.length+5)) [.int .i64 j,.agg ev] (foM M (.cells true 0 [pv,tv,.str bk,E]) T4 BX p (foT bk w (-1)) ⟨.ready,none,z',47,ps,asg,body⟩ Z) (Ul M (.cells true 0 [pv,tv,.str bk,E]) T4 BX z' ps asg body o p p1 j ev n Z w):=by
 obtain⟨V,S,h3⟩:=XE A;have O:PE o=.tuple [.str (o.getD []),.bool o.isSome]:=by cases o<;>rfl
 rw[O] at G;have K:=ja (P:=prog) (L:=[(50,[.agg [pv,tv],.agg ev,vA p],(fun N=>∃X,N=M++X),⟨.int .i64 n,none,[]⟩),(51,[.agg ev,.int .i64 n],(fun N=>∃X,N=M++X),⟨.tuple [.str (o.getD []),.bool o.isSome],none,[]⟩),(52,[.agg ev,vA p,.bool true],(fun N=>∃X,N=M++X),⟨vA p1,none,[]⟩)]) fun y W N hq=>by
  simp only[lM] at W;rcases W with rfl | rfl | rfl<;>obtain⟨X,rfl⟩:=hq
  ·exact aU (hN X)
  ·exact aU (G X)
  ·exact aU (hM X)
 have J:=zQ ae (ar _) K (QV (j:=j) (u0:=bk) (E:=E) (nm:=bk) (T4:=T4) (BX:=BX) A H I R Y l5 cp ct (fun X=>db ⟨X,rfl⟩) (fun X=>by rw[de (.inl (by decide))];exact db ⟨X,rfl⟩) (fun X=>by rw[de (.inl (by decide)),de (.inl (by decide))];exact db ⟨X,rfl⟩) l0 g0);unfold Ul Xo LN;rw[V,S];refine⟨?_,fun q hq=>?_⟩
 ·simp only[aeQ.mem,Option.getD_some,OH]
  exact J
 ·cases hq
  rw[GO,GO,h3]
theorem Zn{v w:V3}(h:vL v=vL w):v=w:=by obtain⟨a,b,c⟩:=v;obtain⟨W,V,S⟩:=w;simp only[vL,List.cons.injEq,AV.str.injEq,and_true] at h;obtain⟨Z,X,h3⟩:=h;rw[eO Z,eO X,eO h3]
theorem X9{p G :V3}{w' :AV}{H A :afT}{Z I :Mem}(e:foM M h T4 BX p (foT bk w (-1)) H Z=foM M h T4 BX G (foT bk w' (-1)) A I):p=G ∧w=w' ∧H=A ∧Z=I :=by have e:=List.append_cancel_left e;simp only[List.cons.injEq,aeY.cells.injEq,aeY.loop.injEq,foT,true_and,and_true] at e;exact⟨Zn e.1,e.2⟩
variable {O:aeT}{xs:List (EvD×List AV)}{q n:Nat}{o:Bool}{C:List AV}
theorem yc{b:Code}(G:ai f83=[b])(hn:xs.length=n)(H:n≤900)(hq:M[q]? =some (.cells o 32 C))(I:C.length=n*32)(R:∀(j:Nat) x,xs[j]? =some x→(C.drop (j*32)).take 32=x.2∧x.2.all AV.aeS=true)
  (Y:∀(j:Nat) x p Z w L Z1,xs[j]? =some x→plK 3 p→wK M Z w L Z1→L.length≤1000→O (.yld (M.length+5)) [.int .i64 j,.agg x.2] (foM M h T4 (.cells true 0 [.slice q 0 n none]) p (foT bk w (-1)) ⟨.ready,none,z',47,ps,asg,body⟩ Z)=some (Ul M h T4 (.cells true 0 [.slice q 0 n none]) z' ps asg body (GL x.1 (nuE s x.1 p)) p (x.1.mv true p) j x.2 (nuE s x.1 p) Z w))
  {A:Env}(l0:ad A 0=.yield (M.length+5)) (l1:ad A 1=.ptr (M.length+4) 0) (m1 m0:Nat):
  ∀(k:Nat) (p:V3) (Z:Mem) (w:AV) (L:List AV) (Z1:Mem) (env:Env) (d:Bool) (K:Nat),k≤n→k<K→plL true ((xs.take k).reverse.map Prod.fst) p→wK M Z w L Z1→L.length+k≤1000→ad env 3=.int .i64 ((k:Int)-1)→
   ∃r:Env×Bool,er [3,3,3] (ab b) A m1 (aM (aN prog) (fun _=>[3,3,3]) O 9 19 m0 true b) K ⟨aD [3,3,3] (ab b) A env,foM M h T4 (.cells true 0 [.slice q 0 n none]) p (foT bk w (-1)) ⟨.ready,none,z',47,ps,asg,body⟩ Z,d⟩=
    some (if (vR s M (xs.take k).reverse p Z w).afy.isSome then .ret else .exit 0,⟨r.1,foM M h T4 (.cells true 0 [.slice q 0 n none]) (jf s ((xs.take k).reverse.map Prod.fst) p).q (foT (jf s ((xs.take k).reverse.map Prod.fst) p).u (vR s M (xs.take k).reverse p Z w).pv (jf s ((xs.take k).reverse.map Prod.fst) p).e) ⟨(vR s M (xs.take k).reverse p Z w).st,(vR s M (xs.take k).reverse p Z w).afy,z',47,ps,asg,body⟩ (vR s M (xs.take k).reverse p Z w).Z,r.2⟩)
 |0,p,Z,w,L,Z1,env,d,K,hk,hK,hv,hp,hL,h3=>by
  obtain⟨K,rfl⟩:∃k,K=k+1:=⟨K-1,by omega⟩
  obtain⟨V,F,D⟩:=pS G A env;obtain⟨B,z⟩:=A4 (O:=O) (N:=foM M h T4 (.cells true 0 [.slice q 0 n none]) p (foT bk w (-1)) ⟨.ready,none,z',47,ps,asg,body⟩ Z) G (env:=aD [3,3,3] (ab b) A env) (by rw[V];exact h3) m0 d;exact⟨(B,d),by rw[er,z];rfl⟩
 |k+1,p,Z,w,L,Z1,env,d,K,hk,hK,hv,hp,hL,h3=>by
  obtain⟨K,rfl⟩:∃k,K=k+1:=⟨K-1,by omega⟩
  obtain⟨V,F,D⟩:=pS G A env;obtain⟨x,W⟩:∃x,xs[k]? =some x:=⟨_,List.getElem?_eq_getElem (by omega)⟩
  have m:(xs.take (k+1)).reverse=x::(xs.take k).reverse:=by rw[List.take_add_one,W];simp
  rw[m] at hv ⊢;have hc:=Y k x p Z w L Z1 W hv.1 hp (by omega);obtain⟨c1,c2⟩:=R k x W;have S :ad env 3=.int .i64 (k:Int):=by rw[h3];congr 1;omega
  unfold Ul at hc;obtain⟨X,t1,t2,t3⟩:=Io (m0:=m0) G (env:=aD [3,3,3] (ab b) A env) (by rw[F];exact l0) (by rw[D];exact l1) (by rw[V];exact S) (show k<n by omega) (by omega) (Uk _ _ _ _ _ _ _ _) (Ya hq _ _ _ _ _ _ _) I c1 c2 hc d;rw[OH] at t2;rw[er,t1,List.map_cons,vR];cases e:GL x.1 (nuE s x.1 p) with
  |some u=>
   rw[e] at t2;rw[nI e];refine⟨(X.env,X.ae9),?_⟩;simp only[Option.isSome_some,Bool.not_true,Bool.false_eq_true,if_false,if_true,List.length_map,List.length_reverse,List.length_take];rw[show min k xs.length=k by omega];have e2:X.mem=foM M h T4 (.cells true 0 [.slice q 0 n none]) p (foT u (Xo M Z w) (k:Int)) ⟨mW (some (.exit 0)),some (.exit 0),z',47,ps,asg,body⟩ (LO M Z w++LN M Z w x.2 (nuE s x.1 p)):=t2;rw[←e2]
  |none=>
   rw[e] at t2 t3;rw[nH e];obtain⟨Z2,J⟩:=P0 hp x.2 (nuE s x.1 p);obtain⟨r,hr⟩:=yc G hn H hq I R Y l0 l1 m1 m0 k (x.1.mv true p) _ _ _ _ X.env X.ae9 K (by omega) (by omega) hv.2 J (by simp;omega) (t3 rfl);refine⟨r,?_⟩;have hs:ic [3,3,3] (ab b) A m1 X =⟨aD [3,3,3] (ab b) A X.env,foM M h T4 (.cells true 0 [.slice q 0 n none]) (x.1.mv true p) (foT bk (Xo M Z w) (-1)) ⟨.ready,none,z',47,ps,asg,body⟩ (LO M Z w++LN M Z w x.2 (nuE s x.1 p)),X.ae9⟩:=by simp[ic,jE,t2]
   simp only[Option.isSome_none,Bool.not_false,if_true];rw[hs];exact hr
end
section
variable {s:aeX}{p t q:Nat}{evs:List (List AV)}{cs:List Evc}{M:Mem}{ws:List EvD}{v:V3}{ps:Array Tmp}{asg body:Code}
def Qh(M:Mem)(h T4 BX:aeY)(v:V3)(ps:Array Tmp)(asg body:Code)(F:Fol):Prop:=
 ∃(S:LoopState) (X:Option Code) (Z:Mem) (W:AV),(S== .busy)=false∧(qV X=some .normal∨qV X=some (.exit 0))∧(W.aeS=true∧W.known=true∧W.cells=[W])∧(∀a:Mem,a.length=6→afb (M++(a++Z)) W 1 F.l.length (F.l.map fun n=>.int .i64 n))∧
  ∀V:Env,(ad V 2=.ptr M.length 0∧ad V 3=.ptr (M.length+1) 0∧ad V 5=.ptr (M.length+3) 0)→
   kO prog 83 [.yield (M.length+5),.ptr (M.length+4) 0] (foM M h T4 BX v (foT bk .y9 (-1)) ⟨.ready,none,V,47,ps,asg,body⟩ []) (.tuple []) (foM M h T4 BX F.q (foT F.u W F.e) ⟨S,X,V,47,ps,asg,body⟩ []++Z)
theorem Tryz.afK.ahL(H:afK s p t q evs cs M)(G:∀(i:Nat) c w,cs[i]? =some c→ws[i]? =some w→w.Ok s∧c=w.con c.nm){i:Nat}{w:EvD}(A:evs[i]? =some ev)(I:ws[i]? =some w){v:V3}(R:plK 3 v):
  (∀X,kO prog 50 [.agg [.slice p 0 s.P.length none,.slice t 0 s.T.length none],.agg ev,vA v] (M++X) (.int .i64 (nuE s w v)) (M++X))∧(∀X,kO prog 51 [.agg ev,.int .i64 (nuE s w v)] (M++X) (PE (GL w (nuE s w v))) (M++X))∧
   (∀X,kO prog 52 [.agg ev,vA v,.bool true] (M++X) (vA (w.mv true v)) (M++X))∧ev.length=32∧ev.all AV.aeS=true:=by
 have V:=gL A;obtain⟨c,hc⟩:∃c,cs[i]? =some c:=⟨_,List.getElem?_eq_getElem (by rw[←H.len];exact V)⟩
 obtain⟨Z,S⟩:=G i c w hc I;obtain⟨D,C,O⟩:=id R;obtain⟨B,K⟩:=Mm (k:=3) (by decide);have W:=fun X=>(H.more X).con i ev c A hc
 rw[S] at W;refine⟨fun X=>?_,fun X=>M5 (W X) Z (Cq Z v),fun X=>H.ahK G A I true R (by decide) X,H.l32 ev (List.mem_of_getElem? A),List.all_eq_true.2 (H.cok ev (List.mem_of_getElem? A))⟩;obtain⟨_,J⟩:=(H.more X).hp;obtain⟨_,F⟩:=(H.more X).ht;exact QG (W X) Z (O.mono K) (by omega) J F
theorem Ep{evs:List (List AV)}(A:∀e∈evs,e.length=32){j:Nat}{e:List AV}(h:evs[j]? =some e):(evs.flatten.drop (j*32)).take 32=e:=by rw[LM j A,List.drop_eq_getElem_cons (gL h),(List.getElem?_eq_some_iff.1 h).2,List.flatten_cons];have:=A e (List.mem_of_getElem? h);rw[←this,List.take_left]
theorem QU(H:afK s p t q evs cs M)(G:ws.length=cs.length)(I:∀(i:Nat) c w,cs[i]? =some c→ws[i]? =some w→w.Ok s∧c=w.con c.nm)(hv:plL true ws.reverse v)(A:rE f30=[(ps,asg,body)])(T4:aeY):
  Qh M (.cells true 0 (dv s p t q cs.length)) T4 (.cells true 0 [evV q cs.length]) v ps asg body (jf s ws.reverse v):=by
 obtain⟨X,S⟩:=xE (ws.zip evs);have hl:=H.len;have W:X.length=cs.length:=by rw[S,List.length_zip];omega
 have K:X.map Prod.fst=ws:=by rw[S,List.map_fst_zip (by omega)]
 have F:∀(j:Nat) x,X[j]? =some x→ws[j]? =some x.1∧evs[j]? =some x.2:=fun j x h=>by rw[S] at h;exact List.getElem?_zip_eq_some.1 h
 have D:wK M [] .y9 [] []:=.inl ⟨rfl,rfl,rfl⟩;obtain⟨r1,r2,Z2,r3⟩:=PH (s:=s) X.reverse v [] .y9 [] [] D;obtain⟨r4,Y⟩:=Yn r3;rw[List.map_reverse,K,List.nil_append] at Y;refine⟨_,_,_,_,r1,r2,r4,fun a z=>by have:=Y a z;rwa [List.length_map] at this,fun z' ⟨l2,l3,l5⟩=>?_⟩;rw[OH,List.nil_append];by_cases hc:cs.length=0
 ·have e:evV q cs.length=.y9:=by unfold evV;rw[if_pos hc]
  have ew:ws=[]:=List.eq_nil_of_length_eq_zero (by omega);have ex:X=[]:=List.eq_nil_of_length_eq_zero (by omega);rw[e,ew,ex];exact bZ ae (ar _) (al _) (au _) (A5 (O:=bM) (n:=0) (g:=false) (Uk _ _ _ _ _ _ _ _) (fun N=>by simp) (by decide) fun b A env d ⟨_,_,h3⟩=>by obtain⟨q1,_,_⟩:=pS A env env;obtain⟨AC,V⟩:=A4 (O:=bM) (N:=foM M (.cells true 0 (dv s p t q cs.length)) T4 (.cells true 0 [.y9]) v (foT bk .y9 (-1)) ⟨.ready,none,z',47,ps,asg,body⟩ []) A (env:=aD [3,3,3] (ab b) env env) (by rw[q1];exact h3) (foM M (.cells true 0 (dv s p t q cs.length)) T4 (.cells true 0 [.y9]) v (foT bk .y9 (-1)) ⟨.ready,none,z',47,ps,asg,body⟩ []).length d;exact⟨(AC,d),by rw[er,V];rfl⟩)
 ·have e:evV q cs.length=.slice q 0 cs.length none:=by unfold evV;rw[if_neg hc]
  obtain⟨o,hq⟩:=H.hq (by rintro rfl;simp at hl;omega);have small:=H.small;unfold dv;rw[e];obtain⟨O,hO,hf⟩:=ko (P:=prog) (ι:=Nat×(EvD×List AV)×V3×Mem×AV) (fun i=>X[i.1]? =some i.2.1∧plK 3 i.2.2.1∧∃L Z1,wK M i.2.2.2.1 i.2.2.2.2 L Z1∧L.length≤1000) (fun _=>.yld (M.length+5)) (fun i=>[.int .i64 (i.1:Int),.agg i.2.1.2])
   (fun i=>foM M (.cells true 0 [.slice p 0 s.P.length none,.slice t 0 s.T.length none,.str bk,.slice q 0 cs.length none]) T4 (.cells true 0 [.slice q 0 cs.length none]) i.2.2.1 (foT bk i.2.2.2.2 (-1)) ⟨.ready,none,z',47,ps,asg,body⟩ i.2.2.2.1)
   (fun i=>Ul M (.cells true 0 [.slice p 0 s.P.length none,.slice t 0 s.T.length none,.str bk,.slice q 0 cs.length none]) T4 (.cells true 0 [.slice q 0 cs.length none]) z' ps asg body (GL i.2.1.1 (nuE s i.2.1.1 i.2.2.1)) i.2.2.1 (i.2.1.1.mv true i.2.2.1) i.1 i.2.1.2 (nuE s i.2.1.1 i.2.2.1) i.2.2.2.1 i.2.2.2.2)
   (fun i ⟨V,C,L,Z1,h3,B⟩=>by obtain⟨u,J⟩:=F i.1 i.2.1 V;obtain⟨N1,E1,M1,L1,G1⟩:=H.ahL I J u C;exact F7 h3 B A l2 l3 l5 rfl rfl N1 E1 M1 L1 G1)
   (fun i j hi hj _ z hm=>by
    obtain⟨V,C,h3,B⟩:=X9 hm;obtain⟨i1,i2,i3,i4,i5⟩:=i;obtain⟨j1,j2,j3,j4,j5⟩:=j;simp only[List.cons.injEq,AV.int.injEq,true_and] at z;simp only at V C B;subst V;subst C;subst B;obtain rfl:i1=j1:=by omega
    have R:=hi.1;have m:=hj.1;simp only at R m;rw[R] at m;cases m;rfl)
  exact bZ ae (ar _) hO (au _) (A5 (O:=O) (n:=cs.length) (g:=(vR s M X.reverse v [] .y9).afy.isSome) (Uk _ _ _ _ _ _ _ _) (fun N=>by simp) (by omega) fun b A env d ⟨h0,V,h3⟩=>by
   have:=fun m1 m0=>yc (s:=s) (xs:=X) (o:=o) A W (by omega) hq H.flat (fun j x hx=>by obtain⟨_,J⟩:=F j x hx;exact⟨Ep H.l32 J,List.all_eq_true.2 (H.cok x.2 (List.mem_of_getElem? J))⟩) (fun j x p Z w L Z1 u J a3 a4=>hf (j,x,p,Z,w) ⟨u,J,L,Z1,a3,a4⟩) h0 V m1 m0 cs.length v [] .y9 [] [] env d 9 (Nat.le_refl _) (by omega) (by rw[←W,List.take_length,List.map_reverse,K];exact hv) D (by simp;omega) h3
   rw[←W,List.take_length,List.map_reverse,K] at this;rw[←W];exact this _ _)
end
end Go.Proofs
