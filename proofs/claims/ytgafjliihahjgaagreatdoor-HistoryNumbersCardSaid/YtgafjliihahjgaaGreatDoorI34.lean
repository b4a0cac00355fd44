/- See I36. -/
import Derived.Test.YtgafjliihahjgaaGreatDoorI33
set_option linter.all false
set_option maxRecDepth 100000
set_option maxHeartbeats 40000000
namespace Go.Proofs
open Go.Eng
end Go.Proofs
namespace Go.Proofs
open Go.Eng
open Tryz
structure Fol where
 u:List UInt8
 l:List Int
 e:Int
 q:V3
noncomputable def qW(s:af8):List EvD->V3->Fol
 | [],p=>⟨bC,[],-1,p⟩
 |w::r,p=>match UB w (nuE s w p) with
  |some u=>⟨u,[nuE s w p],r.length,p⟩
  |none=>⟨(qW s r (w.mv true p)).u,nuE s w p::(qW s r (w.mv true p)).l,(qW s r (w.mv true p)).e,(qW s r (w.mv true p)).q⟩
variable{r:List EvD}{s:af8}
theorem Df{w:EvD}{p:V3}{u:List UInt8}(h:UB w (nuE s w p)=some u):qW s (w::r) p=⟨u,[nuE s w p],r.length,p⟩:=by rw[qW,h]
theorem De{w:EvD}{p:V3}(h:UB w (nuE s w p)=none):qW s (w::r) p=⟨(qW s r (w.mv true p)).u,nuE s w p::(qW s r (w.mv true p)).l,(qW s r (w.mv true p)).e,(qW s r (w.mv true p)).q⟩:=by rw[qW,h]
theorem Zf{s:af8}:∀{l:List EvD} {p:V3},plL true l p->plK 3 (qW s l p).q
 | [],p,h=>h
 |w::r,p,h=>by
  cases he:UB w (nuE s w p) with
  |some u=>rw[Df he];exact h.1
  |none=>rw[De he];exact Zf h.2
theorem Tq{M:Mem}{v:AV}(H:v.af2=true)(hk:v.cells=[v])(y:v.known=true):kO prog 49 [v] M (.func 83 [.ptr M.length 0]) (M++[.cells true 0 [v]]):=by
 have Z:aS prog 49=some f49:=by kernel_rfl
 have h:bO (aU prog) (fun _=>[]) (aS prog) bD 1 49 [v] M=some (.func 83 [.ptr M.length 0],M++[.cells true 0 [v]]):=by simp[-getElem?_pos,-AV.af2,-AV.known,-AV.cells,-cG,-List.all_eq_true,bO,Z,f49,hk,y]
 exact bl ae (al _) (aj _) (ao _) h
variable{b:Code}{env:Env}{g:Bool}
section
variable {O:af3}{N:Mem}{yb bs q n j:Nat}{o:Bool}{C e:List AV}{v:AV}
theorem Jg{m0:Nat}(y:ag f83=[b])(H:ad env 0=.yield yb)(I:ad env 1=.ptr bs 0)(Q:ad env 3=.int .i64 j)(R:j<n)(hn:n<=1000)(h1:N[bs]? =some (.cells true 0 [.slice q 0 n none]))(h2:N[q]? =some (.cells o 32 C))(hC:C.length=n*32)(he:(C.drop (j*32)).take 32=e)(ha:e.all AV.af2=true){p new:Mem}(Y:O (.yld yb) [.int .i64 j,.agg e] N=some ⟨.bool g,some p,new⟩)(d:Bool):
  ∃Z,aT (aU prog) (fun _=>[3,3,3]) O 9 19 m0 true b ⟨env,N,d⟩=some (if g then .normal else .ret,Z)/\Z.mem=p++new/\(g=true->ad Z.env 3=.int .i64 ((j:Int)-1)):=by
 simp[ag,aH,f83] at y;subst y;have w1:IntKind.i64.wrap ((j:Int)-1)=(j:Int)-1:=ai;have hc:j*32+32<=C.length:=by omega
 cases g<;>simp[-List.all_eq_true,afA.mem,H,I,Q,h1,h2,R,hc,he,Y,w1]
theorem B8(y:ag f83=[b])(H:ad env 3=.int .i64 (-1))(m0:Nat)(d:Bool):
  ∃Z,aT (aU prog) (fun _=>[3,3,3]) O 9 19 m0 true b ⟨env,N,d⟩=some (.exit 0,⟨Z,N,d⟩):=by
 simp[ag,aH,f83] at y;subst y;simp[H]
theorem rq(H:ag f83=[b])(y env:Env):ad (au [3,3,3] (ab b) y env) 3=ad env 3/\ad (au [3,3,3] (ab b) y env) 0=ad y 0/\ad (au [3,3,3] (ab b) y env) 1=ad y 1:=by simp[ag,aH,f83] at H;subst H;simp[au]
theorem B9{N' :Mem}(h1:N[bs]? =some (.cells true 0 [v]))(H:∀N,CO (aU prog) 38 N v=some (.int .i64 n))(I:n<=1000)(h:∀b,ag f83=[b]->∀(y:Env)(d:Bool),(ad y 0=.yield yb/\ad y 1=.ptr bs 0/\ad y 3=.int .i64 ((n:Int)-1))->∃r:Env×Bool,fW [3,3,3] (ab b) y N.length (aT (aU prog) (fun _=>[3,3,3]) O 9 19 N.length true b) 9 ⟨au [3,3,3] (ab b) y y,N,d⟩=some (if g then .ret else .exit 0,⟨r.1,N',r.2⟩)):
  bO (aU prog) (fun _=>[3,3,3]) (aS prog) O 9 83 [.yield yb,.ptr bs 0] N=some (.tuple [],N'):=by
 have X:aS prog 83=some f83:=by kernel_rfl
 obtain⟨b,Z⟩:∃b,ag f83=[b]:=⟨_,rfl⟩
 obtain⟨F,W⟩:=PD (β:=Env×Bool) (fun env d V=>by
  have:=h b Z env d V
  rwa [show fW [3,3,3] (ab b) env N.length (aT (aU prog) (fun _=>[3,3,3]) O 9 19 N.length true b) 9 ⟨au [3,3,3] (ab b) env env,N,d⟩=aT (aU prog) (fun _=>[3,3,3]) O 9 19 N.length true (.loop b) ⟨env,N,d⟩ from rfl] at this)
 have w1:IntKind.i64.wrap ((n:Int)-1)=(n:Int)-1:=ai;clear h;simp[ag,aH,f83] at Z;subst Z;cases g<;>simp[-CO,bO,X,f83,h1,H,w1,W]
end
def foM(M:Mem)(h T4 BX:af6)(p:V3)(y:List AV)(H:agV)(Z:Mem):Mem:=M++(h::.cells true 0 (vL p)::T4::.cells true 0 y::BX::.loop H::Z)
section
variable (M:Mem)(h T4 BX:af6)(p:V3)(T5:List AV)(lp:agV)
include M h T4 BX p T5 lp
theorem O5(Z Y:Mem):foM M h T4 BX p T5 lp Z++Y=foM M h T4 BX p T5 lp (Z++Y):=by simp[foM]
theorem HV(Z:Mem):(foM M h T4 BX p T5 lp Z).length=M.length+(Z.length+6):=by simp[foM]
theorem UJ(Z:Mem):(foM M h T4 BX p T5 lp Z)[M.length+4]? =some BX:=by unfold foM;rw[iG];rfl
end
theorem Yv{M:Mem}{q:Nat}{x:af6}(hq:M[q]? =some x)(h T4 BX:af6)(p:V3)(y:List AV)(H:agV)(Z:Mem):(foM M h T4 BX p y H Z)[q]? =some x:=by unfold foM;rw[Hi (gL hq)];exact hq
def foT(u:List UInt8)(pv:AV)(e:Int):List AV:=[.str u,pv,.int .i64 e,.str [],.str [],.str []]
def ym(M Z:Mem)(pv:AV)(L:List AV)(y:Mem):Prop:=(pv=.y9/\L=[]/\y=Z)\/∃i,pv=.slice (M.length+(i+6)) 0 L.length none/\Z[i]? =some (.cells true 1 L)/\y=Z.set i .HS/\0<L.length
section
variable {O:af3}{M Z Z1:Mem}{pv tv E w:AV}{nm u0:List UInt8}{p p1:V3}{T4 BX:af6}{z':Env}{ps:Array Tmp}{J' body:Code}{ev L:List AV}{j n:Int}
theorem Rt{o:Option (List UInt8)}(H:ym M Z w L Z1)(I:L.length<=1000)(y:dD f30=[(ps,J',body)])(Q:ad z' 2=.ptr M.length 0)(R:ad z' 3=.ptr (M.length+1) 0)(l5:ad z' 5=.ptr (M.length+3) 0)(cp:pv.af2=true)(ct:tv.af2=true)(eN:∀X,O (.fn 50) [.agg [pv,tv],.agg ev,vA p] (M++X)=some ⟨.int .i64 n,none,[]⟩)(eE:∀X,O (.fn 51) [.agg ev,.int .i64 n] (M++X)=some ⟨.tuple [.str (o.getD []),.bool o.isSome],none,[]⟩)(eM:∀X,O (.fn 52) [.agg ev,vA p,.bool true] (M++X)=some ⟨vA p1,none,[]⟩)(l0:ev.length=32)(g0:ev.all AV.af2=true):
  fZ (aU prog) (fun _=>[]) O 2 (M.length+5) [.int .i64 j,.agg ev] (foM M (.cells true 0 [pv,tv,.str nm,E]) T4 BX p (foT u0 w (-1)) ⟨.ready,none,z',47,ps,J',body⟩ Z)=
   some (.bool (!o.isSome),foM M (.cells true 0 [pv,tv,.str nm,E]) T4 BX (if o.isSome then p else p1) (foT (o.getD u0) (.slice (M.length+(Z.length+8)) 0 (L.length+1) none) (if o.isSome then j else -1)) (if o.isSome then⟨lD (some (.exit 0)),some (.exit 0),z',47,ps,J',body⟩ else⟨.ready,none,z',47,ps,J',body⟩) (Z1++[.cells true 0 ev,.cells true 1 [.int .i64 n],.cells true 1 (L++[.int .i64 n])])):=by
 have t0:ev.take 32=ev:=GE (by omega);have K:cQ J'=true/\cQ body=true/\ps= #[17,18]:=by simp[dD,fP,f30] at y;obtain⟨rfl,rfl,rfl⟩:=y;exact⟨by decide,by decide,rfl⟩
 obtain⟨W,V,rfl⟩:=K;have w1:IntKind.i64.wrap (-1)= -1:=rfl;unfold vA at*;unfold foM foT;simp only[vL];simp[fZ,W,V];simp[dD,fP,f30] at y;obtain⟨rfl,rfl⟩:=y;clear W V;have F:(L.length+1)*8<=140737488355328:=by omega
 have D:L.length+1<=140737488355328:=by omega
 have J:∀i,Z[i]? =some (.cells true 1 L)->(∀Y:Mem,(Z++Y)[i]? =some (.cells true 1 L))/\∀Y:Mem,(Z++Y).set i .HS=Z.set i .HS++Y:=fun i S=>by have G:=gL S;exact⟨fun Y=>gU S _,fun Y=>List.set_append_left _ _ G⟩
 rcases H with⟨rfl,rfl,rfl⟩ | ⟨i,rfl,S,rfl,_⟩
 rotate_left
 obtain⟨C,B⟩:=J i S;have A:∀Y:Mem,(Z.set i .HS++Y)[Z.length]? =Y[0]? :=fun Y=>by have:=wo (Z.set i .HS) Y;rwa [X3] at this
 all_goals cases o<;>simp[-getElem?_pos,-AV.af2,-AV.known,-AV.cells,-cG,-List.all_eq_true,vS,mS, *,qJ,lD,QXY]
end
end Go.Proofs
namespace Go.Proofs
open Go.Eng
open Tryz
def foI(M:Mem):AV->Option Nat
 |.slice b _ _ _=>some (b-(M.length+6))
 |_=>none
def WX(M Z:Mem)(pv:AV):List AV:=match foI M pv with
 |some i=>match Z[i]? with
  |some (.cells _ _ cs)=>cs
  |_=>[]
 |none=>[]
def My(M Z:Mem)(pv:AV):Mem:=match foI M pv with
 |some i=>Z.set i .HS
 |none=>Z
def Mx(M Z:Mem)(pv:AV)(y:List AV)(n:Int):Mem:=[.cells true 0 y,.cells true 1 [.int .i64 n],.cells true 1 (WX M Z pv++[.int .i64 n])]
def XK(M Z:Mem)(pv:AV):AV:=.slice (M.length+(Z.length+8)) 0 ((WX M Z pv).length+1) none
variable{L:List AV}{Z1:Mem}
section
variable{M Z:Mem}{pv:AV}(h:ym M Z pv L Z1)
include M Z pv h
theorem X5:WX M Z pv=L/\My M Z pv=Z1/\Z1.length=Z.length:=by
 rcases h with⟨rfl,rfl,rfl⟩ | ⟨i,rfl,X,rfl,_⟩
 .exact⟨rfl,rfl,rfl⟩
 .have e:foI M (.slice (M.length+(i+6)) 0 L.length none)=some i:=by show some _=some _;congr 1;omega
  exact⟨by unfold WX;rw[e];simp only[X],by unfold My;rw[e],by rw[X3]⟩
theorem Qu(y:List AV)(n:Int):∃X,ym M (My M Z pv++Mx M Z pv y n) (XK M Z pv) (L++[.int .i64 n]) X:=by obtain⟨W,V,h3⟩:=X5 h;unfold XK Mx;rw[W,V];refine⟨_,.inr ⟨Z.length+2,by simp[QXY],?_,rfl,by simp⟩⟩;rw[Pi (by omega),h3,Nat.add_sub_cancel_left];rfl
theorem YG:(pv.af2=true/\pv.known=true/\pv.cells=[pv])/\∀a:Mem,a.length=6->agi (M++(a++Z)) pv 1 L.length L:=by
 rcases h with⟨rfl,rfl,rfl⟩ | ⟨i,rfl,X,rfl,W⟩
 .exact⟨⟨rfl,rfl,rfl⟩,fun a V=>.inl ⟨rfl,rfl,rfl⟩⟩
 .exact⟨⟨rfl,rfl,rfl⟩,fun a V=>.inr ⟨_,true,rfl,W,by rw[iG,show i+6=a.length+i by omega,Pi (by omega),Nat.add_sub_cancel_left];exact X⟩⟩
end
structure FoR where
 Z:Mem
 pv:AV
 st:LoopState
 agI:Option Code
noncomputable def xF(s:af8)(M:Mem):List (EvD×List AV)->V3->Mem->AV->FoR
 | [],_,Z,pv=>⟨Z,pv,.ready,none⟩
 |x::r,p,Z,pv=>match UB x.1 (nuE s x.1 p) with
  |some _=>⟨My M Z pv++Mx M Z pv x.2 (nuE s x.1 p),XK M Z pv,lD (some (.exit 0)),some (.exit 0)⟩
  |none=>xF s M r (x.1.mv true p) (My M Z pv++Mx M Z pv x.2 (nuE s x.1 p)) (XK M Z pv)
theorem Qf{s:af8}{M:Mem}:∀(l:List (EvD×List AV)) (p:V3) (Z:Mem) (pv:AV) (L:List AV) (Z1:Mem),ym M Z pv L Z1->
  ((xF s M l p Z pv).st== .busy)=false/\(mJ (xF s M l p Z pv).agI=some .normal\/mJ (xF s M l p Z pv).agI=some (.exit 0))/\∃X,ym M (xF s M l p Z pv).Z (xF s M l p Z pv).pv (L++(qW s (l.map Prod.fst) p).l.map fun n=>.int .i64 n) X
 | [],p,Z,pv,L,Z1,h=>⟨rfl,.inl rfl,Z1,by show ym M Z pv (L++[]) Z1;rw[List.append_nil];exact h⟩
 |x::r,p,Z,pv,L,Z1,h=>by
  obtain⟨X,W⟩:=Qu h x.2 (nuE s x.1 p);rw[List.map_cons,xF];cases e:UB x.1 (nuE s x.1 p) with
  |some u=>
   rw[Df e];exact⟨rfl,.inr rfl,X,W⟩
  |none=>
   rw[De e];have:=Qf (s:=s) r (x.1.mv true p) _ _ _ _ W;simpa using this
variable{ev:List AV}{w:AV}
section
variable {M:Mem}{s:af8}{pv tv E:AV}{p p1:V3}{h T4 BX:af6}{z':Env}{ps:Array Tmp}{J' body:Code}
def UK(M:Mem)(h T4 BX:af6)(z':Env)(ps:Array Tmp)(J' body:Code)(o:Option (List UInt8))(p p1:V3)(j:Int)(ev:List AV)(n:Int)(Z:Mem)(pv:AV):afA:=
 ⟨.bool (!o.isSome),some (foM M h T4 BX (if o.isSome then p else p1) (foT (o.getD bC) (XK M Z pv) (if o.isSome then j else -1)) (if o.isSome then⟨lD (some (.exit 0)),some (.exit 0),z',47,ps,J',body⟩ else⟨.ready,none,z',47,ps,J',body⟩) (My M Z pv)),Mx M Z pv ev n⟩
theorem Hg{Z:Mem}{o:Option (List UInt8)}{j n:Int}(H:ym M Z w L Z1)(Q:L.length<=1000)(R:dD f30=[(ps,J',body)])(Y:ad z' 2=.ptr M.length 0)(l3:ad z' 3=.ptr (M.length+1) 0)(l5:ad z' 5=.ptr (M.length+3) 0)(cp:pv.af2=true)(ct:tv.af2=true)(hN:∀X,kO prog 50 [.agg [pv,tv],.agg ev,vA p] (M++X) (.int .i64 n) (M++X))(I:∀X,kO prog 51 [.agg ev,.int .i64 n] (M++X) (Qa o) (M++X))(hM:∀X,kO prog 52 [.agg ev,vA p,.bool true] (M++X) (vA p1) (M++X))(l0:ev.length=32)(g0:ev.all AV.af2=true):
  mu prog (.yld (M.length+5)) [.int .i64 j,.agg ev] (foM M (.cells true 0 [pv,tv,.str bC,E]) T4 BX p (foT bC w (-1)) ⟨.ready,none,z',47,ps,J',body⟩ Z) (UK M (.cells true 0 [pv,tv,.str bC,E]) T4 BX z' ps J' body o p p1 j ev n Z w):=by
 obtain⟨V,S,h3⟩:=X5 H;have O:Qa o=.tuple [.str (o.getD []),.bool o.isSome]:=by cases o<;>rfl
 rw[O] at I;have K:=iM (P:=prog) (L:=[(50,[.agg [pv,tv],.agg ev,vA p],(fun N=>∃X,N=M++X),⟨.int .i64 n,none,[]⟩),(51,[.agg ev,.int .i64 n],(fun N=>∃X,N=M++X),⟨.tuple [.str (o.getD []),.bool o.isSome],none,[]⟩),(52,[.agg ev,vA p,.bool true],(fun N=>∃X,N=M++X),⟨vA p1,none,[]⟩)]) fun y W N hq=>by
  simp only[lM] at W;rcases W with rfl | rfl | rfl<;>obtain⟨X,rfl⟩:=hq
  .exact aE (hN X)
  .exact aE (I X)
  .exact aE (hM X)
 have J:=ia ae (al _) K (Rt (j:=j) (u0:=bC) (E:=E) (nm:=bC) (T4:=T4) (BX:=BX) H Q R Y l3 l5 cp ct (fun X=>bo ⟨X,rfl⟩) (fun X=>by rw[aO (.inl (by decide))];exact bo ⟨X,rfl⟩) (fun X=>by rw[aO (.inl (by decide)),aO (.inl (by decide))];exact bo ⟨X,rfl⟩) l0 g0);unfold UK XK Mx;rw[V,S];refine⟨?_,fun q hq=>?_⟩
 .simp only[afA.mem,Option.getD_some,O5]
  exact J
 .cases hq
  rw[HV,HV,h3]
theorem ZI{v w:V3}(h:vL v=vL w):v=w:=by obtain⟨a,b,c⟩:=v;obtain⟨W,V,S⟩:=w;simp only[vL,List.cons.injEq,AV.str.injEq,and_true] at h;obtain⟨Z,X,h3⟩:=h;rw[kW Z,kW X,kW h3]
theorem Yu{p H :V3}{w' :AV}{I y :agV}{Z Q :Mem}(e:foM M h T4 BX p (foT bC w (-1)) I Z=foM M h T4 BX H (foT bC w' (-1)) y Q):p=H /\w=w' /\I=y /\Z=Q :=by have e:=List.append_cancel_left e;simp only[List.cons.injEq,af6.cells.injEq,af6.loop.injEq,foT,true_and,and_true] at e;exact⟨ZI e.1,e.2⟩
variable {O:af3}{xs:List (EvD×List AV)}{q n:Nat}{o:Bool}{C:List AV}
theorem zy{b:Code}(H:ag f83=[b])(hn:xs.length=n)(I:n<=900)(hq:M[q]? =some (.cells o 32 C))(Q:C.length=n*32)(hx:∀(j:Nat) x,xs[j]? =some x->(C.drop (j*32)).take 32=x.2/\x.2.all AV.af2=true)
  (R:∀(j:Nat) x p Z w L Z1,xs[j]? =some x->plK 3 p->ym M Z w L Z1->L.length<=1000->O (.yld (M.length+5)) [.int .i64 j,.agg x.2] (foM M h T4 (.cells true 0 [.slice q 0 n none]) p (foT bC w (-1)) ⟨.ready,none,z',47,ps,J',body⟩ Z)=some (UK M h T4 (.cells true 0 [.slice q 0 n none]) z' ps J' body (UB x.1 (nuE s x.1 p)) p (x.1.mv true p) j x.2 (nuE s x.1 p) Z w))
  {y:Env}(Y:ad y 0=.yield (M.length+5)) (l1:ad y 1=.ptr (M.length+4) 0) (m1 m0:Nat):
  ∀(k:Nat) (p:V3) (Z:Mem) (w:AV) (L:List AV) (Z1:Mem) (env:Env) (d:Bool) (K:Nat),k<=n->k<K->plL true ((xs.take k).reverse.map Prod.fst) p->ym M Z w L Z1->L.length+k<=1000->ad env 3=.int .i64 ((k:Int)-1)->
   ∃r:Env×Bool,fW [3,3,3] (ab b) y m1 (aT (aU prog) (fun _=>[3,3,3]) O 9 19 m0 true b) K ⟨au [3,3,3] (ab b) y env,foM M h T4 (.cells true 0 [.slice q 0 n none]) p (foT bC w (-1)) ⟨.ready,none,z',47,ps,J',body⟩ Z,d⟩=
    some (if (xF s M (xs.take k).reverse p Z w).agI.isSome then .ret else .exit 0,⟨r.1,foM M h T4 (.cells true 0 [.slice q 0 n none]) (qW s ((xs.take k).reverse.map Prod.fst) p).q (foT (qW s ((xs.take k).reverse.map Prod.fst) p).u (xF s M (xs.take k).reverse p Z w).pv (qW s ((xs.take k).reverse.map Prod.fst) p).e) ⟨(xF s M (xs.take k).reverse p Z w).st,(xF s M (xs.take k).reverse p Z w).agI,z',47,ps,J',body⟩ (xF s M (xs.take k).reverse p Z w).Z,r.2⟩)
 |0,p,Z,w,L,Z1,env,d,K,hk,hK,hv,hp,hL,h3=>by
  obtain⟨K,rfl⟩:∃k,K=k+1:=⟨K-1,by omega⟩
  obtain⟨V,G,F⟩:=rq H y env;obtain⟨D,B⟩:=B8 (O:=O) (N:=foM M h T4 (.cells true 0 [.slice q 0 n none]) p (foT bC w (-1)) ⟨.ready,none,z',47,ps,J',body⟩ Z) H (env:=au [3,3,3] (ab b) y env) (by rw[V];exact h3) m0 d;exact⟨(D,d),by rw[fW,B];rfl⟩
 |k+1,p,Z,w,L,Z1,env,d,K,hk,hK,hv,hp,hL,h3=>by
  obtain⟨K,rfl⟩:∃k,K=k+1:=⟨K-1,by omega⟩
  obtain⟨V,G,F⟩:=rq H y env;obtain⟨x,W⟩:∃x,xs[k]? =some x:=⟨_,GT (by omega)⟩
  have A:(xs.take (k+1)).reverse=x::(xs.take k).reverse:=by rw[List.take_add_one,W];simp
  rw[A] at hv |-;have hc:=R k x p Z w L Z1 W hv.1 hp (by omega);obtain⟨z,m⟩:=hx k x W;have S :ad env 3=.int .i64 (k:Int):=by rw[h3];congr 1;omega
  unfold UK at hc;obtain⟨X,t1,t2,t3⟩:=Jg (m0:=m0) H (env:=au [3,3,3] (ab b) y env) (by rw[G];exact Y) (by rw[F];exact l1) (by rw[V];exact S) (show k<n by omega) (by omega) (UJ _ _ _ _ _ _ _ _) (Yv hq _ _ _ _ _ _ _) Q z m hc d;rw[O5] at t2;rw[fW,t1,List.map_cons,xF];cases e:UB x.1 (nuE s x.1 p) with
  |some u=>
   rw[e] at t2;rw[Df e];refine⟨(X.env,X.agp),?_⟩;simp only[Option.isSome_some,Bool.not_true,Bool.false_eq_true,if_false,if_true,QQi,List.length_reverse,P3];rw[show min k xs.length=k by omega];have e2:X.mem=foM M h T4 (.cells true 0 [.slice q 0 n none]) p (foT u (XK M Z w) (k:Int)) ⟨lD (some (.exit 0)),some (.exit 0),z',47,ps,J',body⟩ (My M Z w++Mx M Z w x.2 (nuE s x.1 p)):=t2;rw[<-e2]
  |none=>
   rw[e] at t2 t3;rw[De e];obtain⟨Z2,J⟩:=Qu hp x.2 (nuE s x.1 p);obtain⟨r,hr⟩:=zy H hn I hq Q hx R Y l1 m1 m0 k (x.1.mv true p) _ _ _ _ X.env X.agp K (by omega) (by omega) hv.2 J (by simp;omega) (t3 rfl);refine⟨r,?_⟩;have hs:mM [3,3,3] (ab b) y m1 X =⟨au [3,3,3] (ab b) y X.env,foM M h T4 (.cells true 0 [.slice q 0 n none]) (x.1.mv true p) (foT bC (XK M Z w) (-1)) ⟨.ready,none,z',47,ps,J',body⟩ (My M Z w++Mx M Z w x.2 (nuE s x.1 p)),X.agp⟩:=by simp[mM,Ik,t2]
   simp only[Option.isSome_none,Bool.not_false,if_true];rw[hs];exact hr
end
section
variable {s:af8}{p t q:Nat}{evs:List (List AV)}{cs:List Evc}{M:Mem}{ws:List EvD}{v:V3}{ps:Array Tmp}{J' body:Code}
def QK(M:Mem)(h T4 BX:af6)(v:V3)(ps:Array Tmp)(J' body:Code)(F:Fol):Prop:=
 ∃(S:LoopState) (W:Option Code) (Z:Mem) (X:AV),(S== .busy)=false/\(mJ W=some .normal\/mJ W=some (.exit 0))/\(X.af2=true/\X.known=true/\X.cells=[X])/\(∀a:Mem,a.length=6->agi (M++(a++Z)) X 1 F.l.length (F.l.map fun n=>.int .i64 n))/\
  ∀V:Env,(ad V 2=.ptr M.length 0/\ad V 3=.ptr (M.length+1) 0/\ad V 5=.ptr (M.length+3) 0)->
   kO prog 83 [.yield (M.length+5),.ptr (M.length+4) 0] (foM M h T4 BX v (foT bC .y9 (-1)) ⟨.ready,none,V,47,ps,J',body⟩ []) (.tuple []) (foM M h T4 BX F.q (foT F.u X F.e) ⟨S,W,V,47,ps,J',body⟩ []++Z)
theorem Tryz.agX.aiY(H:agX s p t q evs cs M)(y:∀(i:Nat) c w,cs[i]? =some c->ws[i]? =some w->w.Ok s/\c=w.con c.nm){i:Nat}{w:EvD}(h1:evs[i]? =some ev)(h2:ws[i]? =some w){v:V3}(I:plK 3 v):
  (∀X,kO prog 50 [.agg [.slice p 0 s.P.length none,.slice t 0 s.T.length none],.agg ev,vA v] (M++X) (.int .i64 (nuE s w v)) (M++X))/\(∀X,kO prog 51 [.agg ev,.int .i64 (nuE s w v)] (M++X) (Qa (UB w (nuE s w v))) (M++X))/\
   (∀X,kO prog 52 [.agg ev,vA v,.bool true] (M++X) (vA (w.mv true v)) (M++X))/\ev.length=32/\ev.all AV.af2=true:=by
 have V:=gL h1;obtain⟨c,hc⟩:∃c,cs[i]? =some c:=⟨_,GT (by rw[<-H.len];exact V)⟩
 obtain⟨Z,S⟩:=y i c w hc h2;obtain⟨D,F,O⟩:=id I;obtain⟨C,K⟩:=Qr (k:=3) (by decide);have W:=fun X=>(H.more X).con i ev c h1 hc
 rw[S] at W;refine⟨fun X=>?_,fun X=>NB (W X) Z (Vm Z v),fun X=>H.aif y h1 h2 true I (by decide) X,H.l32 ev (Lo h1),List.all_eq_true.2 (H.cok ev (Lo h1))⟩;obtain⟨_,J⟩:=(H.more X).hp;obtain⟨_,G⟩:=(H.more X).ht;exact Rd (W X) Z (O.mono K) (by omega) J G
theorem Ss{evs:List (List AV)}(y:∀e∈evs,e.length=32){j:Nat}{e:List AV}(h:evs[j]? =some e):(evs.flatten.drop (j*32)).take 32=e:=by rw[sK j y,N2 (gL h),(N4.1 h).2,List.flatten_cons];have:=y e (Lo h);rw[<-this,List.take_left]
theorem Rs(H:agX s p t q evs cs M)(I:ws.length=cs.length)(Q:∀(i:Nat) c w,cs[i]? =some c->ws[i]? =some w->w.Ok s/\c=w.con c.nm)(R:plL true ws.reverse v)(y:dD f30=[(ps,J',body)])(T4:af6):
  QK M (.cells true 0 (bS s p t q cs.length)) T4 (.cells true 0 [evV q cs.length]) v ps J' body (qW s ws.reverse v):=by
 obtain⟨X,S⟩:=xE (ws.zip evs);have Y:=H.len;have W:X.length=cs.length:=by rw[S,List.length_zip];omega
 have K:X.map Prod.fst=ws:=by rw[S,List.map_fst_zip (by omega)]
 have G:∀(j:Nat) x,X[j]? =some x->ws[j]? =some x.1/\evs[j]? =some x.2:=fun j x h=>by rw[S] at h;exact List.getElem?_zip_eq_some.1 h
 have F:ym M [] .y9 [] []:=.inl ⟨rfl,rfl,rfl⟩;obtain⟨r1,r2,Z2,r3⟩:=Qf (s:=s) X.reverse v [] .y9 [] [] F;obtain⟨r4,u⟩:=YG r3;rw[List.map_reverse,K,List.nil_append] at u;refine⟨_,_,_,_,r1,r2,r4,fun a B=>by have:=u a B;rwa [QQi] at this,fun z' ⟨l2,l3,l5⟩=>?_⟩;rw[O5,List.nil_append];by_cases hc:cs.length=0
 .have e:evV q cs.length=.y9:=by unfold evV;rw[if_pos hc]
  have ew:ws=[]:=M0 (by omega);have ex:X=[]:=M0 (by omega);rw[e,ew,ex];exact bl ae (al _) (aj _) (ao _) (B9 (O:=bD) (n:=0) (g:=false) (UJ _ _ _ _ _ _ _ _) (fun N=>by simp) (by decide) fun b y env d ⟨_,_,h3⟩=>by obtain⟨q1,_,_⟩:=rq y env env;obtain⟨AC,V⟩:=B8 (O:=bD) (N:=foM M (.cells true 0 (bS s p t q cs.length)) T4 (.cells true 0 [.y9]) v (foT bC .y9 (-1)) ⟨.ready,none,z',47,ps,J',body⟩ []) y (env:=au [3,3,3] (ab b) env env) (by rw[q1];exact h3) (foM M (.cells true 0 (bS s p t q cs.length)) T4 (.cells true 0 [.y9]) v (foT bC .y9 (-1)) ⟨.ready,none,z',47,ps,J',body⟩ []).length d;exact⟨(AC,d),by rw[fW,V];rfl⟩)
 .have e:evV q cs.length=.slice q 0 cs.length none:=by unfold evV;rw[if_neg hc]
  obtain⟨o,hq⟩:=H.hq (by rintro rfl;simp at Y;omega);have small:=H.small;unfold bS;rw[e];obtain⟨O,hO,hf⟩:=gd (P:=prog) (ι:=Nat×(EvD×List AV)×V3×Mem×AV) (fun i=>X[i.1]? =some i.2.1/\plK 3 i.2.2.1/\∃L Z1,ym M i.2.2.2.1 i.2.2.2.2 L Z1/\L.length<=1000) (fun _=>.yld (M.length+5)) (fun i=>[.int .i64 (i.1:Int),.agg i.2.1.2])
   (fun i=>foM M (.cells true 0 [.slice p 0 s.P.length none,.slice t 0 s.T.length none,.str bC,.slice q 0 cs.length none]) T4 (.cells true 0 [.slice q 0 cs.length none]) i.2.2.1 (foT bC i.2.2.2.2 (-1)) ⟨.ready,none,z',47,ps,J',body⟩ i.2.2.2.1)
   (fun i=>UK M (.cells true 0 [.slice p 0 s.P.length none,.slice t 0 s.T.length none,.str bC,.slice q 0 cs.length none]) T4 (.cells true 0 [.slice q 0 cs.length none]) z' ps J' body (UB i.2.1.1 (nuE s i.2.1.1 i.2.2.1)) i.2.2.1 (i.2.1.1.mv true i.2.2.1) i.1 i.2.1.2 (nuE s i.2.1.1 i.2.2.1) i.2.2.2.1 i.2.2.2.2)
   (fun i ⟨V,D,L,Z1,h3,C⟩=>by obtain⟨A,J⟩:=G i.1 i.2.1 V;obtain⟨N1,E1,M1,L1,G1⟩:=H.aiY Q J A D;exact Hg h3 C y l2 l3 l5 rfl rfl N1 E1 M1 L1 G1)
   (fun i j hi hj _ B hm=>by
    obtain⟨V,D,h3,C⟩:=Yu hm;obtain⟨i1,i2,i3,i4,i5⟩:=i;obtain⟨j1,j2,j3,j4,j5⟩:=j;simp only[List.cons.injEq,AV.int.injEq,true_and] at B;simp only at V D C;subst V;subst D;subst C;obtain rfl:i1=j1:=by omega
    have m:=hi.1;have z:=hj.1;simp only at m z;rw[m] at z;cases z;rfl)
  exact bl ae (al _) hO (ao _) (B9 (O:=O) (n:=cs.length) (g:=(xF s M X.reverse v [] .y9).agI.isSome) (UJ _ _ _ _ _ _ _ _) (fun N=>by simp) (by omega) fun b y env d ⟨h0,V,h3⟩=>by
   have:=fun m1 m0=>zy (s:=s) (xs:=X) (o:=o) y W (by omega) hq H.flat (fun j x hx=>by obtain⟨_,J⟩:=G j x hx;exact⟨Ss H.l32 J,List.all_eq_true.2 (H.cok x.2 (Lo J))⟩) (fun j x p Z w L Z1 A J a3 a4=>hf (j,x,p,Z,w) ⟨A,J,L,Z1,a3,a4⟩) h0 V m1 m0 cs.length v [] .y9 [] [] env d 9 (L9 _) (by omega) (by rw[<-W,O1,List.map_reverse,K];exact R) F (by simp;omega) h3
   rw[<-W,O1,List.map_reverse,K] at this;rw[<-W];exact this _ _)
end
end Go.Proofs
namespace Go.Proofs
open Go.Eng
open Tryz
theorem UE(T:TypeId->Option TyI)(lv:Code->List Nat)(O:af3)(K N m0:Nat)(g:Operand)(ps:Array Tmp)(y body:Code)(s:XS):aT T lv O K N m0 true (.rangeFunc g ps y body) s=match get s.env g with
   |.func f caps=>match O (.fn f) (.yield s.mem.length::caps) (s.mem++[.loop ⟨.ready,none,s.env,N,ps,y,body⟩]) with
    |some r=>match (r.mem (s.mem++[.loop ⟨.ready,none,s.env,N,ps,y,body⟩]))[s.mem.length]? with
     |some (.loop r2)=>if r2.st== .busy then none else match mJ r2.agI with
      |some e=>some (e,⟨s.env,(r.mem (s.mem++[.loop ⟨.ready,none,s.env,N,ps,y,body⟩])).set s.mem.length (.loop { r2 with st:=.exhausted }),s.agp||r.pre.isSome⟩)
      |none=>none
     |_=>none
    |none=>none
   |_=>none:=rfl
section
variable {O:af3}{M Z:Mem}{pv tv E pvv:AV}{nm u:List UInt8}{p q:V3}{e:Int}{st:LoopState}{agI:Option Code}{ps:Array Tmp}{J' body:Code}
theorem Oo(Y:pv.af2=true)(ct:tv.af2=true)(cE:E.af2=true)(R:pvv.af2=true/\pvv.known=true/\pvv.cells=[pvv])(hs:(st== .busy)=false)(he:mJ agI=some .normal\/mJ agI=some (.exit 0))(Q:dD f30=[(ps,J',body)])(H:O (.fn 49) [E] (M++[.cells true 0 [pv,tv,.str nm,E],.cells true 0 (vL p),.cells true 0 [.str [],.y9,.int .i64 0,.str [],.str [],.str []],.cells true 0 (foT nm .y9 (-1))])=some ⟨.func 83 [.ptr (M.length+4) 0],none,[.cells true 0 [E]]⟩)(I:∀X:Env,(ad X 2=.ptr M.length 0/\ad X 3=.ptr (M.length+1) 0/\ad X 5=.ptr (M.length+3) 0)->
   O (.fn 83) [.yield (M.length+5),.ptr (M.length+4) 0] (M++[.cells true 0 [pv,tv,.str nm,E],.cells true 0 (vL p),.cells true 0 [.str [],.y9,.int .i64 0,.str [],.str [],.str []],.cells true 0 (foT nm .y9 (-1)),.cells true 0 [E],.loop ⟨.ready,none,X,47,ps,J',body⟩])=
    some ⟨.tuple [],some (M++[.cells true 0 [pv,tv,.str nm,E],.cells true 0 (vL q),.cells true 0 [.str [],.y9,.int .i64 0,.str [],.str [],.str []],.cells true 0 (foT u pvv e),.cells true 0 [E],.loop ⟨st,agI,X,47,ps,J',body⟩]),Z⟩):
  ∃a b c d x y:af6,bO (aU prog) (fun _=>[]) (aS prog) O 2 30 [.agg [pv,tv,.str nm,E],vA p] M=some (.agg [.str u,pvv,.int .i64 e,.str (aB q.1),.str (aB q.2.1),.str (aB q.2.2)],M++(a::b::c::d::x::y::Z)):=by
 have W:aS prog 30=some f30:=by kernel_rfl
 have w1:IntKind.i64.wrap (-1)= -1:=rfl;simp[dD,fP,f30] at Q;obtain⟨rfl,rfl,rfl⟩:=Q;obtain⟨V,S,K⟩:=R;unfold foT at H I;unfold vA;simp only[vL] at H I;rcases he with he | he<;>simp[-getElem?_pos,-AV.af2,-AV.known,-AV.cells,-cG,-List.all_eq_true,vS,mS,bO,W,f30,UE,bZ,aF,afA.mem,V,hs,he,H,I]
end
theorem Xq{M new:Mem}{a b c d:af6}{x y z C:List AV}{r:Nat}{o:Bool}(h:(M++[.cells true 0 x,.cells true 0 y,.cells true 0 z]++new)[r]? =some (.cells o 1 C)):(M++(a::b::c::(new++[d])))[r]? =some (.cells o 1 C):=by
 rw[SP] at h;by_cases X:r<M.length
 .rw[Hi X] at h |-
  exact h
 .obtain⟨k,rfl⟩:∃k,r=M.length+k:=⟨r-M.length,by omega⟩
  rw[iG] at h |-
  match k,h with
  |0,h=>simp at h
  |1,h=>simp at h
  |2,h=>simp at h
  |k+3,h=>
   have Z :new[k]? =some (.cells o 1 C):=h;show(new++[d])[k]? =_
   rw[Hi (gL Z)];exact Z
section
variable {s:af8}{p t q:Nat}{evs:List (List AV)}{cs:List Evc}{M:Mem}{ws:List EvD}{v:V3}{ps:Array Tmp}{J' body:Code}
section
variable (H:agX s p t q evs cs M)
include H
theorem wQ(h3:cs.length<=3)(Q:ws.length=cs.length)(hw:∀(i:Nat) c w,cs[i]? =some c->ws[i]? =some w->w.Ok s/\c=w.con c.nm)(hv:plL true ws.reverse v):
  ∃(new:Mem) (I:AV),kO prog 30 [.agg (bS s p t q cs.length),vA v] M (.agg [.str (qW s ws.reverse v).u,I,.int .i64 (qW s ws.reverse v).e,.str (aB (qW s ws.reverse v).q.1),.str (aB (qW s ws.reverse v).q.2.1),.str (aB (qW s ws.reverse v).q.2.2)]) (M++new)/\(I.af2=true/\I.known=true/\I.cells=[I])/\agi (M++new) I 1 (qW s ws.reverse v).l.length ((qW s ws.reverse v).l.map fun n=>.int .i64 n):=by
 obtain⟨ps,J',body,z⟩:∃ps J' body,dD f30=[(ps,J',body)]:=⟨_,_,_,rfl⟩
 obtain⟨m,V,Z,I,hs,he,Y,S,hc⟩:=Rs H Q hw hv z (.cells true 0 [.str [],.y9,.int .i64 0,.str [],.str [],.str []]);obtain⟨F,hF⟩:=xE (qW s ws.reverse v);rw[<-hF] at S hc |-;have W:=sI q cs.length;unfold bS at hc |-;obtain⟨E,G⟩:=xE (evV q cs.length);have kE:E.cells=[E]:=by rw[G];unfold evV;split<;>rfl
 rw[<-G] at W hc |-;obtain⟨h,R⟩:=xE (α:=af6) (.cells true 0 [.slice p 0 s.P.length none,.slice t 0 s.T.length none,.str bC,E]);obtain⟨D,C,hR⟩:=gd (P:=prog) (ι:=Env) (fun X=>ad X 2=.ptr M.length 0/\ad X 3=.ptr (M.length+1) 0/\ad X 5=.ptr (M.length+3) 0) (fun _=>.fn 83) (fun _=>[.yield (M.length+5),.ptr (M.length+4) 0])
  (fun X=>foM M h (.cells true 0 [.str [],.y9,.int .i64 0,.str [],.str [],.str []]) (.cells true 0 [E]) v (foT bC .y9 (-1)) ⟨.ready,none,X,47,ps,J',body⟩ [])
  (fun X=>⟨.tuple [],some (foM M h (.cells true 0 [.str [],.y9,.int .i64 0,.str [],.str [],.str []]) (.cells true 0 [E]) F.q (foT F.u I F.e) ⟨m,V,X,47,ps,J',body⟩ []),Z⟩)
  (fun X K=>⟨by rw[R];simpa [afA.mem] using hc X K,fun q hq=>by cases hq;rw[HV,HV]⟩)
  (fun i j _ _ _ _ J=>by unfold foM at J;have J:=List.append_cancel_left J;simp only[List.cons.injEq,af6.loop.injEq,agV.mk.injEq,and_true,true_and] at J;rw[J])
 obtain⟨L,B⟩:=xE (α:=List (FuncId×List AV×(Mem->Prop)×afA)) [(49,[E],(fun N=>N=M++[h,.cells true 0 (vL v),.cells true 0 [.str [],.y9,.int .i64 0,.str [],.str [],.str []],.cells true 0 (foT bC .y9 (-1))]),⟨.func 83 [.ptr (M.length+4) 0],none,[.cells true 0 [E]]⟩)];have A:adM prog (cX L):=iM fun y hy N K=>by
  rw[B,List.mem_singleton] at hy;subst hy;subst K;have:=Tq (M:=M++[h,.cells true 0 (vL v),.cells true 0 [.str [],.y9,.int .i64 0,.str [],.str [],.str []],.cells true 0 (foT bC .y9 (-1))]) W kE (by rw[G];exact XJ _ _);have e4:(M++[h,.cells true 0 (vL v),.cells true 0 [.str [],.y9,.int .i64 0,.str [],.str [],.str []],.cells true 0 (foT bC .y9 (-1))]:Mem).length=M.length+4:=by simp
  rw[e4] at this;exact aC this
 have eB:(af3.or (cX L) D) (.fn 49) [E] (M++[h,.cells true 0 (vL v),.cells true 0 [.str [],.y9,.int .i64 0,.str [],.str [],.str []],.cells true 0 (foT bC .y9 (-1))])=some ⟨.func 83 [.ptr (M.length+4) 0],none,[.cells true 0 [E]]⟩:=Vw (by rw[B];exact bo rfl);have eR:∀X:Env,(ad X 2=.ptr M.length 0/\ad X 3=.ptr (M.length+1) 0/\ad X 5=.ptr (M.length+3) 0)->(af3.or (cX L) D) (.fn 83) [.yield (M.length+5),.ptr (M.length+4) 0] (foM M h (.cells true 0 [.str [],.y9,.int .i64 0,.str [],.str [],.str []]) (.cells true 0 [E]) v (foT bC .y9 (-1)) ⟨.ready,none,X,47,ps,J',body⟩ [])=some ⟨.tuple [],some (foM M h (.cells true 0 [.str [],.y9,.int .i64 0,.str [],.str [],.str []]) (.cells true 0 [E]) F.q (foT F.u I F.e) ⟨m,V,X,47,ps,J',body⟩ []),Z⟩:=fun X K=>by rw[Vv (by rw[B,cX];exact if_neg (fun e=>by have:=e.1;simp at this))];exact hR X K
 subst R;obtain⟨a,b,c,d,x,y,hr⟩:=Oo (O:=af3.or (cX L) D) (M:=M) (Z:=Z) rfl rfl W Y hs he z eB eR;exact⟨_,I,bl ae (al _) (adM.or A C) (ao _) hr,Y,S [a,b,c,d,x,y] rfl⟩
section
variable (hd:Db [bC] (cs.map unE)=false)(h3:cs.length<=3)(hwl:ws.length=cs.length)(hw:∀(i:Nat) c w,cs[i]? =some c->ws[i]? =some w->w.Ok s/\c=w.con c.nm)(hv:plL true ws.reverse v)
include hd h3 hwl hw hv
theorem Tu:
  kO prog 10 [.agg (bS s p t q cs.length),vA v] M (.tuple [.str (qW s ws.reverse v).u,.int .i64 0]) M:=by
 have A:aS prog 10=some f10:=by kernel_rfl
 obtain⟨B,K⟩:=xE (α:=Mem) [.cells true 0 (bS s p t q cs.length),.cells true 0 (vL v)];obtain⟨Z,X,S,⟨Y,R,Q⟩,_⟩:=wQ (H.more B) h3 hwl hw hv;have J:=jz (H.more B) hd (qL (XY hv) (by decide));obtain⟨f,z⟩:=xE (qW s ws.reverse v);rw[<-z] at S |-;have G:=sI q cs.length;unfold bS at S J K |-;obtain⟨E,m⟩:=xE (evV q cs.length);rw[<-m] at G S J K |-;obtain⟨L,O⟩:=xE (α:=List (FuncId×List AV×(Mem->Prop)×afA)) [(29,[.agg [.slice p 0 s.P.length none,.slice t 0 s.T.length none,.str bC,E],vA v],(fun N=>N=M++B),⟨.int .i64 0,none,[]⟩),(30,[.agg [.slice p 0 s.P.length none,.slice t 0 s.T.length none,.str bC,E],vA v],(fun N=>N=M++B),⟨.agg [.str f.u,X,.int .i64 f.e,.str (aB f.q.1),.str (aB f.q.2.1),.str (aB f.q.2.2)],none,Z⟩)];have W:adM prog (cX L):=iM fun y F N j=>by
  rw[O] at F;simp only[lM] at F;rcases F with rfl | rfl<;>subst j
  .exact aE (J)
  .exact aC S
 have D:cX L (.fn 29) [.agg [.slice p 0 s.P.length none,.slice t 0 s.T.length none,.str bC,E],vA v] (M++B)=some ⟨.int .i64 0,none,[]⟩:=by rw[O];exact bo rfl
 have C:cX L (.fn 30) [.agg [.slice p 0 s.P.length none,.slice t 0 s.T.length none,.str bC,E],vA v] (M++B)=some ⟨.agg [.str f.u,X,.int .i64 f.e,.str (aB f.q.1),.str (aB f.q.2.1),.str (aB f.q.2.2)],none,Z⟩:=by rw[O,aO (.inl (by decide))];exact bo rfl
 rw[K] at D C;have h:∃V,bO (aU prog) (fun _=>[]) (aS prog) (cX L) 1 10 [.agg [.slice p 0 s.P.length none,.slice t 0 s.T.length none,.str bC,E],vA v] M=some (.tuple [.str f.u,.int .i64 0],M++V):=by refine⟨.cells true 0 [.slice p 0 s.P.length none,.slice t 0 s.T.length none,.str bC,E]::.cells true 0 (vL v)::Z,?_⟩;clear W O;unfold vA at*;simp only[vL] at*;simp[-getElem?_pos,-AV.af2,-AV.known,-AV.cells,-cG,-List.all_eq_true,vS,mS,bO,A,f10,D,C]
 obtain⟨V,h⟩:=h;exact kO.forget rfl (bl ae (al _) W (ao _) h)
theorem Gz:
  ∃(new:Mem) (I:AV),kO prog 11 [.agg (bS s p t q cs.length),vA v] M (.tuple [.agg [.str (qW s ws.reverse v).u,I,.int .i64 (qW s ws.reverse v).e,.str (aB (qW s ws.reverse v).q.1),.str (aB (qW s ws.reverse v).q.2.1),.str (aB (qW s ws.reverse v).q.2.2)],.int .i64 0]) (M++new)/\(I.af2=true/\I.known=true/\I.cells=[I])/\agi (M++new) I 1 (qW s ws.reverse v).l.length ((qW s ws.reverse v).l.map fun n=>.int .i64 n):=by
 have j:aS prog 11=some f11:=by kernel_rfl
 have X:=jU (qL (Zf (s:=s) hv) (by decide));obtain⟨B,S⟩:=xE (α:=Mem) [.cells true 0 (bS s p t q cs.length),.cells true 0 (vL v),.cells true 0 [.str [],.y9,.int .i64 0,.str [],.str [],.str []]];obtain⟨new,I,O,⟨C,Y,R⟩,Z⟩:=wQ (H.more B) h3 hwl hw hv;have K:=jz (H.more B) hd (qL (XY hv) (by decide));obtain⟨f,Q⟩:=xE (qW s ws.reverse v);rw[<-Q] at O X Z |-;have J:=sI q cs.length;unfold bS at O K S |-;obtain⟨E,hE⟩:=xE (evV q cs.length);rw[<-hE] at J O K S |-;obtain⟨L,W⟩:=xE (α:=List (FuncId×List AV×(Mem->Prop)×afA)) [(29,[.agg [.slice p 0 s.P.length none,.slice t 0 s.T.length none,.str bC,E],vA v],(fun N=>N=M++B),⟨.int .i64 0,none,[]⟩),(30,[.agg [.slice p 0 s.P.length none,.slice t 0 s.T.length none,.str bC,E],vA v],(fun N=>N=M++B),⟨.agg [.str f.u,I,.int .i64 f.e,.str (aB f.q.1),.str (aB f.q.2.1),.str (aB f.q.2.2)],none,new⟩),(14,[vA f.q],(fun _=>True),⟨.int .i64 0,none,[]⟩)];have V:adM prog (cX L):=iM fun y G N A=>by
  rw[W] at G;simp only[lM] at G;rcases G with rfl | rfl | rfl
  .subst A;exact aE (K)
  .subst A;exact aC O
  .exact aE (X N)
 have z:cX L (.fn 29) [.agg [.slice p 0 s.P.length none,.slice t 0 s.T.length none,.str bC,E],vA v] (M++B)=some ⟨.int .i64 0,none,[]⟩:=by rw[W];exact bo rfl
 have m:cX L (.fn 30) [.agg [.slice p 0 s.P.length none,.slice t 0 s.T.length none,.str bC,E],vA v] (M++B)=some ⟨.agg [.str f.u,I,.int .i64 f.e,.str (aB f.q.1),.str (aB f.q.2.1),.str (aB f.q.2.2)],none,new⟩:=by rw[W,aO (.inl (by decide))];exact bo rfl
 have e3:∀N,cX L (.fn 14) [vA f.q] N=some ⟨.int .i64 0,none,[]⟩:=fun N=>by rw[W,aO (.inl (by decide)),aO (.inl (by decide))];exact bo trivial
 rw[S] at z m;have h:∃a b c d:af6,bO (aU prog) (fun _=>[]) (aS prog) (cX L) 1 11 [.agg [.slice p 0 s.P.length none,.slice t 0 s.T.length none,.str bC,E],vA v] M=some (.tuple [.agg [.str f.u,I,.int .i64 f.e,.str (aB f.q.1),.str (aB f.q.2.1),.str (aB f.q.2.2)],.int .i64 0],M++(a::b::c::(new++[d]))):=by clear V W;unfold vA at*;simp only[vL] at*;simp[-getElem?_pos,-AV.af2,-AV.known,-AV.cells,-cG,-List.all_eq_true,vS,mS,bO,j,f11,C,z,m,e3]
 obtain⟨a,b,c,d,h⟩:=h;refine⟨_,I,bl ae (al _) V (ao _) h,⟨C,Y,R⟩,?_⟩;rw[S] at Z;rcases Z with⟨F,D,h3⟩ | ⟨r,o,F,D,h3⟩
 .exact .inl ⟨F,D,h3⟩
 .exact .inr ⟨r,o,F,D,Xq h3⟩
end
end
end
end Go.Proofs
namespace Go.Proofs
open Go.Eng
theorem O0(ds:List agf):AV.ago 1 (gD ds)=[]:=by
 induction ds with
 |nil=>rfl
 |cons d l ih=>exact ih
theorem HO(ds:List agf):AV.af9 (gD ds)=true:=by
 induction ds with
 |nil=>rfl
 |cons d l ih=>exact ih
theorem z6{ds:List agf}{X:af6}(h:X=.HS\/X=.cells false 12 (gD ds)):af6.refs 1 X=[]/\∀f,af6.ren f X=X:=by
 rcases h with rfl | rfl
 .exact⟨rfl,fun _=>rfl⟩
 .exact⟨O0 ds,fun f=>congrArg (af6.cells false 12) (ca (HO ds))⟩
end Go.Proofs
