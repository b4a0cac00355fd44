/- See I36. -/
import Derived.Test.YtgafjliihahjgaaGreatDoorI34
set_option linter.all false
set_option maxRecDepth 100000
set_option maxHeartbeats 40000000
namespace Go.Proofs
open Go.Eng
open Tryz
theorem Zd{c:Prop}[Decidable c]{A B:afA}{P:afA->Prop}(y:P A)(H:P B):∃r,(if c then some A else some B)=some r/\P r:=by
 split
 .exact⟨_,rfl,y⟩
 .exact⟨_,rfl,H⟩
noncomputable def du:Code:=match f3.body with
 |some c=>c
 |none=>.skip
noncomputable def rY:Code:=qq 2 du
noncomputable def oJ:Code:=qq 3 du
noncomputable def xa:Code:=qq 4 du
noncomputable def xb:Code:=qq 5 du
noncomputable def xc:Code:=qq 6 du
noncomputable def xd:Code:=qq 7 du
noncomputable def oK:Code:=qq 8 du
noncomputable def Lc:Code:=qq 9 du
theorem Wa:f3.body=some (.seq (pj 0 du) (.seq (pj 1 du) rY)):=by kernel_rfl
theorem TE:rY=.seq (pj 2 du) oJ:=by kernel_rfl
theorem TF:oJ=.seq (pj 3 du) xa:=by kernel_rfl
theorem TG:xa=.seq (pj 4 du) xb:=by kernel_rfl
theorem TH:xb=.seq (pj 5 du) xc:=by kernel_rfl
theorem TI:xc=.seq (pj 6 du) xd:=by kernel_rfl
theorem TJ:xd=.seq (pj 7 du) oK:=by kernel_rfl
theorem La:oK=.seq (pj 8 du) Lc:=by kernel_rfl
theorem Lb:Lc=.seq (pj 9 du) .ret:=by kernel_rfl
def dr(O:af3)(T:Code)(N:Mem)(env:Env):Prop:=
 ∀d:Bool,∃r:XS,aT (aU prog) (fun _=>[]) O 1 122 1 true T ⟨env,N,d⟩=some (.ret,r)/\ad r.env 4=.bool true/\r.mem.take 1=N.take 1
theorem mA{O:af3}{T:Code}{N:Mem}{P:Env->Prop}(h:∀env,P env->dr O T N env):∃F:Env->Bool->XS,(∀env d,P env->aT (aU prog) (fun _=>[]) O 1 122 1 true T ⟨env,N,d⟩=some (.ret,F env d))/\(∀env d,P env->ad (F env d).env 4=.bool true)/\∀env d,P env->(F env d).mem.take 1=N.take 1:=by
 have k:∀env d,∃r:XS,P env->aT (aU prog) (fun _=>[]) O 1 122 1 true T ⟨env,N,d⟩=some (.ret,r)/\ad r.env 4=.bool true/\r.mem.take 1=N.take 1:=fun env d=>by
  by_cases Z:P env
  .obtain⟨r,X⟩:=h env Z d;exact⟨r,fun _=>X⟩
  .exact⟨⟨env,N,d⟩,fun k=>absurd k Z⟩
 exact⟨fun env d=>(k env d).choose,fun env d Z=>((k env d).choose_spec Z).1,fun env d Z=>((k env d).choose_spec Z).2.1,fun env d Z=>((k env d).choose_spec Z).2.2⟩
variable{a:AV}{s:af8}
section
variable {O:af3}{N:Mem}{pv tv ev w:AV}{bn:List UInt8}{bh bv k8 k10 k12:Nat}{x1 x2 x3 u y4 y1 y2 y3 b1 b2 b3 c1 c2 c3:List UInt8}{e i:Int}
section
variable (hm:1<=N.length)(hh0:N[bh]? =some (.cells true 0 [pv,tv,.str bn,ev]))(hv0:N[bv]? =some (.cells true 0 [.str x1,.str x2,.str x3]))
include hm hh0 hv0
theorem Ru(y:O (.fn 10) [.agg [pv,tv,.str bn,ev],.agg [.str x1,.str x2,.str x3]] N=some ⟨.tuple [.str u,.int .i64 e],none,[]⟩)(hT:∀env:Env,(ad env 3=.ptr bv 0/\ad env 5=.ptr bh 0/\ad env 6=.str u/\ad env 7=.int .i64 e)->dr O xa N env):
  ∀env:Env,(ad env 3=.ptr bv 0/\ad env 5=.ptr bh 0)->dr O oJ N env:=by
 rintro env ⟨l3,l5⟩ d;have V:∀Z:Mem,(N++Z).take 1=N.take 1:=fun Z=>QQa (by omega)
 rw[TF];obtain⟨F,S,W,X⟩:=mA hT;clear hT;try simp only[V] at X
 simp[-getElem?_pos,-AV.af2,-AV.known,-AV.cells,-cG,-List.all_eq_true,mS,-CO,du,f3,pj,l3,l5,hh0,hv0,y,S,W,X]
theorem Rx{newF:Mem}(y:w.af2=true/\w.known=true/\w.cells=[w])(H:O (.fn 11) [.agg [pv,tv,.str bn,ev],.agg [.str x1,.str x2,.str x3]] N=some ⟨.tuple [.agg [.str y4,w,.int .i64 i,.str y1,.str y2,.str y3],.int .i64 e],none,newF⟩)(hT:∀env:Env,(ad env 3=.ptr bv 0/\ad env 5=.ptr bh 0/\ad env 6=.str u/\ad env 7=.int .i64 e/\ad env 8=.ptr (N.length+newF.length) 0/\ad env 9=.int .i64 e)->dr O xb (N++(newF++[.cells true 0 [.str y4,w,.int .i64 i,.str y1,.str y2,.str y3]])) env):
  ∀env:Env,(ad env 3=.ptr bv 0/\ad env 5=.ptr bh 0/\ad env 6=.str u/\ad env 7=.int .i64 e)->dr O xa N env:=by
 rintro env ⟨l3,l5,l6,l7⟩ d;have V:∀Z:Mem,(N++Z).take 1=N.take 1:=fun Z=>QQa (by omega)
 rw[TG];obtain⟨F,S,W,X⟩:=mA hT;clear hT;try simp only[V] at X
 simp[-getElem?_pos,-AV.af2,-AV.known,-AV.cells,-cG,-List.all_eq_true,vS,mS,-CO,du,f3,pj,l3,l5,l6,l7,hh0,hv0,H,S,W,X,y]
theorem Rv(y:O (.fn 12) [.agg [pv,tv,.str bn,ev],.agg [.str x1,.str x2,.str x3],.int .i64 0] N=some ⟨.tuple [.agg [.str b1,.str b2,.str b3],.int .i64 e],none,[]⟩)(hT:∀env:Env,(ad env 3=.ptr bv 0/\ad env 5=.ptr bh 0/\ad env 6=.str u/\ad env 7=.int .i64 e/\ad env 8=.ptr k8 0/\ad env 9=.int .i64 e/\ad env 10=.ptr N.length 0/\ad env 11=.int .i64 e)->dr O xc (N++([.cells true 0 [.str b1,.str b2,.str b3]])) env):
  ∀env:Env,(ad env 3=.ptr bv 0/\ad env 5=.ptr bh 0/\ad env 6=.str u/\ad env 7=.int .i64 e/\ad env 8=.ptr k8 0/\ad env 9=.int .i64 e)->dr O xb N env:=by
 rintro env ⟨l3,l5,l6,l7,l8,l9⟩ d;have V:∀Z:Mem,(N++Z).take 1=N.take 1:=fun Z=>QQa (by omega)
 rw[TH];obtain⟨F,S,W,X⟩:=mA hT;clear hT;try simp only[V] at X
 simp[-getElem?_pos,-AV.af2,-AV.known,-AV.cells,-cG,-List.all_eq_true,vS,mS,-CO,du,f3,pj,l3,l5,l6,l7,l8,l9,hh0,hv0,y,S,W,X]
theorem Ry(y:O (.fn 13) [.agg [pv,tv,.str bn,ev],.agg [.str x1,.str x2,.str x3],.int .i64 0] N=some ⟨.tuple [.agg [.str c1,.str c2,.str c3],.int .i64 e],none,[]⟩)(hT:∀env:Env,(ad env 3=.ptr bv 0/\ad env 5=.ptr bh 0/\ad env 6=.str u/\ad env 7=.int .i64 e/\ad env 8=.ptr k8 0/\ad env 9=.int .i64 e/\ad env 10=.ptr k10 0/\ad env 11=.int .i64 e/\ad env 12=.ptr N.length 0/\ad env 13=.int .i64 e)->dr O xd (N++([.cells true 0 [.str c1,.str c2,.str c3]])) env):
  ∀env:Env,(ad env 3=.ptr bv 0/\ad env 5=.ptr bh 0/\ad env 6=.str u/\ad env 7=.int .i64 e/\ad env 8=.ptr k8 0/\ad env 9=.int .i64 e/\ad env 10=.ptr k10 0/\ad env 11=.int .i64 e)->dr O xc N env:=by
 rintro env ⟨l3,l5,l6,l7,l8,l9,l10,l11⟩ d;have V:∀Z:Mem,(N++Z).take 1=N.take 1:=fun Z=>QQa (by omega)
 rw[TI];obtain⟨F,S,W,X⟩:=mA hT;clear hT;try simp only[V] at X
 simp[-getElem?_pos,-AV.af2,-AV.known,-AV.cells,-cG,-List.all_eq_true,vS,mS,-CO,du,f3,pj,l3,l5,l6,l7,l8,l9,l10,l11,hh0,hv0,y,S,W,X]
theorem Rw(y:O (.fn 14) [.agg [.str x1,.str x2,.str x3]] N=some ⟨.int .i64 e,none,[]⟩)(hT:∀env:Env,(ad env 3=.ptr bv 0/\ad env 5=.ptr bh 0/\ad env 6=.str u/\ad env 7=.int .i64 e/\ad env 8=.ptr k8 0/\ad env 9=.int .i64 e/\ad env 10=.ptr k10 0/\ad env 11=.int .i64 e/\ad env 12=.ptr k12 0/\ad env 13=.int .i64 e/\ad env 14=.int .i64 e)->dr O oK N env):
  ∀env:Env,(ad env 3=.ptr bv 0/\ad env 5=.ptr bh 0/\ad env 6=.str u/\ad env 7=.int .i64 e/\ad env 8=.ptr k8 0/\ad env 9=.int .i64 e/\ad env 10=.ptr k10 0/\ad env 11=.int .i64 e/\ad env 12=.ptr k12 0/\ad env 13=.int .i64 e)->dr O xd N env:=by
 rintro env ⟨l3,l5,l6,l7,l8,l9,l10,l11,l12,l13⟩ d;have V:∀Z:Mem,(N++Z).take 1=N.take 1:=fun Z=>QQa (by omega)
 rw[TJ];obtain⟨F,S,W,X⟩:=mA hT;clear hT;try simp only[V] at X
 simp[-getElem?_pos,-AV.af2,-AV.known,-AV.cells,-cG,-List.all_eq_true,-CO,du,f3,pj,l3,l5,l6,l7,l8,l9,l10,l11,l12,l13,hv0,y,S,W,X]
end
theorem Ld(y:N[k8]? =some (.cells true 0 [.str u,w,.int .i64 i,.str y1,.str y2,.str y3])):
  ∀env:Env,(ad env 3=.ptr bv 0/\ad env 5=.ptr bh 0/\ad env 6=.str u/\ad env 7=.int .i64 0/\ad env 8=.ptr k8 0/\ad env 9=.int .i64 0/\ad env 10=.ptr k10 0/\ad env 11=.int .i64 0/\ad env 12=.ptr k12 0/\ad env 13=.int .i64 0/\ad env 14=.int .i64 0)->dr O oK N env:=by
 rintro env ⟨l3,l5,l6,l7,l8,l9,l10,l11,l12,l13,l14⟩ d;rw[La,Lb];simp[-getElem?_pos,-AV.af2,-AV.known,-AV.cells,-cG,-List.all_eq_true,mS,du,f3,pj,l6,l7,l8,l9,l11,l13,l14,y]
theorem Le(he:e≠0)(I:N[k8]? =some (.cells true 0 [.str [],.y9,.int .i64 0,.str [],.str [],.str []]))(y:N[k10]? =some (.cells true 0 [.str [],.str [],.str []]))(H:N[k12]? =some (.cells true 0 [.str [],.str [],.str []]))(Q:O (.fn 15) [.agg [.str [],.y9,.int .i64 0,.str [],.str [],.str []]] N=some ⟨.bool true,none,[]⟩):
  ∀env:Env,(ad env 3=.ptr bv 0/\ad env 5=.ptr bh 0/\ad env 6=.str []/\ad env 7=.int .i64 e/\ad env 8=.ptr k8 0/\ad env 9=.int .i64 e/\ad env 10=.ptr k10 0/\ad env 11=.int .i64 e/\ad env 12=.ptr k12 0/\ad env 13=.int .i64 e/\ad env 14=.int .i64 e)->dr O oK N env:=by
 rintro env ⟨l3,l5,l6,l7,l8,l9,l10,l11,l12,l13,l14⟩ d;rw[La,Lb];have Z:mI (aU prog) 20 31 (.agg [.str [],.str [],.str []]) (.agg [.str [],.str [],.str []])=some true:=by kernel_rfl
 simp[-getElem?_pos,-AV.af2,-AV.known,-AV.cells,-cG,-List.all_eq_true,vS,bZ,du,f3,pj,l6,l7,l8,l9,l10,l11,l12,l13,l14,I,y,H,he,Q,Z]
theorem Rz{p t q n:Nat}{new:Mem}{o1:Bool}(H:1<=N.length)(h1:N[1]? =some (.cells o1 0 [.int .u8 s.kind,.int .i8 s.sx,.int .i8 s.sy,.bool s.half,a]))(y:O (.fn 9) [lP s a] N=some ⟨.agg (bS s p t q n),none,new⟩)(hT:∀env:Env,(ad env 3=.ptr 2 0/\ad env 5=.ptr (N.length+new.length) 0)->dr O oJ (N++(new++[.cells true 0 (bS s p t q n)])) env):
  ∀env:Env,(ad env 2=.ptr 1 0/\ad env 3=.ptr 2 0)->dr O rY N env:=by
 rintro env ⟨l2,l3⟩ d;have M:∀Z:Mem,(N++Z).take 1=N.take 1:=fun Z=>QQa (by omega)
 rw[TE];obtain⟨F,V,S,X⟩:=mA hT;clear hT;simp only[M] at X;have W:=sI q n;unfold bS at y V;unfold lP at y;obtain⟨E,K⟩:=xE (evV q n);simp only[<-K] at W y V;simp[-getElem?_pos,-AV.af2,-AV.known,-AV.cells,-cG,-List.all_eq_true,vS,mS,-CO,du,f3,pj,l2,l3,h1,W,y,V,S,X]
end
variable{X:af6}
section
variable{O:af3}(hO:adM prog O){x1 x2 x3:List UInt8}
include O hO x1 x2 x3
theorem Ot(H:af6.refs 1 X=[]/\∀f,af6.ren f X=X)(I:x1.length<=20)(Q:x2.length<=20)(R:x3.length<=20)(Y:O (.fn 7) [] [X,.cells true 0 [.int .u8 s.kind,.int .i8 s.sx,.int .i8 s.sy,.bool s.half,a],.cells true 0 [.str x1,.str x2,.str x3]]=some ⟨.bool true,none,[]⟩)(y:O (.fn 8) [lP s a] [X,.cells true 0 [.int .u8 s.kind,.int .i8 s.sx,.int .i8 s.sy,.bool s.half,a],.cells true 0 [.str x1,.str x2,.str x3]]=some ⟨.bool true,none,[]⟩)(hT:∀env:Env,(ad env 2=.ptr 1 0/\ad env 3=.ptr 2 0)->dr O rY [X,.cells true 0 [.int .u8 s.kind,.int .i8 s.sx,.int .i8 s.sy,.bool s.half,a],.cells true 0 [.str x1,.str x2,.str x3]] env):
  kO prog 3 [lP s a,.agg [.str x1,.str x2,.str x3]] [X] (.bool true) [X]:=by
 have z:aS prog 3=some f3:=by kernel_rfl
 obtain⟨u,m⟩:=H;have M:=Wa;obtain⟨F,B,K,W⟩:=mA hT;clear hT;obtain⟨T,Z⟩:=xE rY;simp only[<-Z] at B;rw[<-Z] at M;simp only[List.take_succ_cons,List.take_zero] at W;obtain⟨V,J⟩:∃n:Int,(x1.length:Int)=n:=⟨_,rfl⟩
 obtain⟨S,G⟩:∃n:Int,(x2.length:Int)=n:=⟨_,rfl⟩
 obtain⟨A,D⟩:∃n:Int,(x3.length:Int)=n:=⟨_,rfl⟩
 have C:(20<(if (if V<S then S else V)<A then A else (if V<S then S else V)))=False:=by
  rw[eq_iff_iff,iff_false];split<;>try split
  all_goals omega
 have h:∃r,aa (aU prog) (fun _=>[]) (aS prog) O 1 3 [lP s a,.agg [.str x1,.str x2,.str x3]] [X]=some r/\r.v=.bool true/\r.mem [X]=[X]:=by unfold aa;rw[z];dsimp only;rw[M];dsimp only;clear Z M hO;simp only[lP] at y;simp[-AV.af2,-AV.known,-AV.cells,vS,-List.all_eq_true,du,f3,pj,-af6.ren,-af6.refs,lP,Y,y,B,K,W,u,m,J,G,D,C];exact Zd (P:=fun r=>r.v=.bool true/\r.pre.getD [X]++r.new=[X]) ⟨rfl,rfl⟩ ⟨rfl,rfl⟩
 obtain⟨r,j,h2,h3⟩:=h;have:=(ah ae (al _) hO (ao _) j).1
 rwa [h2,h3] at this
theorem Ou{b:Bool}(Q:af6.refs 1 X=[]/\∀f,af6.ren f X=X)(y:b=true->¬(x1.length<=20/\x2.length<=20/\x3.length<=20))(I:∀N,O (.fn 7) [] N=some ⟨.bool true,none,[]⟩)(H:∀N,O (.fn 8) [lP s a] N=some ⟨.bool b,none,[]⟩):
  kO prog 3 [lP s a,.agg [.str x1,.str x2,.str x3]] [X] (.bool true) [X]:=by
 have J:aS prog 3=some f3:=by kernel_rfl
 obtain⟨C,B⟩:=Q;obtain⟨Z,V⟩:∃n:Int,(x1.length:Int)=n:=⟨_,rfl⟩
 obtain⟨W,S⟩:∃n:Int,(x2.length:Int)=n:=⟨_,rfl⟩
 obtain⟨G,M⟩:∃n:Int,(x3.length:Int)=n:=⟨_,rfl⟩
 have h:∃r,aa (aU prog) (fun _=>[]) (aS prog) O 1 3 [lP s a,.agg [.str x1,.str x2,.str x3]] [X]=some r/\r.v=.bool true/\r.mem [X]=[X]:=by
  simp only[lP] at H;cases b with
  |false=>
   clear y hO;simp[-AV.af2,-AV.known,-AV.cells,vS,-List.all_eq_true,aa,J,f3,-af6.ren,-af6.refs,lP,I,H]
  |true=>
   have K:(20<(if (if Z<W then W else Z)<G then G else (if Z<W then W else Z)))=True:=by
    have:=y rfl;rw[eq_iff_iff,iff_true];split<;>try split
    all_goals omega
   clear y hO;simp[-AV.af2,-AV.known,-AV.cells,vS,-List.all_eq_true,aa,J,f3,-af6.ren,-af6.refs,lP,I,H,V,S,M,K]
 obtain⟨r,F,D,h3⟩:=h;have:=(ah ae (al _) hO (ao _) F).1
 rwa [D,h3] at this
end
end Go.Proofs
namespace Go.Proofs
open Go.Eng
open Tryz
theorem Qc{g:FuncId}{a:List AV}{m:Mem}:∀{L:List (FuncId×List AV×(Mem->Prop)×afA)},(∀x∈L,x.1≠g)->cX L (.fn g) a m=none
 | [],_=>rfl
 |x::L,h=>by rw[cX,if_neg (fun e=>h x (by simp) (by have:=e.1;cases this;rfl))];exact Qc fun y Z=>h y (by simp[Z])
variable{A:Mem}{b:Nat}
theorem at0{x:Option af6}(h:∀Z,(A++Z)[b]? =x):A[b]? =x:=by have:=h [];rwa [List.append_nil] at this
theorem SC{B Y:Mem}{x:af6}(h:∀Z,(A++Z)[b]? =some x)(e:B=A++Y):∀Z,(B++Z)[b]? =some x:=fun Z=>by rw[e,SP];exact h _
theorem YZ{s:af8}{y:List EvD}{v:V3}(H:∀w∈y,w.Ok s)(h3:y.length<=3)(I:plK 0 v)(b:Bool)(i:Nat):plL b (if b then (y.drop i).reverse else y.drop i) v:=by
 refine XZ (s:=s) (k:=0) (fun w Z=>?_) I ?_
 .cases b
  .exact H w (List.mem_of_mem_drop Z)
  .exact H w (List.mem_of_mem_drop (List.mem_reverse.1 Z))
 .cases b<;>simp<;>omega
section
variable {N:Mem}{pv tv ev w:AV}{bn:List UInt8}{bh bv:Nat}{x1 x2 x3 u y4 y1 y2 y3 b1 b2 b3 c1 c2 c3:List UInt8}{e i:Int}{newF:Mem}
theorem zz(hm:1<=N.length)(H:∀Z,(N++Z)[bh]? =some (.cells true 0 [pv,tv,.str bn,ev]))(I:∀Z,(N++Z)[bv]? =some (.cells true 0 [.str x1,.str x2,.str x3]))(kw:w.af2=true/\w.known=true/\w.cells=[w])(cA:kO prog 10 [.agg [pv,tv,.str bn,ev],.agg [.str x1,.str x2,.str x3]] N (.tuple [.str u,.int .i64 e]) N)(cF:kO prog 11 [.agg [pv,tv,.str bn,ev],.agg [.str x1,.str x2,.str x3]] N (.tuple [.agg [.str y4,w,.int .i64 i,.str y1,.str y2,.str y3],.int .i64 e]) (N++newF))(cB:∀Z,kO prog 12 [.agg [pv,tv,.str bn,ev],.agg [.str x1,.str x2,.str x3],.int .i64 0] (N++Z) (.tuple [.agg [.str b1,.str b2,.str b3],.int .i64 e]) (N++Z))(cW:∀Z,kO prog 13 [.agg [pv,tv,.str bn,ev],.agg [.str x1,.str x2,.str x3],.int .i64 0] (N++Z) (.tuple [.agg [.str c1,.str c2,.str c3],.int .i64 e]) (N++Z))(cC:∀Z,kO prog 14 [.agg [.str x1,.str x2,.str x3]] Z (.int .i64 e) Z)(Q:(e=0/\y4=u)\/(e≠0/\u=[]/\[AV.str y4,w,.int .i64 i,.str y1,.str y2,.str y3]=[.str [],.y9,.int .i64 0,.str [],.str [],.str []]/\b1=[]/\b2=[]/\b3=[]/\c1=[]/\c2=[]/\c3=[])):
  ∃L,adM prog (cX L)/\(∀y∈L,y.1=10\/y.1=11\/y.1=12\/y.1=13\/y.1=14\/y.1=15)/\
   ∀O,(∀c a m r,cX L c a m=some r->O c a m=some r)->
    ∀env:Env,(ad env 3=.ptr bv 0/\ad env 5=.ptr bh 0)->dr O oJ N env:=by
 refine⟨[(10,[.agg [pv,tv,.str bn,ev],.agg [.str x1,.str x2,.str x3]],(fun M=>M=N),⟨.tuple [.str u,.int .i64 e],none,[]⟩),(11,[.agg [pv,tv,.str bn,ev],.agg [.str x1,.str x2,.str x3]],(fun M=>M=N),⟨.tuple [.agg [.str y4,w,.int .i64 i,.str y1,.str y2,.str y3],.int .i64 e],none,newF⟩),(12,[.agg [pv,tv,.str bn,ev],.agg [.str x1,.str x2,.str x3],.int .i64 0],(fun M=>∃Z,M=N++Z),⟨.tuple [.agg [.str b1,.str b2,.str b3],.int .i64 e],none,[]⟩),(13,[.agg [pv,tv,.str bn,ev],.agg [.str x1,.str x2,.str x3],.int .i64 0],(fun M=>∃Z,M=N++Z),⟨.tuple [.agg [.str c1,.str c2,.str c3],.int .i64 e],none,[]⟩),(14,[.agg [.str x1,.str x2,.str x3]],(fun _=>True),⟨.int .i64 e,none,[]⟩),(15,[.agg [.str [],.y9,.int .i64 0,.str [],.str [],.str []]],(fun _=>True),⟨.bool true,none,[]⟩)],iM fun y F M j=>?_,fun y F=>?_,fun O S env Y=>?_⟩
 .simp only[lM] at F
  rcases F with rfl | rfl | rfl | rfl | rfl | rfl
  .subst j;exact aE (cA)
  .subst j;exact aC cF
  .obtain⟨Z,rfl⟩:=j;exact aE (cB Z)
  .obtain⟨Z,rfl⟩:=j;exact aE (cW Z)
  .exact aE (cC M)
  .exact aE (Is M)
 .simp only[lM] at F
  rcases F with rfl | rfl | rfl | rfl | rfl | rfl<;>simp
 have eA:=S (.fn 10) [.agg [pv,tv,.str bn,ev],.agg [.str x1,.str x2,.str x3]] N ⟨.tuple [.str u,.int .i64 e],none,[]⟩ (bo rfl);have eF:=S (.fn 11) [.agg [pv,tv,.str bn,ev],.agg [.str x1,.str x2,.str x3]] N ⟨.tuple [.agg [.str y4,w,.int .i64 i,.str y1,.str y2,.str y3],.int .i64 e],none,newF⟩ (by rw[aO (.inl (by decide))];exact bo rfl);have eB:=fun Z=>S (.fn 12) [.agg [pv,tv,.str bn,ev],.agg [.str x1,.str x2,.str x3],.int .i64 0] (N++Z) ⟨.tuple [.agg [.str b1,.str b2,.str b3],.int .i64 e],none,[]⟩ (by rw[aO (.inl (by decide)),aO (.inl (by decide))];exact bo ⟨Z,rfl⟩)
 have eW:=fun Z=>S (.fn 13) [.agg [pv,tv,.str bn,ev],.agg [.str x1,.str x2,.str x3],.int .i64 0] (N++Z) ⟨.tuple [.agg [.str c1,.str c2,.str c3],.int .i64 e],none,[]⟩ (by rw[aO (.inl (by decide)),aO (.inl (by decide)),aO (.inl (by decide))];exact bo ⟨Z,rfl⟩)
 have eC:=fun Z=>S (.fn 14) [.agg [.str x1,.str x2,.str x3]] Z ⟨.int .i64 e,none,[]⟩ (by rw[sJ (by simp)];exact bo trivial)
 have eZ:=fun Z=>S (.fn 15) [.agg [.str [],.y9,.int .i64 0,.str [],.str [],.str []]] Z ⟨.bool true,none,[]⟩ (by rw[sJ (by simp),aO (.inl (by decide))];exact bo trivial)
 clear S;obtain⟨K,X⟩:=xE (α:=Mem) (N++(newF++[.cells true 0 [.str y4,w,.int .i64 i,.str y1,.str y2,.str y3]]));obtain⟨G,W⟩:=xE (α:=Mem) (K++[.cells true 0 [.str b1,.str b2,.str b3]]);obtain⟨J,V⟩:=xE (α:=Mem) (G++[.cells true 0 [.str c1,.str c2,.str c3]]);have g2:1<=K.length:=by rw[X,Nm];omega
 have g3:1<=G.length:=by rw[W,Nm];omega
 have g4:1<=J.length:=by rw[V,Nm];omega
 have D:=SC H X;have C:=SC I X;have B:=SC D W;have z:=SC C W;have R:=SC B V;have hv4:=SC z V;have m8:J[N.length+newF.length]? =some (.cells true 0 [.str y4,w,.int .i64 i,.str y1,.str y2,.str y3]):=by rw[V,W,X,SP,SP,iG,SP,wo];rfl
 have m10:J[K.length]? =some (.cells true 0 [.str b1,.str b2,.str b3]):=by rw[V,W,SP,wo];rfl
 have m12:J[G.length]? =some (.cells true 0 [.str c1,.str c2,.str c3]):=by rw[V,wo];rfl
 have eB' :O (.fn 12) [.agg [pv,tv,.str bn,ev],.agg [.str x1,.str x2,.str x3],.int .i64 0] K=some ⟨.tuple [.agg [.str b1,.str b2,.str b3],.int .i64 e],none,[]⟩:=by rw[X];exact eB _
 have eW' :O (.fn 13) [.agg [pv,tv,.str bn,ev],.agg [.str x1,.str x2,.str x3],.int .i64 0] G=some ⟨.tuple [.agg [.str c1,.str c2,.str c3],.int .i64 e],none,[]⟩:=by rw[W,X,SP];exact eW _
 have sE:∀env:Env,(ad env 3=.ptr bv 0/\ad env 5=.ptr bh 0/\ad env 6=.str u/\ad env 7=.int .i64 e/\ad env 8=.ptr (N.length+newF.length) 0/\ad env 9=.int .i64 e/\ad env 10=.ptr K.length 0/\ad env 11=.int .i64 e/\ad env 12=.ptr G.length 0/\ad env 13=.int .i64 e/\ad env 14=.int .i64 e)->dr O oK J env:=by
  rcases Q with⟨h0,h1⟩ | ⟨h0,h1,h2,h3,h4,h5,h6,h7,h8⟩
  .subst h0;subst h1
   exact Ld m8
  .rw[h2] at m8
   subst h1 h3 h4 h5 h6 h7 h8;exact Le h0 m8 m10 m12 (eZ J)
 have sC:=Rw (O:=O) (u:=u) (k8:=N.length+newF.length) (k10:=K.length) (k12:=G.length) g4 (at0 R) (at0 hv4) (eC J) sE;have sW:=Ry (O:=O) (u:=u) (k8:=N.length+newF.length) (k10:=K.length) g3 (at0 B) (at0 z) eW' (fun env h=>by rw[<-V];exact sC env h);have sB:=Rv (O:=O) (u:=u) (k8:=N.length+newF.length) g2 (at0 D) (at0 C) eB' (fun env h=>by rw[<-W];exact sW env h);have sF:=Rx (O:=O) (u:=u) hm (at0 H) (at0 I) kw eF (fun env h=>by rw[<-X];exact sB env h);exact Ru (O:=O) hm (at0 H) (at0 I) eA sF env Y
end
section
variable {s:af8}{p t q:Nat}{evs:List (List AV)}{cs:List Evc}{N:Mem}{x1 x2 x3:List UInt8}{bh bv:Nat}
theorem Oq(H:agX s p t q evs cs N)(hd:Db [bC] (cs.map unE)=false)(h3:cs.length<=3)(I:x1.length<=20)(Q:x2.length<=20)(l3:x3.length<=20)(hm:1<=N.length)(hh:∀Z,(N++Z)[bh]? =some (.cells true 0 (bS s p t q cs.length)))(hv:∀Z,(N++Z)[bv]? =some (.cells true 0 [.str x1,.str x2,.str x3])):
  ∃L,adM prog (cX L)/\(∀y∈L,y.1=10\/y.1=11\/y.1=12\/y.1=13\/y.1=14\/y.1=15)/\
   ∀O,(∀c a m r,cX L c a m=some r->O c a m=some r)->
    ∀env:Env,(ad env 3=.ptr bv 0/\ad env 5=.ptr bh 0)->dr O oJ N env:=by
 have X:=sI q cs.length;have W:=XJ q cs.length;have z:=fun Z=>jK x1 x2 x3 (by omega) (by omega) (by omega) Z
 by_cases he:uz [x1,x2,x3]=0
 .obtain⟨v,rfl,rfl,rfl,u⟩:=Xm he I Q l3
  rw[he] at z;obtain⟨K,V,J⟩:=H.aiV;have G:∀(i:Nat) c w,cs[i]? =some c->K[i]? =some w->w.Ok s/\c=w.con c.nm:=fun i c w h1 h2=>⟨(J i c w h1 h2).1,(J i c w h1 h2).2.2⟩
  have S:∀w∈K,w.Ok s:=fun w h=>by obtain⟨i,hi⟩:=QQg h;have hl:=gL hi;exact(G i _ w (GT (by omega)) hi).1
  have F:plL true K.reverse v:=by have:=YZ (s:=s) S (by omega) u true 0;simpa using this
  have C:=Tu H hd h3 V G F;obtain⟨D,pvv,B,kp,_⟩:=Gz H hd h3 V G F;have j:∀Z,kO prog 12 [.agg (bS s p t q cs.length),vA v,.int .i64 0] (N++Z) (.tuple [vA (mvI K true 0 v),.int .i64 0]) (N++Z):=fun Z=>by have:=qz (H.more Z) hd h3 V G true (i:=0) (YZ (s:=s) S (by omega) u true 0) (Nat.zero_le _) (fun h=>h.symm);exact this
  have Y:∀Z,kO prog 13 [.agg (bS s p t q cs.length),vA v,.int .i64 0] (N++Z) (.tuple [vA (mvI K false 0 v),.int .i64 0]) (N++Z):=fun Z=>by have:=qz (H.more Z) hd h3 V G false (i:=0) (YZ (s:=s) S (by omega) u false 0) (Nat.zero_le _) (fun h=>h.symm);exact this
  exact zz hm hh hv kp C B j Y z (.inl ⟨rfl,rfl⟩)
 .have hC:∀Z,kO prog 35 [.agg (bS s p t q cs.length)] (N++Z) (.int .i64 0) (N++Z):=fun Z=>by
   have:=(H.more Z).chk
   rwa [hd] at this
  have R:=OM (x1:=x1) (x2:=x2) (x3:=x3) (a1:=.slice p 0 s.P.length none) (a2:=.slice t 0 s.T.length none) (a3:=bC) (a4:=evV q cs.length) (M:=N) rfl rfl X rfl rfl W I Q l3 hC;have hT:=fun b=>Hy (i:=0) (b:=b) (a1:=.slice p 0 s.P.length none) (a2:=.slice t 0 s.T.length none) (a3:=bC) (a4:=evV q cs.length) (M:=N) rfl rfl X rfl rfl W he R
  have C:=Wc (a1:=.slice p 0 s.P.length none) (a2:=.slice t 0 s.T.length none) (a3:=bC) (a4:=evV q cs.length) (M:=N) rfl rfl X rfl rfl W he R [];have B:=LU (a1:=.slice p 0 s.P.length none) (a2:=.slice t 0 s.T.length none) (a3:=bC) (a4:=evV q cs.length) (M:=N) rfl rfl X rfl rfl W he R [];have j:=RZ (a1:=.slice p 0 s.P.length none) (a2:=.slice t 0 s.T.length none) (a3:=bC) (a4:=evV q cs.length) (M:=N) rfl rfl X rfl rfl W he (hT true);have Y:=OL (a1:=.slice p 0 s.P.length none) (a2:=.slice t 0 s.T.length none) (a3:=bC) (a4:=evV q cs.length) (M:=N) rfl rfl X rfl rfl W he (hT false);rw[List.append_nil] at C B;exact zz (newF:=[]) hm hh hv ⟨rfl,rfl,rfl⟩ C (by rw[List.append_nil];exact B) j Y z (.inr ⟨he,rfl,rfl,rfl,rfl,rfl,rfl,rfl,rfl⟩)
end
theorem lQ(s:af8)(hs:s.Ok)(ds:List agf)(hd:∀d∈ds,d.Ok)(X:af6)(a:AV)(hx:Y5 ds X a)(hX:X=.HS\/X=.cells false 12 (gD ds))(x1 x2 x3:List UInt8):
  kO prog 3 [lP s a,.agg [.str x1,.str x2,.str x3]] [X] (.bool true) [X]:=by
 have F:=fun N=>Q0 s a ds.length (by rcases hx with⟨rfl,rfl⟩ | ⟨_,rfl⟩;exact .inl ⟨rfl,rfl⟩;exact .inr rfl) N
 have afZ:a.af2=true:=by rcases hx with⟨_,rfl⟩ | ⟨_,rfl⟩<;>rfl
 have af0:a.known=true:=by rcases hx with⟨_,rfl⟩ | ⟨_,rfl⟩<;>rfl
 by_cases hq:ds.length<=3/\x1.length<=20/\x2.length<=20/\x3.length<=20
 rotate_left
 .have z:adM prog (af (dR [(7,[],.bool true),(8,[lP s a],.bool (decide (ds.length<=3)))])):=gQ fun y K M=>by
   simp only[lM] at K;rcases K with rfl | rfl
   .exact wT M
   .exact F M
  exact Ou (b:=decide (ds.length<=3)) z (z6 hX) (fun h=>by have:=of_decide_eq_true h;omega) (fun N=>by simp[af,dR]) (fun N=>by simp[af,dR])
 obtain⟨h3,l1,l2,l3⟩:=hq;obtain⟨N,D⟩:=xE (α:=Mem) [X,.cells true 0 [.int .u8 s.kind,.int .i8 s.sx,.int .i8 s.sy,.bool s.half,a],.cells true 0 [.str x1,.str x2,.str x3]];have hlN:N.length=3:=by rw[D];rfl
 have u:(ds=[]/\a=.y9)\/∃b o,N[b]? =some (.cells o 12 (gD ds))/\a=.slice b 0 ds.length none:=by
  rcases hx with⟨h,rfl⟩ | ⟨h,rfl⟩
  .exact .inl ⟨h,rfl⟩
  .refine .inr ⟨0,false,?_,rfl⟩
   rw[D];simpa using h
 obtain⟨q,evs,C,V,hK,H,ok,j,hl⟩:=NK s hs ds hd h3 N a u;have Y:Db [bC] (C.map unE)=false:=FR (by simpa using j);have hF:=F N;rw[decide_eq_true h3] at hF;obtain⟨N1,W⟩:=xE (α:=Mem) (N++(V++[.cells true 0 (bS s (N.length+2) (N.length+3) q C.length)]));have H1:=H.more [.cells true 0 (bS s (N.length+2) (N.length+3) q C.length)];rw[SP,<-W] at H1;obtain⟨L,hL,R,Q⟩:=Oq (bh:=N.length+V.length) (bv:=2) H1 Y (by omega) l1 l2 l3 (by rw[W,Nm];omega)
  (fun Z=>by rw[W,SP,iG,SP,wo];rfl) (fun Z=>by rw[W,D];rfl)
 obtain⟨I,S⟩:=xE (α:=List (FuncId×List AV×(Mem->Prop)×afA)) [(7,[],(fun M=>M=N),⟨.bool true,none,[]⟩),(8,[lP s a],(fun M=>M=N),⟨.bool true,none,[]⟩),(9,[lP s a],(fun M=>M=N),⟨.agg (bS s (N.length+2) (N.length+3) q C.length),none,V⟩)];have hO1:adM prog (cX I):=iM fun y K M hp=>by
  rw[S] at K;simp only[lM] at K;rcases K with rfl | rfl | rfl<;>simp only at hp<;>rw[hp]
  .exact aE (wT N)
  .exact aE (hF)
  .exact aC hK
 obtain⟨O,J⟩:=xE (af3.or (cX L) (cX I));have z:adM prog O:=by rw[J];exact adM.or hL hO1
 have ac8:∀c a m r,cX L c a m=some r->O c a m=some r:=fun c a m r h=>by rw[J];exact Vw h
 have G:∀f a m r,(f=7\/f=8\/f=9)->cX I (.fn f) a m=some r->O (.fn f) a m=some r:=fun f a m r hf h=>by rw[J,Vv (Qc fun y K e=>by rcases R y K with h | h | h | h | h | h<;>rw[h] at e<;>rcases hf with h | h | h<;>rw[h] at e<;>simp at e)];exact h
 have e1:O (.fn 7) [] N=some ⟨.bool true,none,[]⟩:=G _ _ _ _ (.inl rfl) (by rw[S];exact bo rfl);have e2:O (.fn 8) [lP s a] N=some ⟨.bool true,none,[]⟩:=G _ _ _ _ (.inr (.inl rfl)) (by rw[S,aO (.inl (by decide))];exact bo rfl);have e3:O (.fn 9) [lP s a] N=some ⟨.agg (bS s (N.length+2) (N.length+3) q C.length),none,V⟩:=G _ _ _ _ (.inr (.inr rfl)) (by rw[S,aO (.inl (by decide)),aO (.inl (by decide))];exact bo rfl);have B:=Rz (o1:=true) (by omega:1<=N.length) (by rw[D];rfl) e3 (fun env h=>by rw[<-W];exact Q O ac8 env h);rw[D] at e1 e2 B;exact Ot z (z6 hX) l1 l2 l3 e1 e2 B
end Go.Proofs
