/- See F54. -/
import Derived.Test.YtgafjliihahjgaaGreatDoorF51
import Derived.Test.YtgafjliihahjgaaGreatDoorF31
set_option linter.all false
set_option maxRecDepth 100000
set_option maxHeartbeats 40000000
namespace Go.Proofs
open Go.Eng
open Tryz
noncomputable def dr:Code:=match f6.body with
 |some c=>c
 |none=>.skip
noncomputable def iV:Code:=CI 3 dr
theorem VP:f6.body=some (.seq (lI 0 dr) (.seq (lI 1 dr) (.seq (lI 2 dr) iV))):=by kernel_rfl
noncomputable def qw:Code:=CI 4 dr
noncomputable def qz:Code:=CI 5 dr
noncomputable def qA:Code:=CI 6 dr
theorem Tg:iV=.seq (lI 3 dr) qw:=by kernel_rfl
theorem Th:qw=.seq (lI 4 dr) qz:=by kernel_rfl
theorem Ti:qz=.seq (lI 5 dr) qA:=by kernel_rfl
theorem Tj:qA=.seq (lI 6 dr) .ret:=by kernel_rfl
def Yd(_:Code):List Nat:=[44,44,44]
def fM(O:aeT)(T:Code)(N:Mem)(env:Env):Prop:=
 ∀d:Bool,∃r:Env×Mem×Bool,aM (aN prog) Yd O 6 87 1 true T ⟨env,N,d⟩=some (.ret,⟨r.1,r.2.1,r.2.2⟩)∧ad r.1 4=.bool true∧r.2.1.take 1=N.take 1
variable{b9:Nat}
section
variable {O:aeT}{N:Mem}{pv tv ev Z7 pvw:AV}{bh bv:Nat}{v q:V3}{u:List UInt8}{e:Int}
section
variable (hm:1≤N.length)(cp:pv.aeS=true)(ct:tv.aeS=true)(ce:ev.aeS=true)(hh:∀Z,(N++Z)[bh]? =some (.cells true 0 [pv,tv,.str bk,ev]))(hv:∀Z,(N++Z)[bv]? =some (.cells true 0 (vL v)))
include hm cp ct ce hh hv
theorem Tk(A:O (.fn 10) [.agg [pv,tv,.str bk,ev],vA v] N=some ⟨.tuple [.str u,.int .i64 0],none,[]⟩)(hT:∀env:Env,(ad env 5=.ptr bh 0∧ad env 6=.ptr bv 0∧ad env 7=.str u∧ad env 8=.int .i64 0)→fM O qw N env):
  ∀env:Env,(ad env 5=.ptr bh 0∧ad env 6=.ptr bv 0)→fM O iV N env:=by
 rintro env ⟨l5,l6⟩ d;have D:∀j,(N.length+j<1)=False:=fun j=>by rw[eq_iff_iff,iff_false];omega
 have C:(N.length<1)=False:=by rw[eq_iff_iff,iff_false];omega
 have H:∀Z:Mem,(N++Z).take 1=N.take 1:=fun Z=>List.take_append_of_le_length (by omega)
 have V:=hh [];rw[List.append_nil] at V;have X:=hv [];rw[List.append_nil] at X;rw[Tg];obtain⟨F,S⟩:=jW (β:=Env×Mem×Bool) (fun env d h=>hT env h d);have J:=fun env d h=>(S env d h).1
 have B:=fun env d h=>(S env d h).2.1
 have M:=fun env d h=>(S env d h).2.2
 clear S hT;obtain⟨T,W⟩:=xE qw;rw[←W];simp only[←W] at J;unfold vA at*;simp only[vL] at hv X;have h:∃K,aM (aN prog) Yd O 6 87 1 true (.seq (lI 3 dr) T) ⟨env,N,d⟩=some (.ret,K)∧ad K.env 4=.bool true∧K.mem.take 1=N.take 1:=by clear W;simp[-getElem?_pos,-AV.aeS,-AV.known,-AV.cells,-bL,-List.all_eq_true,mS,-DB,dr,f6,lI,l5,l6,V,X,A,J,B,M]
 obtain⟨⟨A,z,m⟩,Y,R,I⟩:=h;exact⟨(A,z,m),Y,R,I⟩
theorem Tn{A:Mem}(H:Z7.aeS=true∧Z7.known=true∧Z7.cells=[Z7])(G:O (.fn 11) [.agg [pv,tv,.str bk,ev],vA v] N=some ⟨.tuple [.agg (lfT u Z7 e q),.int .i64 0],none,A⟩)(hT:∀env:Env,(ad env 5=.ptr bh 0∧ad env 6=.ptr bv 0∧ad env 7=.str u∧ad env 8=.int .i64 0∧ad env 9=.ptr (N.length+A.length) 0∧ad env 10=.int .i64 0)→fM O qz (N++(A++[.cells true 0 (lfT u Z7 e q)])) env):
  ∀env:Env,(ad env 5=.ptr bh 0∧ad env 6=.ptr bv 0∧ad env 7=.str u∧ad env 8=.int .i64 0)→fM O qw N env:=by
 rintro env ⟨l5,l6,l7,l8⟩ d;have D:∀j,(N.length+j<1)=False:=fun j=>by rw[eq_iff_iff,iff_false];omega
 have C:(N.length<1)=False:=by rw[eq_iff_iff,iff_false];omega
 have B:∀Z:Mem,(N++Z).take 1=N.take 1:=fun Z=>List.take_append_of_le_length (by omega)
 have V:=hh [];rw[List.append_nil] at V;have X:=hv [];rw[List.append_nil] at X;rw[Th];obtain⟨F,M⟩:=jW (β:=Env×Mem×Bool) (fun env d h=>hT env h d);have J:=fun env d h=>(M env d h).1
 have z:=fun env d h=>(M env d h).2.1
 have S:=fun env d h=>(M env d h).2.2
 clear M hT;obtain⟨T,W⟩:=xE qz;rw[←W];simp only[←W] at J;simp only[B] at S;obtain⟨m,p2,p3⟩:=H;unfold vA lfT at*;simp only[vL] at hv X;have h:∃K,aM (aN prog) Yd O 6 87 1 true (.seq (lI 4 dr) T) ⟨env,N,d⟩=some (.ret,K)∧ad K.env 4=.bool true∧K.mem.take 1=N.take 1:=by clear W;simp[-getElem?_pos,-AV.aeS,-AV.known,-AV.cells,-bL,-List.all_eq_true,vS,mS,-DB,dr,f6,lI,l5,l6,l7,l8,V,X,G,m,J,z,S]
 obtain⟨⟨G,Y,R⟩,I,k2,k3⟩:=h;exact⟨(G,Y,R),I,k2,k3⟩
theorem To{A:Mem}(H:pvw.aeS=true∧pvw.known=true∧pvw.cells=[pvw])(G:O (.fn 22) [.agg [pv,tv,.str bk,ev],vA v] N=some ⟨.tuple [.agg (lfT u pvw e q),.bool true],none,A⟩)(hT:∀env:Env,(ad env 7=.str u∧ad env 8=.int .i64 0∧ad env 9=.ptr b9 0∧ad env 10=.int .i64 0∧ad env 11=.ptr (N.length+A.length) 0∧ad env 12=.bool true)→fM O qA (N++(A++[.cells true 0 (lfT u pvw e q)])) env):
  ∀env:Env,(ad env 5=.ptr bh 0∧ad env 6=.ptr bv 0∧ad env 7=.str u∧ad env 8=.int .i64 0∧ad env 9=.ptr b9 0∧ad env 10=.int .i64 0)→fM O qz N env:=by
 rintro env ⟨l5,l6,l7,l8,l9,l10⟩ d;have D:∀j,(N.length+j<1)=False:=fun j=>by rw[eq_iff_iff,iff_false];omega
 have C:(N.length<1)=False:=by rw[eq_iff_iff,iff_false];omega
 have B:∀Z:Mem,(N++Z).take 1=N.take 1:=fun Z=>List.take_append_of_le_length (by omega)
 have V:=hh [];rw[List.append_nil] at V;have X:=hv [];rw[List.append_nil] at X;rw[Ti];obtain⟨F,M⟩:=jW (β:=Env×Mem×Bool) (fun env d h=>hT env h d);have J:=fun env d h=>(M env d h).1
 have z:=fun env d h=>(M env d h).2.1
 have S:=fun env d h=>(M env d h).2.2
 clear M hT;obtain⟨T,W⟩:=xE qA;rw[←W];simp only[←W] at J;simp only[B] at S;obtain⟨m,p2,p3⟩:=H;unfold vA lfT at*;simp only[vL] at hv X;have h:∃K,aM (aN prog) Yd O 6 87 1 true (.seq (lI 5 dr) T) ⟨env,N,d⟩=some (.ret,K)∧ad K.env 4=.bool true∧K.mem.take 1=N.take 1:=by clear W;simp[-getElem?_pos,-AV.aeS,-AV.known,-AV.cells,-bL,-List.all_eq_true,vS,mS,-DB,dr,f6,lI,l5,l6,l7,l8,l9,l10,V,X,G,m,J,z,S]
 obtain⟨⟨G,Y,R⟩,I,k2,k3⟩:=h;exact⟨(G,Y,R),I,k2,k3⟩
end
theorem Tp{A:Nat}(I:Z7.aeS=true∧Z7.known=true∧Z7.cells=[Z7])(R:pvw.aeS=true∧pvw.known=true∧pvw.cells=[pvw])(Y:N[b9]? =some (.cells true 0 (lfT u Z7 e q)))(G:N[A]? =some (.cells true 0 (lfT u pvw e q)))(H:O (.fn 23) [Z7,pvw] N=some ⟨.bool true,none,[]⟩):
  ∀env:Env,(ad env 7=.str u∧ad env 8=.int .i64 0∧ad env 9=.ptr b9 0∧ad env 10=.int .i64 0∧ad env 11=.ptr A 0∧ad env 12=.bool true)→fM O qA N env:=by
 rintro env ⟨l7,l8,l9,l10,l11,l12⟩ d;rw[Tj];obtain⟨J,F,D⟩:=I;obtain⟨w1,w2,w3⟩:=R;have X:∀a b c,lz (aN prog) 20 31 (.agg [.str a,.str b,.str c]) (.agg [.str a,.str b,.str c])=some true:=fun a b c=>kB (d:=18) a b c
 unfold lfT at*;have h:∃Z,aM (aN prog) Yd O 6 87 1 true (.seq (lI 6 dr) .ret) ⟨env,N,d⟩=some (.ret,Z)∧ad Z.env 4=.bool true∧Z.mem.take 1=N.take 1:=by simp[-getElem?_pos,-AV.aeS,-AV.known,-AV.cells,-bL,-List.all_eq_true,mS,dr,f6,lI,l7,l8,l9,l10,l11,l12,Y,G,X,H]
 obtain⟨⟨H,W,V⟩,S,M,K⟩:=h;exact⟨(H,W,V),S,M,K⟩
end
section
variable {O:aeT}{N new:Mem}{s:aeX}{a:AV}{x:Z3}{p t q n:Nat}{v:V3}
theorem Kk:(aC f6).map (fun o=>dB o.toList)=[[0,1,0,0,15,0,0,127,255]]:=by kernel_rfl
theorem QW{o1 o2:Bool}(hN:3≤N.length)(ha:a=.y9∨∃k,a=.slice 0 0 k none)(h1:∀Z,(N++Z)[1]? =some (.cells o1 0 [.int .u8 s.kind,.int .i8 s.sx,.int .i8 s.sy,.bool s.half,a]))(h2:∀Z,(N++Z)[2]? =some (.cells o2 0 [.int .i8 x.1,.int .i8 x.2.1,.int .i8 x.2.2]))(ok:OkN (N.length+new.length) new)(G:ahb (N.length+new.length) (dv s p t q n))(A:O (.fn 9) [iH s a] N=some ⟨.agg (dv s p t q n),none,new⟩)(eP:O (.fn 16) [iH s a,zB x] (N++new)=some ⟨vA v,none,[]⟩)(hT:∀env:Env,(ad env 5=.ptr (N++new).length 0∧ad env 6=.ptr ((N++new).length+1) 0)→fM O iV ((N++new)++[.cells true 0 (dv s p t q n),.cells true 0 (vL v)]) env):
  ∀env:Env,(ad env 2=.ptr 1 0∧ad env 3=.ptr 2 0)→fM O (.seq (lI 2 dr) iV) N env:=by
 rintro env ⟨l2,l3⟩ d;obtain⟨M,z⟩:∃M,aC f6=M :=⟨_,rfl⟩
 have Z4 :=be z Kk;simp only[aC,bn,f6,List.nil_append,List.append_nil] at z;subst z;simp only[lB] at Z4;have Z9:=Z4;have hjl:∀j,(N.length+j<1)=False:=fun j=>by rw[eq_iff_iff,iff_false];omega
 have aby:(N.length<1)=False:=by rw[eq_iff_iff,iff_false];omega
 have u:(N.length≤0)=False:=by rw[eq_iff_iff,iff_false];omega
 have m:(1<N.length)=True:=by rw[eq_iff_iff,iff_true];omega
 have Y:(2<N.length)=True:=by rw[eq_iff_iff,iff_true];omega
 have R:(0<N.length)=True:=by rw[eq_iff_iff,iff_true];omega
 have I:∀j,(0<N.length+j)=True:=fun j=>by rw[eq_iff_iff,iff_true];omega
 have tk:∀Z:Mem,(N++Z).take 1=N.take 1:=fun Z=>List.take_append_of_le_length (by omega)
 have H :N[1]? =some (.cells o1 0 [.int .u8 s.kind,.int .i8 s.sx,.int .i8 s.sy,.bool s.half,a]):=by have:=h1 [];rwa [List.append_nil] at this
 have h2' :N[2]? =some (.cells o2 0 [.int .i8 x.1,.int .i8 x.2.1,.int .i8 x.2.2]):=by have:=h2 [];rwa [List.append_nil] at this
 obtain⟨F,B⟩:=jW (β:=Env×Mem×Bool) (fun env d h=>hT env h d);have K:=fun env d h=>(B env d h).1
 have Z5:=fun env d h=>(B env d h).2.1
 have W:=fun env d h=>(B env d h).2.2
 clear B hT;obtain⟨T,V⟩:=xE iV;rw[←V];simp only[←V] at K;have J:=Eo q n;have kev:(evV q n).known=true:=by unfold evV;split<;>rfl
 have o_0:=ok (fun b=>decide (b<N.length+new.length)) (by intro b hb;simp only[decide_eq_true_eq];exact hb);have X:=fun j=>G (fun b=>decide (b<N.length+(new.length+j))) (by intro b hb;simp only[decide_eq_true_eq];omega)
 have S:=G (fun b=>decide (b<N.length+new.length)) (by intro b hb;simp only[decide_eq_true_eq];omega);unfold dv at A K Z5 W X S;simp only[AV.aeW,Bool.and_eq_true] at X S;have q11:=fun j=>(X j).1
 have q12:=fun j=>(X j).2.1
 have D:=fun j=>(X j).2.2.2.1
 obtain⟨q01,q02,_,C,_⟩:=S;clear X G ok;obtain⟨E,hE⟩:=xE (evV q n);simp only[←hE] at J kev A K W D C;unfold vA iH zB at eP;unfold iH at A;simp only[vL,List.append_assoc,List.length_append,Nat.add_assoc,tk] at K Z5 W;have h:∃e',aM (aN prog) Yd O 6 87 1 true (.seq (lI 2 dr) T) ⟨env,N,d⟩=some (.ret,e')∧ad e'.env 4=.bool true∧e'.mem.take 1=N.take 1:=by
  clear V hE;rcases ha with rfl | ⟨k,rfl⟩<;>
  simp[-getElem?_pos,-AV.aeS,-AV.known,-AV.cells,-bL,-List.all_eq_true,vS,rS,mS,dr,f6,lI,u,R,m,Y,I,-bl,-aW,-aB,-AV.aeR,-aeY.aeR,oP,aF Z9,bX,bK,dH,cj,bR,gd,bef,Nat.testBit,h1,h2,H,l2,l3,J,o_0,q11,q12,D,q01,q02,C,A,eP,K,Z5,W]
 obtain⟨⟨e1,e2,e3⟩,k1,k2,k3⟩:=h;exact⟨(e1,e2,e3),k1,k2,k3⟩
end
theorem NT{O:aeT}(A:HS prog O){s:aeX}{a:AV}{x:Z3}{X:aeY}(H:a.aeS=true)(I:a.known=true)(R:aeY.refs 1 X=[]∧∀f,aeY.ren f X=X)(Y:O (.fn 7) [] [X,.cells true 0 [.int .u8 s.kind,.int .i8 s.sx,.int .i8 s.sy,.bool s.half,a],.cells true 0 [.int .i8 x.1,.int .i8 x.2.1,.int .i8 x.2.2]]=some ⟨.bool true,none,[]⟩)(G:O (.fn 8) [iH s a] [X,.cells true 0 [.int .u8 s.kind,.int .i8 s.sx,.int .i8 s.sy,.bool s.half,a],.cells true 0 [.int .i8 x.1,.int .i8 x.2.1,.int .i8 x.2.2]]=some ⟨.bool true,none,[]⟩)(hT:∀env:Env,(ad env 2=.ptr 1 0∧ad env 3=.ptr 2 0)→fM O (.seq (lI 2 dr) iV) [X,.cells true 0 [.int .u8 s.kind,.int .i8 s.sx,.int .i8 s.sy,.bool s.half,a],.cells true 0 [.int .i8 x.1,.int .i8 x.2.1,.int .i8 x.2.2]] env):
  kO prog 6 [iH s a,zB x] [X] (.bool true) [X]:=by
 have K:aK prog 6=some f6:=by kernel_rfl
 obtain⟨J,D⟩:=R;have S:=VP;obtain⟨F,V⟩:=jW (β:=Env×Mem×Bool) (fun env d h=>hT env h d);have M:=fun env d h=>(V env d h).1
 have C:=fun env d h=>(V env d h).2.1
 have W:=fun env d h=>(V env d h).2.2
 clear V hT;obtain⟨T,Z⟩:=xE (Code.seq (lI 2 dr) iV);simp only[←Z] at M;rw[←Z] at S;simp only[List.take_succ_cons,List.take_zero] at W;have h:∃r,aa (aN prog) Yd (aK prog) O 6 6 [iH s a,zB x] [X]=some r∧r.v=.bool true∧r.mem [X]=[X]:=by unfold aa;rw[K];dsimp only;rw[S];dsimp only;clear Z S A;simp only[iH] at G;simp[-AV.aeS,-AV.known,-AV.cells,vS,-DB,-List.all_eq_true,dr,f6,lI,-aeY.ren,-aeY.refs,iH,zB,Y,G,M,C,W,J,D];split<;>simp[-aeY.ren,-aeY.refs]
 obtain⟨r,B,z,h3⟩:=h;have:=(ah ae (ar _) A (au _) B).1
 rwa [z,h3] at this
end Go.Proofs
namespace Go.Proofs
open Go.Eng
section
variable {O:aeT}{N:Mem}{pv tv ev Z7 uv:AV}{n bh bv bt:Nat}{v q:V3}{u:List UInt8}{e:Int}
end
section
variable {O:aeT}{N:Mem}{pv tv ev:AV}{n i bh bv:Nat}{v a c:V3}
end
section
variable {O:aeT}{M:Mem}{pv tv ev:AV}{n bh bv:Nat}{v:V3}{va vc:Nat→V3}
end
section
variable {O:aeT}{N new:Mem}{s:aeX}{a:AV}{x:Z3}{p t q n:Nat}{v:V3}
end
end Go.Proofs
namespace Go.Proofs
open Go.Eng
open Tryz
theorem PG{g:FuncId}{a:List AV}{m:Mem}:∀{L:List (FuncId×List AV×(Mem→Prop)×aeQ)},(∀x∈L,x.1≠g)→ei L (.fn g) a m=none
 | [],_=>rfl
 |x::L,h=>by rw[ei,if_neg (fun e=>h x (by simp) (by have:=e.1;cases this;rfl))];exact PG fun y Z=>h y (by simp[Z])
theorem Y6{A B Y:Mem}{b:Nat}{x:aeY}(h:∀Z,(A++Z)[b]? =some x)(e:B=A++Y):∀Z,(B++Z)[b]? =some x:=fun Z=>by rw[e,List.append_assoc];exact h _
section
variable {s:aeX}{p t q:Nat}{evs:List (List AV)}{cs:List Evc}{M:Mem}{ws:List EvD}{v:V3}
theorem Zo(A:∀w∈ws,w.Ok s)(h3:ws.length≤3)(G:plK 0 v)(b:Bool)(i:Nat):plL b (if b then (ws.drop i).reverse else ws.drop i) v:=by
 refine XC (s:=s) (k:=0) (fun w Z=>?_) G ?_
 ·cases b
  ·exact A w (List.mem_of_mem_drop Z)
  ·exact A w (List.mem_of_mem_drop (List.mem_reverse.1 Z))
 ·cases b<;>simp<;>omega
theorem Tryz.afK.ahN(A:ws.length=cs.length)(G:∀(i:Nat) c w,cs[i]? =some c→ws[i]? =some w→w.Ok s∧c=w.con c.nm):∀w∈ws,w.Ok s:=fun w h=>by obtain⟨i,Z⟩:=List.getElem?_of_mem h;have X:=gL Z;exact(G i _ w (List.getElem?_eq_getElem (by omega)) Z).1
end
theorem OD(ds:List ae6):AV.afc 1 (fU ds)=[]:=by
 induction ds with
 |nil=>rfl
 |cons d l ih=>exact ih
theorem GJ(ds:List ae6):AV.ae0 (fU ds)=true:=by
 induction ds with
 |nil=>rfl
 |cons d l ih=>exact ih
theorem Mn{ds:List ae6}{X:aeY}(h:X=.aeP∨X=.cells false 12 (fU ds)):aeY.refs 1 X=[]∧∀f,aeY.ren f X=X:=by
 rcases h with rfl | rfl
 ·exact⟨rfl,fun _=>rfl⟩
 ·exact⟨OD ds,fun f=>congrArg (aeY.cells false 12) (ca (GJ ds))⟩
section
variable {s:aeX}{p t q:Nat}{evs:List (List AV)}{cs:List Evc}{M:Mem}{v:V3}
theorem WG(s:aeX)(l:List EvD)(p:V3):(jf s l p).l.length≤l.length:=by have:=Um s l p;omega
theorem NS(H:afK s p t q evs cs M)(hd:LI [bk] (cs.map unE)=false)(h3:cs.length≤3)(hv:plK 0 v):
  ∃L,HS prog (ei L)∧(∀y∈L,y.1=10∨y.1=11∨y.1=22∨y.1=23)∧
   ∀O,(∀c a m r,ei L c a m=some r→O c a m=some r)→
    ∀env:Env,(ad env 5=.ptr M.length 0∧ad env 6=.ptr (M.length+1) 0)→fM O iV (M++[.cells true 0 (dv s p t q cs.length),.cells true 0 (vL v)]) env:=by
 obtain⟨ws,V,B⟩:=H.ahJ;have hw:∀(i:Nat) c w,cs[i]? =some c→ws[i]? =some w→w.Ok s∧c=w.con c.nm:=fun i c w h1 h2=>⟨(B i c w h1 h2).1,(B i c w h1 h2).2.2⟩
 have hwo:=afK.ahN V hw;obtain⟨n,hn⟩:=xE cs.length;have z:=Eo q n;obtain⟨S,K⟩:=xE (M++[.cells true 0 (dv s p t q n),.cells true 0 (vL v)]);have H1:afK s p t q evs cs S:=by rw[K];exact H.more _
 have m1:1≤S.length:=by rw[K,List.length_append];simp
 have j:∀Z,(S++Z)[M.length]? =some (.cells true 0 (dv s p t q n)):=fun Z=>by rw[K,List.append_assoc,jU];rfl
 have Y:∀Z,(S++Z)[M.length+1]? =some (.cells true 0 (vL v)):=fun Z=>by rw[K,List.append_assoc,fV];rfl
 have A:plL true ws.reverse v:=by have:=Zo (s:=s) hwo (by omega) hv true 0;simpa using this
 have cA:=Sw H1 hd h3 V hw A;obtain⟨J,C,cF,kp,aal⟩:=E8 H1 hd h3 V hw A;have fl:=WG s ws.reverse v;obtain⟨f,hf⟩:=xE (jf s ws.reverse v);obtain⟨I,W⟩:=xE (α:=Mem) (S++(J++[.cells true 0 (lfT f.u C f.e f.q)]));have H2:afK s p t q evs cs I:=by rw[W];exact H1.more _
 obtain⟨X,F,cG,R⟩:=Fa H2 h3 V B hv;rw[←hf] at cA cF aal fl cG R;rw[←hn] at cA cF cG;rw[List.length_reverse,V] at fl;have kw:X.aeS=true∧X.known=true∧X.cells=[X]:=R.val;obtain⟨G,D⟩:=xE (α:=Mem) (I++(F++[.cells true 0 (lfT f.u X f.e f.q)]));have cE:kO prog 23 [C,X] G (.bool true) G:=by
  refine Sv f.l (by omega) ?_ ?_
  ·have:=aal.more ([.cells true 0 (lfT f.u C f.e f.q)]++(F++[.cells true 0 (lfT f.u X f.e f.q)]))
   rw[D,W];simpa using this
  ·have:=R.more [.cells true 0 (lfT f.u X f.e f.q)]
   rw[D];simpa using this
 refine⟨[(10,[.agg (dv s p t q n),vA v],(fun N=>N=S),⟨.tuple [.str f.u,.int .i64 0],none,[]⟩),(11,[.agg (dv s p t q n),vA v],(fun N=>N=S),⟨.tuple [.agg (lfT f.u C f.e f.q),.int .i64 0],none,J⟩),(22,[.agg (dv s p t q n),vA v],(fun N=>N=I),⟨.tuple [.agg (lfT f.u X f.e f.q),.bool true],none,F⟩),(23,[C,X],(fun N=>N=G),⟨.bool true,none,[]⟩)],ja fun y hy N hp=>?_,fun y hy=>?_,fun O hO env aey=>?_⟩
 ·simp only[lM] at hy
  rcases hy with rfl | rfl | rfl | rfl
  ·subst hp;exact aU (cA)
  ·subst hp;exact aI cF
  ·subst hp;exact aI cG
  ·subst hp;exact aU (cE)
 ·simp only[lM] at hy
  rcases hy with rfl | rfl | rfl | rfl<;>simp
 have eA:=hO (.fn 10) [.agg (dv s p t q n),vA v] S ⟨.tuple [.str f.u,.int .i64 0],none,[]⟩ (db rfl);have eF:=hO (.fn 11) [.agg (dv s p t q n),vA v] S ⟨.tuple [.agg (lfT f.u C f.e f.q),.int .i64 0],none,J⟩ (by rw[de (.inl (by decide))];exact db rfl);have eG:=hO (.fn 22) [.agg (dv s p t q n),vA v] I ⟨.tuple [.agg (lfT f.u X f.e f.q),.bool true],none,F⟩ (by rw[de (.inl (by decide)),de (.inl (by decide))];exact db rfl);have eE:=hO (.fn 23) [C,X] G ⟨.bool true,none,[]⟩ (by rw[de (.inl (by decide)),de (.inl (by decide)),de (.inl (by decide))];exact db rfl);clear hO;rw[←hn,←K];have aez:=Y6 j W;have aeA:=Y6 Y W;have g2:1≤I.length:=by rw[W,List.length_append];omega
 have h9:G[S.length+J.length]? =some (.cells true 0 (lfT f.u C f.e f.q)):=by rw[D,W,List.append_assoc,fV,List.append_assoc,jU];rfl
 have h11:G[I.length+F.length]? =some (.cells true 0 (lfT f.u X f.e f.q)):=by rw[D,fV,jU];rfl
 have sD:=Tp (O:=O) (u:=f.u) (e:=f.e) (q:=f.q) kp kw h9 h11 eE;have sC:=To (O:=O) (q:=f.q) (b9:=S.length+J.length) (bv:=M.length+1) (u:=f.u) g2 rfl rfl z aez aeA kw eG (fun env h=>by rw[←D];exact sD env h);have sB:=Tn (O:=O) (q:=f.q) (u:=f.u) m1 rfl rfl z j Y kp eF (fun env h=>by rw[←W];exact sC env h);exact Tk (O:=O) m1 rfl rfl z j Y eA sB env aey
end
theorem jY(s:aeX)(hs:s.Ok)(ds:List ae6)(hd:∀d∈ds,d.Ok)(X:aeY)(a:AV)(A:YL ds X a)(hX:X=.aeP∨X=.cells false 12 (fU ds))(x:Z3)(hz:z8 x):
  kO prog 6 [iH s a,zB x] [X] (.bool true) [X]:=by
 have hG:aK prog 6=some f6:=by kernel_rfl
 have J:=fun N=>Qv s a ds.length (by rcases A with⟨rfl,rfl⟩ | ⟨_,rfl⟩;exact .inl ⟨rfl,rfl⟩;exact .inr rfl) N
 have u:a.aeS=true:=by rcases A with⟨_,rfl⟩ | ⟨_,rfl⟩<;>rfl
 have j:a.known=true:=by rcases A with⟨_,rfl⟩ | ⟨_,rfl⟩<;>rfl
 by_cases h3:ds.length≤3
 rotate_left
 ·have z:HS prog (af (bY [(7,[],.bool true),(8,[iH s a],.bool false)])):=du fun y K M=>by
   simp only[lM] at K;rcases K with rfl | rfl
   ·exact ve M
   ·have:=J M;rwa [decide_eq_false h3] at this
  have h:aa (aN prog) (fun _=>[]) (aK prog) (af (bY [(7,[],.bool true),(8,[iH s a],.bool false)])) 1 6 [iH s a,zB x] [X]=some ⟨.bool true,none,[]⟩:=by clear z J;simp[-AV.aeS,-List.all_eq_true,aa,hG,f6,af,bY,iH,zB];done
  have:=(ah ae (ar _) z (au _) h).1;simpa [aeQ.mem] using this
 obtain⟨N,D⟩:=xE (α:=Mem) [X,.cells true 0 [.int .u8 s.kind,.int .i8 s.sx,.int .i8 s.sy,.bool s.half,a],.cells true 0 [.int .i8 x.1,.int .i8 x.2.1,.int .i8 x.2.2]];have hlN:N.length=3:=by rw[D];rfl
 have C:(ds=[]∧a=.y9)∨∃b o,N[b]? =some (.cells o 12 (fU ds))∧a=.slice b 0 ds.length none:=by
  rcases A with⟨h,rfl⟩ | ⟨h,rfl⟩
  ·exact .inl ⟨h,rfl⟩
  ·refine .inr ⟨0,false,?_,rfl⟩
   rw[D];simpa using h
 obtain⟨q,evs,Y,W,hK,H,ok,R,hl⟩:=Ng s hs ds hd h3 N a C;have I:LI [bk] (Y.map unE)=false:=Ej (by simpa using R);have hP:=If s x hz a (N++W) (by
  rcases C with⟨_,h⟩ | ⟨b,o,hb,h⟩
  ·exact .inl h
  ·exact .inr ⟨b,_,h,by rw[List.length_append];have:=gL hb;omega⟩)
 have hF:=J N;rw[decide_eq_true h3] at hF;obtain⟨L,hL,G,X'⟩:=NS H I (by omega) (Zd s x hz);obtain⟨H1,V⟩:=xE (α:=List (FuncId×List AV×(Mem→Prop)×aeQ)) [(7,[],(fun M=>M=N),⟨.bool true,none,[]⟩),(8,[iH s a],(fun M=>M=N),⟨.bool true,none,[]⟩),(9,[iH s a],(fun M=>M=N),⟨.agg (dv s (N.length+2) (N.length+3) q Y.length),none,W⟩),(16,[iH s a,zB x],(fun M=>M=N++W),⟨vA (plV s x),none,[]⟩)];have hO1:HS prog (ei H1):=ja fun y K M hp=>by
  rw[V] at K;simp only[lM] at K;rcases K with rfl | rfl | rfl | rfl<;>simp only at hp<;>rw[hp]
  ·exact aU (ve N)
  ·exact aU (hF)
  ·exact aI hK
  ·exact aU (hP)
 obtain⟨O,F⟩:=xE (aeT.or (ei L) (ei H1));have z:HS prog O:=by rw[F];exact HS.or hL hO1
 have aco:∀c a m r,ei L c a m=some r→O c a m=some r:=fun c a m r h=>by rw[F];exact U4 h
 have S:∀f a m r,(f=7∨f=8∨f=9∨f=16)→ei H1 (.fn f) a m=some r→O (.fn f) a m=some r:=fun f a m r hf h=>by rw[F,U3 (PG fun y K e=>by rcases G y K with h | h | h | h<;>rw[h] at e<;>rcases hf with h | h | h | h<;>rw[h] at e<;>simp at e)];exact h
 have e1:O (.fn 7) [] N=some ⟨.bool true,none,[]⟩:=S _ _ _ _ (.inl rfl) (by rw[V];exact db rfl);have e2:O (.fn 8) [iH s a] N=some ⟨.bool true,none,[]⟩:=S _ _ _ _ (.inr (.inl rfl)) (by rw[V,de (.inl (by decide))];exact db rfl);have e3:O (.fn 9) [iH s a] N=some ⟨.agg (dv s (N.length+2) (N.length+3) q Y.length),none,W⟩:=S _ _ _ _ (.inr (.inr (.inl rfl))) (by rw[V,de (.inl (by decide)),de (.inl (by decide))];exact db rfl);have e4:O (.fn 16) [iH s a,zB x] (N++W)=some ⟨vA (plV s x),none,[]⟩:=S _ _ _ _ (.inr (.inr (.inr rfl))) (by rw[V,de (.inl (by decide)),de (.inl (by decide)),de (.inl (by decide))];exact db rfl);have B:=QW (o1:=true) (o2:=true) (by omega:3≤N.length) (by rcases A with⟨_,h⟩ | ⟨_,h⟩;exact .inl h;exact .inr ⟨_,h⟩) (fun Z=>by rw[D];rfl) (fun Z=>by rw[D];rfl) ok (by have:=H.refs;rwa [List.length_append] at this) e3 e4 (X' O aco);rw[D] at e1 e2 B;exact NT z u j (Mn hX) e1 e2 B
end Go.Proofs
