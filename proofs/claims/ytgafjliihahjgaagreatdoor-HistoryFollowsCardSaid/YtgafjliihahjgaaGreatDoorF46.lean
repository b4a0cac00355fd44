/- See F54. -/
import Derived.Test.YtgafjliihahjgaaGreatDoorF45
set_option linter.all false
set_option maxRecDepth 100000
set_option maxHeartbeats 40000000
namespace Go.Proofs
open Go.Eng
open Tryz
theorem Uh(T:TypeId→Option TyI)(lv:Code→List Nat)(O:aeT)(K N m0:Nat)(g:Operand)(ps:Array Tmp)(A body:Code)(s:XS):aM T lv O K N m0 true (.rangeFunc g ps A body) s=match get s.env g with
   |.func f caps=>match O (.fn f) (.yield s.mem.length::caps) (s.mem++[.loop ⟨.ready,none,s.env,N,ps,A,body⟩]) with
    |some r=>match (r.mem (s.mem++[.loop ⟨.ready,none,s.env,N,ps,A,body⟩]))[s.mem.length]? with
     |some (.loop r2)=>if r2.st== .busy then none else match qV r2.afy with
      |some e=>some (e,⟨s.env,(r.mem (s.mem++[.loop ⟨.ready,none,s.env,N,ps,A,body⟩])).set s.mem.length (.loop { r2 with st:=.exhausted }),s.ae9||r.pre.isSome⟩)
      |none=>none
     |_=>none
    |none=>none
   |_=>none:=rfl
section
variable {O:aeT}{M Z:Mem}{pv tv E Z7:AV}{nm u:List UInt8}{p q:V3}{e:Int}{st:LoopState}{afy:Option Code}{ps:Array Tmp}{asg body:Code}
theorem NR(R:pv.aeS=true)(Y:tv.aeS=true)(cE:E.aeS=true)(I:Z7.aeS=true∧Z7.known=true∧Z7.cells=[Z7])(hs:(st== .busy)=false)(he:qV afy=some .normal∨qV afy=some (.exit 0))(H:rE f30=[(ps,asg,body)])(A:O (.fn 49) [E] (M++[.cells true 0 [pv,tv,.str nm,E],.cells true 0 (vL p),.cells true 0 [.str [],.y9,.int .i64 0,.str [],.str [],.str []],.cells true 0 (foT nm .y9 (-1))])=some ⟨.func 83 [.ptr (M.length+4) 0],none,[.cells true 0 [E]]⟩)(G:∀X:Env,(ad X 2=.ptr M.length 0∧ad X 3=.ptr (M.length+1) 0∧ad X 5=.ptr (M.length+3) 0)→
   O (.fn 83) [.yield (M.length+5),.ptr (M.length+4) 0] (M++[.cells true 0 [pv,tv,.str nm,E],.cells true 0 (vL p),.cells true 0 [.str [],.y9,.int .i64 0,.str [],.str [],.str []],.cells true 0 (foT nm .y9 (-1)),.cells true 0 [E],.loop ⟨.ready,none,X,47,ps,asg,body⟩])=
    some ⟨.tuple [],some (M++[.cells true 0 [pv,tv,.str nm,E],.cells true 0 (vL q),.cells true 0 [.str [],.y9,.int .i64 0,.str [],.str [],.str []],.cells true 0 (foT u Z7 e),.cells true 0 [E],.loop ⟨st,afy,X,47,ps,asg,body⟩]),Z⟩):
  ∃a b c d x y:aeY,cB (aN prog) (fun _=>[]) (aK prog) O 2 30 [.agg [pv,tv,.str nm,E],vA p] M=some (.agg [.str u,Z7,.int .i64 e,.str (ak q.1),.str (ak q.2.1),.str (ak q.2.2)],M++(a::b::c::d::x::y::Z)):=by
 have W:aK prog 30=some f30:=by kernel_rfl
 have w1:IntKind.i64.wrap (-1)= -1:=rfl;simp[rE,na,f30] at H;obtain⟨rfl,rfl,rfl⟩:=H;obtain⟨V,S,K⟩:=I;unfold foT at A G;unfold vA;simp only[vL] at A G;rcases he with he | he<;>simp[-getElem?_pos,-AV.aeS,-AV.known,-AV.cells,-bL,-List.all_eq_true,vS,mS,cB,W,f30,Uh,bW,aE,aeQ.mem,V,hs,he,A,G]
end
theorem W9{M new:Mem}{a b c d:aeY}{x y z C:List AV}{r:Nat}{o:Bool}(h:(M++[.cells true 0 x,.cells true 0 y,.cells true 0 z]++new)[r]? =some (.cells o 1 C)):(M++(a::b::c::(new++[d])))[r]? =some (.cells o 1 C):=by
 rw[List.append_assoc] at h;by_cases X:r<M.length
 ·rw[List.getElem?_append_left X] at h ⊢
  exact h
 ·obtain⟨k,rfl⟩:∃k,r=M.length+k:=⟨r-M.length,by omega⟩
  rw[fV] at h ⊢
  match k,h with
  |0,h=>simp at h
  |1,h=>simp at h
  |2,h=>simp at h
  |k+3,h=>
   have Z :new[k]? =some (.cells o 1 C):=h;show(new++[d])[k]? =_
   rw[List.getElem?_append_left (gL Z)];exact Z
section
variable {s:aeX}{p t q:Nat}{evs:List (List AV)}{cs:List Evc}{M:Mem}{ws:List EvD}{v:V3}{ps:Array Tmp}{asg body:Code}
section
variable (H:afK s p t q evs cs M)
include H
theorem vb(h3:cs.length≤3)(G:ws.length=cs.length)(hw:∀(i:Nat) c w,cs[i]? =some c→ws[i]? =some w→w.Ok s∧c=w.con c.nm)(hv:plL true ws.reverse v):
  ∃(new:Mem) (A:AV),kO prog 30 [.agg (dv s p t q cs.length),vA v] M (.agg [.str (jf s ws.reverse v).u,A,.int .i64 (jf s ws.reverse v).e,.str (ak (jf s ws.reverse v).q.1),.str (ak (jf s ws.reverse v).q.2.1),.str (ak (jf s ws.reverse v).q.2.2)]) (M++new)∧(A.aeS=true∧A.known=true∧A.cells=[A])∧afb (M++new) A 1 (jf s ws.reverse v).l.length ((jf s ws.reverse v).l.map fun n=>.int .i64 n):=by
 obtain⟨ps,asg,body,Y⟩:∃ps asg body,rE f30=[(ps,asg,body)]:=⟨_,_,_,rfl⟩
 obtain⟨R,V,Z,A,hs,he,I,S,hc⟩:=QU H G hw hv Y (.cells true 0 [.str [],.y9,.int .i64 0,.str [],.str [],.str []]);obtain⟨F,hF⟩:=xE (jf s ws.reverse v);rw[←hF] at S hc ⊢;have W:=Eo q cs.length;unfold dv at hc ⊢;obtain⟨E,D⟩:=xE (evV q cs.length);have kE:E.cells=[E]:=by rw[D];unfold evV;split<;>rfl
 rw[←D] at W hc ⊢;obtain⟨h,hh⟩:=xE (α:=aeY) (.cells true 0 [.slice p 0 s.P.length none,.slice t 0 s.T.length none,.str bk,E]);obtain⟨C,B,hR⟩:=ko (P:=prog) (ι:=Env) (fun X=>ad X 2=.ptr M.length 0∧ad X 3=.ptr (M.length+1) 0∧ad X 5=.ptr (M.length+3) 0) (fun _=>.fn 83) (fun _=>[.yield (M.length+5),.ptr (M.length+4) 0])
  (fun X=>foM M h (.cells true 0 [.str [],.y9,.int .i64 0,.str [],.str [],.str []]) (.cells true 0 [E]) v (foT bk .y9 (-1)) ⟨.ready,none,X,47,ps,asg,body⟩ [])
  (fun X=>⟨.tuple [],some (foM M h (.cells true 0 [.str [],.y9,.int .i64 0,.str [],.str [],.str []]) (.cells true 0 [E]) F.q (foT F.u A F.e) ⟨R,V,X,47,ps,asg,body⟩ []),Z⟩)
  (fun X K=>⟨by rw[hh];simpa [aeQ.mem] using hc X K,fun q hq=>by cases hq;rw[GO,GO]⟩)
  (fun i j _ _ _ _ J=>by unfold foM at J;have J:=List.append_cancel_left J;simp only[List.cons.injEq,aeY.loop.injEq,afT.mk.injEq,and_true,true_and] at J;rw[J])
 obtain⟨L,z⟩:=xE (α:=List (FuncId×List AV×(Mem→Prop)×aeQ)) [(49,[E],(fun N=>N=M++[h,.cells true 0 (vL v),.cells true 0 [.str [],.y9,.int .i64 0,.str [],.str [],.str []],.cells true 0 (foT bk .y9 (-1))]),⟨.func 83 [.ptr (M.length+4) 0],none,[.cells true 0 [E]]⟩)];have m:HS prog (ei L):=ja fun y hy N K=>by
  rw[z,List.mem_singleton] at hy;subst hy;subst K;have:=Sr (M:=M++[h,.cells true 0 (vL v),.cells true 0 [.str [],.y9,.int .i64 0,.str [],.str [],.str []],.cells true 0 (foT bk .y9 (-1))]) W kE (by rw[D];exact YR _ _);have e4:(M++[h,.cells true 0 (vL v),.cells true 0 [.str [],.y9,.int .i64 0,.str [],.str [],.str []],.cells true 0 (foT bk .y9 (-1))]:Mem).length=M.length+4:=by simp
  rw[e4] at this;exact aI this
 have eB:(aeT.or (ei L) C) (.fn 49) [E] (M++[h,.cells true 0 (vL v),.cells true 0 [.str [],.y9,.int .i64 0,.str [],.str [],.str []],.cells true 0 (foT bk .y9 (-1))])=some ⟨.func 83 [.ptr (M.length+4) 0],none,[.cells true 0 [E]]⟩:=U4 (by rw[z];exact db rfl);have eR:∀X:Env,(ad X 2=.ptr M.length 0∧ad X 3=.ptr (M.length+1) 0∧ad X 5=.ptr (M.length+3) 0)→(aeT.or (ei L) C) (.fn 83) [.yield (M.length+5),.ptr (M.length+4) 0] (foM M h (.cells true 0 [.str [],.y9,.int .i64 0,.str [],.str [],.str []]) (.cells true 0 [E]) v (foT bk .y9 (-1)) ⟨.ready,none,X,47,ps,asg,body⟩ [])=some ⟨.tuple [],some (foM M h (.cells true 0 [.str [],.y9,.int .i64 0,.str [],.str [],.str []]) (.cells true 0 [E]) F.q (foT F.u A F.e) ⟨R,V,X,47,ps,asg,body⟩ []),Z⟩:=fun X K=>by rw[U3 (by rw[z,ei];exact if_neg (fun e=>by have:=e.1;simp at this))];exact hR X K
 subst hh;obtain⟨a,b,c,d,x,y,hr⟩:=NR (O:=aeT.or (ei L) C) (M:=M) (Z:=Z) rfl rfl W I hs he Y eB eR;exact⟨_,A,bZ ae (ar _) (HS.or m B) (au _) hr,I,S [a,b,c,d,x,y] rfl⟩
section
variable (hd:LI [bk] (cs.map unE)=false)(h3:cs.length≤3)(hwl:ws.length=cs.length)(hw:∀(i:Nat) c w,cs[i]? =some c→ws[i]? =some w→w.Ok s∧c=w.con c.nm)(hv:plL true ws.reverse v)
include hd h3 hwl hw hv
theorem Sw:
  kO prog 10 [.agg (dv s p t q cs.length),vA v] M (.tuple [.str (jf s ws.reverse v).u,.int .i64 0]) M:=by
 have m:aK prog 10=some f10:=by kernel_rfl
 obtain⟨B,O⟩:=xE (α:=Mem) [.cells true 0 (dv s p t q cs.length),.cells true 0 (vL v)];obtain⟨Z,D,V,⟨I,G,A⟩,_⟩:=vb (H.more B) h3 hwl hw hv;have K:=AO (H.more B) hd (U7 (XB hv) (by decide));obtain⟨f,j⟩:=xE (jf s ws.reverse v);rw[←j] at V ⊢;have J:=Eo q cs.length;unfold dv at V K O ⊢;obtain⟨E,Y⟩:=xE (evV q cs.length);rw[←Y] at J V K O ⊢;obtain⟨L,S⟩:=xE (α:=List (FuncId×List AV×(Mem→Prop)×aeQ)) [(29,[.agg [.slice p 0 s.P.length none,.slice t 0 s.T.length none,.str bk,E],vA v],(fun N=>N=M++B),⟨.int .i64 0,none,[]⟩),(30,[.agg [.slice p 0 s.P.length none,.slice t 0 s.T.length none,.str bk,E],vA v],(fun N=>N=M++B),⟨.agg [.str f.u,D,.int .i64 f.e,.str (ak f.q.1),.str (ak f.q.2.1),.str (ak f.q.2.2)],none,Z⟩)];have X:HS prog (ei L):=ja fun y F N R=>by
  rw[S] at F;simp only[lM] at F;rcases F with rfl | rfl<;>subst R
  ·exact aU (K)
  ·exact aI V
 have C:ei L (.fn 29) [.agg [.slice p 0 s.P.length none,.slice t 0 s.T.length none,.str bk,E],vA v] (M++B)=some ⟨.int .i64 0,none,[]⟩:=by rw[S];exact db rfl
 have z:ei L (.fn 30) [.agg [.slice p 0 s.P.length none,.slice t 0 s.T.length none,.str bk,E],vA v] (M++B)=some ⟨.agg [.str f.u,D,.int .i64 f.e,.str (ak f.q.1),.str (ak f.q.2.1),.str (ak f.q.2.2)],none,Z⟩:=by rw[S,de (.inl (by decide))];exact db rfl
 rw[O] at C z;have h:∃W,cB (aN prog) (fun _=>[]) (aK prog) (ei L) 1 10 [.agg [.slice p 0 s.P.length none,.slice t 0 s.T.length none,.str bk,E],vA v] M=some (.tuple [.str f.u,.int .i64 0],M++W):=by refine⟨.cells true 0 [.slice p 0 s.P.length none,.slice t 0 s.T.length none,.str bk,E]::.cells true 0 (vL v)::Z,?_⟩;clear X S;unfold vA at*;simp only[vL] at*;simp[-getElem?_pos,-AV.aeS,-AV.known,-AV.cells,-bL,-List.all_eq_true,vS,mS,cB,m,f10,C,z]
 obtain⟨W,h⟩:=h;exact kO.forget rfl (bZ ae (ar _) X (au _) h)
theorem E8:
  ∃(new:Mem) (A:AV),kO prog 11 [.agg (dv s p t q cs.length),vA v] M (.tuple [.agg [.str (jf s ws.reverse v).u,A,.int .i64 (jf s ws.reverse v).e,.str (ak (jf s ws.reverse v).q.1),.str (ak (jf s ws.reverse v).q.2.1),.str (ak (jf s ws.reverse v).q.2.2)],.int .i64 0]) (M++new)∧(A.aeS=true∧A.known=true∧A.cells=[A])∧afb (M++new) A 1 (jf s ws.reverse v).l.length ((jf s ws.reverse v).l.map fun n=>.int .i64 n):=by
 have R:aK prog 11=some f11:=by kernel_rfl
 have X:=vf (U7 (YU (s:=s) hv) (by decide));obtain⟨B,S⟩:=xE (α:=Mem) [.cells true 0 (dv s p t q cs.length),.cells true 0 (vL v),.cells true 0 [.str [],.y9,.int .i64 0,.str [],.str [],.str []]];obtain⟨new,A,O,⟨z,I,G⟩,Z⟩:=vb (H.more B) h3 hwl hw hv;have K:=AO (H.more B) hd (U7 (XB hv) (by decide));obtain⟨f,hf⟩:=xE (jf s ws.reverse v);rw[←hf] at O X Z ⊢;have J:=Eo q cs.length;unfold dv at O K S ⊢;obtain⟨E,hE⟩:=xE (evV q cs.length);rw[←hE] at J O K S ⊢;obtain⟨L,W⟩:=xE (α:=List (FuncId×List AV×(Mem→Prop)×aeQ)) [(29,[.agg [.slice p 0 s.P.length none,.slice t 0 s.T.length none,.str bk,E],vA v],(fun N=>N=M++B),⟨.int .i64 0,none,[]⟩),(30,[.agg [.slice p 0 s.P.length none,.slice t 0 s.T.length none,.str bk,E],vA v],(fun N=>N=M++B),⟨.agg [.str f.u,A,.int .i64 f.e,.str (ak f.q.1),.str (ak f.q.2.1),.str (ak f.q.2.2)],none,new⟩),(14,[vA f.q],(fun _=>True),⟨.int .i64 0,none,[]⟩)];have V:HS prog (ei L):=ja fun y F N m=>by
  rw[W] at F;simp only[lM] at F;rcases F with rfl | rfl | rfl
  ·subst m;exact aU (K)
  ·subst m;exact aI O
  ·exact aU (X N)
 have j:ei L (.fn 29) [.agg [.slice p 0 s.P.length none,.slice t 0 s.T.length none,.str bk,E],vA v] (M++B)=some ⟨.int .i64 0,none,[]⟩:=by rw[W];exact db rfl
 have Y:ei L (.fn 30) [.agg [.slice p 0 s.P.length none,.slice t 0 s.T.length none,.str bk,E],vA v] (M++B)=some ⟨.agg [.str f.u,A,.int .i64 f.e,.str (ak f.q.1),.str (ak f.q.2.1),.str (ak f.q.2.2)],none,new⟩:=by rw[W,de (.inl (by decide))];exact db rfl
 have e3:∀N,ei L (.fn 14) [vA f.q] N=some ⟨.int .i64 0,none,[]⟩:=fun N=>by rw[W,de (.inl (by decide)),de (.inl (by decide))];exact db trivial
 rw[S] at j Y;have h:∃a b c d:aeY,cB (aN prog) (fun _=>[]) (aK prog) (ei L) 1 11 [.agg [.slice p 0 s.P.length none,.slice t 0 s.T.length none,.str bk,E],vA v] M=some (.tuple [.agg [.str f.u,A,.int .i64 f.e,.str (ak f.q.1),.str (ak f.q.2.1),.str (ak f.q.2.2)],.int .i64 0],M++(a::b::c::(new++[d]))):=by clear V W;unfold vA at*;simp only[vL] at*;simp[-getElem?_pos,-AV.aeS,-AV.known,-AV.cells,-bL,-List.all_eq_true,vS,mS,cB,R,f11,z,j,Y,e3]
 obtain⟨a,b,c,d,h⟩:=h;refine⟨_,A,bZ ae (ar _) V (au _) h,⟨z,I,G⟩,?_⟩;rw[S] at Z;rcases Z with⟨D,C,h3⟩ | ⟨r,o,D,C,h3⟩
 ·exact .inl ⟨D,C,h3⟩
 ·exact .inr ⟨r,o,D,C,W9 h3⟩
end
end
end
end Go.Proofs
namespace Go.Proofs
open Go.Eng
section
variable {s:aeX}{p t q:Nat}{evs:List (List AV)}{cs:List Evc}{M:Mem}
end
end Go.Proofs
namespace Go.Proofs
open Go.Eng
open Tryz
theorem HL(p q r s:Rat)(A:aeZ p)(hq:aeZ q)(G:aeZ r)(hs:aeZ s)(H:aeZ (p*s))(I:aeZ (q*r))(M:Mem):kO prog 302 [.str (ak p),.str (ak q),.str (ak r),.str (ak s)] M (.str (ak (p*s-q*r))) M:=by
 have S:aK prog 302=some f302:=by kernel_rfl
 obtain⟨O,K⟩:=A;obtain⟨J,F⟩:=hq;obtain⟨D,C⟩:=G;obtain⟨d1,d2⟩:=hs;obtain⟨Z,X⟩:=H;obtain⟨f1,f2⟩:=I;obtain⟨x,W⟩:=xE (p*s);obtain⟨y,V⟩:=xE (q*r);rw[←W] at Z X ⊢;rw[←V] at f1 f2 ⊢;refine aA bj ?_ M;simp[aa,S,f302,ao,af,aj,az,O,K,J,F,D,C,d1,d2,Z,X,f1,f2,←W,←V]
open Classical in
noncomputable def vz(f:FuncId)(args:List AV):Option AV:=
 match f,args with
 |302,[.str a,.str b,.str c,.str d]=>match dC a,dC b,dC c,dC d with
  |some p,some q,some r,some s=>if (aeZ p∧aeZ q∧aeZ r∧aeZ s)∧aeZ (p*s)∧aeZ (q*r) then some (.str (ak (p*s-q*r))) else none
  |_,_,_,_=>none
 |f,args=>aj f args
theorem Rk:HS prog (af vz):=bH fun f Z v h mem=>by
 unfold vz at h;split at h
 ·split at h
  ·rename_i p q r s X W h3 V
   split at h
   ·rename_i hc
    cases h;rw[aw X,aw W,aw h3,aw V];exact HL p q r s hc.1.1 hc.1.2.1 hc.1.2.2.1 hc.1.2.2.2 hc.2.1 hc.2.2 mem
   ·cases h
  ·cases h
 ·have:=bj.fn _ _ mem ⟨v,none,[]⟩ (by unfold af;simp only;rw[h])
  simpa [aeQ.mem] using this
section
variable {P:List P2}{T:List Tr}{L:List Rat}{t:Tr}{A B C:P2}{f g h:Rat}{i:Nat}
def fsM(P:List P2)(T:List Tr)(L:List Rat):Mem:=[.cells false 2 (pC P),.cells false 3 (tC T),.cells false 1 (qC L)]
theorem Dc(G:T[i]? =some t)(H:P[t.1]? =some A)(I:P[t.2.1]? =some B)(R:P[t.2.2]? =some C)(Y:L[t.1]? =some f)(hg:L[t.2.1]? =some g)(hh:L[t.2.2]? =some h):
  kO prog 301 [.agg [.slice 0 0 P.length none,.slice 1 0 T.length none],.slice 2 0 L.length none,.int .i64 i] (fsM P T L) (.agg [.str (ak A.1),.str (ak A.2),.str (ak f),.str (ak B.1),.str (ak B.2),.str (ak g),.str (ak C.1),.str (ak C.2),.str (ak h)]) (fsM P T L):=by
 have S:aK prog 301=some f301:=by kernel_rfl
 obtain⟨O,M⟩:=Ph G;have X:=gL G;obtain⟨K,-,-,J⟩:=wm H;obtain⟨F,-,-,D⟩:=wm I;obtain⟨r1,-,-,z⟩:=wm R;have u:=gL H;have m:=gL I;have a3:=gL R;have f1:=R5 Y;have f2:=R5 hg;have f3:=R5 hh;have b1:=gL Y;have b2:=gL hg;have b3:=gL hh;obtain⟨t1,t2,t3⟩:=t;simp only at*;obtain⟨Z,W⟩:∃Z,aC f301=[Z]:=⟨_,rfl⟩
 obtain⟨I',V⟩:=dj W (l:=[0,0,2,0,14,30,0,0,192,448,1022,2047,4095]) (j:=12) (by kernel_rfl) (by decide);simp[aC,bn,f301] at W;subst W;unfold fsM;have hr:aa (aN prog) (fun _=>[14]) (aK prog) bM 5 301 [.agg [.slice 0 0 P.length none,.slice 1 0 T.length none],.slice 2 0 L.length none,.int .i64 i] [.cells false 2 (pC P),.cells false 3 (tC T),.cells false 1 (qC L)]=some ⟨.agg [.str (ak A.1),.str (ak A.2),.str (ak f),.str (ak B.1),.str (ak B.2),.str (ak g),.str (ak C.1),.str (ak C.2),.str (ak h)],none,[]⟩:=by simp[aa,S,f301,aQ,er,X,O,M,u,m,a3,K,F,r1,J,D,z,f1,f2,f3,b1,b2,b3,w1,w2,w3,-aB,ag I',aS,aO,aP,V,bW,aE]
 have:=(ah ae (ar _) (al _) (au _) hr).1;simpa [aeQ.mem] using this
end
def slX(A B C:P2)(f g h:Rat):P2:=(1 / bU A B C*((g-f)*(C.2-A.2)-(B.2-A.2)*(h-f)),1 / bU A B C*((B.1-A.1)*(h-f)-(g-f)*(C.1-A.1)))
structure ahi (A B C:P2)(f g h:Rat):Prop where
 a:aeZ A.1∧aeZ A.2
 b:aeZ B.1∧aeZ B.2
 c:aeZ C.1∧aeZ C.2
 z:aeZ f∧aeZ g∧aeZ h
 d:(aeZ (B.1-A.1)∧aeZ (B.2-A.2))∧aeZ (C.1-A.1)∧aeZ (C.2-A.2)
 e:aeZ (g-f)∧aeZ (h-f)
 m1:aeZ ((B.1-A.1)*(C.2-A.2))∧aeZ ((B.2-A.2)*(C.1-A.1))
 m2:aeZ ((g-f)*(C.2-A.2))∧aeZ ((B.2-A.2)*(h-f))
 m3:aeZ ((B.1-A.1)*(h-f))∧aeZ ((g-f)*(C.1-A.1))
 s:aeZ (bU A B C)∧bU A B C≠0
 n:aeZ ((g-f)*(C.2-A.2)-(B.2-A.2)*(h-f))∧aeZ ((B.1-A.1)*(h-f)-(g-f)*(C.1-A.1))
 k:aeZ (1 / bU A B C)
 r:sw [ak (slX A B C f g h).1,ak (slX A B C f g h).2]=0∧(ak (slX A B C f g h).1).length≤18∧(ak (slX A B C f g h).2).length≤18
def VA(A B C:P2)(f g h:Rat):V3:=(-(slX A B C f g h).1,-(slX A B C f g h).2,1)
section
variable {P:List P2}{T:List Tr}{L:List Rat}{t:Tr}{A B C:P2}{f g h:Rat}{i:Nat}
theorem K6:(aC f298).map (fun o=>dB o.toList)=[[0,1,3,7,0,16,48,112,255,0,512,1536,3584,0,8192,24576,57344,131071,262143,524287],[0,1,3,7,0,16,48,112,255,0,512,1536,3584,0,8192,24576,57344,131071,262143,524287],[0,1,3,0,8,24,63,0,128,384,0,1024,3072,8191,16383,32767]]:=by kernel_rfl
theorem ahx:ba [0,1,3,7,0,16,48,112,255,0,512,1536,3584,0,8192,24576,57344,131071,262143,524287] 19=true:=by decide
theorem E7(hi:T[i]? =some t)(hA:P[t.1]? =some A)(hB:P[t.2.1]? =some B)(hC:P[t.2.2]? =some C)(hf:L[t.1]? =some f)(hg:L[t.2.1]? =some g)(hh:L[t.2.2]? =some h)(ok:ahi A B C f g h)(Z:Mem):
  kO prog 298 [.agg [.slice 0 0 P.length none,.slice 1 0 T.length none],.slice 2 0 L.length none,.int .i64 i] (fsM P T L) (pA (slX A B C f g h)) (fsM P T L):=by
 have hG:aK prog 298=some f298:=by kernel_rfl
 have hc:=Dc hi hA hB hC hf hg hh;have F:HS prog (aeT.or (bT 301 [.agg [.slice 0 0 P.length none,.slice 1 0 T.length none],.slice 2 0 L.length none,.int .i64 i] (.agg [.str (ak A.1),.str (ak A.2),.str (ak f),.str (ak B.1),.str (ak B.2),.str (ak g),.str (ak C.1),.str (ak C.2),.str (ak h)]) (fun N=>∃Z,N=fsM P T L++Z)) (af vz)):=
  HS.or (cf fun N ⟨Z,hZ⟩=>by
   subst hZ;have:=kO.frame (M:=fsM P T L++Z) (new:=[]) (args:=[.agg [.slice 0 0 P.length none,.slice 1 0 T.length none],.slice 2 0 L.length none,.int .i64 i]) [0,1,2] (m:=fsM P T L) rfl (by simp[fsM]) (by rfl) (fun j s X=>by
    match j with
    |0=>simp[fsM] at X;subst X;exact bu (dA P) rfl List.take_length
    |1=>simp[fsM] at X;subst X;exact bu (dV T) rfl List.take_length
    |2=>simp[fsM] at X;subst X;exact bu (ir L) rfl List.take_length
    |j+3=>simp[fsM] at X) rfl (by rw[List.append_nil];exact hc)
   simpa [AV.ae3,AV.ren,dL] using this) Rk
 obtain⟨⟨a1,a2⟩,⟨b1,b2⟩,⟨c1,c2⟩,⟨z1,z2,z3⟩,⟨⟨d1,d2⟩,d3,d4⟩,⟨D,z⟩,⟨Y,R⟩,⟨I,H⟩,⟨G,m6⟩,⟨O,s2⟩,⟨K,J⟩,k,-⟩:=ok;unfold slX;unfold bU at*;obtain⟨ax,ay⟩:=A;obtain⟨bx,W⟩:=B;obtain⟨cx,cy⟩:=C;simp only at*;obtain⟨x,hx⟩:=xE (bx-ax);obtain⟨y,hy⟩:=xE (W-ay);obtain⟨u,hu⟩:=xE (cx-ax);obtain⟨v,hv⟩:=xE (cy-ay);obtain⟨a,ha⟩:=xE (g-f);obtain⟨b,hb⟩:=xE (h-f);simp only[←hx,←hy,←hu,←hv,←ha,←hb] at d1 d2 d3 d4 D z Y R I H G m6 O s2 K J k ⊢;obtain⟨S,hS⟩:=xE (x*v-y*u);obtain⟨q,hq⟩:=xE (a*v-y*b);obtain⟨r,hr⟩:=xE (x*b-a*u);simp only[←hS,←hq,←hr] at O s2 K J k ⊢;obtain⟨w,hw⟩:=xE (1 / S);rw[←hw] at k ⊢;have aav:dC [49]=some 1:=rfl;have o1:(aR 1).length≤9:=by decide
 unfold aeZ at a1 a2 b1 b2 c1 c2 z1 z2 z3 d1 d2 d3 d4 D z Y R I H G m6 O K J k;obtain⟨V,Do⟩:∃V,aC f298=V :=⟨_,rfl⟩
 have Z4 :=be Do K6;simp only[aC,bn,f298,lA] at Do;subst Do;simp only[lB] at Z4;obtain⟨Z9,hb1,hb2⟩:=Z4;have j2:ba [0,1,3,0,8,24,63,0,128,384,0,1024,3072,8191,16383,32767] 15=true:=by decide
 unfold fsM at F ⊢;have X':aa (aN prog) (fun _=>[]) (aK prog) (aeT.or (bT 301 [.agg [.slice 0 0 P.length none,.slice 1 0 T.length none],.slice 2 0 L.length none,.int .i64 i] (.agg [.str (ak ax),.str (ak ay),.str (ak f),.str (ak bx),.str (ak W),.str (ak g),.str (ak cx),.str (ak cy),.str (ak h)]) (fun N=>∃Z,N=[.cells false 2 (pC P),.cells false 3 (tC T),.cells false 1 (qC L)]++Z)) (af vz)) 1 298 [.agg [.slice 0 0 P.length none,.slice 1 0 T.length none],.slice 2 0 L.length none,.int .i64 i] [.cells false 2 (pC P),.cells false 3 (tC T),.cells false 1 (qC L)]=some ⟨pA (w*q,w*r),none,[]⟩:=by clear F hc;simp[aa,hG,f298,aeT.or,bT,af,vz,aj,az,ao,aav,o1,a1,a2,b1,b2,c1,c2,z1,z2,z3,d1,d2,d3,d4,D,z,Y,R,I,H,G,m6,O,s2,K,J,k,←hx,←hy,←hu,←hv,←ha,←hb,←hS,←hq,←hr,←hw,aeZ,pA,bW,aE,-aB,ag Z9,ag hb1,ag hb2,aS,aO,aP,ahx,j2,Nat.testBit]
 have:=(ah ae (ar _) F (au _) X').1;simpa [aeQ.mem] using this
end
end Go.Proofs
namespace Go.Eng
def Nm(D N:Nat)(q:Rat):Prop:=0<D∧∃n:Int,q*(D:Rat)=(n:Rat)∧n.natAbs≤N
section
variable {D N E K:Nat}{a b:Rat}
theorem Sm.nm(h:Sm D N a):Nm D (D*N) a:=by
 obtain⟨V,⟨n,h3⟩,S,O⟩:=h;refine⟨V,n,h3,?_⟩;have Z:=PA D;have M:=Rat.mul_nonneg (show 0≤(N:Rat)-a by grind) Z;have J:=Rat.mul_nonneg (show 0≤(N:Rat)+a by grind) Z;have X:(n:Rat)≤(((N*D:Nat):Int):Rat):=by rw[Rat.intCast_natCast,iX,←h3];grind
 have W:((-((N*D:Nat):Int):Int):Rat)≤(n:Rat):=by rw[Rat.intCast_neg,Rat.intCast_natCast,iX,←h3];grind
 have X:=Rat.intCast_le_intCast.1 X;have W:=Rat.intCast_le_intCast.1 W;have c:N*D=D*N:=Nat.mul_comm _ _;omega
section
variable (h:Nm D N a)
include h
theorem Nm.mul(k:Nm E K b):Nm (D*E) (N*K) (a*b):=by
 obtain⟨Z,n,X,W⟩:=h;obtain⟨V,m,S,O⟩:=k;refine⟨Nat.mul_pos Z V,n*m,?_,?_⟩
 ·rw[iX,Rat.intCast_mul,←X,←S];grind
 ·rw[Int.natAbs_mul];exact Nat.mul_le_mul W O
theorem Nm.add(k:Nm D K b):Nm D (N+K) (a+b):=by obtain⟨Z,n,X,V⟩:=h;obtain⟨_,m,W,S⟩:=k;refine⟨Z,n+m,?_,by omega⟩;rw[Rat.intCast_add,←X,←W];grind
theorem Nm.neg:Nm D N (-a):=by obtain⟨Z,n,X,W⟩:=h;refine⟨Z,-n,?_,by omega⟩;rw[Rat.intCast_neg,←X];grind
theorem Nm.up(A:0<K):Nm (K*D) (K*N) a:=by
 obtain⟨Z,n,X,W⟩:=h;refine⟨Nat.mul_pos A Z,K*n,?_,?_⟩
 ·rw[iX,Rat.intCast_mul,←X,Rat.intCast_natCast];grind
 ·rw[Int.natAbs_mul,Int.natAbs_natCast];exact Nat.mul_le_mul_left _ W
theorem Nm.dg{x y:Nat}(G:N<10 ^ x)(A:D<10 ^ y):dg x y a:=by
 obtain⟨X,n,h3,W⟩:=h;have Z:(D:Rat)≠0:=fun e=>by rw[Rat.natCast_eq_zero_iff] at e;omega
 have e:a=mkRat n D:=by rw[Rat.mkRat_eq_div,←h3];exact(Rat.mul_div_cancel Z).symm
 rw[e];exact oK (by omega) (by omega) A
theorem Nm.aeZ(A:N<10 ^ 9:=by omega)(Z:D<10 ^ 9:=by omega):Go.Proofs.aeZ a:=(h.dg A Z).lens (by omega) (by omega)
end
end
end Go.Eng
namespace Go.Proofs
open Go.Eng
section
variable {P:List P2}{D m:Nat}{A B C q:P2}{f g h z:Rat}
theorem Nm.chk{D N:Nat}{a:Rat}(h:Nm D N a)(G:N<10 ^ 8)(H:D<10 ^ 8):xv (ak a)=0∧(ak a).length≤18:=by have d:=h.dg G H;exact⟨qT (d.mono (by decide) (by decide)),PN d (by decide) (by decide) (by decide)⟩
theorem YA(H:PtS P)(G:A∈P)(R:B∈P)(Y:C∈P)(hS:0<bU A B C)(I:Sm 2 7 f)(hg:Sm 2 7 g)(hh:Sm 2 7 h):
  ahi A B C f g h∧∃m,0<m∧m≤288∧Nm m 672 (slX A B C f g h).1∧Nm m 672 (slX A B C f g h).2:=by
 obtain⟨a1,a2⟩:=H.p A G;obtain⟨b1,b2⟩:=H.p B R;obtain⟨c1,c2⟩:=H.p C Y;obtain⟨d1,d2⟩:=H.d A G B R;obtain⟨W,V⟩:=H.d A G C Y;have S:=hg.sub I;have O:=hh.sub I;have J:=d1.mul V;have F:=d2.mul W;have u:=S.mul V;have j:=d2.mul O;have m5:=d1.mul O;have m6:=S.mul W;have X:=J.sub F;have n1:=u.sub j;have n2:=m5.sub m6;have X:Sm 4 72 (bU A B C):=X;obtain⟨k,M,k1,k2⟩:=X.nat hS;have K:bU A B C≠0:=by grind
 have inv:Nm k 4 (1 / bU A B C):=by
  refine⟨M,4,?_,by decide⟩;rw[←k1];have:=Rat.div_mul_cancel (a:=1) K;rw[show((4:Int):Rat)=4 from rfl,show((4:Nat):Rat)=4 from rfl]
  grind
 have Z:∀x:Rat,Sm (2*2) (14*6+6*14) x→Nm k 672 (1 / bU A B C*x):=fun x hx=>by
  obtain⟨n,hn,hle⟩:=hx.nm.2;refine⟨M,n,?_,by omega⟩;rw[←hn,←k1];have:=Rat.div_mul_cancel (a:=1) K
  grind
 have x1:Nm k 672 (slX A B C f g h).1:=Z _ n1;have x2:Nm k 672 (slX A B C f g h).2:=Z _ (n2.mono (by decide));have q1:=Nm.chk x1 (by decide) (by omega);have q2:=Nm.chk x2 (by decide) (by omega);exact⟨⟨⟨a1.aeZ,a2.aeZ⟩,⟨b1.aeZ,b2.aeZ⟩,⟨c1.aeZ,c2.aeZ⟩,
  ⟨I.aeZ,hg.aeZ,hh.aeZ⟩,
  ⟨⟨d1.aeZ,d2.aeZ⟩,W.aeZ,V.aeZ⟩,
  ⟨S.aeZ,O.aeZ⟩,
  ⟨J.aeZ,F.aeZ⟩,⟨u.aeZ,j.aeZ⟩,⟨m5.aeZ,m6.aeZ⟩,
  ⟨X.aeZ,K⟩,⟨n1.aeZ,n2.aeZ⟩,inv.aeZ,⟨by simp[sw,q1.1,q2.1],q1.2,q2.2⟩⟩,k,M,by omega,x1,x2⟩
theorem OX(I:0<m∧m≤288)(G:Nm m 672 (slX A B C f g h).1)(H:Nm m 672 (slX A B C f g h).2){p:V3}{V:Nat}(R:vSm D V p)(Y:D≤100)(hV:V≤344):
  afg (VA A B C f g h) p∧aeZ (da (VA A B C f g h) p):=by
 obtain⟨Z,M,K⟩:=R.mono hV;obtain⟨u,J⟩:=I;have d0:=Z.1;have j:=Z.nm;have q2:=M.nm;have q3:=K.nm;have X:=G.neg;have W:=H.neg;unfold afg VA da;obtain⟨x,S⟩:=xE (-(slX A B C f g h).1);obtain⟨y,O⟩:=xE (-(slX A B C f g h).2);rw[←S] at X;rw[←O] at W;simp only[←S,←O];clear S O G H;have t1:=X.mul j;have t2:=W.mul q2;have t3:Nm (m*D) (m*(D*344)) (1*p.2.2):=by rw[Rat.one_mul];exact q3.up u
 have F:=t1.add t2;have s2:=F.add t3;have w:m*D≤288*100:=Nat.mul_le_mul J Y;have w2:m*(D*344)≤288*(100*344):=Nat.mul_le_mul J (by omega);have o1:aeZ (1:Rat):=⟨by decide,by decide⟩;have z1:Rat:=0;have f1:=t1.aeZ;refine⟨⟨⟨X.aeZ,W.aeZ,o1⟩,⟨Z.aeZ,M.aeZ,K.aeZ⟩,LL,f1,?_,t2.aeZ,?_,t3.aeZ,trivial⟩,s2.aeZ⟩
 ·rw[Rat.zero_add];exact f1
 ·rw[Rat.zero_add];exact F.aeZ
theorem Yk(G:bU A B C≠0):da (VA A B C f g h) (q.1,q.2,z)-da (VA A B C f g h) (A.1,A.2,f)=z-PI (nV A B C q) f g h:=by
 have X:=Gz A B C q;unfold VA slX da PI nV;simp only;rw[X];obtain⟨S,Z⟩:=xE (bU A B C);have e:S=(B.1-A.1)*(C.2-A.2)-(B.2-A.2)*(C.1-A.1):=Z;rw[←Z] at G ⊢;have V:=Rat.div_mul_cancel (a:=1) G;obtain⟨w,W⟩:=xE (1 / S);rw[←W] at V ⊢;have O:∀x:Rat,x / S=x*w:=fun x=>by rw[W,Rat.div_def,Rat.div_def,Rat.one_mul]
 rw[O];unfold bU
 grind
end
end Go.Proofs
namespace Go.Proofs
open Go.Eng
open Tryz
def XR(z:Rat):List Rat→Nat
 | []=>0
 |h::l=>(if h≤z then 1 else 0)+XR z l
theorem LB{z h:Rat}(A:z<h):∀{l:List Rat},(∀x∈l,h≤x)→XR z l=0
 | [],_=>rfl
 |x::l,H=>by rw[XR,if_neg (by have:=H x (by simp);grind),LB A fun y Z=>H y (by simp[Z])]
theorem XH:∀{h:Rat} {l:List Rat},(∀(k:Nat) a b,(h::l)[k]? =some a→(h::l)[k+1]? =some b→a≤b)→∀x∈l,h≤x
 |h,y::l,H,x,hx=>by
  have Z:=H 0 h y rfl rfl;rcases List.mem_cons.1 hx with rfl | hx
  ·exact Z
  ·have:=XH (h:=y) (l:=l) (fun k a b X W=>H (k+1) a b X W) x hx
   grind
theorem PB{z:Rat}:∀{l:List Rat},(∀(k:Nat) a b,l[k]? =some a→l[k+1]? =some b→a≤b)→XR z l=DD z l
 | [],_=>rfl
 |h::l,H=>by
  rw[XR,DD];by_cases c:h≤z
  ·rw[if_pos c,if_pos c,PB fun k a b Z X=>H (k+1) a b Z X];omega
  ·rw[if_neg c,if_neg c,LB (Rat.not_le.1 c) (XH H)]
theorem Wx{z h:Rat}{l:List Rat}:(if z<h then (-1:Int) else (DD z l:Int))= -1+(DD z (h::l):Int):=by
 rw[DD];by_cases c:z<h
 ·rw[if_pos c,if_neg (by grind)];rfl
 ·rw[if_neg c,if_pos (by grind)];omega
variable{w:V3}
theorem Uo{a b c A G H :Rat}(I:0≤w.1)(R:0≤w.2.1)(h3:0≤w.2.2)(hs:0<w.1+w.2.1+w.2.2)(Y:a≤A)(hb:b≤G)(hc:c≤H):PI w a b c≤PI w A G H :=by
 unfold PI;obtain⟨S,X⟩:=xE (w.1+w.2.1+w.2.2);rw[←X] at hs ⊢;have Z:S≠0:=by grind
 have W:=Rat.mul_nonneg I (show 0≤A -a by grind);have V:=Rat.mul_nonneg R (show 0≤G -b by grind);have O:=Rat.mul_nonneg h3 (show 0≤H -c by grind);refine Ce hs ?_;rw[Rat.div_mul_cancel Z,Rat.div_mul_cancel Z]
 grind
def G8(A B C:P2)(t:Tr)(Q:List Rat):V3×Rat:=(VA A B C (Q.getD t.1 0) (Q.getD t.2.1 0) (Q.getD t.2.2 0),da (VA A B C (Q.getD t.1 0) (Q.getD t.2.1 0) (Q.getD t.2.2 0)) (A.1,A.2,Q.getD t.1 0))
def Vy(p:V3):List (V3×Rat)→Nat
 | []=>0
 |w::l=>(if w.2≤da w.1 p then 1 else 0)+Vy p l
theorem Xm{A B C:P2}{t:Tr}{p:V3}(G:bU A B C≠0):∀L:List (List Rat),Vy p (L.map (G8 A B C t))=XR p.2.2 (L.map fun Q=>PI (nV A B C (p.1,p.2.1)) (Q.getD t.1 0) (Q.getD t.2.1 0) (Q.getD t.2.2 0))
 | []=>rfl
 |Q::L=>by
  rw[List.map_cons,List.map_cons,Vy,XR,Xm G L];have:=Yk (f:=Q.getD t.1 0) (g:=Q.getD t.2.1 0) (h:=Q.getD t.2.2 0) (q:=(p.1,p.2.1)) (z:=p.2.2) G;have e:(G8 A B C t Q).2≤da (G8 A B C t Q).1 p↔PI (nV A B C (p.1,p.2.1)) (Q.getD t.1 0) (Q.getD t.2.1 0) (Q.getD t.2.2 0)≤p.2.2:=by unfold G8;simp only at this ⊢;constructor<;>intro h<;>grind
  by_cases c:(G8 A B C t Q).2≤da (G8 A B C t Q).1 p
  ·rw[if_pos c,if_pos (e.1 c)]
  ·rw[if_neg c,if_neg fun h=>c (e.2 h)]
theorem Yo{Y A :List Int}(h:∀(i:Nat) z y,Y[i]? =some z→A[i]? =some y→z≤y)(G:Y.length=A.length)(i:Nat):(qH Y).getD i 0≤(qH A).getD i 0:=by
 unfold qH;by_cases W:i<Y.length
 ·obtain⟨z,Z⟩:∃z,Y[i]? =some z:=⟨_,List.getElem?_eq_getElem W⟩
  obtain⟨y,X⟩:∃z,A[i]? =some z:=⟨_,List.getElem?_eq_getElem (by omega)⟩
  have:=h i z y Z X;simp only[List.getD,List.getElem?_map,Z,X,Option.map_some,Option.getD_some];unfold hQ;rw[xH,xH];have e:=Rat.intCast_le_intCast.2 this;have k:(0:Rat)≤mkRat 1 2:=by decide
  have:=Rat.mul_nonneg (show 0≤(y:Rat)-(z:Rat) by grind) k
  grind
 ·simp only[List.getD,List.getElem?_map,List.getElem?_eq_none (show Y.length≤i by omega),List.getElem?_eq_none (show A.length≤i by omega),Option.map_none,Option.getD_none]
  exact Rat.le_refl
theorem WA{s:aeX}{Z:List Int}{us:List (List UInt8)}{G:List (List Int)}{p:V3}{j:Nat}{t:Tr}{A B C:P2}(R:(EvD.dep Z us G).Ok s)(hf:(EvD.dep Z us G).Fin)(I:MO s.P (p.1,p.2.1) s.T 0=some (j,w))(H:s.T[j]? =some t)(hA:s.P[t.1]? =some A)(hB:s.P[t.2.1]? =some B)(hC:s.P[t.2.2]? =some C)(hS:0<bU A B C):
  OE s Z G p= -1+(Vy p (((Z::G).map qH).map (G8 A B C t)):Int):=by
 obtain⟨k,t',rfl,W,V,rfl,_⟩:=nK I;rw[Nat.zero_add] at H;rw[H] at W;cases W;have et:uT s.P (p.1,p.2.1) t=nV A B C (p.1,p.2.1):=by unfold uT;simp[List.getD,hA,hB,hC]
 have eg:s.T.getD (0+k) (0,0,0)=t:=by rw[Nat.zero_add];simp[List.getD,H]
 rw[et] at V I;obtain⟨M,K,J⟩:=V;have M:=rN.1 M;have K:=rN.1 K;have J:=rN.1 J;have F:=Gz A B C (p.1,p.2.1);have hs:0<(nV A B C (p.1,p.2.1)).1+(nV A B C (p.1,p.2.1)).2.1+(nV A B C (p.1,p.2.1)).2.2:=by unfold nV;simp only;rw[F];exact hS
 have S:∀Y∈Z::G,Y.length=s.P.length:=fun Y X=>by
  rcases List.mem_cons.1 X with rfl | X
  ·exact R.1
  ·exact(R.2.2.2.2 Y X).1
 unfold OE;rw[I];simp only;rw[Wx,Xm (by grind),←PB]
 ·congr 2
  simp[List.map_map,Function.comp_def,Er,H]
 ·intro n a b D z
  rw[←List.map_cons (f:=fun Y=>Er s (0+k) (nV A B C (p.1,p.2.1)) (qH Y)),List.getElem?_map] at D z;obtain⟨Y,X,rfl⟩:=Option.map_eq_some_iff.1 D;obtain⟨u,O,rfl⟩:=Option.map_eq_some_iff.1 z;have m:=Yo (hf.2 n Y u X O) (by rw[S Y (List.mem_of_getElem? X),S u (List.mem_of_getElem? O)]);exact Uo M K J hs (m _) (m _) (m _)
variable{M:Mem}{fb pb tb:Nat}{o1 o2 o3:Bool}
section
variable {s:aeX}{Z:List Int}{t:Tr}{A B C:P2}{f g h:Rat}{i:Nat}
theorem qp{fn:FuncId}{v:AV}{P:List P2}{T:List Tr}{L:List Rat}{n:Nat}(I:v.closed=true)(hc:kO prog fn [.agg [.slice 0 0 P.length none,.slice 1 0 T.length none],.slice 2 0 L.length none,.int .i64 (n:Int)] (fsM P T L) v (fsM P T L))(m1:M[pb]? =some (.cells o1 2 (pC P)))(G:M[tb]? =some (.cells o2 3 (tC T)))(H:M[fb]? =some (.cells o3 1 (qC L))):
  kO prog fn [.agg [.slice pb 0 P.length none,.slice tb 0 T.length none],.slice fb 0 L.length none,.int .i64 (n:Int)] M v M:=by
 have W:=gL m1;have V:=gL G;have S:=gL H;have:=kO.frame (M:=M) (new:=[]) (args:=[.agg [.slice 0 0 P.length none,.slice 1 0 T.length none],.slice 2 0 L.length none,.int .i64 (n:Int)]) [pb,tb,fb] (m:=fsM P T L) rfl (by simp[W,V,S]) (by rfl) (fun j s X=>by
  match j with
  |0=>simp[fsM] at X;subst X;exact bu (dA P) m1 List.take_length
  |1=>simp[fsM] at X;subst X;exact bu (dV T) G List.take_length
  |2=>simp[fsM] at X;subst X;exact bu (ir L) H List.take_length
  |j+3=>simp[fsM] at X) rfl (by rw[List.append_nil];exact hc)
 simpa [AV.ae3,AV.ren,dL,dG _ _ I] using this
section
variable (hn2:s.P.length≤1000)(hZ:∀z∈Z,z.natAbs<1000)(hl:Z.length=s.P.length)(hi:s.T[i]? =some t)(hA:s.P[t.1]? =some A)(hB:s.P[t.2.1]? =some B)(hC:s.P[t.2.2]? =some C)(hf:(qH Z)[t.1]? =some f)(hg:(qH Z)[t.2.1]? =some g)(hh:(qH Z)[t.2.2]? =some h)
include hn2 hZ hl hi hA hB hC hf hg hh
theorem HM(ok:ahi A B C f g h):
  kO prog 283 [.agg [.slice 0 0 s.P.length none,.slice 1 0 s.T.length none],.slice 2 0 (qH Z).length none,.int .i64 (i:Int)] (fsM s.P s.T (qH Z)) (.tuple [pA (slX A B C f g h),.int .i64 0]) (fsM s.P s.T (qH Z)):=by
 have z:aK prog 283=some f283:=by kernel_rfl
 have S:=E7 hi hA hB hC hf hg hh ok [];have u:=gL hi;obtain⟨r1,r2,J⟩:=ok.r;have O:(qH Z).length=Z.length:=by simp[qH]
 obtain⟨X,m⟩:=xE (slX A B C f g h);rw[←m] at S r1 r2 J ⊢;obtain⟨K,W⟩:=xE (α:=Mem) [.cells true 0 [.slice 0 0 s.P.length none,.slice 1 0 s.T.length none],.cells true 0 [.str [],.str []],.cells true 1 [.slice 2 0 (qH Z).length none]];have V:=sY s Z hZ (by omega) hl (fsM s.P s.T (qH Z)++K) 2 5 false false false true rfl rfl rfl (by rw[W];simp[fsM,O]);have F:∀N,kO prog 105 [pA X] N (.int .i64 0) N:=fun N=>by
  have:=gM (ak X.1) (ak X.2) r2 J N
  rwa [r1] at this
 have D:HS prog (aeT.or (bT 281 [.agg [.slice 0 0 s.P.length none,.slice 1 0 s.T.length none],.slice 5 0 1 none] (.int .i64 0) (fun N=>N=fsM s.P s.T (qH Z)++K)) (aeT.or (bT 298 [.agg [.slice 0 0 s.P.length none,.slice 1 0 s.T.length none],.slice 2 0 (qH Z).length none,.int .i64 (i:Int)] (pA X) (fun N=>∃Y,N=fsM s.P s.T (qH Z)++Y)) (bT 105 [pA X] (.int .i64 0) (fun _=>True)))):=
  HS.or (cf fun N j=>by subst j;exact V) (HS.or (cf fun N ⟨Y,hY⟩=>by subst hY;exact qp rfl S (o1:=false) (o2:=false) (o3:=false) rfl rfl rfl) (cf fun N _=>F N))
 have R:aa (aN prog) (fun _=>[]) (aK prog) (aeT.or (bT 281 [.agg [.slice 0 0 s.P.length none,.slice 1 0 s.T.length none],.slice 5 0 1 none] (.int .i64 0) (fun N=>N=fsM s.P s.T (qH Z)++K)) (aeT.or (bT 298 [.agg [.slice 0 0 s.P.length none,.slice 1 0 s.T.length none],.slice 2 0 (qH Z).length none,.int .i64 (i:Int)] (pA X) (fun N=>∃Y,N=fsM s.P s.T (qH Z)++Y)) (bT 105 [pA X] (.int .i64 0) (fun _=>True)))) 1 283 [.agg [.slice 0 0 s.P.length none,.slice 1 0 s.T.length none],.slice 2 0 (qH Z).length none,.int .i64 (i:Int)] (fsM s.P s.T (qH Z))=some ⟨.tuple [pA X,.int .i64 0],none,[]⟩:=by
  clear D V S F;subst W;obtain⟨n,I⟩:=xE ((qH Z).length);rw[←I];have e1:∀Y:Mem,∃H,aeY.cells false 2 (pC s.P)::.cells false 3 (tC s.T)::.cells false 1 (qC (qH Z))::Y=[.cells false 2 (pC s.P),.cells false 3 (tC s.T),.cells false 1 (qC (qH Z))]++H :=fun Y=>⟨Y,rfl⟩
  have G:¬((i:Int)<0):=by omega
  have i1:¬s.T.length≤i:=by omega
  simp[aa,z,f283,aeT.or,bT,fsM,G,i1,pA]
 have:=(ah ae (ar _) D (au _) R).1;simpa [aeQ.mem] using this
theorem E6(G:aeZ (slX A B C f g h).1∧aeZ (slX A B C f g h).2)(ok:ahi A B C f g h)(m1:M[pb]? =some (.cells o1 2 (pC s.P)))(H:M[tb]? =some (.cells o2 3 (tC s.T)))(I:M[fb]? =some (.cells o3 1 (qC (qH Z)))):
  kO prog 253 [.agg [.slice pb 0 s.P.length none,.slice tb 0 s.T.length none],.slice fb 0 (qH Z).length none,.int .i64 (i:Int)] M (.tuple [vA (VA A B C f g h),.int .i64 0]) M:=by
 have F:aK prog 253=some f253:=by kernel_rfl
 have V:=HM hn2 hZ hl hi hA hB hC hf hg hh ok;unfold VA;obtain⟨X,D⟩:=xE (slX A B C f g h);obtain⟨-,r2,z⟩:=ok.r;rw[←D] at V G r2 z ⊢;obtain⟨⟨x1,x2⟩,x3,x4⟩:=G;have u:(ak X.1).length≤1000000000:=by omega
 have m:(ak X.2).length≤1000000000:=by omega
 refine qp rfl ?_ m1 H I;have J:HS prog (aeT.or (bT 283 [.agg [.slice 0 0 s.P.length none,.slice 1 0 s.T.length none],.slice 2 0 (qH Z).length none,.int .i64 (i:Int)] (.tuple [pA X,.int .i64 0]) (fun N=>∃Y,N=fsM s.P s.T (qH Z)++Y)) (af aj)):=
  HS.or (cf fun N ⟨Y,hY⟩=>by subst hY;exact qp rfl V (o1:=false) (o2:=false) (o3:=false) rfl rfl rfl) bj
 have S:ak 1=[49]:=by decide
 obtain⟨W,O⟩:∃W,aC f253=[W]:=⟨_,rfl⟩
 have j:=iY O (l:=[0,1,3,0,8,31,63,127,255]) (by kernel_rfl);have K:Ls [0,1,3,0,8,31,63,127,255] 9 7=true:=by decide
 simp[aC,bn,f253] at O;subst O;have R:aa (aN prog) (fun _=>[]) (aK prog) (aeT.or (bT 283 [.agg [.slice 0 0 s.P.length none,.slice 1 0 s.T.length none],.slice 2 0 (qH Z).length none,.int .i64 (i:Int)] (.tuple [pA X,.int .i64 0]) (fun N=>∃Y,N=fsM s.P s.T (qH Z)++Y)) (af aj)) 1 253 [.agg [.slice 0 0 s.P.length none,.slice 1 0 s.T.length none],.slice 2 0 (qH Z).length none,.int .i64 (i:Int)] (fsM s.P s.T (qH Z))=some ⟨.tuple [vA (-X.1,-X.2,1),.int .i64 0],none,[]⟩:=by clear J V;obtain⟨n,hn⟩:=xE ((qH Z).length);rw[←hn];simp[aa,F,f253,aeT.or,bT,fsM,af,aj,az,bB,aX,ao,S,u,m,pA,vA,bW,aE,-aB,ju j,kx,qR,yo,bR,K,Nat.testBit]
 have:=(ah ae (ar _) J (au _) R).1;simpa [aeQ.mem] using this
end
end
end Go.Proofs
