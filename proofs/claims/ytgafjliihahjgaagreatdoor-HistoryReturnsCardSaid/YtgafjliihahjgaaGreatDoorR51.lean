/- See R54. -/
import Derived.Test.YtgafjliihahjgaaGreatDoorR50
set_option linter.all false
set_option maxRecDepth 100000
set_option maxHeartbeats 40000000
namespace Go.Proofs
open Go.Eng
open Tryz
theorem RX(T:TypeId→Option TyI)(lv:Code→List Nat)(O:adM)(K N m0:Nat)(g:Operand)(ps:Array Tmp)(Yd body:Code)(s:XS):aN T lv O K N m0 true (.rangeFunc g ps Yd body) s=match get s.env g with
   |.func f caps=>match O (.fn f) (.yield s.mem.length::caps) (s.mem++[.loop ⟨.ready,none,s.env,N,ps,Yd,body⟩]) with
    |some r=>match (r.mem (s.mem++[.loop ⟨.ready,none,s.env,N,ps,Yd,body⟩]))[s.mem.length]? with
     |some (.loop r2)=>if r2.st== .busy then none else match qi r2.afe with
      |some e=>some (e,⟨s.env,(r.mem (s.mem++[.loop ⟨.ready,none,s.env,N,ps,Yd,body⟩])).set s.mem.length (.loop { r2 with st:=.exhausted }),s.aeS||r.pre.isSome⟩)
      |none=>none
     |_=>none
    |none=>none
   |_=>none:=rfl
section
variable {O:adM}{M Z:Mem}{pv tv E X6:AV}{nm u:List UInt8}{p q:V3}{e:Int}{st:LoopState}{afe:Option Code}{ps:Array Tmp}{Yd body:Code}
theorem LJ(cp:pv.kS=true)(ct:tv.kS=true)(cE:E.kS=true)(kp:X6.kS=true∧X6.known=true∧X6.cells=[X6])(hs:(st== .busy)=false)(he:qi afe=some .normal∨qi afe=some (.exit 0))(hb:qI f30=[(ps,Yd,body)])(eB:O (.fn 49) [E] (M++[.cells true 0 [pv,tv,.str nm,E],.cells true 0 (vL p),.cells true 0 [.str [],.kK,.int .i64 0,.str [],.str [],.str []],.cells true 0 (foT nm .kK (-1))])=some ⟨.func 83 [.ptr (M.length+4) 0],none,[.cells true 0 [E]]⟩)(eR:∀z':Env,(ab z' 2=.ptr M.length 0∧ab z' 3=.ptr (M.length+1) 0∧ab z' 5=.ptr (M.length+3) 0)→
   O (.fn 83) [.yield (M.length+5),.ptr (M.length+4) 0] (M++[.cells true 0 [pv,tv,.str nm,E],.cells true 0 (vL p),.cells true 0 [.str [],.kK,.int .i64 0,.str [],.str [],.str []],.cells true 0 (foT nm .kK (-1)),.cells true 0 [E],.loop ⟨.ready,none,z',47,ps,Yd,body⟩])=
    some ⟨.tuple [],some (M++[.cells true 0 [pv,tv,.str nm,E],.cells true 0 (vL q),.cells true 0 [.str [],.kK,.int .i64 0,.str [],.str [],.str []],.cells true 0 (foT u X6 e),.cells true 0 [E],.loop ⟨st,afe,z',47,ps,Yd,body⟩]),Z⟩):
  ∃a b c d x y:aeD,aU (aM prog) (fun _=>[]) (aT prog) O 2 30 [.agg [pv,tv,.str nm,E],vA p] M=some (.agg [.str u,X6,.int .i64 e,.str (aw q.1),.str (aw q.2.1),.str (aw q.2.2)],M++(a::b::c::d::x::y::Z)):=by
 have hG:aT prog 30=some f30:=by kernel_rfl
 have w1:IntKind.i64.wrap (-1)= -1:=rfl;simp[qI,mO,f30] at hb;obtain⟨rfl,rfl,rfl⟩:=hb;obtain⟨k1,k2,k3⟩:=kp;unfold foT at eB eR;unfold vA;simp only[vL] at eB eR;rcases he with he | he<;>simp[-getElem?_pos,-AV.kS,-AV.known,-AV.cells,-bk,-List.all_eq_true,vS,mS,aU,hG,f30,RX,cM,aR,HS.mem,k1,hs,he,eB,eR]
end
theorem U0{M new:Mem}{a b c d:aeD}{x y z C:List AV}{r:Nat}{o:Bool}(h:(M++[.cells true 0 x,.cells true 0 y,.cells true 0 z]++new)[r]? =some (.cells o 1 C)):(M++(a::b::c::(new++[d])))[r]? =some (.cells o 1 C):=by
 rw[List.append_assoc] at h;by_cases hr:r<M.length
 ·rw[List.getElem?_append_left hr] at h ⊢
  exact h
 ·obtain⟨k,rfl⟩:∃k,r=M.length+k:=⟨r-M.length,by omega⟩
  rw[dC] at h ⊢
  match k,h with
  |0,h=>simp at h
  |1,h=>simp at h
  |2,h=>simp at h
  |k+3,h=>
   have h' :new[k]? =some (.cells o 1 C):=h;show(new++[d])[k]? =_
   rw[List.getElem?_append_left (gL h')];exact h'
section
variable {s:aeE}{p t q:Nat}{evs:List (List AV)}{cs:List Evc}{M:Mem}{ws:List EvD}{v:V3}{ps:Array Tmp}{Yd body:Code}
section
variable (H:ae2 s p t q evs cs M)
include H
theorem uf(h3:cs.length≤3)(hwl:ws.length=cs.length)(hw:∀(i:Nat) c w,cs[i]? =some c→ws[i]? =some w→w.Ok s∧c=w.con c.nm)(hv:plL true ws.reverse v):
  ∃(new:Mem) (X6:AV),kF prog 30 [.agg (aP s p t q cs.length),vA v] M (.agg [.str (jV s ws.reverse v).u,X6,.int .i64 (jV s ws.reverse v).e,.str (aw (jV s ws.reverse v).q.1),.str (aw (jV s ws.reverse v).q.2.1),.str (aw (jV s ws.reverse v).q.2.2)]) (M++new)∧(X6.kS=true∧X6.known=true∧X6.cells=[X6])∧aeJ (M++new) X6 1 (jV s ws.reverse v).l.length ((jV s ws.reverse v).l.map fun n=>.int .i64 n):=by
 obtain⟨ps,Yd,body,hb⟩:∃ps Yd body,qI f30=[(ps,Yd,body)]:=⟨_,_,_,rfl⟩
 obtain⟨st,afe,Z,X6,hs,he,kp,YE,hc⟩:=OI H hwl hw hv hb (.cells true 0 [.str [],.kK,.int .i64 0,.str [],.str [],.str []]);obtain⟨F,hF⟩:∃F,F=jV s ws.reverse v:=⟨_,rfl⟩
 rw[←hF] at YE hc ⊢;have Zd:=iW q cs.length;unfold aP at hc ⊢;obtain⟨E,hE⟩:∃E,E=evV q cs.length:=⟨_,rfl⟩
 have kE:E.cells=[E]:=by rw[hE];unfold evV;split<;>rfl
 rw[←hE] at Zd hc ⊢;obtain⟨h,hh⟩:∃h:aeD,h=.cells true 0 [.slice p 0 s.P.length none,.slice t 0 s.T.length none,.str ar,E]:=⟨_,rfl⟩
 obtain⟨O1,YC,hR⟩:=jY (P:=prog) (ι:=Env) (fun z'=>ab z' 2=.ptr M.length 0∧ab z' 3=.ptr (M.length+1) 0∧ab z' 5=.ptr (M.length+3) 0) (fun _=>.fn 83) (fun _=>[.yield (M.length+5),.ptr (M.length+4) 0])
  (fun z'=>foM M h (.cells true 0 [.str [],.kK,.int .i64 0,.str [],.str [],.str []]) (.cells true 0 [E]) v (foT ar .kK (-1)) ⟨.ready,none,z',47,ps,Yd,body⟩ [])
  (fun z'=>⟨.tuple [],some (foM M h (.cells true 0 [.str [],.kK,.int .i64 0,.str [],.str [],.str []]) (.cells true 0 [E]) F.q (foT F.u X6 F.e) ⟨st,afe,z',47,ps,Yd,body⟩ []),Z⟩)
  (fun z' hp=>⟨by rw[hh];simpa [HS.mem] using hc z' hp,fun q hq=>by cases hq;rw[Fe,Fe]⟩)
  (fun i j _ _ _ _ hm=>by unfold foM at hm;have hm:=List.append_cancel_left hm;simp only[List.cons.injEq,aeD.loop.injEq,afv.mk.injEq,and_true,true_and] at hm;rw[hm])
 obtain⟨L,hL⟩:∃L:List (FuncId×List AV×(Mem→Prop)×HS),L=[(49,[E],(fun N=>N=M++[h,.cells true 0 (vL v),.cells true 0 [.str [],.kK,.int .i64 0,.str [],.str [],.str []],.cells true 0 (foT ar .kK (-1))]),⟨.func 83 [.ptr (M.length+4) 0],none,[.cells true 0 [E]]⟩)]:=⟨_,rfl⟩
 have Yn:kP prog (cw L):=gH fun y hy N hp=>by
  rw[hL,List.mem_singleton] at hy;subst hy;subst hp;have:=Qh (M:=M++[h,.cells true 0 (vL v),.cells true 0 [.str [],.kK,.int .i64 0,.str [],.str [],.str []],.cells true 0 (foT ar .kK (-1))]) Zd kE (by rw[hE];exact Nk _ _);have e4:(M++[h,.cells true 0 (vL v),.cells true 0 [.str [],.kK,.int .i64 0,.str [],.str [],.str []],.cells true 0 (foT ar .kK (-1))]:Mem).length=M.length+4:=by simp
  rw[e4] at this;exact af this
 have eB:(adM.or (cw L) O1) (.fn 49) [E] (M++[h,.cells true 0 (vL v),.cells true 0 [.str [],.kK,.int .i64 0,.str [],.str [],.str []],.cells true 0 (foT ar .kK (-1))])=some ⟨.func 83 [.ptr (M.length+4) 0],none,[.cells true 0 [E]]⟩:=MI (by rw[hL];exact bl rfl);have eR:∀z':Env,(ab z' 2=.ptr M.length 0∧ab z' 3=.ptr (M.length+1) 0∧ab z' 5=.ptr (M.length+3) 0)→(adM.or (cw L) O1) (.fn 83) [.yield (M.length+5),.ptr (M.length+4) 0] (foM M h (.cells true 0 [.str [],.kK,.int .i64 0,.str [],.str [],.str []]) (.cells true 0 [E]) v (foT ar .kK (-1)) ⟨.ready,none,z',47,ps,Yd,body⟩ [])=some ⟨.tuple [],some (foM M h (.cells true 0 [.str [],.kK,.int .i64 0,.str [],.str [],.str []]) (.cells true 0 [E]) F.q (foT F.u X6 F.e) ⟨st,afe,z',47,ps,Yd,body⟩ []),Z⟩:=fun z' hp=>by rw[Fq (by rw[hL,cw];exact if_neg (fun e=>by have:=e.1;simp at this))];exact hR z' hp
 subst hh;obtain⟨a,b,c,d,x,y,hr⟩:=LJ (O:=adM.or (cw L) O1) (M:=M) (Z:=Z) rfl rfl Zd kp hs he hb eB eR;exact⟨_,X6,aO ae (aq _) (kP.or Yn YC) (au _) hr,kp,YE [a,b,c,d,x,y] rfl⟩
section
variable (hd:uT [ar] (cs.map unE)=false)(h3:cs.length≤3)(hwl:ws.length=cs.length)(hw:∀(i:Nat) c w,cs[i]? =some c→ws[i]? =some w→w.Ok s∧c=w.con c.nm)(hv:plL true ws.reverse v)
include hd h3 hwl hw hv
theorem Qk:
  kF prog 10 [.agg (aP s p t q cs.length),vA v] M (.tuple [.str (jV s ws.reverse v).u,.int .i64 0]) M:=by
 have hG:aT prog 10=some f10:=by kernel_rfl
 obtain⟨B,hB⟩:∃B:Mem,B=[.cells true 0 (aP s p t q cs.length),.cells true 0 (vL v)]:=⟨_,rfl⟩
 obtain⟨new,X6,hF,⟨k1,k2,k3⟩,_⟩:=uf (H.more B) h3 hwl hw hv;have hO:=im (H.more B) hd (oL (Vr hv) (by decide));obtain⟨f,hf⟩:∃F,F=jV s ws.reverse v:=⟨_,rfl⟩
 rw[←hf] at hF ⊢;have Zd:=iW q cs.length;unfold aP at hF hO hB ⊢;obtain⟨E,hE⟩:∃E,E=evV q cs.length:=⟨_,rfl⟩
 rw[←hE] at Zd hF hO hB ⊢;obtain⟨L,hL⟩:∃L:List (FuncId×List AV×(Mem→Prop)×HS),L=[(29,[.agg [.slice p 0 s.P.length none,.slice t 0 s.T.length none,.str ar,E],vA v],(fun N=>N=M++B),⟨.int .i64 0,none,[]⟩),(30,[.agg [.slice p 0 s.P.length none,.slice t 0 s.T.length none,.str ar,E],vA v],(fun N=>N=M++B),⟨.agg [.str f.u,X6,.int .i64 f.e,.str (aw f.q.1),.str (aw f.q.2.1),.str (aw f.q.2.2)],none,new⟩)]:=⟨_,rfl⟩
 have hOk:kP prog (cw L):=gH fun y hy N hp=>by
  rw[hL] at hy;simp only[List.mem_cons,List.not_mem_nil,or_false] at hy;rcases hy with rfl | rfl<;>subst hp
  ·exact af (by simpa using hO)
  ·exact af hF
 have e1:cw L (.fn 29) [.agg [.slice p 0 s.P.length none,.slice t 0 s.T.length none,.str ar,E],vA v] (M++B)=some ⟨.int .i64 0,none,[]⟩:=by rw[hL];exact bl rfl
 have e2:cw L (.fn 30) [.agg [.slice p 0 s.P.length none,.slice t 0 s.T.length none,.str ar,E],vA v] (M++B)=some ⟨.agg [.str f.u,X6,.int .i64 f.e,.str (aw f.q.1),.str (aw f.q.2.1),.str (aw f.q.2.2)],none,new⟩:=by rw[hL,aC (.inl (by decide))];exact bl rfl
 rw[hB] at e1 e2;have h:∃acS,aU (aM prog) (fun _=>[]) (aT prog) (cw L) 1 10 [.agg [.slice p 0 s.P.length none,.slice t 0 s.T.length none,.str ar,E],vA v] M=some (.tuple [.str f.u,.int .i64 0],M++acS):=by refine⟨.cells true 0 [.slice p 0 s.P.length none,.slice t 0 s.T.length none,.str ar,E]::.cells true 0 (vL v)::new,?_⟩;clear hOk hL;unfold vA at*;simp only[vL] at*;simp[-getElem?_pos,-AV.kS,-AV.known,-AV.cells,-bk,-List.all_eq_true,vS,mS,aU,hG,f10,e1,e2]
 obtain⟨acS,h⟩:=h;exact kF.forget rfl (aO ae (aq _) hOk (au _) h)
theorem DV:
  ∃(new:Mem) (X6:AV),kF prog 11 [.agg (aP s p t q cs.length),vA v] M (.tuple [.agg [.str (jV s ws.reverse v).u,X6,.int .i64 (jV s ws.reverse v).e,.str (aw (jV s ws.reverse v).q.1),.str (aw (jV s ws.reverse v).q.2.1),.str (aw (jV s ws.reverse v).q.2.2)],.int .i64 0]) (M++new)∧(X6.kS=true∧X6.known=true∧X6.cells=[X6])∧aeJ (M++new) X6 1 (jV s ws.reverse v).l.length ((jV s ws.reverse v).l.map fun n=>.int .i64 n):=by
 have hG:aT prog 11=some f11:=by kernel_rfl
 have Zf:=iK (oL (WK (s:=s) hv) (by decide));obtain⟨B,hB⟩:∃B:Mem,B=[.cells true 0 (aP s p t q cs.length),.cells true 0 (vL v),.cells true 0 [.str [],.kK,.int .i64 0,.str [],.str [],.str []]]:=⟨_,rfl⟩
 obtain⟨new,X6,hF,⟨k1,k2,k3⟩,YE⟩:=uf (H.more B) h3 hwl hw hv;have hO:=im (H.more B) hd (oL (Vr hv) (by decide));obtain⟨f,hf⟩:∃F,F=jV s ws.reverse v:=⟨_,rfl⟩
 rw[←hf] at hF Zf YE ⊢;have Zd:=iW q cs.length;unfold aP at hF hO hB ⊢;obtain⟨E,hE⟩:∃E,E=evV q cs.length:=⟨_,rfl⟩
 rw[←hE] at Zd hF hO hB ⊢;obtain⟨L,hL⟩:∃L:List (FuncId×List AV×(Mem→Prop)×HS),L=[(29,[.agg [.slice p 0 s.P.length none,.slice t 0 s.T.length none,.str ar,E],vA v],(fun N=>N=M++B),⟨.int .i64 0,none,[]⟩),(30,[.agg [.slice p 0 s.P.length none,.slice t 0 s.T.length none,.str ar,E],vA v],(fun N=>N=M++B),⟨.agg [.str f.u,X6,.int .i64 f.e,.str (aw f.q.1),.str (aw f.q.2.1),.str (aw f.q.2.2)],none,new⟩),(14,[vA f.q],(fun _=>True),⟨.int .i64 0,none,[]⟩)]:=⟨_,rfl⟩
 have hOk:kP prog (cw L):=gH fun y hy N hp=>by
  rw[hL] at hy;simp only[List.mem_cons,List.not_mem_nil,or_false] at hy;rcases hy with rfl | rfl | rfl
  ·subst hp;exact af (by simpa using hO)
  ·subst hp;exact af hF
  ·exact af (by simpa using Zf N)
 have e1:cw L (.fn 29) [.agg [.slice p 0 s.P.length none,.slice t 0 s.T.length none,.str ar,E],vA v] (M++B)=some ⟨.int .i64 0,none,[]⟩:=by rw[hL];exact bl rfl
 have e2:cw L (.fn 30) [.agg [.slice p 0 s.P.length none,.slice t 0 s.T.length none,.str ar,E],vA v] (M++B)=some ⟨.agg [.str f.u,X6,.int .i64 f.e,.str (aw f.q.1),.str (aw f.q.2.1),.str (aw f.q.2.2)],none,new⟩:=by rw[hL,aC (.inl (by decide))];exact bl rfl
 have e3:∀N,cw L (.fn 14) [vA f.q] N=some ⟨.int .i64 0,none,[]⟩:=fun N=>by rw[hL,aC (.inl (by decide)),aC (.inl (by decide))];exact bl trivial
 rw[hB] at e1 e2;have h:∃a b c d:aeD,aU (aM prog) (fun _=>[]) (aT prog) (cw L) 1 11 [.agg [.slice p 0 s.P.length none,.slice t 0 s.T.length none,.str ar,E],vA v] M=some (.tuple [.agg [.str f.u,X6,.int .i64 f.e,.str (aw f.q.1),.str (aw f.q.2.1),.str (aw f.q.2.2)],.int .i64 0],M++(a::b::c::(new++[d]))):=by clear hOk hL;unfold vA at*;simp only[vL] at*;simp[-getElem?_pos,-AV.kS,-AV.known,-AV.cells,-bk,-List.all_eq_true,vS,mS,aU,hG,f11,k1,e1,e2,e3]
 obtain⟨a,b,c,d,h⟩:=h;refine⟨_,X6,aO ae (aq _) hOk (au _) h,⟨k1,k2,k3⟩,?_⟩;rw[hB] at YE;rcases YE with⟨h1,h2,h3⟩ | ⟨r,o,h1,h2,h3⟩
 ·exact .inl ⟨h1,h2,h3⟩
 ·exact .inr ⟨r,o,h1,h2,U0 h3⟩
end
end
end
end Go.Proofs
namespace Go.Proofs
open Go.Eng
open Tryz
section
variable {s:aeE}{p t q:Nat}{evs:List (List AV)}{cs:List Evc}{M:Mem}
theorem DW(H:ae2 s p t q evs cs M)(hd:uT [ar] (cs.map unE)=false):∃v X,kF prog 17 [.agg (aP s p t q cs.length)] M (.tuple [v,.int .i64 0]) (M++X)∧∀ext,sts (M++(X++ext)) v=some (ar::(cs.map unE).flatten):=by
 have hG:aT prog 17=some f17:=by kernel_rfl
 obtain⟨B,hB⟩:∃B:Mem,B=[.cells true 0 (aP s p t q cs.length)]:=⟨_,rfl⟩
 have hC:=(H.more B).chk;rw[hd] at hC;obtain⟨v,nw,hU,hs⟩:=Cj (H.more B).at
 rw[H.len] at hU;have Zd:=iW q cs.length;unfold aP at hB hC hU ⊢;obtain⟨E,hE⟩:∃E,E=evV q cs.length:=⟨_,rfl⟩
 rw[←hE] at Zd hB hC hU ⊢;obtain⟨L,hL⟩:∃L:List (FuncId×List AV×(Mem→Prop)×HS),L=[(35,[.agg [.slice p 0 s.P.length none,.slice t 0 s.T.length none,.str ar,E]],(fun N=>N=M++B),⟨.int .i64 0,none,[]⟩),(36,[.agg [.slice p 0 s.P.length none,.slice t 0 s.T.length none,.str ar,E]],(fun N=>N=M++B),⟨v,none,nw⟩)]:=⟨_,rfl⟩
 have hO:kP prog (cw L):=gH fun y hy N hp=>by
  rw[hL] at hy;simp only[List.mem_cons,List.not_mem_nil,or_false] at hy;rcases hy with rfl | rfl<;>subst hp
  ·exact af (by simpa using hC)
  ·exact af hU
 have e1:cw L (.fn 35) [.agg [.slice p 0 s.P.length none,.slice t 0 s.T.length none,.str ar,E]] (M++B)=some ⟨.int .i64 0,none,[]⟩:=by rw[hL];exact bl rfl
 have e2:cw L (.fn 36) [.agg [.slice p 0 s.P.length none,.slice t 0 s.T.length none,.str ar,E]] (M++B)=some ⟨v,none,nw⟩:=by rw[hL,aC (.inl (by decide))];exact bl rfl
 rw[hB] at e1 e2;have h:aU (aM prog) (fun _=>[]) (aT prog) (cw L) 1 17 [.agg [.slice p 0 s.P.length none,.slice t 0 s.T.length none,.str ar,E]] M=some (.tuple [v,.int .i64 0],M++(.cells true 0 [.slice p 0 s.P.length none,.slice t 0 s.T.length none,.str ar,E]::nw)):=by clear hO hL;simp[-AV.kS,aU,hG,f17,e1,e2]
 refine⟨v,_,aO ae (aq _) hO (au _) h,fun ext=>?_⟩;have:=hs ext;rw[hB,List.append_assoc] at this;exact this
theorem Tryz.ae2.ahj(H:ae2 s p t q evs cs M):(ar::(cs.map unE).flatten).length≤1000000000:=by
 have key:∀l:List Evc,(∀c∈l,(unE c).length≤3)→(l.map unE).flatten.length≤3*l.length:=fun l hl=>by
  induction l with
  |nil=>simp
  |cons c l ih=>
   have h1:=hl c (by simp);have h2:=ih fun c hc=>hl c (by simp[hc])
   simp only[List.map_cons,List.flatten_cons,List.length_append,List.length_cons];omega
 have:=key cs fun c hc=>(H.af8 c hc).le
 have:=H.small;rw[List.length_cons];omega
end
end Go.Proofs
namespace Go.Proofs
open Go.Eng
open Tryz
noncomputable def ba:Code:=match f4.body with
 |some c=>c
 |none=>.skip
noncomputable def iM:Code:=ov 3 ba
noncomputable def pW:Code:=ov 4 ba
noncomputable def pX:Code:=ov 5 ba
noncomputable def pY:Code:=ov 6 ba
noncomputable def kH:Code:=ov 7 ba
noncomputable def mZ:Code:=ov 9 ba
noncomputable def pZ:Code:=ov 10 ba
noncomputable def p9:Code:=ov 11 ba
theorem TI:f4.body=some (.seq (fy 0 ba) (.seq (fy 1 ba) (.seq (fy 2 ba) iM))):=by kernel_rfl
theorem Re:iM=.seq (fy 3 ba) pW:=by kernel_rfl
theorem Rf:pW=.seq (fy 4 ba) pX:=by kernel_rfl
theorem Rg:pX=.seq (fy 5 ba) pY:=by kernel_rfl
theorem Rh:pY=.seq (fy 6 ba) kH:=by kernel_rfl
theorem Jb:kH=.seq (fy 7 ba) (.seq (fy 8 ba) mZ):=by kernel_rfl
theorem Ri:mZ=.seq (fy 9 ba) pZ:=by kernel_rfl
theorem Rj:pZ=.seq (fy 10 ba) p9:=by kernel_rfl
theorem Rk:p9=.seq (fy 11 ba) (.seq (fy 12 ba) .ret):=by kernel_rfl
def KF(_:Code):List Nat:=[44,44,44]
def cj(O:adM) (T:Code) (N:Mem) (env:Env):Prop:=
 ∀d:Bool,∃r:Env×Mem×Bool,aN (aM prog) KF O 6 189 1 true T ⟨env,N,d⟩=some (.ret,⟨r.1,r.2.1,r.2.2⟩)∧ab r.1 4=.bool true∧r.2.1.take 1=N.take 1
variable{bw:Nat}{ev1 pv1 tv1:AV}{l:Int}{w:V3}
section
variable {O:adM}{N:Mem}{pv tv ev X6 uv:AV}{n bh bv bt:Nat}{v q:V3}{u:List UInt8}{e:Int}
theorem Rl{YR:Mem}(hm:1≤N.length)(cp:pv.kS=true)(ct:tv.kS=true)(ce:ev.kS=true)(hh:∀Z,(N++Z)[bh]? =some (.cells true 0 [pv,tv,.str ar,ev]))(hv:∀Z,(N++Z)[bv]? =some (.cells true 0 (vL v)))(kp:X6.kS=true∧X6.known=true∧X6.cells=[X6])(e1:O (.fn 11) [.agg [pv,tv,.str ar,ev],vA v] N=some ⟨.tuple [.agg [.str u,X6,.int .i64 e,.str (aw q.1),.str (aw q.2.1),.str (aw q.2.2)],.int .i64 0],none,YR⟩)(hT:∀env:Env,(ab env 5=.ptr bh 0∧ab env 6=.ptr bv 0∧ab env 16=.ptr (N.length+YR.length) 0∧ab env 17=.int .i64 0)→cj O pX (N++(YR++[.cells true 0 [.str u,X6,.int .i64 e,.str (aw q.1),.str (aw q.2.1),.str (aw q.2.2)]])) env):
  ∀env:Env,(ab env 5=.ptr bh 0∧ab env 6=.ptr bv 0)→cj O pW N env:=by
 rintro env ⟨l5,l6⟩ d;have Yj:∀j,(N.length+j<1)=False:=fun j=>by rw[eq_iff_iff,iff_false];omega
 have YJ:(N.length<1)=False:=by rw[eq_iff_iff,iff_false];omega
 have tk:∀Z:Mem,(N++Z).take 1=N.take 1:=fun Z=>List.take_append_of_le_length (by omega)
 have Y5:=hh [];rw[List.append_nil] at Y5;have ZJ:=hv [];rw[List.append_nil] at ZJ;rw[Rf];obtain⟨F,hF⟩:=jq (β:=Env×Mem×Bool) (fun env d h=>hT env h d);have I':=fun env d h=>(hF env d h).1
 have T':=fun env d h=>(hF env d h).2.1
 have Yh:=fun env d h=>(hF env d h).2.2
 clear hF hT;obtain⟨T,YK⟩:∃T,T=pX:=⟨_,rfl⟩
 rw[←YK];simp only[←YK] at I';simp only[tk] at Yh;obtain⟨p1,p2,p3⟩:=kp;unfold vA at e1;simp only[vL] at hv ZJ;have h:∃e',aN (aM prog) KF O 6 189 1 true (.seq (fy 4 ba) T) ⟨env,N,d⟩=some (.ret,e')∧ab e'.env 4=.bool true∧e'.mem.take 1=N.take 1:=by clear YK;simp[-getElem?_pos,-AV.kS,-AV.known,-AV.cells,-bk,-List.all_eq_true,vS,mS,-lD,ba,f4,fy,l5,l6,Y5,ZJ,e1,p1,I',T',Yh]
 obtain⟨⟨e1,e2,e3⟩,k1,k2,k3⟩:=h;exact⟨(e1,e2,e3),k1,k2,k3⟩
theorem Rm{X:Mem}(hm:1≤N.length)(cp:pv.kS=true)(ct:tv.kS=true)(ce:ev.kS=true)(hh:∀Z,(N++Z)[bh]? =some (.cells true 0 [pv,tv,.str ar,ev]))(ku:uv.known=true)(e1:O (.fn 17) [.agg [pv,tv,.str ar,ev]] N=some ⟨.tuple [uv,.int .i64 0],none,X⟩)(hT:∀env:Env,(ab env 5=.ptr bh 0∧ab env 6=.ptr bv 0∧ab env 16=.ptr bt 0∧ab env 17=.int .i64 0∧ab env 18=uv∧ab env 19=.int .i64 0)→cj O pY (N++X) env):
  ∀env:Env,(ab env 5=.ptr bh 0∧ab env 6=.ptr bv 0∧ab env 16=.ptr bt 0∧ab env 17=.int .i64 0)→cj O pX N env:=by
 rintro env ⟨l5,l6,l16,l17⟩ d;have Yj:∀j,(N.length+j<1)=False:=fun j=>by rw[eq_iff_iff,iff_false];omega
 have YJ:(N.length<1)=False:=by rw[eq_iff_iff,iff_false];omega
 have tk:∀Z:Mem,(N++Z).take 1=N.take 1:=fun Z=>List.take_append_of_le_length (by omega)
 have Y5:=hh [];rw[List.append_nil] at Y5;rw[Rg];obtain⟨F,hF⟩:=jq (β:=Env×Mem×Bool) (fun env d h=>hT env h d);have I':=fun env d h=>(hF env d h).1
 have T':=fun env d h=>(hF env d h).2.1
 have Yh:=fun env d h=>(hF env d h).2.2
 clear hF hT;obtain⟨T,YK⟩:∃T,T=pY:=⟨_,rfl⟩
 rw[←YK];simp only[←YK] at I';simp only[tk] at Yh;have h:∃e',aN (aM prog) KF O 6 189 1 true (.seq (fy 5 ba) T) ⟨env,N,d⟩=some (.ret,e')∧ab e'.env 4=.bool true∧e'.mem.take 1=N.take 1:=by clear YK;simp[-getElem?_pos,-AV.kS,-AV.known,-AV.cells,-bk,-List.all_eq_true,mS,-lD,ba,f4,fy,l5,l6,l16,l17,Y5,e1,I',T',Yh]
 obtain⟨⟨e1,e2,e3⟩,k1,k2,k3⟩:=h;exact⟨(e1,e2,e3),k1,k2,k3⟩
theorem Rn{L:List Int}(hm:1≤N.length)(cp:pv.kS=true)(ct:tv.kS=true)(ce:ev.kS=true)(hh:∀Z,(N++Z)[bh]? =some (.cells true 0 [pv,tv,.str ar,ev]))(ht:∀Z,(N++Z)[bt]? =some (.cells true 0 [.str u,X6,.int .i64 e,.str (aw q.1),.str (aw q.2.1),.str (aw q.2.2)]))(kp:X6.kS=true∧X6.known=true∧X6.cells=[X6])(F':∀N,lD (aM prog) 38 N ev=some (.int .i64 n))(hpl:∀N,lD (aM prog) 45 N X6=some (.int .i64 L.length))(hL:(L.length:Int)=n-max e 0)(hn:n≤1000)(he: -1≤e∧e<n)(e1:u≠[]→O (.fn 18) [uv,.str u] N=some ⟨.bool true,none,[]⟩)(hT:∀env:Env,(ab env 5=.ptr bh 0∧ab env 6=.ptr bv 0∧ab env 16=.ptr bt 0)→cj O kH (N) env):
  ∀env:Env,(ab env 5=.ptr bh 0∧ab env 6=.ptr bv 0∧ab env 16=.ptr bt 0∧ab env 17=.int .i64 0∧ab env 18=uv∧ab env 19=.int .i64 0)→cj O pY N env:=by
 rintro env ⟨l5,l6,l16,l17,l18,l19⟩ d;obtain⟨p1,p2,p3⟩:=kp;have wl:IntKind.i64.wrap ((n:Int)-if e<0 then 0 else e)=L.length:=by rw[al (by split<;>omega) (by split<;>omega)];split<;>omega
 have Yj:∀j,(N.length+j<1)=False:=fun j=>by rw[eq_iff_iff,iff_false];omega
 have YJ:(N.length<1)=False:=by rw[eq_iff_iff,iff_false];omega
 have tk:∀Z:Mem,(N++Z).take 1=N.take 1:=fun Z=>List.take_append_of_le_length (by omega)
 have Y5:=hh [];rw[List.append_nil] at Y5;have ht0:=ht [];rw[List.append_nil] at ht0;rw[Rh];obtain⟨F,hF⟩:=jq (β:=Env×Mem×Bool) (fun env d h=>hT env h d);have I':=fun env d h=>(hF env d h).1
 have T':=fun env d h=>(hF env d h).2.1
 have Yh:=fun env d h=>(hF env d h).2.2
 clear hF hT;obtain⟨T,YK⟩:∃T,T=kH:=⟨_,rfl⟩
 rw[←YK];simp only[←YK] at I';have h:∃e',aN (aM prog) KF O 6 189 1 true (.seq (fy 6 ba) T) ⟨env,N,d⟩=some (.ret,e')∧ab e'.env 4=.bool true∧e'.mem.take 1=N.take 1:=by
  clear YK;by_cases hu:u=[]
  ·subst hu
   simp[-getElem?_pos,-AV.kS,-AV.known,-AV.cells,-bk,-List.all_eq_true,mS,-lD,ba,f4,fy,l5,l6,l16,l17,l19,Y5,ht0,F',hpl,I',T',Yh,wl]
  ·have e2:=e1 hu
   obtain⟨x,y,rfl⟩:=List.exists_cons_of_ne_nil hu;clear hu e1;simp[-getElem?_pos,-AV.kS,-AV.known,-AV.cells,-bk,-List.all_eq_true,mS,-lD,ba,f4,fy,l5,l6,l16,l17,l18,l19,Y5,ht0,F',hpl,I',T',Yh,wl,e2]
 obtain⟨⟨e1,e2,e3⟩,k1,k2,k3⟩:=h;exact⟨(e1,e2,e3),k1,k2,k3⟩
section
variable (hm:1≤N.length)(cp:pv.kS=true)(ct:tv.kS=true)(ce:ev.kS=true)(hh:∀Z,(N++Z)[bh]? =some (.cells true 0 [pv,tv,.str ar,ev]))
include hm cp ct ce hh
section
variable (ht:∀Z,(N++Z)[bt]? =some (.cells true 0 [.str u,X6,.int .i64 e,.str (aw q.1),.str (aw q.2.1),.str (aw q.2.2)]))(F':∀N,lD (aM prog) 38 N ev=some (.int .i64 n))(hn:n≤1000)
include ht F' hn
theorem Ro(h0:n≠0)(he:e≠(n:Int)-1)(hT:∀env:Env,(ab env 5=.ptr bh 0∧ab env 6=.ptr bv 0∧ab env 16=.ptr bt 0∧ab env 20=.int .i64 ((n:Int)-1))→cj O mZ (N) env):
  ∀env:Env,(ab env 5=.ptr bh 0∧ab env 6=.ptr bv 0∧ab env 16=.ptr bt 0)→cj O kH N env:=by
 rintro env ⟨l5,l6,l16⟩ d;have wl:IntKind.i64.wrap ((n:Int)-1)=(n:Int)-1:=al (by omega) (by omega);have hl:¬(n:Int)-1<0:=by omega
 have Yj:∀j,(N.length+j<1)=False:=fun j=>by rw[eq_iff_iff,iff_false];omega
 have YJ:(N.length<1)=False:=by rw[eq_iff_iff,iff_false];omega
 have tk:∀Z:Mem,(N++Z).take 1=N.take 1:=fun Z=>List.take_append_of_le_length (by omega)
 have Y5:=hh [];rw[List.append_nil] at Y5;have ht0:=ht [];rw[List.append_nil] at ht0;rw[Jb];obtain⟨F,hF⟩:=jq (β:=Env×Mem×Bool) (fun env d h=>hT env h d);have I':=fun env d h=>(hF env d h).1
 have T':=fun env d h=>(hF env d h).2.1
 have Yh:=fun env d h=>(hF env d h).2.2
 clear hF hT;obtain⟨T,YK⟩:∃T,T=mZ:=⟨_,rfl⟩
 rw[←YK];simp only[←YK] at I';have h:∃e',aN (aM prog) KF O 6 189 1 true (.seq (fy 7 ba) (.seq (fy 8 ba) T)) ⟨env,N,d⟩=some (.ret,e')∧ab e'.env 4=.bool true∧e'.mem.take 1=N.take 1:=by clear YK;simp[-getElem?_pos,-AV.kS,-AV.known,-AV.cells,-bk,-List.all_eq_true,mS,-lD,ba,f4,fy,l5,l6,l16,Y5,ht0,F',wl,hl,he,I',T',Yh]
 obtain⟨⟨e1,e2,e3⟩,k1,k2,k3⟩:=h;exact⟨(e1,e2,e3),k1,k2,k3⟩
theorem O8(h0:n=0∨e=(n:Int)-1):
  ∀env:Env,(ab env 5=.ptr bh 0∧ab env 6=.ptr bv 0∧ab env 16=.ptr bt 0)→cj O kH N env:=by
 rintro env ⟨l5,l6,l16⟩ d;have wl:IntKind.i64.wrap ((n:Int)-1)=(n:Int)-1:=al (by omega) (by omega);have Yj:∀j,(N.length+j<1)=False:=fun j=>by rw[eq_iff_iff,iff_false];omega
 have YJ:(N.length<1)=False:=by rw[eq_iff_iff,iff_false];omega
 have tk:∀Z:Mem,(N++Z).take 1=N.take 1:=fun Z=>List.take_append_of_le_length (by omega)
 have Y5:=hh [];rw[List.append_nil] at Y5;have ht0:=ht [];rw[List.append_nil] at ht0;rw[Jb];have h:∃e',aN (aM prog) KF O 6 189 1 true (.seq (fy 7 ba) (.seq (fy 8 ba) mZ)) ⟨env,N,d⟩=some (.ret,e')∧ab e'.env 4=.bool true∧e'.mem.take 1=N.take 1:=by
  by_cases hl:(n:Int)-1<0
  ·simp[-getElem?_pos,-AV.kS,-AV.known,-AV.cells,-bk,-List.all_eq_true,mS,-lD,ba,f4,fy,l5,Y5,F',wl,hl]
  ·have he:e=(n:Int)-1:=by rcases h0 with h | h;omega;exact h
   simp[-getElem?_pos,-AV.kS,-AV.known,-AV.cells,-bk,-List.all_eq_true,mS,-lD,ba,f4,fy,l5,l16,Y5,ht0,F',wl,hl,he]
 obtain⟨⟨e1,e2,e3⟩,k1,k2,k3⟩:=h;exact⟨(e1,e2,e3),k1,k2,k3⟩
end
theorem Rp(hv:∀Z,(N++Z)[bv]? =some (.cells true 0 (vL v)))(e1:O (.fn 12) [.agg [pv,tv,.str ar,ev],vA v,.int .i64 l] N=some ⟨.tuple [vA w,.int .i64 0],none,[]⟩)(hT:∀env:Env,(ab env 5=.ptr bh 0∧ab env 16=.ptr bt 0∧ab env 20=.int .i64 l∧ab env 21=.ptr N.length 0∧ab env 22=.int .i64 0)→cj O pZ (N++[.cells true 0 (vL w)]) env):
  ∀env:Env,(ab env 5=.ptr bh 0∧ab env 6=.ptr bv 0∧ab env 16=.ptr bt 0∧ab env 20=.int .i64 l)→cj O mZ N env:=by
 rintro env ⟨l5,l6,l16,l20⟩ d;have Yj:∀j,(N.length+j<1)=False:=fun j=>by rw[eq_iff_iff,iff_false];omega
 have YJ:(N.length<1)=False:=by rw[eq_iff_iff,iff_false];omega
 have tk:∀Z:Mem,(N++Z).take 1=N.take 1:=fun Z=>List.take_append_of_le_length (by omega)
 have Y5:=hh [];rw[List.append_nil] at Y5;have ZJ:=hv [];rw[List.append_nil] at ZJ;rw[Ri];obtain⟨F,hF⟩:=jq (β:=Env×Mem×Bool) (fun env d h=>hT env h d);have I':=fun env d h=>(hF env d h).1
 have T':=fun env d h=>(hF env d h).2.1
 have Yh:=fun env d h=>(hF env d h).2.2
 clear hF hT;obtain⟨T,YK⟩:∃T,T=pZ:=⟨_,rfl⟩
 rw[←YK];simp only[←YK] at I';simp only[tk] at Yh;unfold vA at e1;simp only[vL] at hv ZJ I' T' Yh;have h:∃e',aN (aM prog) KF O 6 189 1 true (.seq (fy 9 ba) T) ⟨env,N,d⟩=some (.ret,e')∧ab e'.env 4=.bool true∧e'.mem.take 1=N.take 1:=by clear YK;simp[-getElem?_pos,-AV.kS,-AV.known,-AV.cells,-bk,-List.all_eq_true,vS,mS,-lD,ba,f4,fy,l5,l6,l16,l20,Y5,ZJ,e1,I',T',Yh]
 obtain⟨⟨e1,e2,e3⟩,k1,k2,k3⟩:=h;exact⟨(e1,e2,e3),k1,k2,k3⟩
end
theorem Rq{new:Mem}(hm:1≤N.length)(cp:pv.kS=true)(ct:tv.kS=true)(ce:ev.kS=true)(hh:∀Z,(N++Z)[bh]? =some (.cells true 0 [pv,tv,.str ar,ev]))(k1:pv1.kS=true∧tv1.kS=true∧ev1.kS=true)(k2:pv1.known=true∧tv1.known=true∧ev1.known=true)(k3:pv1.cells=[pv1]∧tv1.cells=[tv1]∧ev1.cells=[ev1])(e1:O (.fn 19) [.agg [pv,tv,.str ar,ev],.int .i64 l] N=some ⟨.tuple [.agg [pv1,tv1,.str ar,ev1],.int .i64 0],none,new⟩)(hT:∀env:Env,(ab env 16=.ptr bt 0∧ab env 21=.ptr bw 0∧ab env 22=.int .i64 0∧ab env 23=.ptr (N.length+new.length) 0∧ab env 24=.int .i64 0)→cj O p9 (N++(new++[.cells true 0 [pv1,tv1,.str ar,ev1]])) env):
  ∀env:Env,(ab env 5=.ptr bh 0∧ab env 16=.ptr bt 0∧ab env 20=.int .i64 l∧ab env 21=.ptr bw 0∧ab env 22=.int .i64 0)→cj O pZ N env:=by
 rintro env ⟨l5,l16,l20,l21,l22⟩ d;obtain⟨a1,a2,a3⟩:=k1;obtain⟨b1,b2,b3⟩:=k2;obtain⟨c1,c2,c3⟩:=k3;have Yj:∀j,(N.length+j<1)=False:=fun j=>by rw[eq_iff_iff,iff_false];omega
 have YJ:(N.length<1)=False:=by rw[eq_iff_iff,iff_false];omega
 have tk:∀Z:Mem,(N++Z).take 1=N.take 1:=fun Z=>List.take_append_of_le_length (by omega)
 have Y5:=hh [];rw[List.append_nil] at Y5;rw[Rj];obtain⟨F,hF⟩:=jq (β:=Env×Mem×Bool) (fun env d h=>hT env h d);have I':=fun env d h=>(hF env d h).1
 have T':=fun env d h=>(hF env d h).2.1
 have Yh:=fun env d h=>(hF env d h).2.2
 clear hF hT;obtain⟨T,YK⟩:∃T,T=p9:=⟨_,rfl⟩
 rw[←YK];simp only[←YK] at I';simp only[tk] at Yh;have h:∃e',aN (aM prog) KF O 6 189 1 true (.seq (fy 10 ba) T) ⟨env,N,d⟩=some (.ret,e')∧ab e'.env 4=.bool true∧e'.mem.take 1=N.take 1:=by clear YK;simp[-getElem?_pos,-AV.kS,-AV.known,-AV.cells,-bk,-List.all_eq_true,vS,mS,-lD,ba,f4,fy,l5,l16,l20,l21,l22,Y5,e1,a1,a2,a3,I',T',Yh]
 obtain⟨⟨e1,e2,e3⟩,k1,k2,k3⟩:=h;exact⟨(e1,e2,e3),k1,k2,k3⟩
theorem Rr{bb:Nat}(hm:1≤N.length)(ht:∀Z,(N++Z)[bt]? =some (.cells true 0 [.str u,X6,.int .i64 e,.str (aw q.1),.str (aw q.2.1),.str (aw q.2.2)]))(hb:∀Z,(N++Z)[bb]? =some (.cells true 0 [pv1,tv1,.str ar,ev1]))(hw:∀Z,(N++Z)[bw]? =some (.cells true 0 (vL w)))(kp:X6.kS=true∧X6.known=true∧X6.cells=[X6])(k1:pv1.kS=true∧tv1.kS=true∧ev1.kS=true)(e1:O (.fn 10) [.agg [pv1,tv1,.str ar,ev1],vA w] N=some ⟨.tuple [.str u,.int .i64 0],none,[]⟩):
  ∀env:Env,(ab env 16=.ptr bt 0∧ab env 21=.ptr bw 0∧ab env 22=.int .i64 0∧ab env 23=.ptr bb 0∧ab env 24=.int .i64 0)→cj O p9 N env:=by
 rintro env ⟨l16,l21,l22,l23,l24⟩ d;obtain⟨a1,a2,a3⟩:=k1;obtain⟨p1,p2,p3⟩:=kp;have XY:=hb [];have hw0:=hw [];rw[List.append_nil] at XY hw0;have Yj:∀j,(N.length+j<1)=False:=fun j=>by rw[eq_iff_iff,iff_false];omega
 have YJ:(N.length<1)=False:=by rw[eq_iff_iff,iff_false];omega
 have tk:∀Z:Mem,(N++Z).take 1=N.take 1:=fun Z=>List.take_append_of_le_length (by omega)
 have ht0:=ht [];rw[List.append_nil] at ht0;rw[Rk];unfold vA at e1;simp only[vL] at hw hw0;have h:∃e',aN (aM prog) KF O 6 189 1 true (.seq (fy 11 ba) (.seq (fy 12 ba) .ret)) ⟨env,N,d⟩=some (.ret,e')∧ab e'.env 4=.bool true∧e'.mem.take 1=N.take 1:=by simp[-getElem?_pos,-AV.kS,-AV.known,-AV.cells,-bk,-List.all_eq_true,mS,-lD,ba,f4,fy,l16,l21,l22,l23,l24,ht0,XY,hw0,e1]
 obtain⟨⟨e1,e2,e3⟩,k1,k2,k3⟩:=h;exact⟨(e1,e2,e3),k1,k2,k3⟩
end
end Go.Proofs
namespace Go.Proofs
open Go.Eng
open Tryz
variable{b:Code}{env:Env}
section
variable {O:adM}{N:Mem}{pv tv ev:AV}{n i bh bv:Nat}{v a c:V3}
section
variable (hb:ai f4=[b])
include hb
theorem EK(cp:pv.kS=true)(ct:tv.kS=true)(ce:ev.kS=true)(hi:i≤n)(hn:n≤1000)(hh:∀Z,(N++Z)[bh]? =some (.cells true 0 [pv,tv,.str ar,ev]))(hv:∀Z,(N++Z)[bv]? =some (.cells true 0 (vL v)))(e1:∀Y,O (.fn 12) [.agg [pv,tv,.str ar,ev],vA v,.int .i64 i] (N++Y)=some ⟨.tuple [vA a,.int .i64 0],none,[]⟩)(e2:∀Y,O (.fn 13) [.agg [pv,tv,.str ar,ev],vA a,.int .i64 i] (N++Y)=some ⟨.tuple [vA v,.int .i64 0],none,[]⟩)(e3:∀Y,O (.fn 13) [.agg [pv,tv,.str ar,ev],vA v,.int .i64 i] (N++Y)=some ⟨.tuple [vA c,.int .i64 0],none,[]⟩)(e4:∀Y,O (.fn 12) [.agg [pv,tv,.str ar,ev],vA c,.int .i64 i] (N++Y)=some ⟨.tuple [vA v,.int .i64 0],none,[]⟩)(l5:ab env 5=.ptr bh 0)(l6:ab env 6=.ptr bv 0)(l43:ab env 43=.int .i64 ((n+1:Nat):Int))(l44:ab env 44=.int .i64 (i:Int))(d:Bool):
  ∃s',aN (aM prog) KF O 6 189 1 true b ⟨env,N,d⟩=some (.normal,s')∧ab s'.env 44=.int .i64 ((i+1:Nat):Int)∧s'.mem=N++[.cells true 0 (vL a),.cells true 0 (vL v),.cells true 0 (vL c),.cells true 0 (vL v)]:=by
 simp[ai,aK,f4] at hb;subst hb;have Y5:=hh [];have ZJ:=hv [];have f1:=e1 [];have f2:=e2 [];have f3:=e3 [];have f4:=e4 [];rw[List.append_nil] at Y5 ZJ f1 f2 f3 f4;have eV:∀a b c,lz (aM prog) 20 31 (.agg [.str a,.str b,.str c]) (.agg [.str a,.str b,.str c])=some true:=fun a b c=>kh (d:=18) a b c
 have wi:IntKind.i64.wrap ((i:Int)+1)=((i+1:Nat):Int):=by rw[al (by omega) (by omega)];omega
 have A':(i:Int)<((n+1:Nat):Int):=by omega
 obtain⟨m1,YY⟩:∃m1,m1=i+1:=⟨_,rfl⟩
 obtain⟨k1,Zn⟩:∃m1,m1=n+1:=⟨_,rfl⟩
 rw[←YY] at wi ⊢;rw[←Zn] at A' l43;have X5 :i<k1:=by omega
 unfold vA at e1 e2 e3 e4 f1 f2 f3 f4;simp only[vL] at hv ZJ ⊢;simp[-getElem?_pos,-AV.kS,-AV.known,-AV.cells,-bk,-List.all_eq_true,vS,mS,-lD,hh,hv,Y5,ZJ,e2,e3,e4,f1,eV,wi,A',l5,l6,l43,l44]
theorem Jc(l43:ab env 43=.int .i64 ((n+1:Nat):Int))(l44:ab env 44=.int .i64 ((n+1:Nat):Int))(d:Bool):
  ∃AC,aN (aM prog) KF O 6 189 1 true b ⟨env,N,d⟩=some (.exit 0,⟨AC,N,d⟩)∧ab AC 5=ab env 5∧ab AC 6=ab env 6:=by
 simp[ai,aK,f4] at hb;subst hb;obtain⟨k1,Zn⟩:∃m1,m1=n+1:=⟨_,rfl⟩
 rw[←Zn] at l43 l44;simp[l43,l44]
theorem xg(z' env:Env):ab (aD [44,44,44] (aa b) z' env) 44=ab env 44∧ab (aD [44,44,44] (aa b) z' env) 5=ab z' 5∧ab (aD [44,44,44] (aa b) z' env) 6=ab z' 6∧ab (aD [44,44,44] (aa b) z' env) 43=ab z' 43:=by simp[ai,aK,f4] at hb;subst hb;simp[aD]
end
end
def rtZ(va vc:Nat→V3) (v:V3):Nat→Mem
 |0=>[]
 |i+1=>rtZ va vc v i++[.cells true 0 (vL (va i)),.cells true 0 (vL v),.cells true 0 (vL (vc i)),.cells true 0 (vL v)]
section
variable {O:adM}{M:Mem}{pv tv ev:AV}{n bh bv:Nat}{v:V3}{va vc:Nat→V3}
theorem xf{b:Code}(hb:ai f4=[b]) (cp:pv.kS=true) (ct:tv.kS=true) (ce:ev.kS=true) (hn:n≤1000)
  (hh:∀Z,(M++Z)[bh]? =some (.cells true 0 [pv,tv,.str ar,ev])) (hv:∀Z,(M++Z)[bv]? =some (.cells true 0 (vL v)))
  (e1:∀i,i≤n→∀Y,O (.fn 12) [.agg [pv,tv,.str ar,ev],vA v,.int .i64 (i:Int)] (M++Y)=some ⟨.tuple [vA (va i),.int .i64 0],none,[]⟩)
  (e2:∀i,i≤n→∀Y,O (.fn 13) [.agg [pv,tv,.str ar,ev],vA (va i),.int .i64 (i:Int)] (M++Y)=some ⟨.tuple [vA v,.int .i64 0],none,[]⟩)
  (e3:∀i,i≤n→∀Y,O (.fn 13) [.agg [pv,tv,.str ar,ev],vA v,.int .i64 (i:Int)] (M++Y)=some ⟨.tuple [vA (vc i),.int .i64 0],none,[]⟩)
  (e4:∀i,i≤n→∀Y,O (.fn 12) [.agg [pv,tv,.str ar,ev],vA (vc i),.int .i64 (i:Int)] (M++Y)=some ⟨.tuple [vA v,.int .i64 0],none,[]⟩)
  {z':Env}(l5:ab z' 5=.ptr bh 0) (l6:ab z' 6=.ptr bv 0) (l43:ab z' 43=.int .i64 ((n+1:Nat):Int)) (m1:Nat):
  ∀(k i K:Nat) (env:Env) (d:Bool),i+k=n+1→k<K→ab env 44=.int .i64 (i:Int)→
   ∃r:Env×Bool,ej [44,44,44] (aa b) z' m1 (aN (aM prog) KF O 6 189 1 true b) K ⟨aD [44,44,44] (aa b) z' env,M++rtZ va vc v i,d⟩=some (.exit 0,⟨r.1,M++rtZ va vc v (n+1),r.2⟩)∧ab r.1 5=.ptr bh 0∧ab r.1 6=.ptr bv 0
 |0,i,K,env,d,hik,hK,h44=>by
  obtain⟨K,rfl⟩:∃k,K=k+1:=⟨K-1,by omega⟩
  obtain rfl:i=n+1:=by omega
  obtain⟨q1,q2,q3,q4⟩:=xg hb z' env;obtain⟨AC,h1,h2,h3⟩:=Jc (O:=O) (N:=M++rtZ va vc v (n+1)) (n:=n) hb (env:=aD [44,44,44] (aa b) z' env) (by rw[q4];exact l43) (by rw[q1];exact h44) d;exact⟨(AC,d),by rw[ej,h1],by rw[h2,q2];exact l5,by rw[h3,q3];exact l6⟩
 |k+1,i,K,env,d,hik,hK,h44=>by
  obtain⟨K,rfl⟩:∃k,K=k+1:=⟨K-1,by omega⟩
  obtain⟨q1,q2,q3,q4⟩:=xg hb z' env;have hi:i≤n:=by omega
  obtain⟨s',h1,h2,h3⟩:=EK (O:=O) (N:=M++rtZ va vc v i) (n:=n) (i:=i) (v:=v) (a:=va i) (c:=vc i) hb cp ct ce hi hn (fun Z=>by rw[List.append_assoc];exact hh _) (fun Z=>by rw[List.append_assoc];exact hv _)
   (fun Y=>by rw[List.append_assoc];exact e1 i hi _) (fun Y=>by rw[List.append_assoc];exact e2 i hi _) (fun Y=>by rw[List.append_assoc];exact e3 i hi _) (fun Y=>by rw[List.append_assoc];exact e4 i hi _)
   (env:=aD [44,44,44] (aa b) z' env) (by rw[q2];exact l5) (by rw[q3];exact l6) (by rw[q4];exact l43) (by rw[q1];exact h44) d
  obtain⟨r,h4,h5⟩:=xf hb cp ct ce hn hh hv e1 e2 e3 e4 l5 l6 l43 m1 k (i+1) K s'.env s'.aeS (by omega) (by omega) h2;refine⟨r,?_,h5⟩;rw[ej,h1];simp only;have hs:iV [44,44,44] (aa b) z' m1 s' =⟨aD [44,44,44] (aa b) z' s'.env,M++rtZ va vc v (i+1),s'.aeS⟩:=by simp[iV,zd,h3,rtZ]
  rw[hs];exact h4
theorem Jd(hm:1≤M.length)(cp:pv.kS=true)(ct:tv.kS=true)(ce:ev.kS=true)(hn:n≤3)(F':∀N,lD (aM prog) 38 N ev=some (.int .i64 n))(hh:∀Z,(M++Z)[bh]? =some (.cells true 0 [pv,tv,.str ar,ev]))(hv:∀Z,(M++Z)[bv]? =some (.cells true 0 (vL v)))(e1:∀i,i≤n→∀Y,O (.fn 12) [.agg [pv,tv,.str ar,ev],vA v,.int .i64 (i:Int)] (M++Y)=some ⟨.tuple [vA (va i),.int .i64 0],none,[]⟩)(e2:∀i,i≤n→∀Y,O (.fn 13) [.agg [pv,tv,.str ar,ev],vA (va i),.int .i64 (i:Int)] (M++Y)=some ⟨.tuple [vA v,.int .i64 0],none,[]⟩)(e3:∀i,i≤n→∀Y,O (.fn 13) [.agg [pv,tv,.str ar,ev],vA v,.int .i64 (i:Int)] (M++Y)=some ⟨.tuple [vA (vc i),.int .i64 0],none,[]⟩)(e4:∀i,i≤n→∀Y,O (.fn 12) [.agg [pv,tv,.str ar,ev],vA (vc i),.int .i64 (i:Int)] (M++Y)=some ⟨.tuple [vA v,.int .i64 0],none,[]⟩)(hT:∀env:Env,(ab env 5=.ptr bh 0∧ab env 6=.ptr bv 0)→cj O pW (M++rtZ va vc v (n+1)) env):
  ∀env:Env,(ab env 5=.ptr bh 0∧ab env 6=.ptr bv 0)→cj O iM M env:=by
 rintro env ⟨l5,l6⟩ d;have tk:∀Z:Mem,(M++Z).take 1=M.take 1:=fun Z=>List.take_append_of_le_length (by omega)
 have Y5:=hh [];rw[List.append_nil] at Y5;rw[Re];obtain⟨b,hb⟩:∃b,ai f4=[b]:=⟨_,rfl⟩
 have hit:∀(env:Env) (d:Bool),(ab env 5=.ptr bh 0∧ab env 6=.ptr bv 0∧ab env 43=.int .i64 ((n+1:Nat):Int)∧ab env 44=.int .i64 ((0:Nat):Int))→∃r:Env×Bool,aN (aM prog) KF O 6 189 1 true (.loop b) ⟨env,M,d⟩=some (.exit 0,⟨r.1,M++rtZ va vc v (n+1),r.2⟩)∧ab r.1 5=.ptr bh 0∧ab r.1 6=.ptr bv 0:=by rintro env d ⟨h5,h6,h43,h44⟩;have:=xf hb cp ct ce (by omega) hh hv e1 e2 e3 e4 h5 h6 h43 M.length (n+1) 0 6 env d (by omega) (by omega) h44;rw[aI];simpa [rtZ,KF] using this
 obtain⟨G,hG⟩:=jq (β:=Env×Bool) hit;have hG1:=fun env d h=>(hG env d h).1
 have hG2:=fun env d h=>(hG env d h).2.1
 have hG3:=fun env d h=>(hG env d h).2.2
 clear hG hit;obtain⟨F,hF⟩:=jq (β:=Env×Mem×Bool) (fun env d h=>hT env h d);have I':=fun env d h=>(hF env d h).1
 have T':=fun env d h=>(hF env d h).2.1
 have Yh:=fun env d h=>(hF env d h).2.2
 clear hF hT;obtain⟨T,YK⟩:∃T,T=pW:=⟨_,rfl⟩
 rw[←YK];simp only[←YK] at I';simp only[tk] at Yh;have wl:IntKind.i64.wrap ((n:Int)+1)=((n+1:Nat):Int):=by rw[al (by omega) (by omega)];omega
 simp[ai,aK,f4] at hb;subst hb;obtain⟨k1,Zn⟩:∃m1,m1=n+1:=⟨_,rfl⟩
 rw[←Zn] at I' wl;simp only[←Zn] at hG1 hG2 hG3;have h:∃e',aN (aM prog) KF O 6 189 1 true (.seq (fy 3 ba) T) ⟨env,M,d⟩=some (.ret,e')∧ab e'.env 4=.bool true∧e'.mem.take 1=M.take 1:=by clear YK;simp[-getElem?_pos,-AV.kS,-AV.known,-AV.cells,-bk,-List.all_eq_true,mS,-lD,ba,f4,fy,Y5,l5,l6,F',wl,hG1,hG2,hG3,I',T',Yh]
 obtain⟨⟨e1,e2,e3⟩,k1,k2,k3⟩:=h;exact⟨(e1,e2,e3),k1,k2,k3⟩
end
end Go.Proofs
