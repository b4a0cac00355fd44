/- See F54. -/
import Derived.Test.YtgafjliihahjgaaGreatDoorF50
set_option linter.all false
set_option maxRecDepth 100000
set_option maxHeartbeats 40000000
namespace Go.Proofs
open Go.Eng
open Tryz
def lfM(M:Mem)(h T4:aeY)(v:V3)(A:List AV)(Z:Mem):Mem:=M++(h::.cells true 0 (vL v)::T4::.cells true 0 A::Z)
def lfT(u:List UInt8)(w:AV)(e:Int)(q:V3):List AV:=[.str u,w,.int .i64 e,.str (ak q.1),.str (ak q.2.1),.str (ak q.2.2)]
def agG(M Z:Mem)(w:AV)(L:List AV)(A:Mem):Prop:=(w=.y9∧L=[]∧A=Z)∨∃i,w=.slice (M.length+(i+4)) 0 L.length none∧Z[i]? =some (.cells true 1 L)∧A=Z.set i .aeP∧0<L.length
section
variable {O:aeT}{M Z Z1:Mem}{pv tv w:AV}{nm u0:List UInt8}{v q q1:V3}{T4:aeY}{ev L C Tl:List AV}{n:Int}{j bq nn:Nat}{oq:Bool}
theorem KK{b:Code}(A:ai f22=[b]){o:Option (List UInt8)}(hT:T4=.cells true 0 Tl)(G:Tl.length=6)(H:agG M Z w L Z1)(I:L.length≤1000)(R:pv.aeS=true)(ct:tv.aeS=true)(hj:j<nn)(hn:nn≤1000)(hq:∀X,(M++X)[bq]? =some (.cells oq 32 C))(hC:nn*32≤C.length)(he:(C.drop (j*32)).take 32=ev)(g0:ev.all AV.aeS=true)(l0:ev.length=32)(eN:∀X,X.length=Z.length+5→O (.fn 40) [.agg [pv,tv],.agg ev,vA q] (M++X)=some ⟨.tuple [.int .i64 n,.int .i64 0],none,[]⟩)(eE:∀X,X.length=Z.length+7→O (.fn 41) [.agg [pv,tv],.agg ev,.int .i64 n] (M++X)=some ⟨.tuple [.str (o.getD []),.bool o.isSome,.int .i64 0],none,[]⟩)(eU:∀X,X.length=Z.length+7→O (.fn 20) [.agg [pv,tv],.agg ev,vA q] (M++X)=some ⟨.tuple [vA q1,.int .i64 0],none,[]⟩){env:Env}(l2:ad env 2=.ptr M.length 0)(l4:ad env 4=.ptr (M.length+2) 0)(l6:ad env 6=.ptr (M.length+3) 0)(l7:ad env 7=.int .i64 (j:Int))(m0:Nat)(d:Bool):
  ∃W,aM (aN prog) (fun _=>[7,7,7]) O 6 80 m0 true b ⟨env,lfM M (.cells true 0 [pv,tv,.str nm,.slice bq 0 nn none]) T4 v (lfT u0 w (-1) q) Z,d⟩=some (if o.isSome then .ret else .normal,W)∧(o.isSome=true→ad W.env 5=.bool true∧ad W.env 4=.ptr (M.length+2) 0)∧(o.isSome=false→ad W.env 7=.int .i64 ((j:Int)-1))∧
   W.mem=lfM M (.cells true 0 [pv,tv,.str nm,.slice bq 0 nn none]) (if o.isSome then .cells true 0 (lfT (o.getD []) (.slice (M.length+(Z.length+6)) 0 (L.length+1) none) j q) else T4) v (if o.isSome then lfT (o.getD []) (.slice (M.length+(Z.length+6)) 0 (L.length+1) none) j q else lfT u0 (.slice (M.length+(Z.length+6)) 0 (L.length+1) none) (-1) q1) (Z1++[.cells true 0 ev,.cells true 1 [.int .i64 n],.cells true 1 (L++[.int .i64 n])]):=by
 simp[ai,aG,f22] at A;subst A;subst hT;have d6:List.drop 6 Tl=[]:=List.drop_eq_nil_of_le (by omega);have t0:ev.take 32=ev:=List.take_of_length_le (by omega);have S:j*32+32≤C.length:=by omega
 have w1:IntKind.i64.wrap ((j:Int)-1)=(j:Int)-1:=aq;have F:(L.length+1)*8≤140737488355328:=by omega
 have D:L.length+1≤140737488355328:=by omega
 unfold vA at*;unfold lfM lfT;simp only[vL];have K:∀i,Z[i]? =some (.cells true 1 L)→(∀Y:Mem,(Z++Y)[i]? =some (.cells true 1 L))∧∀Y:Mem,(Z++Y).set i .aeP=Z.set i .aeP++Y:=fun i V=>by have J:=gL V;exact⟨fun Y=>gU V _,fun Y=>List.set_append_left _ _ J⟩
 rcases H with⟨rfl,rfl,rfl⟩ | ⟨i,rfl,V,rfl,_⟩
 rotate_left
 obtain⟨B,z⟩:=K i V;have u:∀Y:Mem,(Z.set i .aeP++Y)[Z.length]? =Y[0]? :=fun Y=>by have:=jU (Z.set i .aeP) Y;rwa [List.length_set] at this
 all_goals cases o<;>simp[-getElem?_pos,-AV.aeS,-AV.known,-AV.cells,-bL,-List.all_eq_true,vS,mS, *,Nat.add_assoc]
end
variable{L:List AV}{Z Z1:Mem}{w:AV}
theorem UG{M:Mem}(h:agG M Z w L Z1)(A:List AV)(n:Int):Z1.length=Z.length∧∃W,agG M (Z1++[.cells true 0 A,.cells true 1 [.int .i64 n],.cells true 1 (L++[.int .i64 n])]) (.slice (M.length+(Z.length+6)) 0 (L.length+1) none) (L++[.int .i64 n]) W:=by
 have X:Z1.length=Z.length:=by
  rcases h with⟨_,_,rfl⟩ | ⟨i,_,_,rfl,_⟩
  ·rfl
  ·exact List.length_set
 refine⟨X,_,.inr ⟨Z.length+2,?_,?_,rfl,by simp⟩⟩
 ·rw[List.length_append];rfl
 ·rw[←X,fV];rfl
theorem agG.row{M:Mem}(h:agG M Z w L Z1){a:Mem}(A:a.length=4):afb (M++(a++Z)) w 1 L.length L:=by
 rcases h with⟨W,X,_⟩ | ⟨i,W,X,_,V⟩
 ·exact .inl ⟨W,by rw[X];rfl,X⟩
 ·refine .inr ⟨_,true,W,V,?_⟩
  rw[List.getElem?_append_right (by omega),Nat.add_sub_cancel_left,List.getElem?_append_right (by omega),A,Nat.add_sub_cancel];exact X
def Ab(g:Nat):Go.Eng.Callee:=.fn (if g=0 then 40 else if g=1 then 41 else 20)
noncomputable def lfA(s:aeX)(pv tv:AV)(g:Nat)(x:EvD×List AV)(q:V3):List AV:=if g=1 then [.agg [pv,tv],.agg x.2,.int .i64 (nuE s x.1 q)] else [.agg [pv,tv],.agg x.2,vA q]
noncomputable def lfR(s:aeX)(g:Nat)(x:EvD×List AV)(q:V3):aeQ:=if g=0 then⟨.tuple [.int .i64 (nuE s x.1 q),.int .i64 0],none,[]⟩ else if g=1 then⟨RG (GL x.1 (nuE s x.1 q)),none,[]⟩ else⟨.tuple [vA (x.1.mv true q),.int .i64 0],none,[]⟩
theorem X6(o:Option (List UInt8)):RG o=.tuple [.str (o.getD []),.bool o.isSome,.int .i64 0]:=by cases o<;>rfl
variable{b:Code}
section
variable {s:aeX}{O:aeT}{M:Mem}{pv tv:AV}{nm:List UInt8}{v:V3}{T4:aeY}{Tl C:List AV}{bq n:Nat}{oq:Bool}{xs:List (EvD×List AV)}
theorem qG(G:ai f22=[b])(A env:Env):ad (aD [7,7,7] (ab b) A env) 7=ad env 7∧ad (aD [7,7,7] (ab b) A env) 2=ad A 2∧ad (aD [7,7,7] (ab b) A env) 4=ad A 4∧ad (aD [7,7,7] (ab b) A env) 6=ad A 6:=by simp[ai,aG,f22] at G;subst G;simp[aD]
theorem NZ(A:ai f22=[b]){N:Mem}{env:Env}(G:ad env 7=.int .i64 (-1))(m0:Nat)(d:Bool):
  ∃X,aM (aN prog) (fun _=>[7,7,7]) O 6 80 m0 true b ⟨env,N,d⟩=some (.exit 0,⟨X,N,d⟩)∧ad X 4=ad env 4∧ad X 6=ad env 6:=by
 simp[ai,aG,f22] at A;subst A;simp[G]
theorem ye{b:Code}(G:ai f22=[b])(hT:T4=.cells true 0 Tl)(I:Tl.length=6)(cp:pv.aeS=true)(ct:tv.aeS=true)(hxn:xs.length=n)(hn3:n≤3)
  (hq:M[bq]? =some (.cells oq 32 C)) (hC:C.length=n*32) (hx:∀(j:Nat) x,xs[j]? =some x→((C.drop (j*32)).take 32=x.2∧x.2.all AV.aeS=true∧x.2.length=32)∧x.1.Ok s)
  (hO:∀(g r j:Nat) x q X,g≤2→j+r+1=n→xs[j]? =some x→plK r q→X.length=3*r+(if g=0 then 5 else 7)→O (Ab g) (lfA s pv tv g x q) (M++X)=some (lfR s g x q)):
  ∀(k:Nat) (q:V3) (w:AV) (L:List AV) (Z Z1:Mem),k≤n→plK (n-k) q→agG M Z w L Z1→L.length+k=n→Z.length=3*L.length→
   ∃(g:Bool) (H:AV) (Z' :Mem),(∃Z2,agG M Z' H (L++(jf s ((xs.take k).reverse.map Prod.fst) q).l.map fun n=>.int .i64 n) Z2)∧(H=.y9→w=.y9)∧
    ∀(A:Env) (m1 m0:Nat) (env:Env) (d:Bool) (K:Nat),(ad A 2=.ptr M.length 0∧ad A 4=.ptr (M.length+2) 0∧ad A 6=.ptr (M.length+3) 0)→k<K→ad env 7=.int .i64 ((k:Int)-1)→
     ∃r:Env×Bool,er [7,7,7] (ab b) A m1 (aM (aN prog) (fun _=>[7,7,7]) O 6 80 m0 true b) K ⟨aD [7,7,7] (ab b) A env,lfM M (.cells true 0 [pv,tv,.str nm,.slice bq 0 n none]) T4 v (lfT bk w (-1) q) Z,d⟩=
      some (if g then .ret else .exit 0,⟨r.1,lfM M (.cells true 0 [pv,tv,.str nm,.slice bq 0 n none]) (if g then .cells true 0 (lfT (jf s ((xs.take k).reverse.map Prod.fst) q).u H (jf s ((xs.take k).reverse.map Prod.fst) q).e (jf s ((xs.take k).reverse.map Prod.fst) q).q) else T4) v (lfT (jf s ((xs.take k).reverse.map Prod.fst) q).u H (jf s ((xs.take k).reverse.map Prod.fst) q).e (jf s ((xs.take k).reverse.map Prod.fst) q).q) Z',r.2⟩)∧
       (g=true→ad r.1 5=.bool true∧ad r.1 4=.ptr (M.length+2) 0)∧(g=false→ad r.1 4=ad A 4∧ad r.1 6=ad A 6)
 |0,q,w,L,Z,Z1,hk,hpl,hp,hL,hZ=>by
  refine⟨false,w,Z,⟨Z1,by show agG M Z w (L++[]) Z1;rw[List.append_nil];exact hp⟩,fun h=>h,fun A m1 m0 env d K hl hK J=>?_⟩;obtain⟨K,rfl⟩:∃k,K=k+1:=⟨K-1,by omega⟩
  obtain⟨F,q2,D,B⟩:=qG G A env;obtain⟨AC,h1,h2,h3⟩:=NZ (O:=O) (N:=lfM M (.cells true 0 [pv,tv,.str nm,.slice bq 0 n none]) T4 v (lfT bk w (-1) q) Z) G (env:=aD [7,7,7] (ab b) A env) (by rw[F];exact J) m0 d;refine⟨(AC,d),?_,fun h=>(by cases h),fun _=>⟨by rw[h2,D],by rw[h3,B]⟩⟩;rw[er,h1];rfl
 |k+1,q,w,L,Z,Z1,hk,hpl,hp,hL,hZ=>by
  obtain⟨x,W⟩:∃x,xs[k]? =some x:=⟨_,List.getElem?_eq_getElem (by omega)⟩
  have ex:(xs.take (k+1)).reverse=x::(xs.take k).reverse:=by rw[List.take_add_one,W];simp
  obtain⟨⟨c1,c2,c3⟩,c4⟩:=hx k x W;have r1:n-(k+1)=L.length:=by omega
  rw[r1] at hpl;have eN:=fun(X:Mem) (S:X.length=Z.length+5)=>hO 0 L.length k x q X (by omega) (by omega) W hpl (by rw[S,hZ];rfl)
  have eE:=fun(X:Mem) (S:X.length=Z.length+7)=>hO 1 L.length k x q X (by omega) (by omega) W hpl (by rw[S,hZ];rfl)
  have eU:=fun(X:Mem) (S:X.length=Z.length+7)=>hO 2 L.length k x q X (by omega) (by omega) W hpl (by rw[S,hZ];rfl)
  have eE' :∀X:Mem,X.length=Z.length+7→O (.fn 41) [.agg [pv,tv],.agg x.2,.int .i64 (nuE s x.1 q)] (M++X)=some ⟨.tuple [.str ((GL x.1 (nuE s x.1 q)).getD []),.bool (GL x.1 (nuE s x.1 q)).isSome,.int .i64 0],none,[]⟩:=fun X S=>by rw[←X6];exact eE X S
  obtain⟨l1,Z2,z⟩:=UG hp x.2 (nuE s x.1 q);have step:=fun(env:Env) m Y R l7 m0 d=>KK (O:=O) (nm:=nm) (v:=v) (u0:=bk) (env:=env) G (o:=GL x.1 (nuE s x.1 q)) hT I hp (by omega) cp ct (show k<n by omega) (by omega) (fun X=>gU hq _) (by omega) c1 c2 c3 eN eE' eU m Y R l7 m0 d
  rw[ex,List.map_cons];cases e:GL x.1 (nuE s x.1 q) with
  |some u=>
   rw[nI e];refine⟨true,.slice (M.length+(Z.length+6)) 0 (L.length+1) none,Z1++[.cells true 0 x.2,.cells true 1 [.int .i64 (nuE s x.1 q)],.cells true 1 (L++[.int .i64 (nuE s x.1 q)])],⟨Z2,z⟩,fun h=>(by cases h),fun A m1 m0 env d K ⟨m,Y,R⟩ hK J=>?_⟩;obtain⟨K,rfl⟩:∃k,K=k+1:=⟨K-1,by omega⟩
   obtain⟨F,q2,D,B⟩:=qG G A env;obtain⟨V,t1,t2,t3,t4⟩:=step (aD [7,7,7] (ab b) A env) (by rw[q2];exact m) (by rw[D];exact Y) (by rw[B];exact R) (by rw[F,J];congr 1;omega) m0 d;rw[e] at t1 t2 t4;refine⟨(V.env,V.ae9),?_,fun _=>t2 rfl,fun h=>(by cases h)⟩;rw[er,t1];simp only[Option.isSome_some,if_true,Option.getD_some] at t4 ⊢;simp only[List.length_map,List.length_reverse,List.length_take];rw[show min k xs.length=k by omega,←t4]
  |none=>
   rw[nH e];have aex:plK (n-k) (x.1.mv true q):=by rw[show n-k=L.length+1 by omega];exact Xz c4 true hpl (by omega)
   obtain⟨g,H,Z',⟨Z3,h1⟩,h2,h3⟩:=ye G hT I cp ct hxn hn3 hq hC hx hO k (x.1.mv true q) _ _ _ _ (by omega) aex z (by rw[List.length_append];simp;omega) (by rw[List.length_append,l1,hZ,List.length_append];simp;omega);refine⟨g,H,Z',⟨Z3,by simpa using h1⟩,fun h=>(by have:=h2 h;cases this),fun A m1 m0 env d K hl hK J=>?_⟩;obtain⟨m,Y,R⟩:=id hl;obtain⟨K,rfl⟩:∃k,K=k+1:=⟨K-1,by omega⟩
   obtain⟨F,q2,D,B⟩:=qG G A env;obtain⟨V,t1,t2,t3,t4⟩:=step (aD [7,7,7] (ab b) A env) (by rw[q2];exact m) (by rw[D];exact Y) (by rw[B];exact R) (by rw[F,J];congr 1;omega) m0 d;rw[e] at t1 t3 t4;obtain⟨r,hr⟩:=h3 A m1 m0 V.env V.ae9 K hl (by omega) (t3 rfl);refine⟨r,?_⟩;rw[er,t1];have hs:ic [7,7,7] (ab b) A m1 V =⟨aD [7,7,7] (ab b) A V.env,V.mem,V.ae9⟩:=by simp[ic,jE]
   simp only[Option.isSome_none,Bool.false_eq_true,if_false] at t4 ⊢;rw[hs,t4];exact hr
end
end Go.Proofs
namespace Go.Proofs
open Go.Eng
open Tryz
section
variable {s:aeX}{p t q:Nat}{evs:List (List AV)}{cs:List Evc}{M:Mem}{ws:List EvD}{v:V3}
theorem Tryz.afK.ahM(H:afK s p t q evs cs M)(R:∀(i:Nat) c w,cs[i]? =some c→ws[i]? =some w→w.Ok s∧w.Fin∧c=w.con c.nm){i:Nat}{I:List AV}{w:EvD}(A:evs[i]? =some I)(G:ws[i]? =some w){r:Nat}(hr:r≤2){v:V3}(Y:plK r v)(g:Nat)(hg:g≤2)(X:Mem):
  jS prog (Ab g) (lfA s (.slice p 0 s.P.length none) (.slice t 0 s.T.length none) g (w,I) v) (M++X) (lfR s g (w,I) v):=by
 have C:=gL A;obtain⟨c,hc⟩:∃c,cs[i]? =some c:=⟨_,List.getElem?_eq_getElem (by rw[←H.len];exact C)⟩
 obtain⟨K,of,B⟩:=R i c w hc G;have Z:=(H.more X).con i I c A hc;have W:=(H.ag1 c (List.mem_of_getElem? hc)).chk;rw[B] at Z W;obtain⟨_,J⟩:=(H.more X).hp;obtain⟨_,F⟩:=(H.more X).ht;have z:∃D,D≤100∧vSm D 344 v:=by
  obtain⟨D,V,S⟩:=Y;have:r=0∨r=1∨r=2:=by omega
  rcases this with rfl | rfl | rfl<;>simp only[dnK] at V<;>exact⟨D,by omega,S.mono (by decide)⟩
 have O:g=0∨g=1∨g=2:=by omega
 rcases O with rfl | rfl | rfl
 ·obtain⟨D,V,S⟩:=z
  exact aI (by simpa [lfA] using MW Z W K of S V J F)
 ·exact aI (by simpa [lfA] using HE Z W K v J F)
 ·exact aI (by have:=H.ahc (fun i c w A G=>⟨(R i c w A G).1,(R i c w A G).2.2⟩) A G true Y (by omega) X;simpa [shB,lfA] using this)
theorem Fa(H:afK s p t q evs cs M)(h3:cs.length≤3)(hwl:ws.length=cs.length)(hw:∀(i:Nat) c w,cs[i]? =some c→ws[i]? =some w→w.Ok s∧w.Fin∧c=w.con c.nm)(hv:plK 0 v):
  ∃Z A,kO prog 22 [.agg (dv s p t q cs.length),vA v] M (.tuple [.agg (lfT (jf s ws.reverse v).u Z (jf s ws.reverse v).e (jf s ws.reverse v).q),.bool true]) (M++A)∧afb (M++A) Z 1 (jf s ws.reverse v).l.length ((jf s ws.reverse v).l.map fun n=>.int .i64 n):=by
 have hG:aK prog 22=some f22:=by kernel_rfl
 obtain⟨D,C⟩:=xE (ws.zip evs);have hl:=H.len;have B:D.length=cs.length:=by rw[C,List.length_zip];omega
 have hxf:D.map Prod.fst=ws:=by rw[C,List.map_fst_zip (by omega)]
 have hxa:∀(j:Nat) x,D[j]? =some x→ws[j]? =some x.1∧evs[j]? =some x.2:=fun j x h=>by rw[C] at h;exact List.getElem?_zip_eq_some.1 h
 obtain⟨n,hn⟩:=xE cs.length;rw[←hn] at h3 B ⊢;obtain⟨b,hb⟩:∃b,ai f22=[b]:=⟨_,rfl⟩
 by_cases h0:n=0
 ·have e:evV q n=.y9:=by unfold evV;rw[if_pos h0]
  have ew:ws=[]:=List.eq_nil_of_length_eq_zero (by omega);rw[ew];subst h0;refine⟨.y9,[.cells true 0 (dv s p t q 0),.cells true 0 (vL v),.cells true 0 (lfT bk .y9 (-1) v),.cells true 0 (lfT bk .y9 (-1) v)],?_,.inl ⟨rfl,rfl,rfl⟩⟩;unfold dv;rw[e];have w1:IntKind.i64.wrap (-1)= -1:=rfl;have X':cB (aN prog) (fun _=>[7,7,7]) (aK prog) bM 6 22 [.agg [.slice p 0 s.P.length none,.slice t 0 s.T.length none,.str bk,.y9],vA v] M=some (.tuple [.agg (lfT bk .y9 (-1) v),.bool true],M++[.cells true 0 [.slice p 0 s.P.length none,.slice t 0 s.T.length none,.str bk,.y9],.cells true 0 (vL v),.cells true 0 (lfT bk .y9 (-1) v),.cells true 0 (lfT bk .y9 (-1) v)]):=by unfold vA vL lfT;simp[-getElem?_pos,-AV.known,-AV.cells,-bL,-List.all_eq_true,vS,mS,bW,aE,cB,hG,f22,aQ,er,w1]
  exact bZ ae (ar _) (al _) (au _) X'
 ·have e:evV q n=.slice q 0 n none:=by unfold evV;rw[if_neg h0]
  obtain⟨oq,hq⟩:=H.hq (by rintro rfl;simp at hl;omega);unfold dv;rw[e];obtain⟨W,S⟩:=xE (AV.slice p 0 s.P.length none);obtain⟨V,K⟩:=xE (AV.slice t 0 s.T.length none);obtain⟨O,hO,hf⟩:=ko (P:=prog) (ι:=Nat×Nat×Nat×(EvD×List AV)×V3×Mem) (fun i=>i.1≤2∧i.2.2.1+i.2.1+1=n∧D[i.2.2.1]? =some i.2.2.2.1∧plK i.2.1 i.2.2.2.2.1∧i.2.2.2.2.2.length=3*i.2.1+(if i.1=0 then 5 else 7)) (fun i=>Ab i.1) (fun i=>lfA s W V i.1 i.2.2.2.1 i.2.2.2.2.1) (fun i=>M++i.2.2.2.2.2) (fun i=>lfR s i.1 i.2.2.2.1 i.2.2.2.2.1)
   (fun i ⟨z,i2,i3,i4,i5⟩=>by obtain⟨a1,F⟩:=hxa _ _ i3;rw[S,K];exact H.ahM hw F a1 (by omega) i4 i.1 z i.2.2.2.2.2)
   (fun i j hi hj hc m hm=>by
    obtain⟨z,i2,i3,i4,i5,i6⟩:=i;obtain⟨j1,j2,j3,j4,j5,j6⟩:=j;obtain⟨a1,F,a3,a4,a5⟩:=hi;obtain⟨b1,b2,b3,b4,b5⟩:=hj;simp only at*;have hg:z=j1:=by
     have Y:z=0∨z=1∨z=2:=by omega
     have g2:j1=0∨j1=1∨j1=2:=by omega
     rcases Y with rfl | rfl | rfl<;>rcases g2 with rfl | rfl | rfl<;>first | rfl | (simp[Ab] at hc)
    subst hg;have hX:=List.append_cancel_left hm;subst hX;obtain rfl:i2=j2:=by omega
    obtain rfl:i3=j3:=by omega
    rw[a3] at b3;obtain rfl:=Option.some.inj b3;unfold lfA at m;unfold lfR;by_cases Y:z=1
    ·rw[if_pos Y,if_pos Y] at m
     simp only[List.cons.injEq,AV.int.injEq,true_and,and_true] at m;subst Y;simp only[m];rfl
    ·rw[if_neg Y,if_neg Y] at m
     simp only[List.cons.injEq,true_and,and_true] at m;rw[YF m])
  rw[←S,←K];have hp0:agG M [] .y9 [] []:=.inl ⟨rfl,rfl,rfl⟩;obtain⟨T4,hT4⟩:=xE (α:=aeY) (.cells true 0 [.str [],.y9,.int .i64 0,.str [],.str [],.str []]);obtain⟨g,Z,Z',⟨Z2,r1⟩,_,r3⟩:=ye (s:=s) (O:=O) (M:=M) (pv:=W) (tv:=V) (nm:=bk) (v:=v) (T4:=T4) (bq:=q) (n:=n) (oq:=oq) (xs:=D) hb hT4 rfl (by rw[S];rfl) (by rw[K];rfl) B h3 hq (by rw[hn];exact H.flat) (fun j x hx=>by
    obtain⟨a1,F⟩:=hxa j x hx;have FS:=gL a1;obtain⟨c,hc⟩:∃c,cs[j]? =some c:=⟨_,List.getElem?_eq_getElem (by omega)⟩
    exact⟨⟨Ep H.l32 F,List.all_eq_true.2 (H.cok x.2 (List.mem_of_getElem? F)),H.l32 x.2 (List.mem_of_getElem? F)⟩,(hw j c x.1 hc a1).1⟩)
   (fun g r j x q X b1 b2 b3 b4 b5=>hf (g,r,j,x,q,X) ⟨b1,b2,b3,b4,b5⟩) n v .y9 [] [] [] (Nat.le_refl n) (by rw[Nat.sub_self];exact hv) hp0 (by simp) rfl
  have hxr:((D.take n).reverse.map Prod.fst)=ws.reverse:=by rw[←B,List.take_length,List.map_reverse,hxf]
  rw[hxr,List.nil_append] at r1;simp only[hxr] at r3;obtain⟨f,hfe⟩:=xE (jf s ws.reverse v);simp only[←hfe] at r1 r3 ⊢;obtain⟨G,J⟩:=jW (β:=Env×Bool) (p:=fun env _=>ad env 2=.ptr M.length 0∧ad env 4=.ptr (M.length+2) 0∧ad env 6=.ptr (M.length+3) 0∧ad env 7=.int .i64 ((n:Int)-1))
   (q:=fun env d r=>aM (aN prog) (fun _=>[7,7,7]) O 6 80 M.length true (.loop b) ⟨env,lfM M (.cells true 0 [W,V,.str bk,.slice q 0 n none]) T4 v (lfT bk .y9 (-1) v) [],d⟩=some (if g then .ret else .exit 0,⟨r.1,lfM M (.cells true 0 [W,V,.str bk,.slice q 0 n none]) (if g then .cells true 0 (lfT f.u Z f.e f.q) else T4) v (lfT f.u Z f.e f.q) Z',r.2⟩)∧(g=true→ad r.1 5=.bool true∧ad r.1 4=.ptr (M.length+2) 0)∧(g=false→ad r.1 4=ad env 4∧ad r.1 6=ad env 6))
   (fun env d ⟨F,a4,a6,a7⟩=>r3 env (lfM M (.cells true 0 [W,V,.str bk,.slice q 0 n none]) T4 v (lfT bk .y9 (-1) v) []).length M.length env d 6 ⟨F,a4,a6⟩ (by omega) a7)
  have I:=fun env d h=>(J env d h).1
  have Z5:=fun env d h=>(J env d h).2.1
  have R:=fun env d h=>(J env d h).2.2
  clear J r3 hf;have w1:IntKind.i64.wrap (-1)= -1:=rfl;have w2:IntKind.i64.wrap ((n:Int)-1)=(n:Int)-1:=aq;have kp:Z.aeS=true∧Z.known=true∧Z.cells=[Z]:=by rcases r1 with⟨rfl,_⟩ | ⟨i,rfl,_⟩<;>exact⟨rfl,rfl,rfl⟩
  obtain⟨p1,p2,p3⟩:=kp;have cpv:W.aeS=true:=by rw[S];rfl
  have ctv:V.aeS=true:=by rw[K];rfl
  have X':cB (aN prog) (fun _=>[7,7,7]) (aK prog) O 6 22 [.agg [W,V,.str bk,.slice q 0 n none],vA v] M=some (.tuple [.agg (lfT f.u Z f.e f.q),.bool true],M++(.cells true 0 [W,V,.str bk,.slice q 0 n none]::.cells true 0 (vL v)::.cells true 0 (lfT f.u Z f.e f.q)::.cells true 0 (lfT f.u Z f.e f.q)::Z')):=by
   subst hT4;simp[ai,aG,f22] at hb;subst hb;unfold vA vL lfM lfT at*;cases g
   ·simp only[Bool.false_eq_true,if_false,false_implies,forall_const] at I Z5 R
    simp only[vL] at I;simp[-getElem?_pos,-AV.aeS,-AV.known,-AV.cells,-bL,-List.all_eq_true,vS,mS,bW,aE,cB,hG,f22,p1,w2,I,R]
   ·simp only[if_true,forall_const] at I Z5 R
    simp only[vL] at I;simp[-getElem?_pos,-AV.aeS,-AV.known,-AV.cells,-bL,-List.all_eq_true,vS,mS,bW,aE,cB,hG,f22,w2,I,Z5]
  refine⟨Z,_,bZ ae (ar _) hO (au _) X',?_⟩;have:=r1.row (a:=[.cells true 0 [W,V,.str bk,.slice q 0 n none],.cells true 0 (vL v),.cells true 0 (lfT f.u Z f.e f.q),.cells true 0 (lfT f.u Z f.e f.q)]) rfl;simpa using this
end
theorem Sv(L:List Int)(H:L.length≤3){M:Mem}{x y:AV}(A:afb M x 1 L.length (L.map fun n=>.int .i64 n))(G:afb M y 1 L.length (L.map fun n=>.int .i64 n)):
  kO prog 23 [x,y] M (.bool true) M:=by
 have O:aK prog 23=some f23:=by kernel_rfl
 obtain⟨C,J⟩:∃B,aC f23=[B]:=⟨_,rfl⟩
 obtain⟨W,z⟩:=dj J (l:=[0,0,3,7,0,0,48,112,255]) (j:=8) (by kernel_rfl) (by decide);simp[aC,bn,f23] at J;subst J;refine cR (lv:=(fun _=>[13,13,13])) (K:=6) (al _) ?_
 match L,H,A,G with
 | [],_,A,G=>
  obtain rfl:=A.afm rfl;obtain rfl:=G.afm rfl;simp[aa,O,f23,aQ,er]
 | [a],_,A,G=>
  obtain⟨b,o,rfl,Z⟩:=A.pos (by simp);obtain⟨F,D,rfl,X⟩:=G.pos (by simp);simp only[List.map_cons,List.map_nil] at Z X;have V:=gL Z;have S:=gL X;simp[-getElem?_pos,aa,O,f23,aQ,er,ic,aD,jE,Z,X,V,S,w1,-AV.known,-AV.cells,rS,mS,-bl,-aW,-aB,-AV.aeR,-aeY.aeR,aF W,bX,bK,dH,cj,bR,gd,bef,Nat.testBit]
 | [a,c],_,A,G=>
  obtain⟨b,o,rfl,Z⟩:=A.pos (by simp);obtain⟨F,D,rfl,X⟩:=G.pos (by simp);simp only[List.map_cons,List.map_nil] at Z X;have V:=gL Z;have S:=gL X;simp[-getElem?_pos,aa,O,f23,aQ,er,ic,aD,jE,Z,X,V,S,w1,w2,-AV.known,-AV.cells,rS,mS,-bl,-aW,-aB,-AV.aeR,-aeY.aeR,aF W,bX,bK,dH,cj,bR,gd,bef,Nat.testBit]
 | [a,c,e],_,A,G=>
  obtain⟨b,o,rfl,Z⟩:=A.pos (by simp);obtain⟨F,D,rfl,X⟩:=G.pos (by simp);simp only[List.map_cons,List.map_nil] at Z X;have V:=gL Z;have S:=gL X;simp[-getElem?_pos,aa,O,f23,aQ,er,ic,aD,jE,Z,X,V,S,w1,w2,w3,-AV.known,-AV.cells,rS,mS,-bl,-aW,-aB,-AV.aeR,-aeY.aeR,aF W,bX,bK,dH,cj,bR,gd,bef,Nat.testBit]
end Go.Proofs
