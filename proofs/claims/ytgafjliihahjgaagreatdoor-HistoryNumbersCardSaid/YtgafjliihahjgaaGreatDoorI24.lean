/- See I36. -/
import Derived.Test.YtgafjliihahjgaaGreatDoorI23
set_option linter.all false
namespace Go.Proofs
open Go.Eng
open Tryz
variable{M:Mem}{b es:Nat}{o:Bool}
theorem Qz{ks:List Nat}{cs y :List AV}(hu:AV.agn ks.length cs=true)(h:M[b]? =some (.cells o es y))(hr:y =AV.agd (eg ks M.length) cs):agH ks M b (.cells false es cs):=by refine⟨hu,o,y,h,fun j v Z=>?_⟩;rw[hr,gT,QQX,Z];rfl
section
variable (s:af8)(nm:List UInt8)
include s nm
theorem mx(n:Z3)(a:Int)(v:Z3)(I:nm∈bF)(Q:fR 1000 n)(R:jt n=false)(Y:a.natAbs<=1000)(hs:fR 1000 v)(hd:Iq v n=0)(M:Mem)(p t:Nat)(o o' :Bool)(y:M[p]? =some (.cells o 2 (pC s.P)))(H:M[t]? =some (.cells o' 3 (tC s.T))):
  kO prog 61 [.agg [.slice p 0 s.P.length none,.slice t 0 s.T.length none],.agg (cO nm n a v)] M (.int .i64 0) M:=by
 have Z:=gL y;have X:=gL H;have:=kO.frame (M:=M) (new:=[]) [p,t] rfl (by simp[Z,X]) (by rfl) (fun i q hs=>by
  match i with
  |0=>simp at hs;subst hs;exact bY (fl _) y O1
  |1=>simp at hs;subst hs;exact bY (gA _) H O1
  |i+2=>simp at hs) rfl (wP s nm n a v I Q R Y hs hd)
 simpa [shA,cO,AV.agd,AV.ren,eg] using this
theorem nl(n:Z3)(a w:Int)(u:List UInt8)(Q:nm∈bF)(R:fR 1000 n)(Y:jt n=false)(ho:a.natAbs<=1000)(hw:0<w)(y:w<1000)(hu:u∈bF)(M:Mem)(p t:Nat)(o o' :Bool)(H:M[p]? =some (.cells o 2 (pC s.P)))(I:M[t]? =some (.cells o' 3 (tC s.T))):
  kO prog 61 [.agg [.slice p 0 s.P.length none,.slice t 0 s.T.length none],.agg (dY nm n a w u)] M (.int .i64 0) M:=by
 have X:=gL H;have W:=gL I;have:=kO.frame (M:=M) (new:=[]) [p,t] rfl (by simp[X,W]) (by rfl) (fun i q Z=>by
  match i with
  |0=>simp at Z;subst Z;exact bY (fl _) H O1
  |1=>simp at Z;subst Z;exact bY (gA _) I O1
  |i+2=>simp at Z) rfl (yu s nm n a w u Q R Y ho hw y hu)
 simpa [shA,dY,AV.agd,AV.ren,eg] using this
theorem np(i:Nat)(c:Z3)(I:nm∈bF)(hc:fR 1000 c)(M:Mem)(p t:Nat)(o o' :Bool)(y:M[p]? =some (.cells o 2 (pC s.P)))(H:M[t]? =some (.cells o' 3 (tC s.T))):
  kO prog 61 [.agg [.slice p 0 s.P.length none,.slice t 0 s.T.length none],.agg (eG nm (cK i) c)] M (.int .i64 0) M:=by
 have X:=gL y;have W:=gL H;have:=kO.frame (M:=M) (new:=[]) [p,t] rfl (by simp[X,W]) (by rfl) (fun i q Z=>by
  match i with
  |0=>simp at Z;subst Z;exact bY (fl _) y O1
  |1=>simp at Z;subst Z;exact bY (gA _) H O1
  |i+2=>simp at Z) rfl (yw s nm i c I hc)
 simpa [shA,eG,AV.agd,AV.ren,eg] using this
theorem nn(n v:Z3)(d:agf)(c:Nat)(h1:0<c)(hc:c<=3)(Q:nm∈bF)(R:fR 1000 n)(Y:jt n=false)(hs:fR 1000 v)(hd:Iq v n=0)(M:Mem)(p t:Nat)(o o' :Bool)(y:M[p]? =some (.cells o 2 (pC s.P)))(H:M[t]? =some (.cells o' 3 (tC s.T)))(b:Nat)(q:Bool)(I:M[b]? =some (.cells q 2 (pC (cJ d c)))):
  kO prog 61 [.agg [.slice p 0 s.P.length none,.slice t 0 s.T.length none],.agg (cn nm n (.slice b 0 c none) v)] M (.int .i64 0) M:=by
 have Z:=gL y;have X:=gL H;have W:=gL I;have:=kO.frame (M:=M) (new:=[]) [p,t,b] rfl (by simp[Z,X,W]) (by rfl) (fun i q hs=>by
  match i with
  |0=>simp[xD] at hs;subst hs;exact bY (fl _) y O1
  |1=>simp[xD] at hs;subst hs;exact bY (gA _) H O1
  |2=>simp[xD] at hs;subst hs;exact bY (fl _) I O1
  |i+3=>simp[xD] at hs) rfl (yv s nm n v d c h1 hc Q R Y hs hd)
 simpa [shA,cn,AV.agd,AV.ren,eg] using this
theorem ni(u0:List UInt8)(Z:List Int)(Q:nm∈bF)(R:u0∈bF)(Y:∀z∈Z,z.natAbs<1000)(hl:Z.length<=1000)(hn:Z.length=s.P.length)(M:Mem)(p t:Nat)(o o' :Bool)(y:M[p]? =some (.cells o 2 (pC s.P)))(H:M[t]? =some (.cells o' 3 (tC s.T)))(b u:Nat)(q1 q2:Bool)(I:M[b]? =some (.cells q1 1 (qC (qH Z))))(hu:M[u]? =some (.cells q2 1 [.str u0])):
  kO prog 61 [.agg [.slice p 0 s.P.length none,.slice t 0 s.T.length none],.agg (aZ nm (.slice b 0 Z.length none) (.slice u 0 1 none) (.y9))] M (.int .i64 0) M:=by
 have W:=gL y;have V:=gL H;have S:=gL I;have O:=gL hu;have:=kO.frame (M:=M) (new:=[]) [p,t,b,u] rfl (by simp[W,V,S,O]) (by rfl) (fun i q X=>by
  match i with
  |0=>simp[oo] at X;subst X;exact bY (fl _) y O1
  |1=>simp[oo] at X;subst X;exact bY (gA _) H O1
  |2=>simp[oo] at X;subst X;exact bY (lI _) I O1
  |3=>simp[oo] at X;subst X;exact bY (by rfl) hu O1
  |i+4=>simp[oo] at X) rfl (yp s nm u0 Z Q R  Y hl hn)
 simpa [shA,aZ,AV.agd,AV.ren,eg] using this
theorem nj(u0 Q:List UInt8)(Z H:List Int)(hm:nm∈bF)(n0:u0∈bF)(n1:Q∈bF)(R:Q≠u0)(hZ:∀z∈Z,z.natAbs<1000)(hl:Z.length<=1000)(hn:Z.length=s.P.length)(Y:∀z∈H,z.natAbs<1000)(hl1:H.length=s.P.length)(aax:∀(i:Nat) z y,Z[i]? =some z->H[i]? =some y->z<=y)(M:Mem)(p t:Nat)(o o' :Bool)(hp:M[p]? =some (.cells o 2 (pC s.P)))(ht:M[t]? =some (.cells o' 3 (tC s.T)))(b u:Nat)(q1 q2:Bool)(hb:M[b]? =some (.cells q1 1 (qC (qH Z))))(hu:M[u]? =some (.cells q2 1 [.str u0,.str Q]))(c r1:Nat)(q3 w1:Bool)(hc:M[c]? =some (.cells q3 1 [.slice r1 0 Z.length none]))(I:M[r1]? =some (.cells w1 1 (qC (qH H)))):
  kO prog 61 [.agg [.slice p 0 s.P.length none,.slice t 0 s.T.length none],.agg (aZ nm (.slice b 0 Z.length none) (.slice u 0 2 none) (.slice c 0 1 none))] M (.int .i64 0) M:=by
 have V:=gL hp;have S:=gL ht;have O:=gL hb;have K:=gL hu;have J:=gL hc;have W:=gL I;have:=kO.frame (M:=M) (new:=[]) [p,t,b,u,c,r1] rfl (by simp[V,S,O,K,J,W]) (by rfl) (fun i q X=>by
  match i with
  |0=>simp[lN] at X;subst X;exact bY (fl _) hp O1
  |1=>simp[lN] at X;subst X;exact bY (gA _) ht O1
  |2=>simp[lN] at X;subst X;exact bY (lI _) hb O1
  |3=>simp[lN] at X;subst X;exact bY (by rfl) hu O1
  |4=>simp[lN] at X;subst X;exact Qz (by rfl) hc (by simp[AV.agd,AV.ren,eg])
  |5=>simp[lN] at X;subst X;exact bY (lI _) I O1
  |i+6=>simp[lN] at X) rfl (yq s nm u0 Q Z H hm n0 n1 R hZ hl hn Y hl1 aax)
 simpa [shA,aZ,AV.agd,AV.ren,eg] using this
theorem nk(u0 I Q:List UInt8)(Z H R:List Int)(hm:nm∈bF)(n0:u0∈bF)(n1:I∈bF)(n2:Q∈bF)(d01:I≠u0)(d02:Q≠u0)(d12:Q≠I)(hZ:∀z∈Z,z.natAbs<1000)(hl:Z.length<=1000)(hn:Z.length=s.P.length)(hY1:∀z∈H,z.natAbs<1000)(hl1:H.length=s.P.length)(aax:∀(i:Nat) z y,Z[i]? =some z->H[i]? =some y->z<=y)(hY2:∀z∈R,z.natAbs<1000)(hl2:R.length=s.P.length)(aav:∀(i:Nat) z y,H[i]? =some z->R[i]? =some y->z<=y)(M:Mem)(p t:Nat)(o o' :Bool)(hp:M[p]? =some (.cells o 2 (pC s.P)))(ht:M[t]? =some (.cells o' 3 (tC s.T)))(b u:Nat)(q1 q2:Bool)(hb:M[b]? =some (.cells q1 1 (qC (qH Z))))(hu:M[u]? =some (.cells q2 1 [.str u0,.str I,.str Q]))(c r1 r2:Nat)(q3 w1 w2:Bool)(hc:M[c]? =some (.cells q3 1 [.slice r1 0 Z.length none,.slice r2 0 Z.length none]))(Y:M[r1]? =some (.cells w1 1 (qC (qH H))))(hr2:M[r2]? =some (.cells w2 1 (qC (qH R)))):
  kO prog 61 [.agg [.slice p 0 s.P.length none,.slice t 0 s.T.length none],.agg (aZ nm (.slice b 0 Z.length none) (.slice u 0 3 none) (.slice c 0 2 none))] M (.int .i64 0) M:=by
 have S:=gL hp;have O:=gL ht;have K:=gL hb;have J:=gL hu;have G:=gL hc;have W:=gL Y;have V:=gL hr2;have:=kO.frame (M:=M) (new:=[]) [p,t,b,u,c,r1,r2] rfl (by simp[S,O,K,J,G,W,V]) (by rfl) (fun i q X=>by
  match i with
  |0=>simp[kA] at X;subst X;exact bY (fl _) hp O1
  |1=>simp[kA] at X;subst X;exact bY (gA _) ht O1
  |2=>simp[kA] at X;subst X;exact bY (lI _) hb O1
  |3=>simp[kA] at X;subst X;exact bY (by rfl) hu O1
  |4=>simp[kA] at X;subst X;exact Qz (by rfl) hc (by simp[AV.agd,AV.ren,eg])
  |5=>simp[kA] at X;subst X;exact bY (lI _) Y O1
  |6=>simp[kA] at X;subst X;exact bY (lI _) hr2 O1
  |i+7=>simp[kA] at X) rfl (yr s nm u0 I Q Z H R hm n0 n1 n2 d01 d02 d12 hZ hl hn hY1 hl1 aax hY2 hl2 aav)
 simpa [shA,aZ,AV.agd,AV.ren,eg] using this
end
theorem ahy:aS prog 62=some f62:=by kernel_rfl
section
variable (nm:List UInt8)
include nm
theorem oF(n:Z3)(a:Int)(v:Z3)(M:Mem):kO prog 62 [.agg (cO nm n a v)] M .y9 M:=by refine aD (aj _) ?_ M;simp[aa,ahy,f62,cO]
theorem qD(q:Int×Int×Int×Int)(c:Z3)(M:Mem):kO prog 62 [.agg (eG nm q c)] M .y9 M:=by refine aD (aj _) ?_ M;simp[aa,ahy,f62,eG]
theorem qB(n v:Z3)(x:AV)(M:Mem):kO prog 62 [.agg (cn nm n x v)] M .y9 M:=by refine fM (aj _) ?_;simp[aa,ahy,f62,cn]
theorem Ay(n:Z3)(a w:Int)(u:List UInt8)(M:Mem):kO prog 62 [.agg (dY nm n a w u)] M (.slice M.length 0 1 none) (M++[.cells true 1 [.str u]]):=by
 have h:aa (aU prog) (fun _=>[]) (aS prog) bD 1 62 [.agg (dY nm n a w u)] []=some ⟨.slice 0 0 1 none,none,[.cells true 1 [.str u]]⟩:=by simp[aa,ahy,f62,dY,List.idxOf?_cons]
 have Z:=(ah ae (al _) (aj _) (ao _) h).1;have X:kO prog 62 [.agg (dY nm n a w u)] [] (.slice 0 0 1 none) ([]++[.cells true 1 [.str u]]):=by simpa [afA.mem] using Z
 have:=kO.frame (M:=M) (m:=[]) (new:=[.cells true 1 [.str u]]) [] rfl (by simp) (by rfl) (fun i q W=>by simp at W) rfl X;simpa [dY,AV.agd,AV.ren,af6.ren,eg] using this
end
section
variable (L:List (List UInt8))(h1:0<L.length)(h3:L.length<=3)
include L h1 h3
theorem IA:kO prog 66 [.slice 0 0 L.length none] [.cells false 1 (stC L)] (.slice 1 0 L.length none) [.cells false 1 (stC L),.cells true 1 (stC L)]:=by
 have Z:aS prog 66=some f66:=by kernel_rfl
 have h:aa (aU prog) (fun _=>[]) (aS prog) bD 1 66 [.slice 0 0 L.length none] [.cells false 1 (stC L)]=some ⟨.slice 1 0 L.length none,none,[.cells true 1 (stC L)]⟩:=by
  match L,h1,h3 with
  | [u],_,_=>simp[aa,Z,f66,stC,R7,List.idxOf?_cons]
  | [u,v],_,_=>simp[aa,Z,f66,stC,R7,List.idxOf?_cons]
  | [u,v,w],_,_=>simp[aa,Z,f66,stC,R7,List.idxOf?_cons]
 have:=(ah ae (al _) (aj _) (ao _) h).1;simpa [afA.mem] using this
theorem Nz(M:Mem)(b:Nat)(o:Bool)(y:M[b]? =some (.cells o 1 (stC L))):kO prog 66 [.slice b 0 L.length none] M (.slice M.length 0 L.length none) (M++[.cells true 1 (stC L)]):=by obtain⟨X,h,_,Z⟩:=kO.ahk (rest:=[]) (new:=[.cells true 1 (stC L)]) (mo L) rfl rfl (IA L h1 h3) (M:=M) (x:=.slice b 0 L.length none) ⟨b,o,_,rfl,y,O1⟩;cases h;simpa [AV.ren,af6.ren,eg,ca (mo L)] using Z
end
theorem B4(nm:List UInt8)(x y:AV)(L:List (List UInt8))(h1:0<L.length)(h3:L.length<=3)(M:Mem)(b:Nat)(o:Bool)(H:M[b]? =some (.cells o 1 (stC L))):
  kO prog 62 [.agg (aZ nm x (.slice b 0 L.length none) y)] M (.slice (M.length+1) 0 L.length none) (M++[.cells true 0 (aZ nm x (.slice b 0 L.length none) y),.cells true 1 (stC L)]):=by
 have W:=gL H;obtain⟨E,Z⟩:=xE (α:=Mem) [.cells true 0 (aZ nm x (.slice b 0 L.length none) y)];have hc:=Nz L h1 h3 (M++E) b o (gU H _);have X:adM prog (iY [(66,[.slice b 0 L.length none],M++E,⟨.slice (M.length+1) 0 L.length none,none,[.cells true 1 (stC L)]⟩)]):=kQ fun e he=>by simp only[lM] at he;subst he;refine⟨?_,by simp⟩;rw[Z] at hc |-;simpa [afA.mem] using hc
 have h:bO (aU prog) (fun _=>[]) (aS prog) (iY [(66,[.slice b 0 L.length none],M++E,⟨.slice (M.length+1) 0 L.length none,none,[.cells true 1 (stC L)]⟩)]) 1 62 [.agg (aZ nm x (.slice b 0 L.length none) y)] M=some (.slice (M.length+1) 0 L.length none,M++[.cells true 0 (aZ nm x (.slice b 0 L.length none) y),.cells true 1 (stC L)]):=by rw[Z];simp[bO,ahy,f62,aZ,iY]
 have:=bl ae (al _) X (ao _) h;exact this
def agv(b:Nat) (new y :Mem):Prop:=∀(k:Nat) x,new[k]? =some x->y[b+k]? =some x
def iu(b:Nat)(new:Mem)(y:List AV)(U:List (List UInt8)):Prop:=∀Z,agv b new Z ->∃v X,kO prog 62 [.agg y] Z v (Z ++X)/\∀ext,sts (Z ++X++ext) v=some U
theorem PF{L:List (List UInt8)}(h:M[b]? =some (.cells o 1 (stC L))):sts M (.slice b 0 L.length none)=some L:=by unfold sts;rw[Mh h (by rw[ga];omega) (by rw[<-ga,Nat.mul_one,O1])];exact D3 _
variable{ev:List AV}{new:Mem}
theorem sn(h:∀M,kO prog 62 [.agg ev] M .y9 M):iu b new ev []:=fun Z _=>⟨.y9,[],by simpa using h Z,fun _=>rfl⟩
theorem xq(nm:List UInt8)(n:Z3)(a w:Int)(u:List UInt8):iu b new (dY nm n a w u) [u]:=fun Z _=>⟨.slice Z.length 0 1 none,[.cells true 1 [.str u]],Ay nm n a w u Z,fun X =>PF (L:=[u]) (o:=true) (by rw[SP,Pi (by omega),Nat.sub_self];rfl)⟩
theorem jN{b0:Nat}(nm:List UInt8)(x y:AV)(L:List (List UInt8))(h1:0<L.length)(h3:L.length<=3)(j:Nat)(o:Bool)(H:new[j]? =some (.cells o 1 (stC L))):iu b0 new (aZ nm x (.slice (b0+j) 0 L.length none) y) L:=fun Z W=>by have V :=W j _ H;refine⟨.slice (Z.length+1) 0 L.length none,[.cells true 0 (aZ nm x (.slice (b0+j) 0 L.length none) y),.cells true 1 (stC L)],B4 nm x y L h1 h3 Z (b0+j) o V,fun X =>PF (o:=true) ?_⟩;rw[SP,Pi (by omega),show Z.length+1-Z.length=1 by omega];rfl
def qU(M new:Mem):Prop:=(new.all fun x=>(x.own||match x with | .HS=>true | _=>false)&&x.afF (fun b=>decide (b<M.length+5)))=true
def ux(ev:List AV):Prop:=∀x∈ev,(match x with | .agg _=>false | .tuple _=>false | .undef=>false | _=>true)=true
def bU(d:agf)(i:Nat):List (List UInt8):=if d.kind%5=0 then bE i (d.K.1%3) else if d.kind%5=3 then [ju i] else []
variable{C:List AV}{N:Mem}{n:Nat}{v:AV}
theorem agi.agB(h:agi N v es n C)(y:n=0):v=.y9:=by
 rcases h with⟨h,_,_⟩ | ⟨_,_,_,h,_⟩
 .exact h
 .omega
theorem agi.pos(h:agi N v es n C)(y:0<n):∃b o,v=.slice b 0 n none/\N[b]? =some (.cells o es C):=by
 rcases h with⟨_,h,_⟩ | ⟨b,o,Z,_,X⟩
 .omega
 .exact⟨b,o,Z,X⟩
theorem ahm.agB{S:List (List (List UInt8))}(h:ahm N v S)(y:S=[]):v=.y9:=by obtain⟨Z,_,h,_⟩:=h;exact h.agB (by rw[y];rfl)
theorem agi.ck(h:agi N v es n C):v.af2=true:=by rcases h with⟨rfl,_⟩ | ⟨b,o,rfl,_⟩<;>rfl
variable{c:Evc}{e:List AV}
theorem agO.flat(h:agO N e c)(h1:c.B.length=0)(h2:c.U.length=0)(h3:c.S=[])(h4:c.K.length=0):e=c.cells .y9 .y9 .y9 .y9:=by obtain⟨b,u,O,J,rfl,Z,X,W,V⟩:=h;obtain rfl:=Z.agB h1;obtain rfl:=X.agB h2;obtain rfl:=W.agB h3;obtain rfl:=V.agB h4;rfl
theorem agO.l32(h:agO N e c):e.length=32:=by obtain⟨b,u,s,Z,rfl,_⟩:=h;rfl
theorem agO.cok(h:agO N e c):∀x∈e,x.af2=true:=by obtain⟨b,u,s,S,rfl,X,W,⟨_,_,h3,_⟩,V⟩:=h;intro x Z;simp only[Evc.cells,lM] at Z;rcases Z with rfl | rfl | rfl | rfl | rfl | rfl | rfl | rfl | rfl | rfl | rfl | rfl | rfl | rfl | rfl | rfl | rfl | rfl | rfl | rfl | rfl | rfl | rfl | rfl | rfl | rfl | rfl | rfl | rfl | rfl | rfl | rfl<;>first | rfl | exact X.ck | exact W.ck | exact h3.ck | exact V.ck
theorem agi.inj{y :Nat}{H :List AV}(h:agi N v es n C)(h' :agi N v es y H):n=y /\C=H :=by
 rcases h with⟨rfl,rfl,rfl⟩ | ⟨b,o,rfl,S,X⟩
 .rcases h' with⟨_,rfl,rfl⟩ | ⟨W,V,h,_⟩
  .exact⟨rfl,rfl⟩
  .cases h
 .rcases h' with⟨h,_⟩ | ⟨W,V,h,_,Z⟩
  .cases h
  .cases h
   rw[X] at Z;cases Z;exact⟨rfl,rfl⟩
def unE(c:Evc):List (List UInt8):=if c.k=1 then c.U else if c.k=4 then [c.x24] else []
theorem YV{d:Evc}(h:agO M ev c)(k:agO M ev d):unE c=unE d:=by
 obtain⟨b,u,D,B,X,_,W,_,_⟩:=h;obtain⟨A,z,V,S,Z,_,O,_,_⟩:=k;rw[X] at Z;simp only[Evc.cells,List.cons.injEq,AV.int.injEq,AV.str.injEq,true_and,and_true] at Z;obtain⟨K,_,_,J,_,_,_,_,_,_,_,_,_,_,_,_,_,_,_,_,_,_,_,_,G,_⟩:=Z;subst J;have F:c.U=d.U:=by have:=congrArg stP (W.inj O).2;rw[D3,D3] at this;exact QQb this
 unfold unE;rw[K,F,G]
def V4(s:af8)(c:Evc):Prop:=∀(M:Mem) (p t:Nat) (o Z :Bool) (ev:List AV),M[p]? =some (.cells o 2 (pC s.P))->M[t]? =some (.cells Z 3 (tC s.T))->agO M ev c->kO prog 61 [.agg [.slice p 0 s.P.length none,.slice t 0 s.T.length none],.agg ev] M (.int .i64 0) M
def V6(c:Evc):Prop:=∀(M:Mem) (ev:List AV),agO M ev c->∃v Z,kO prog 62 [.agg ev] M v (M++Z)/\∀ext,sts (M++Z++ext) v=some (unE c)
def ZV(c:Evc):Prop:=(∃Z B U S,c=Ip Z B U S/\B≠[])\/(∃Z n o s,c=C0 Z n o s)\/(∃Z n K s,c=Md Z n K s)\/(∃Z n o w u,c=OR Z n o w u)\/∃Z t x,c=OS Z t x
structure Tryz.agP (s:af8)(c:Evc):Prop where
 ok:c.Ok
 chk:V4 s c
 un:V6 c
 le:(unE c).length<=3
inductive EvD where
 |dep (Z:List Int) (us:List (List UInt8)) (Ys:List (List Int))
 |fault (n:Z3) (o:Int) (v:Z3)
 |fold (n:Z3) (d:agf) (c:Nat) (v:Z3)
 |ahG (n:Z3) (o w:Int) (u:List UInt8)
 |ahM (i:Nat) (c:Z3)
def EvD.con(nm:List UInt8):EvD->Evc
 |.dep Z us Ys=>Ip nm (hT Z) us (Ys.map hT)
 |.fault n o v=>C0 nm n o v
 |.fold n d c v=>Md nm n (kT (cJ d c)) v
 |.ahG n o w u=>OR nm n o w u
 |.ahM i c=>OS nm (cK i) c
def EvD.Ok(s:af8):EvD->Prop
 |.dep Z us Ys=>Z.length=s.P.length/\us.length=Ys.length+1/\Ys.length<=2/\(∀z∈Z,z.natAbs<1000)/\∀Y∈Ys,Y.length=s.P.length/\∀z∈Y,z.natAbs<1000
 |.fault n o v=>fR 2 n/\jt n=false/\o.natAbs<=4/\fR 8 v/\Iq v n=0
 |.fold n _ c v=>fR 2 n/\jt n=false/\0<c/\c<=3/\fR 8 v/\Iq v n=0
 |.ahG n o w _=>fR 2 n/\jt n=false/\o.natAbs<=4/\0<w/\w<=4
 |.ahM i c=>i<=5/\fR 2 c
def EvD.Fin:EvD->Prop
 |.dep Z _ Ys=>(∀Y∈Z::Ys,∀z∈Y,z.natAbs<=14)/\∀(k:Nat) A B,(Z::Ys)[k]? =some A->(Z::Ys)[k+1]? =some B->∀(i:Nat) z y,A[i]? =some z->B[i]? =some y->z<=y
 |_=>True
structure Tryz.agU (s:af8)(c:Evc):Prop extends agP s c where
 form:ZV c
 nmo:c.nm∈bF
 ren:∀nm∈bF,agP s { c with nm:=nm }
 dk:c.k=4->∀nm∈bF,agP s { c with nm:=nm,x24:=[122] }
 evf:∃w:EvD,w.Ok s/\w.Fin/\c=w.con c.nm
section
variable (s:af8)(nm:List UInt8)
include s nm
theorem qF(n:Z3)(a:Int)(v:Z3)(y:nm∈bF)(H:fR 1000 n)(I:jt n=false)(Q:a.natAbs<=1000)(hs:fR 1000 v)(hd:Iq v n=0):agP s (C0 nm n a v) where
 ok:=Bm rfl rfl rfl (by simp[C0])
 chk:=fun M p t o Z ev hp ht h=>by obtain rfl:=h.flat rfl rfl rfl rfl;exact mx s nm n a v y H I Q hs hd M p t o Z hp ht
 un:=fun M ev h=>by obtain rfl:=h.flat rfl rfl rfl rfl;exact⟨.y9,[],by rw[List.append_nil];exact oF nm n a v M,fun _=>rfl⟩
 le:=by show(0:Nat)<=3;omega
theorem Cq(n:Z3)(a:Int)(v:Z3)(H:nm∈bF)(I:fR 1000 n)(y:jt n=false)(Q:a.natAbs<=1000)(hs:fR 1000 v)(hd:Iq v n=0)(h2:fR 2 n)(o4:a.natAbs<=4)(R:fR 8 v):agU s (C0 nm n a v) where
 toagP:=qF s nm n a v H I y Q hs hd
 form:=.inr (.inl ⟨_,_,_,_,rfl⟩)
 nmo:=H
 ren:=fun Z X =>qF s Z n a v X I y Q hs hd
 dk:=fun h=>absurd h (by show¬((2:Int)=4);decide)
 evf:=⟨.fault n a v,⟨h2,y,o4,R,hd⟩,trivial,rfl⟩
theorem rW(i:Nat)(c:Z3)(y:nm∈bF)(hc:fR 1000 c):agP s (OS nm (cK i) c) where
 ok:=Bm rfl rfl rfl (by simp[OS])
 chk:=fun M p t o Z ev hp ht h=>by obtain rfl:=h.flat rfl rfl rfl rfl;exact np s nm i c y hc M p t o Z hp ht
 un:=fun M ev h=>by obtain rfl:=h.flat rfl rfl rfl rfl;exact⟨.y9,[],by rw[List.append_nil];exact qD nm (cK i) c M,fun _=>rfl⟩
 le:=by show(0:Nat)<=3;omega
theorem EM(i:Nat)(c:Z3)(y:nm∈bF)(hc:fR 1000 c)(H:i<=5)(I:fR 2 c):agU s (OS nm (cK i) c) where
 toagP:=rW s nm i c y hc
 form:=.inr (.inr (.inr (.inr ⟨_,_,_,rfl⟩)))
 nmo:=y
 ren:=fun Z X =>rW s Z i c X hc
 dk:=fun h=>absurd h (by show¬((5:Int)=4);decide)
 evf:=⟨.ahM i c,⟨H,I⟩,trivial,rfl⟩
theorem mz(n:Z3)(a w:Int)(u:List UInt8)(H:nm∈bF)(I:fR 1000 n)(Q:jt n=false)(R:a.natAbs<=1000)(Y:0<w)(y:w<1000)(hu:u∈bF):agP s (OR nm n a w u) where
 ok:=Bm rfl rfl rfl (by simp[OR])
 chk:=fun M p t o Z ev hp ht h=>by obtain rfl:=h.flat rfl rfl rfl rfl;exact nl s nm n a w u H I Q R Y y hu M p t o Z hp ht
 un:=fun M ev h=>by obtain rfl:=h.flat rfl rfl rfl rfl;exact xq (b:=0) (new:=[]) nm n a w u M fun k x h=>by simp at h
 le:=by show(1:Nat)<=3;omega
theorem EK(n:Z3)(a w:Int)(u:List UInt8)(Y:nm∈bF)(Q:fR 1000 n)(H:jt n=false)(R:a.natAbs<=1000)(I:0<w)(y:w<1000)(hu:u∈bF)(h2:fR 2 n)(o4:a.natAbs<=4)(w4:w<=4):agU s (OR nm n a w u) where
 toagP:=mz s nm n a w u Y Q H R I y hu
 form:=.inr (.inr (.inr (.inl ⟨_,_,_,_,_,rfl⟩)))
 nmo:=Y
 ren:=fun Z X =>mz s Z n a w u X Q H R I y hu
 dk:=fun _ Z X =>mz s Z n a w [122] X Q H R I y (by decide)
 evf:=⟨.ahG n a w u,⟨h2,H,o4,I,w4⟩,trivial,rfl⟩
theorem rV(n v:Z3)(d:agf)(c:Nat)(h1:0<c)(hc:c<=3)(y:nm∈bF)(H:fR 1000 n)(I:jt n=false)(hs:fR 1000 v)(hd:Iq v n=0):agP s (Md nm n (kT (cJ d c)) v) where
 ok:=Bm rfl rfl rfl (by show(kT (cJ d c)).length<=1000;rw[ib,dK];omega)
 chk:=fun M p t o S ev hp ht h=>by
  obtain⟨b,u,O,kn,rfl,Z,X,W,V⟩:=h;obtain rfl:=Z.agB rfl;obtain rfl:=X.agB rfl;obtain rfl:=W.agB rfl;have e:(Md nm n (kT (cJ d c)) v).K.length=c:=by show(kT (cJ d c)).length=c;rw[ib,dK]
  rw[e] at V;obtain⟨b,q,rfl,J⟩:=V.pos h1;have G :M[b]? =some (.cells q 2 (pC (cJ d c))):=by rw[Vy];exact J
  exact nn s nm n v d c h1 hc y H I hs hd M p t o S hp ht b q G
 un:=fun M ev h=>by obtain⟨b,u,O,kn,rfl,Z,X,W,V⟩:=h;obtain rfl:=Z.agB rfl;obtain rfl:=X.agB rfl;obtain rfl:=W.agB rfl;exact⟨.y9,[],by rw[List.append_nil];exact qB nm n v kn M,fun _=>rfl⟩
 le:=by show(0:Nat)<=3;omega
theorem EL(n v:Z3)(d:agf)(c:Nat)(h1:0<c)(hc:c<=3)(H:nm∈bF)(I:fR 1000 n)(y:jt n=false)(hs:fR 1000 v)(hd:Iq v n=0)(h2:fR 2 n)(Q:fR 8 v):agU s (Md nm n (kT (cJ d c)) v) where
 toagP:=rV s nm n v d c h1 hc H I y hs hd
 form:=.inr (.inr (.inl ⟨_,_,_,_,rfl⟩))
 nmo:=H
 ren:=fun Z X =>rV s Z n v d c h1 hc X I y hs hd
 dk:=fun h=>absurd h (by show¬((3:Int)=4);decide)
 evf:=⟨.fold n d c v,⟨h2,y,h1,hc,Q,hd⟩,trivial,rfl⟩
end
theorem Su(Z:List Int):stC (hT Z)=qC (qH Z):=by rw[z7];rfl
section
variable (s:af8)(nm:List UInt8)
include s nm
section
variable (u0:List UInt8)(Z:List Int)(hm:nm∈bF)(n0:u0∈bF)(hZ:∀z∈Z,z.natAbs<1000)(hl:Z.length<=1000)(hpos:0<Z.length)(hn:Z.length=s.P.length)
include u0 Z hm n0 hZ hl hpos hn
theorem rQ:agP s (Ip nm (hT Z) [u0] []) where
 ok:=⟨by show(hT Z).length<=1000;rw[dT];exact hl,by show(1:Nat)<=1000;omega,by show(0:Nat)<=2;omega,fun L F=>by simp[Ip] at F,by show(0:Nat)<=1000;omega⟩
 chk:=fun M p t o D ev hp ht h=>by
  obtain⟨b,u,K,kn,rfl,V,S,J,O⟩:=h;obtain rfl:=O.agB rfl;have e:(Ip nm (hT Z) [u0] []).B.length=Z.length:=dT Z;rw[e] at V;obtain⟨b,G,rfl,A⟩:=V.pos hpos;obtain⟨u,W,rfl,hu⟩:=S.pos (by show 0<1;omega);have z :M[b]? =some (.cells G 1 (qC (qH Z))):=by rw[<-Su];exact A
  obtain rfl:=J.agB rfl;exact ni s nm u0 Z hm n0  hZ hl hn  M p t o D hp ht b u G W z hu
 un:=fun M ev h=>by
  obtain⟨b,u,K,kn,rfl,V,S,J,O⟩:=h;obtain rfl:=O.agB rfl;obtain⟨u,W,rfl,hu⟩:=S.pos (by show 0<1;omega);exact jN (b0:=u) (new:=[.cells W 1 (stC [u0])]) nm b K [u0] (by show 0<1;omega) (by show 1<=3;omega) 0 W rfl M fun k x X=>by
   match k,X with
   |0,X=>simp only[List.getElem?_cons_zero,N3] at X;subst X;exact hu
   |k+1,X=>simp at X
 le:=by show(1:Nat)<=3;omega
theorem EH(f0:∀z∈Z,z.natAbs<=14):agU s (Ip nm (hT Z) [u0] []) where
 toagP:=rQ s nm u0 Z hm n0 hZ hl hpos hn
 form:=.inl ⟨_,_,_,_,rfl,fun h=>by have e:(hT Z).length=0:=(by rw[h];rfl);rw[dT] at e;omega⟩
 nmo:=hm
 ren:=fun X W =>rQ s X u0 Z W n0 hZ hl hpos hn
 dk:=fun h=>absurd h (by show¬((1:Int)=4);decide)
 evf:=⟨.dep Z [u0] [],⟨hn,rfl,by decide,hZ,fun Y h=>by cases h⟩,⟨fun Y h=>by rw[List.mem_singleton] at h;rw[h];exact f0,fun k A B S V=>by simp at V⟩,rfl⟩
end
section
variable (u0 u1:List UInt8)(Z Y1:List Int)(hm:nm∈bF)(n0:u0∈bF)(n1:u1∈bF)(d01:u1≠u0)(hZ:∀z∈Z,z.natAbs<1000)(hl:Z.length<=1000)(hpos:0<Z.length)(hn:Z.length=s.P.length)(hY1:∀z∈Y1,z.natAbs<1000)(hl1:Y1.length=s.P.length)(aax:∀(i:Nat) z y,Z[i]? =some z->Y1[i]? =some y->z<=y)
include u0 u1 Z Y1 hm n0 n1 d01 hZ hl hpos hn hY1 hl1 aax
theorem rR:agP s (Ip nm (hT Z) [u0,u1] [hT Y1]) where
 ok:=⟨by show(hT Z).length<=1000;rw[dT];exact hl,by show(2:Nat)<=1000;omega,by show(1:Nat)<=2;omega,fun L G=>by simp only[Ip,lM] at G;rcases G with rfl<;>(rw[dT];omega),by show(0:Nat)<=1000;omega⟩
 chk:=fun M p t o j ev hp ht h=>by
  obtain⟨b,u,F,kn,rfl,O,K,D,J⟩:=h;obtain rfl:=J.agB rfl;have e:(Ip nm (hT Z) [u0,u1] [hT Y1]).B.length=Z.length:=dT Z;rw[e] at O;obtain⟨b,A,rfl,Y⟩:=O.pos hpos;obtain⟨u,S,rfl,hu⟩:=K.pos (by show 0<2;omega);have R :M[b]? =some (.cells A 1 (qC (qH Z))):=by rw[<-Su];exact Y
  obtain⟨z,Q,I,kc⟩:=D;obtain⟨W,rfl⟩:∃W,z=[W]:=by
   match z,Q with
   | [W],_=>exact⟨W,rfl⟩
  obtain⟨c,H,rfl,hc⟩:=I.pos (by show 0<1;omega);have m:=kc 0 W (hT Y1) rfl rfl;rw[dT,hl1,<-hn] at m;obtain⟨r1,w1,rfl,V⟩:=m.pos hpos;rw[Su] at V;exact nj s nm u0 u1 Z Y1 hm n0 n1 d01 hZ hl hn hY1 hl1 aax M p t o j hp ht b u A S R hu c r1 H w1 hc V
 un:=fun M ev h=>by
  obtain⟨b,u,F,kn,rfl,O,K,D,J⟩:=h;obtain rfl:=J.agB rfl;obtain⟨u,S,rfl,hu⟩:=K.pos (by show 0<2;omega);exact jN (b0:=u) (new:=[.cells S 1 (stC [u0,u1])]) nm b F [u0,u1] (by show 0<2;omega) (by show 2<=3;omega) 0 S rfl M fun k x X=>by
   match k,X with
   |0,X=>simp only[List.getElem?_cons_zero,N3] at X;subst X;exact hu
   |k+1,X=>simp at X
 le:=by show(2:Nat)<=3;omega
theorem EI(f0:∀z∈Z,z.natAbs<=14)(f1:∀z∈Y1,z.natAbs<=14):agU s (Ip nm (hT Z) [u0,u1] [hT Y1]) where
 toagP:=rR s nm u0 u1 Z Y1 hm n0 n1 d01 hZ hl hpos hn hY1 hl1 aax
 form:=.inl ⟨_,_,_,_,rfl,fun h=>by have e:(hT Z).length=0:=(by rw[h];rfl);rw[dT] at e;omega⟩
 nmo:=hm
 ren:=fun V S =>rR s V u0 u1 Z Y1 S n0 n1 d01 hZ hl hpos hn hY1 hl1 aax
 dk:=fun h=>absurd h (by show¬((1:Int)=4);decide)
 evf:=⟨.dep Z [u0,u1] [Y1],⟨hn,rfl,by show(1:Nat)<=2;omega,hZ,fun Y h=>by rw[List.mem_singleton] at h;rw[h];exact⟨hl1,hY1⟩⟩,⟨fun Y h=>by
  simp only[lM] at h;rcases h with rfl | rfl
  .exact f0
  .exact f1,fun k A B W X=>by
  match k,W,X with
  |0,W,X=>
   simp only[List.getElem?_cons_zero,List.getElem?_cons_succ,N3] at W X;subst W X;exact aax
  |k+1,W,X=>simp at X⟩,rfl⟩
end
section
variable (u0 u1 u2:List UInt8)(Z Y1 Y2:List Int)(hm:nm∈bF)(n0:u0∈bF)(n1:u1∈bF)(n2:u2∈bF)(d01:u1≠u0)(d02:u2≠u0)(d12:u2≠u1)(hZ:∀z∈Z,z.natAbs<1000)(hl:Z.length<=1000)(hpos:0<Z.length)(hn:Z.length=s.P.length)(hY1:∀z∈Y1,z.natAbs<1000)(hl1:Y1.length=s.P.length)(aax:∀(i:Nat) z y,Z[i]? =some z->Y1[i]? =some y->z<=y)(hY2:∀z∈Y2,z.natAbs<1000)(hl2:Y2.length=s.P.length)(aav:∀(i:Nat) z y,Y1[i]? =some z->Y2[i]? =some y->z<=y)
include u0 u1 u2 Z Y1 Y2 hm n0 n1 n2 d01 d02 d12 hZ hl hpos hn hY1 hl1 aax hY2 hl2 aav
theorem rU:agP s (Ip nm (hT Z) [u0,u1,u2] [hT Y1,hT Y2]) where
 ok:=⟨by show(hT Z).length<=1000;rw[dT];exact hl,by show(3:Nat)<=1000;omega,by show(2:Nat)<=2;omega,fun L D=>by simp only[Ip,lM] at D;rcases D with rfl | rfl<;>(rw[dT];omega),by show(0:Nat)<=1000;omega⟩
 chk:=fun M p t o Q ev hp ht h=>by
  obtain⟨b,u,A,kn,rfl,J,G,z,F⟩:=h;obtain rfl:=F.agB rfl;have e:(Ip nm (hT Z) [u0,u1,u2] [hT Y1,hT Y2]).B.length=Z.length:=dT Z;rw[e] at J;obtain⟨b,m,rfl,I⟩:=J.pos hpos;obtain⟨u,K,rfl,hu⟩:=G.pos (by show 0<3;omega);have H :M[b]? =some (.cells m 1 (qC (qH Z))):=by rw[<-Su];exact I
  obtain⟨j,y,kv,kc⟩:=z;obtain⟨W,V,rfl⟩:∃W V,j=[W,V]:=by
   match j,y with
   | [W,V],_=>exact⟨W,V,rfl⟩
  obtain⟨c,q3,rfl,hc⟩:=kv.pos (by show 0<2;omega);have Y:=kc 0 W (hT Y1) rfl rfl;rw[dT,hl1,<-hn] at Y;obtain⟨r1,w1,rfl,S⟩:=Y.pos hpos;rw[Su] at S;have R:=kc 1 V (hT Y2) rfl rfl;rw[dT,hl2,<-hn] at R;obtain⟨r2,w2,rfl,O⟩:=R.pos hpos;rw[Su] at O;exact nk s nm u0 u1 u2 Z Y1 Y2 hm n0 n1 n2 d01 d02 d12 hZ hl hn hY1 hl1 aax hY2 hl2 aav M p t o Q hp ht b u m K H hu c r1 r2 q3 w1 w2 hc S O
 un:=fun M ev h=>by
  obtain⟨b,u,A,kn,rfl,J,G,z,F⟩:=h;obtain rfl:=F.agB rfl;obtain⟨u,K,rfl,hu⟩:=G.pos (by show 0<3;omega);exact jN (b0:=u) (new:=[.cells K 1 (stC [u0,u1,u2])]) nm b A [u0,u1,u2] (by show 0<3;omega) (by show 3<=3;omega) 0 K rfl M fun k x X=>by
   match k,X with
   |0,X=>simp only[List.getElem?_cons_zero,N3] at X;subst X;exact hu
   |k+1,X=>simp at X
 le:=by show(3:Nat)<=3;omega
theorem EJ(f0:∀z∈Z,z.natAbs<=14)(f1:∀z∈Y1,z.natAbs<=14)(f2:∀z∈Y2,z.natAbs<=14):agU s (Ip nm (hT Z) [u0,u1,u2] [hT Y1,hT Y2]) where
 toagP:=rU s nm u0 u1 u2 Z Y1 Y2 hm n0 n1 n2 d01 d02 d12 hZ hl hpos hn hY1 hl1 aax hY2 hl2 aav
 form:=.inl ⟨_,_,_,_,rfl,fun h=>by have e:(hT Z).length=0:=(by rw[h];rfl);rw[dT] at e;omega⟩
 nmo:=hm
 ren:=fun V S =>rU s V u0 u1 u2 Z Y1 Y2 S n0 n1 n2 d01 d02 d12 hZ hl hpos hn hY1 hl1 aax hY2 hl2 aav
 dk:=fun h=>absurd h (by show¬((1:Int)=4);decide)
 evf:=⟨.dep Z [u0,u1,u2] [Y1,Y2],⟨hn,rfl,by show(2:Nat)<=2;omega,hZ,fun Y h=>by
  simp only[lM] at h;rcases h with rfl | rfl
  .exact⟨hl1,hY1⟩
  .exact⟨hl2,hY2⟩⟩,⟨fun Y h=>by
  simp only[lM] at h;rcases h with rfl | rfl | rfl
  .exact f0
  .exact f1
  .exact f2,fun k A B W X=>by
  match k,W,X with
  |0,W,X=>
   simp only[List.getElem?_cons_zero,List.getElem?_cons_succ,N3] at W X;subst W X;exact aax
  |1,W,X=>
   simp only[List.getElem?_cons_zero,List.getElem?_cons_succ,N3] at W X;subst W X;exact aav
  |k+2,W,X=>simp at X⟩,rfl⟩
end
end
end Go.Proofs
