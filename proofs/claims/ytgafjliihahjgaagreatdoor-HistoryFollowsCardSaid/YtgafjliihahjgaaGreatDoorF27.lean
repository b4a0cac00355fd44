/- See F54. -/
import Derived.Test.YtgafjliihahjgaaGreatDoorF26
set_option linter.all false
namespace Go.Proofs
open Go.Eng
open Tryz
variable{M:Mem}{b es:Nat}{o:Bool}
theorem P6{ks:List Nat}{cs A :List AV}(hu:AV.afa ks.length cs=true)(h:M[b]? =some (.cells o es A))(G:A =AV.ae3 (dL ks M.length) cs):tI ks M b (.cells false es cs):=by refine⟨hu,o,A,h,fun j v Z=>?_⟩;rw[G,gb,List.getElem?_map,Z];rfl
section
variable (s:aeX)(nm:List UInt8)
include s nm
theorem kM(n:Z3)(a:Int)(v:Z3)(H:nm∈bG)(I:fq 99 n)(R:iu n=false)(Y:a.natAbs≤1000)(hs:fq 99 v)(hd:Hq v n=0)(M:Mem)(p t:Nat)(o o' :Bool)(A:M[p]? =some (.cells o 2 (pC s.P)))(G:M[t]? =some (.cells o' 3 (tC s.T))):
  kO prog 61 [.agg [.slice p 0 s.P.length none,.slice t 0 s.T.length none],.agg (bo nm n a v)] M (.int .i64 0) M:=by
 have Z:=gL A;have X:=gL G;have:=kO.frame (M:=M) (new:=[]) [p,t] rfl (by simp[Z,X]) (by rfl) (fun i q hs=>by
  match i with
  |0=>simp at hs;subst hs;exact bu (dA _) A List.take_length
  |1=>simp at hs;subst hs;exact bu (dV _) G List.take_length
  |i+2=>simp at hs) rfl (uY s nm n a v H I R Y hs hd)
 simpa [shA,bo,AV.ae3,AV.ren,dL] using this
theorem lQ(n:Z3)(a w:Int)(u:List UInt8)(I:nm∈bG)(R:fq 99 n)(Y:iu n=false)(ho:a.natAbs≤1000)(hw:0<w)(A:w<1000)(hu:u∈bG)(M:Mem)(p t:Nat)(o o' :Bool)(G:M[p]? =some (.cells o 2 (pC s.P)))(H:M[t]? =some (.cells o' 3 (tC s.T))):
  kO prog 61 [.agg [.slice p 0 s.P.length none,.slice t 0 s.T.length none],.agg (cX nm n a w u)] M (.int .i64 0) M:=by
 have X:=gL G;have W:=gL H;have:=kO.frame (M:=M) (new:=[]) [p,t] rfl (by simp[X,W]) (by rfl) (fun i q Z=>by
  match i with
  |0=>simp at Z;subst Z;exact bu (dA _) G List.take_length
  |1=>simp at Z;subst Z;exact bu (dV _) H List.take_length
  |i+2=>simp at Z) rfl (wT s nm n a w u I R Y ho hw A hu)
 simpa [shA,cX,AV.ae3,AV.ren,dL] using this
theorem lS(i:Nat)(c:Z3)(H:nm∈bG)(hc:fq 99 c)(M:Mem)(p t:Nat)(o o' :Bool)(A:M[p]? =some (.cells o 2 (pC s.P)))(G:M[t]? =some (.cells o' 3 (tC s.T))):
  kO prog 61 [.agg [.slice p 0 s.P.length none,.slice t 0 s.T.length none],.agg (cL nm (bC i) c)] M (.int .i64 0) M:=by
 have X:=gL A;have W:=gL G;have:=kO.frame (M:=M) (new:=[]) [p,t] rfl (by simp[X,W]) (by rfl) (fun i q Z=>by
  match i with
  |0=>simp at Z;subst Z;exact bu (dA _) A List.take_length
  |1=>simp at Z;subst Z;exact bu (dV _) G List.take_length
  |i+2=>simp at Z) rfl (wV s nm i c H hc)
 simpa [shA,cL,AV.ae3,AV.ren,dL] using this
theorem lR(n v:Z3)(d:ae6)(c:Nat)(I:0<c)(hc:c≤3)(R:nm∈bG)(Y:fq 99 n)(hz:iu n=false)(hs:fq 99 v)(hd:Hq v n=0)(M:Mem)(p t:Nat)(o o' :Bool)(A:M[p]? =some (.cells o 2 (pC s.P)))(G:M[t]? =some (.cells o' 3 (tC s.T)))(b:Nat)(q:Bool)(H:M[b]? =some (.cells q 2 (pC (bQ d c)))):
  kO prog 61 [.agg [.slice p 0 s.P.length none,.slice t 0 s.T.length none],.agg (bw nm n (.slice b 0 c none) v)] M (.int .i64 0) M:=by
 have Z:=gL A;have X:=gL G;have W:=gL H;have:=kO.frame (M:=M) (new:=[]) [p,t,b] rfl (by simp[Z,X,W]) (by rfl) (fun i q hs=>by
  match i with
  |0=>simp[vQ] at hs;subst hs;exact bu (dA _) A List.take_length
  |1=>simp[vQ] at hs;subst hs;exact bu (dV _) G List.take_length
  |2=>simp[vQ] at hs;subst hs;exact bu (dA _) H List.take_length
  |i+3=>simp[vQ] at hs) rfl (wU s nm n v d c I hc R Y hz hs hd)
 simpa [shA,bw,AV.ae3,AV.ren,dL] using this
theorem lN(u0:List UInt8)(Z:List Int)(I:nm∈bG)(R:u0∈bG)(Y:∀z∈Z,z.natAbs<1000)(hl:Z.length≤1000)(hn:Z.length=s.P.length)(M:Mem)(p t:Nat)(o o' :Bool)(A:M[p]? =some (.cells o 2 (pC s.P)))(G:M[t]? =some (.cells o' 3 (tC s.T)))(b u:Nat)(q1 q2:Bool)(H:M[b]? =some (.cells q1 1 (qC (qH Z))))(hu:M[u]? =some (.cells q2 1 [.str u0])):
  kO prog 61 [.agg [.slice p 0 s.P.length none,.slice t 0 s.T.length none],.agg (bf nm (.slice b 0 Z.length none) (.slice u 0 1 none) (.y9))] M (.int .i64 0) M:=by
 have W:=gL A;have V:=gL G;have S:=gL H;have O:=gL hu;have:=kO.frame (M:=M) (new:=[]) [p,t,b,u] rfl (by simp[W,V,S,O]) (by rfl) (fun i q X=>by
  match i with
  |0=>simp[mV] at X;subst X;exact bu (dA _) A List.take_length
  |1=>simp[mV] at X;subst X;exact bu (dV _) G List.take_length
  |2=>simp[mV] at X;subst X;exact bu (ir _) H List.take_length
  |3=>simp[mV] at X;subst X;exact bu (by rfl) hu List.take_length
  |i+4=>simp[mV] at X) rfl (wP s nm u0 Z I R  Y hl hn)
 simpa [shA,bf,AV.ae3,AV.ren,dL] using this
theorem lO(u0 H:List UInt8)(Z A:List Int)(hm:nm∈bG)(n0:u0∈bG)(n1:H∈bG)(I:H≠u0)(hZ:∀z∈Z,z.natAbs<1000)(hl:Z.length≤1000)(hn:Z.length=s.P.length)(R:∀z∈A,z.natAbs<1000)(Y:A.length=s.P.length)(aah:∀(i:Nat) z y,Z[i]? =some z→A[i]? =some y→z≤y)(M:Mem)(p t:Nat)(o o' :Bool)(hp:M[p]? =some (.cells o 2 (pC s.P)))(ht:M[t]? =some (.cells o' 3 (tC s.T)))(b u:Nat)(q1 q2:Bool)(hb:M[b]? =some (.cells q1 1 (qC (qH Z))))(hu:M[u]? =some (.cells q2 1 [.str u0,.str H]))(c r1:Nat)(q3 w1:Bool)(hc:M[c]? =some (.cells q3 1 [.slice r1 0 Z.length none]))(G:M[r1]? =some (.cells w1 1 (qC (qH A)))):
  kO prog 61 [.agg [.slice p 0 s.P.length none,.slice t 0 s.T.length none],.agg (bf nm (.slice b 0 Z.length none) (.slice u 0 2 none) (.slice c 0 1 none))] M (.int .i64 0) M:=by
 have V:=gL hp;have S:=gL ht;have O:=gL hb;have K:=gL hu;have J:=gL hc;have W:=gL G;have:=kO.frame (M:=M) (new:=[]) [p,t,b,u,c,r1] rfl (by simp[V,S,O,K,J,W]) (by rfl) (fun i q X=>by
  match i with
  |0=>simp[jT] at X;subst X;exact bu (dA _) hp List.take_length
  |1=>simp[jT] at X;subst X;exact bu (dV _) ht List.take_length
  |2=>simp[jT] at X;subst X;exact bu (ir _) hb List.take_length
  |3=>simp[jT] at X;subst X;exact bu (by rfl) hu List.take_length
  |4=>simp[jT] at X;subst X;exact P6 (by rfl) hc (by simp[AV.ae3,AV.ren,dL])
  |5=>simp[jT] at X;subst X;exact bu (ir _) G List.take_length
  |i+6=>simp[jT] at X) rfl (wQ s nm u0 H Z A hm n0 n1 I hZ hl hn R Y aah)
 simpa [shA,bf,AV.ae3,AV.ren,dL] using this
theorem lP(u0 G H:List UInt8)(Z A I:List Int)(hm:nm∈bG)(n0:u0∈bG)(n1:G∈bG)(n2:H∈bG)(d01:G≠u0)(d02:H≠u0)(d12:H≠G)(hZ:∀z∈Z,z.natAbs<1000)(hl:Z.length≤1000)(hn:Z.length=s.P.length)(hY1:∀z∈A,z.natAbs<1000)(hl1:A.length=s.P.length)(aah:∀(i:Nat) z y,Z[i]? =some z→A[i]? =some y→z≤y)(hY2:∀z∈I,z.natAbs<1000)(hl2:I.length=s.P.length)(aaM:∀(i:Nat) z y,A[i]? =some z→I[i]? =some y→z≤y)(M:Mem)(p t:Nat)(o o' :Bool)(hp:M[p]? =some (.cells o 2 (pC s.P)))(ht:M[t]? =some (.cells o' 3 (tC s.T)))(b u:Nat)(q1 q2:Bool)(hb:M[b]? =some (.cells q1 1 (qC (qH Z))))(hu:M[u]? =some (.cells q2 1 [.str u0,.str G,.str H]))(c r1 r2:Nat)(q3 w1 w2:Bool)(hc:M[c]? =some (.cells q3 1 [.slice r1 0 Z.length none,.slice r2 0 Z.length none]))(R:M[r1]? =some (.cells w1 1 (qC (qH A))))(Y:M[r2]? =some (.cells w2 1 (qC (qH I)))):
  kO prog 61 [.agg [.slice p 0 s.P.length none,.slice t 0 s.T.length none],.agg (bf nm (.slice b 0 Z.length none) (.slice u 0 3 none) (.slice c 0 2 none))] M (.int .i64 0) M:=by
 have S:=gL hp;have O:=gL ht;have K:=gL hb;have J:=gL hu;have F:=gL hc;have W:=gL R;have V:=gL Y;have:=kO.frame (M:=M) (new:=[]) [p,t,b,u,c,r1,r2] rfl (by simp[S,O,K,J,F,W,V]) (by rfl) (fun i q X=>by
  match i with
  |0=>simp[jm] at X;subst X;exact bu (dA _) hp List.take_length
  |1=>simp[jm] at X;subst X;exact bu (dV _) ht List.take_length
  |2=>simp[jm] at X;subst X;exact bu (ir _) hb List.take_length
  |3=>simp[jm] at X;subst X;exact bu (by rfl) hu List.take_length
  |4=>simp[jm] at X;subst X;exact P6 (by rfl) hc (by simp[AV.ae3,AV.ren,dL])
  |5=>simp[jm] at X;subst X;exact bu (ir _) R List.take_length
  |6=>simp[jm] at X;subst X;exact bu (ir _) Y List.take_length
  |i+7=>simp[jm] at X) rfl (wR s nm u0 G H Z A I hm n0 n1 n2 d01 d02 d12 hZ hl hn hY1 hl1 aah hY2 hl2 aaM)
 simpa [shA,bf,AV.ae3,AV.ren,dL] using this
end
theorem agu:aK prog 62=some f62:=by kernel_rfl
section
variable (nm:List UInt8)
include nm
theorem nj(n:Z3)(a:Int)(v:Z3)(M:Mem):kO prog 62 [.agg (bo nm n a v)] M .y9 M:=by refine aA (al _) ?_ M;simp[aa,agu,f62,bo]
theorem pd(q:Int×Int×Int×Int)(c:Z3)(M:Mem):kO prog 62 [.agg (cL nm q c)] M .y9 M:=by refine aA (al _) ?_ M;simp[aa,agu,f62,cL]
theorem pc(n v:Z3)(x:AV)(M:Mem):kO prog 62 [.agg (bw nm n x v)] M .y9 M:=by refine cd (al _) ?_;simp[aa,agu,f62,bw]
theorem zp(n:Z3)(a w:Int)(u:List UInt8)(M:Mem):kO prog 62 [.agg (cX nm n a w u)] M (.slice M.length 0 1 none) (M++[.cells true 1 [.str u]]):=by
 have h:aa (aN prog) (fun _=>[]) (aK prog) bM 1 62 [.agg (cX nm n a w u)] []=some ⟨.slice 0 0 1 none,none,[.cells true 1 [.str u]]⟩:=by simp[aa,agu,f62,cX,List.idxOf?_cons]
 have Z:=(ah ae (ar _) (al _) (au _) h).1;have X:kO prog 62 [.agg (cX nm n a w u)] [] (.slice 0 0 1 none) ([]++[.cells true 1 [.str u]]):=by simpa [aeQ.mem] using Z
 have:=kO.frame (M:=M) (m:=[]) (new:=[.cells true 1 [.str u]]) [] rfl (by simp) (by rfl) (fun i q W=>by simp at W) rfl X;simpa [cX,AV.ae3,AV.ren,aeY.ren,dL] using this
end
section
variable (L:List (List UInt8))(h1:0<L.length)(h3:L.length≤3)
include L h1 h3
theorem HC:kO prog 66 [.slice 0 0 L.length none] [.cells false 1 (stC L)] (.slice 1 0 L.length none) [.cells false 1 (stC L),.cells true 1 (stC L)]:=by
 have Z:aK prog 66=some f66:=by kernel_rfl
 have h:aa (aN prog) (fun _=>[]) (aK prog) bM 1 66 [.slice 0 0 L.length none] [.cells false 1 (stC L)]=some ⟨.slice 1 0 L.length none,none,[.cells true 1 (stC L)]⟩:=by
  match L,h1,h3 with
  | [u],_,_=>simp[aa,Z,f66,stC,Vx,List.idxOf?_cons]
  | [u,v],_,_=>simp[aa,Z,f66,stC,Vx,List.idxOf?_cons]
  | [u,v,w],_,_=>simp[aa,Z,f66,stC,Vx,List.idxOf?_cons]
 have:=(ah ae (ar _) (al _) (au _) h).1;simpa [aeQ.mem] using this
theorem MR(M:Mem)(b:Nat)(o:Bool)(A:M[b]? =some (.cells o 1 (stC L))):kO prog 66 [.slice b 0 L.length none] M (.slice M.length 0 L.length none) (M++[.cells true 1 (stC L)]):=by obtain⟨X,h,_,Z⟩:=kO.af3 (rest:=[]) (new:=[.cells true 1 (stC L)]) (kJ L) rfl rfl (HC L h1 h3) (M:=M) (x:=.slice b 0 L.length none) ⟨b,o,_,rfl,A,List.take_length⟩;cases h;simpa [AV.ren,aeY.ren,dL,ca (kJ L)] using Z
end
theorem AX(nm:List UInt8)(x y:AV)(L:List (List UInt8))(G:0<L.length)(h3:L.length≤3)(M:Mem)(b:Nat)(o:Bool)(A:M[b]? =some (.cells o 1 (stC L))):
  kO prog 62 [.agg (bf nm x (.slice b 0 L.length none) y)] M (.slice (M.length+1) 0 L.length none) (M++[.cells true 0 (bf nm x (.slice b 0 L.length none) y),.cells true 1 (stC L)]):=by
 have W:=gL A;obtain⟨E,Z⟩:=xE (α:=Mem) [.cells true 0 (bf nm x (.slice b 0 L.length none) y)];have hc:=MR L G h3 (M++E) b o (gU A _);have X:HS prog (fz [(66,[.slice b 0 L.length none],M++E,⟨.slice (M.length+1) 0 L.length none,none,[.cells true 1 (stC L)]⟩)]):=fL fun e he=>by simp only[lM] at he;subst he;refine⟨?_,by simp⟩;rw[Z] at hc ⊢;simpa [aeQ.mem] using hc
 have h:cB (aN prog) (fun _=>[]) (aK prog) (fz [(66,[.slice b 0 L.length none],M++E,⟨.slice (M.length+1) 0 L.length none,none,[.cells true 1 (stC L)]⟩)]) 1 62 [.agg (bf nm x (.slice b 0 L.length none) y)] M=some (.slice (M.length+1) 0 L.length none,M++[.cells true 0 (bf nm x (.slice b 0 L.length none) y),.cells true 1 (stC L)]):=by rw[Z];simp[cB,agu,f62,bf,fz]
 have:=bZ ae (ar _) X (au _) h;exact this
def afk(b:Nat) (new A :Mem):Prop:=∀(k:Nat) x,new[k]? =some x→A[b+k]? =some x
def gr(b:Nat)(new:Mem)(A:List AV)(U:List (List UInt8)):Prop:=∀Z,afk b new Z →∃v X,kO prog 62 [.agg A] Z v (Z ++X)∧∀ext,sts (Z ++X++ext) v=some U
theorem Pf{L:List (List UInt8)}(h:M[b]? =some (.cells o 1 (stC L))):sts M (.slice b 0 L.length none)=some L:=by unfold sts;rw[Lv h (by rw[fe];omega) (by rw[←fe,Nat.mul_one,List.take_length])];exact CN _
variable{ev:List AV}{new:Mem}
theorem qN(h:∀M,kO prog 62 [.agg ev] M .y9 M):gr b new ev []:=fun Z _=>⟨.y9,[],by simpa using h Z,fun _=>rfl⟩
theorem vD(nm:List UInt8)(n:Z3)(a w:Int)(u:List UInt8):gr b new (cX nm n a w u) [u]:=fun Z _=>⟨.slice Z.length 0 1 none,[.cells true 1 [.str u]],zp nm n a w u Z,fun X =>Pf (L:=[u]) (o:=true) (by rw[List.append_assoc,List.getElem?_append_right (by omega),Nat.sub_self];rfl)⟩
theorem iJ{b0:Nat}(nm:List UInt8)(x y:AV)(L:List (List UInt8))(A:0<L.length)(h3:L.length≤3)(j:Nat)(o:Bool)(G:new[j]? =some (.cells o 1 (stC L))):gr b0 new (bf nm x (.slice (b0+j) 0 L.length none) y) L:=fun Z W=>by have V :=W j _ G;refine⟨.slice (Z.length+1) 0 L.length none,[.cells true 0 (bf nm x (.slice (b0+j) 0 L.length none) y),.cells true 1 (stC L)],AX nm x y L A h3 Z (b0+j) o V,fun X =>Pf (o:=true) ?_⟩;rw[List.append_assoc,List.getElem?_append_right (by omega),show Z.length+1-Z.length=1 by omega];rfl
def pF(M new:Mem):Prop:=(new.all fun x=>(x.own||match x with | .aeP=>true | _=>false)&&x.aeR (fun b=>decide (b<M.length+5)))=true
def sO(ev:List AV):Prop:=∀x∈ev,(match x with | .agg _=>false | .tuple _=>false | .undef=>false | _=>true)=true
def bS(d:ae6)(i:Nat):List (List UInt8):=if d.kind%5=0 then bE i (d.K.1%3) else if d.kind%5=3 then [iw i] else []
variable{C:List AV}{N:Mem}{n:Nat}{v:AV}
theorem afb.afm(h:afb N v es n C)(A:n=0):v=.y9:=by
 rcases h with⟨h,_,_⟩ | ⟨_,_,_,h,_⟩
 ·exact h
 ·omega
theorem afb.pos(h:afb N v es n C)(A:0<n):∃b o,v=.slice b 0 n none∧N[b]? =some (.cells o es C):=by
 rcases h with⟨_,h,_⟩ | ⟨b,o,Z,_,X⟩
 ·omega
 ·exact⟨b,o,Z,X⟩
theorem age.afm{S:List (List (List UInt8))}(h:age N v S)(A:S=[]):v=.y9:=by obtain⟨Z,_,h,_⟩:=h;exact h.afm (by rw[A];rfl)
theorem afb.ck(h:afb N v es n C):v.aeS=true:=by rcases h with⟨rfl,_⟩ | ⟨b,o,rfl,_⟩<;>rfl
variable{c:Evc}{e:List AV}
theorem afv.flat(h:afv N e c)(A:c.B.length=0)(G:c.U.length=0)(h3:c.S=[])(H:c.K.length=0):e=c.cells .y9 .y9 .y9 .y9:=by obtain⟨b,u,O,J,rfl,Z,X,W,V⟩:=h;obtain rfl:=Z.afm A;obtain rfl:=X.afm G;obtain rfl:=W.afm h3;obtain rfl:=V.afm H;rfl
theorem afv.l32(h:afv N e c):e.length=32:=by obtain⟨b,u,s,Z,rfl,_⟩:=h;rfl
theorem afv.cok(h:afv N e c):∀x∈e,x.aeS=true:=by obtain⟨b,u,s,S,rfl,X,W,⟨_,_,h3,_⟩,V⟩:=h;intro x Z;simp only[Evc.cells,lM] at Z;rcases Z with rfl | rfl | rfl | rfl | rfl | rfl | rfl | rfl | rfl | rfl | rfl | rfl | rfl | rfl | rfl | rfl | rfl | rfl | rfl | rfl | rfl | rfl | rfl | rfl | rfl | rfl | rfl | rfl | rfl | rfl | rfl | rfl<;>first | rfl | exact X.ck | exact W.ck | exact h3.ck | exact V.ck
theorem afb.inj{A :Nat}{G :List AV}(h:afb N v es n C)(H :afb N v es A G):n=A ∧C=G :=by
 rcases h with⟨rfl,rfl,rfl⟩ | ⟨b,o,rfl,S,X⟩
 ·rcases H with⟨_,rfl,rfl⟩ | ⟨W,V,h,_⟩
  ·exact⟨rfl,rfl⟩
  ·cases h
 ·rcases H with⟨h,_⟩ | ⟨W,V,h,_,Z⟩
  ·cases h
  ·cases h
   rw[X] at Z;cases Z;exact⟨rfl,rfl⟩
def unE(c:Evc):List (List UInt8):=if c.k=1 then c.U else if c.k=4 then [c.x24] else []
theorem YD{d:Evc}(h:afv M ev c)(k:afv M ev d):unE c=unE d:=by
 obtain⟨b,u,B,z,X,_,W,_,_⟩:=h;obtain⟨m,j,V,S,Z,_,O,_,_⟩:=k;rw[X] at Z;simp only[Evc.cells,List.cons.injEq,AV.int.injEq,AV.str.injEq,true_and,and_true] at Z;obtain⟨K,_,_,J,_,_,_,_,_,_,_,_,_,_,_,_,_,_,_,_,_,_,_,_,F,_⟩:=Z;subst J;have D:c.U=d.U:=by have:=congrArg stP (W.inj O).2;rw[CN,CN] at this;exact Option.some.inj this
 unfold unE;rw[K,D,F]
def lL(s:aeX)(c:Evc):Prop:=∀(M:Mem) (p t:Nat) (o Z :Bool) (ev:List AV),M[p]? =some (.cells o 2 (pC s.P))→M[t]? =some (.cells Z 3 (tC s.T))→afv M ev c→kO prog 61 [.agg [.slice p 0 s.P.length none,.slice t 0 s.T.length none],.agg ev] M (.int .i64 0) M
def VE(c:Evc):Prop:=∀(M:Mem) (ev:List AV),afv M ev c→∃v Z,kO prog 62 [.agg ev] M v (M++Z)∧∀ext,sts (M++Z++ext) v=some (unE c)
def ZC(c:Evc):Prop:=(∃nm B U S,c=xu nm B U S∧B≠[])∨(∃nm n o s,c=BO nm n o s)∨(∃nm n K s,c=zP nm n K s)∨(∃nm n o w u,c=Ow nm n o w u)∨∃nm t x,c=Ox nm t x
structure Tryz.afF (s:aeX)(c:Evc):Prop where
 ok:c.Ok
 chk:lL s c
 un:VE c
 le:(unE c).length≤3
inductive EvD where
 |dep (Z:List Int) (us:List (List UInt8)) (Ys:List (List Int))
 |fault (n:Z3) (o:Int) (v:Z3)
 |fold (n:Z3) (d:ae6) (c:Nat) (v:Z3)
 |afW (n:Z3) (o w:Int) (u:List UInt8)
 |afZ (i:Nat) (c:Z3)
def EvD.con(nm:List UInt8):EvD→Evc
 |.dep Z us Ys=>xu nm (hT Z) us (Ys.map hT)
 |.fault n o v=>BO nm n o v
 |.fold n d c v=>zP nm n (kT (bQ d c)) v
 |.afW n o w u=>Ow nm n o w u
 |.afZ i c=>Ox nm (bC i) c
def EvD.Ok(s:aeX):EvD→Prop
 |.dep Z us Ys=>Z.length=s.P.length∧us.length=Ys.length+1∧Ys.length≤2∧(∀z∈Z,z.natAbs<1000)∧∀Y∈Ys,Y.length=s.P.length∧∀z∈Y,z.natAbs<1000
 |.fault n o v=>fq 2 n∧iu n=false∧o.natAbs≤4∧fq 8 v∧Hq v n=0
 |.fold n _ c v=>fq 2 n∧iu n=false∧0<c∧c≤3∧fq 8 v∧Hq v n=0
 |.afW n o w _=>fq 2 n∧iu n=false∧o.natAbs≤4∧0<w∧w≤4
 |.afZ i c=>i≤5∧fq 2 c
def EvD.Fin:EvD→Prop
 |.dep Z _ Ys=>(∀Y∈Z::Ys,∀z∈Y,z.natAbs≤14)∧∀(k:Nat) A B,(Z::Ys)[k]? =some A→(Z::Ys)[k+1]? =some B→∀(i:Nat) z y,A[i]? =some z→B[i]? =some y→z≤y
 |_=>True
structure Tryz.afN (s:aeX)(c:Evc):Prop extends afF s c where
 form:ZC c
 nmo:c.nm∈bG
 ren:∀nm∈bG,afF s { c with nm:=nm }
 dk:c.k=4→∀nm∈bG,afF s { c with nm:=nm,x24:=[122] }
 evf:∃w:EvD,w.Ok s∧w.Fin∧c=w.con c.nm
section
variable (s:aeX)(nm:List UInt8)
include s nm
theorem pf(n:Z3)(a:Int)(v:Z3)(A:nm∈bG)(G:fq 99 n)(H:iu n=false)(I:a.natAbs≤1000)(hs:fq 99 v)(R:Hq v n=0):afF s (BO nm n a v) where
 ok:=Af rfl rfl rfl (by simp[BO])
 chk:=fun M p t o Z ev hp ht h=>by obtain rfl:=h.flat rfl rfl rfl rfl;exact kM s nm n a v A G H I hs R M p t o Z hp ht
 un:=fun M ev h=>by obtain rfl:=h.flat rfl rfl rfl rfl;exact⟨.y9,[],by rw[List.append_nil];exact nj nm n a v M,fun _=>rfl⟩
 le:=by show(0:Nat)≤3;omega
theorem Bk(n:Z3)(a:Int)(v:Z3)(H:nm∈bG)(I:fq 99 n)(A:iu n=false)(R:a.natAbs≤1000)(hs:fq 99 v)(G:Hq v n=0)(Y:fq 2 n)(o4:a.natAbs≤4)(v8:fq 8 v):afN s (BO nm n a v) where
 toafF:=pf s nm n a v H I A R hs G
 form:=.inr (.inl ⟨_,_,_,_,rfl⟩)
 nmo:=H
 ren:=fun Z X =>pf s Z n a v X I A R hs G
 dk:=fun h=>absurd h (by show¬((2:Int)=4);decide)
 evf:=⟨.fault n a v,⟨Y,A,o4,v8,G⟩,trivial,rfl⟩
theorem qv(i:Nat)(c:Z3)(A:nm∈bG)(hc:fq 99 c):afF s (Ox nm (bC i) c) where
 ok:=Af rfl rfl rfl (by simp[Ox])
 chk:=fun M p t o Z ev hp ht h=>by obtain rfl:=h.flat rfl rfl rfl rfl;exact lS s nm i c A hc M p t o Z hp ht
 un:=fun M ev h=>by obtain rfl:=h.flat rfl rfl rfl rfl;exact⟨.y9,[],by rw[List.append_nil];exact pd nm (bC i) c M,fun _=>rfl⟩
 le:=by show(0:Nat)≤3;omega
theorem Ds(i:Nat)(c:Z3)(A:nm∈bG)(hc:fq 99 c)(G:i≤5)(H:fq 2 c):afN s (Ox nm (bC i) c) where
 toafF:=qv s nm i c A hc
 form:=.inr (.inr (.inr (.inr ⟨_,_,_,rfl⟩)))
 nmo:=A
 ren:=fun Z X =>qv s Z i c X hc
 dk:=fun h=>absurd h (by show¬((5:Int)=4);decide)
 evf:=⟨.afZ i c,⟨G,H⟩,trivial,rfl⟩
theorem kN(n:Z3)(a w:Int)(u:List UInt8)(G:nm∈bG)(H:fq 99 n)(I:iu n=false)(R:a.natAbs≤1000)(Y:0<w)(A:w<1000)(hu:u∈bG):afF s (Ow nm n a w u) where
 ok:=Af rfl rfl rfl (by simp[Ow])
 chk:=fun M p t o Z ev hp ht h=>by obtain rfl:=h.flat rfl rfl rfl rfl;exact lQ s nm n a w u G H I R Y A hu M p t o Z hp ht
 un:=fun M ev h=>by obtain rfl:=h.flat rfl rfl rfl rfl;exact vD (b:=0) (new:=[]) nm n a w u M fun k x h=>by simp at h
 le:=by show(1:Nat)≤3;omega
theorem Dq(n:Z3)(a w:Int)(u:List UInt8)(Y:nm∈bG)(I:fq 99 n)(G:iu n=false)(R:a.natAbs≤1000)(H:0<w)(A:w<1000)(hu:u∈bG)(h2:fq 2 n)(o4:a.natAbs≤4)(w4:w≤4):afN s (Ow nm n a w u) where
 toafF:=kN s nm n a w u Y I G R H A hu
 form:=.inr (.inr (.inr (.inl ⟨_,_,_,_,_,rfl⟩)))
 nmo:=Y
 ren:=fun Z X =>kN s Z n a w u X I G R H A hu
 dk:=fun _ Z X =>kN s Z n a w [122] X I G R H A (by decide)
 evf:=⟨.afW n a w u,⟨h2,G,o4,H,w4⟩,trivial,rfl⟩
theorem qu(n v:Z3)(d:ae6)(c:Nat)(A:0<c)(hc:c≤3)(G:nm∈bG)(H:fq 99 n)(I:iu n=false)(hs:fq 99 v)(R:Hq v n=0):afF s (zP nm n (kT (bQ d c)) v) where
 ok:=Af rfl rfl rfl (by show(kT (bQ d c)).length≤1000;rw[cM,bP];omega)
 chk:=fun M p t o S ev hp ht h=>by
  obtain⟨b,u,O,kn,rfl,Z,X,W,V⟩:=h;obtain rfl:=Z.afm rfl;obtain rfl:=X.afm rfl;obtain rfl:=W.afm rfl;have e:(zP nm n (kT (bQ d c)) v).K.length=c:=by show(kT (bQ d c)).length=c;rw[cM,bP]
  rw[e] at V;obtain⟨b,q,rfl,J⟩:=V.pos A;have F :M[b]? =some (.cells q 2 (pC (bQ d c))):=by rw[U6];exact J
  exact lR s nm n v d c A hc G H I hs R M p t o S hp ht b q F
 un:=fun M ev h=>by obtain⟨b,u,O,kn,rfl,Z,X,W,V⟩:=h;obtain rfl:=Z.afm rfl;obtain rfl:=X.afm rfl;obtain rfl:=W.afm rfl;exact⟨.y9,[],by rw[List.append_nil];exact pc nm n v kn M,fun _=>rfl⟩
 le:=by show(0:Nat)≤3;omega
theorem Dr(n v:Z3)(d:ae6)(c:Nat)(A:0<c)(hc:c≤3)(I:nm∈bG)(R:fq 99 n)(G:iu n=false)(hs:fq 99 v)(H:Hq v n=0)(Y:fq 2 n)(v8:fq 8 v):afN s (zP nm n (kT (bQ d c)) v) where
 toafF:=qu s nm n v d c A hc I R G hs H
 form:=.inr (.inr (.inl ⟨_,_,_,_,rfl⟩))
 nmo:=I
 ren:=fun Z X =>qu s Z n v d c A hc X R G hs H
 dk:=fun h=>absurd h (by show¬((3:Int)=4);decide)
 evf:=⟨.fold n d c v,⟨Y,G,A,hc,v8,H⟩,trivial,rfl⟩
end
theorem LW(Z:List Int):stC (hT Z)=qC (qH Z):=by rw[tB];rfl
section
variable (s:aeX)(nm:List UInt8)
include s nm
section
variable (u0:List UInt8)(Z:List Int)(hm:nm∈bG)(n0:u0∈bG)(hZ:∀z∈Z,z.natAbs<1000)(hl:Z.length≤1000)(Z6:0<Z.length)(hn:Z.length=s.P.length)
include u0 Z hm n0 hZ hl Z6 hn
theorem qq:afF s (xu nm (hT Z) [u0] []) where
 ok:=⟨by show(hT Z).length≤1000;rw[cS];exact hl,by show(1:Nat)≤1000;omega,by show(0:Nat)≤2;omega,fun L D=>by simp[xu] at D,by show(0:Nat)≤1000;omega⟩
 chk:=fun M p t o z ev hp ht h=>by
  obtain⟨b,u,K,kn,rfl,V,S,J,O⟩:=h;obtain rfl:=O.afm rfl;have e:(xu nm (hT Z) [u0] []).B.length=Z.length:=cS Z;rw[e] at V;obtain⟨b,F,rfl,m⟩:=V.pos Z6;obtain⟨u,W,rfl,hu⟩:=S.pos (by show 0<1;omega);have j :M[b]? =some (.cells F 1 (qC (qH Z))):=by rw[←LW];exact m
  obtain rfl:=J.afm rfl;exact lN s nm u0 Z hm n0  hZ hl hn  M p t o z hp ht b u F W j hu
 un:=fun M ev h=>by
  obtain⟨b,u,K,kn,rfl,V,S,J,O⟩:=h;obtain rfl:=O.afm rfl;obtain⟨u,W,rfl,hu⟩:=S.pos (by show 0<1;omega);exact iJ (b0:=u) (new:=[.cells W 1 (stC [u0])]) nm b K [u0] (by show 0<1;omega) (by show 1≤3;omega) 0 W rfl M fun k x X=>by
   match k,X with
   |0,X=>simp only[List.getElem?_cons_zero,Option.some.injEq] at X;subst X;exact hu
   |k+1,X=>simp at X
 le:=by show(1:Nat)≤3;omega
theorem Dl(f0:∀z∈Z,z.natAbs≤14):afN s (xu nm (hT Z) [u0] []) where
 toafF:=qq s nm u0 Z hm n0 hZ hl Z6 hn
 form:=.inl ⟨_,_,_,_,rfl,fun h=>by have e:(hT Z).length=0:=(by rw[h];rfl);rw[cS] at e;omega⟩
 nmo:=hm
 ren:=fun X W =>qq s X u0 Z W n0 hZ hl Z6 hn
 dk:=fun h=>absurd h (by show¬((1:Int)=4);decide)
 evf:=⟨.dep Z [u0] [],⟨hn,rfl,by decide,hZ,fun Y h=>by cases h⟩,⟨fun Y h=>by rw[List.mem_singleton] at h;rw[h];exact f0,fun k A B hA V=>by simp at V⟩,rfl⟩
end
section
variable (u0 u1:List UInt8)(Z Y1:List Int)(hm:nm∈bG)(n0:u0∈bG)(n1:u1∈bG)(d01:u1≠u0)(hZ:∀z∈Z,z.natAbs<1000)(hl:Z.length≤1000)(Z6:0<Z.length)(hn:Z.length=s.P.length)(hY1:∀z∈Y1,z.natAbs<1000)(hl1:Y1.length=s.P.length)(aah:∀(i:Nat) z y,Z[i]? =some z→Y1[i]? =some y→z≤y)
include u0 u1 Z Y1 hm n0 n1 d01 hZ hl Z6 hn hY1 hl1 aah
theorem qs:afF s (xu nm (hT Z) [u0,u1] [hT Y1]) where
 ok:=⟨by show(hT Z).length≤1000;rw[cS];exact hl,by show(2:Nat)≤1000;omega,by show(1:Nat)≤2;omega,fun L F=>by simp only[xu,lM] at F;rcases F with rfl<;>(rw[cS];omega),by show(0:Nat)≤1000;omega⟩
 chk:=fun M p t o R ev hp ht h=>by
  obtain⟨b,u,D,kn,rfl,O,K,z,J⟩:=h;obtain rfl:=J.afm rfl;have e:(xu nm (hT Z) [u0,u1] [hT Y1]).B.length=Z.length:=cS Z;rw[e] at O;obtain⟨b,m,rfl,I⟩:=O.pos Z6;obtain⟨u,S,rfl,hu⟩:=K.pos (by show 0<2;omega);have H :M[b]? =some (.cells m 1 (qC (qH Z))):=by rw[←LW];exact I
  obtain⟨j,G,A,kc⟩:=z;obtain⟨W,rfl⟩:∃W,j=[W]:=by
   match j,G with
   | [W],_=>exact⟨W,rfl⟩
  obtain⟨c,q3,rfl,hc⟩:=A.pos (by show 0<1;omega);have Y:=kc 0 W (hT Y1) rfl rfl;rw[cS,hl1,←hn] at Y;obtain⟨r1,w1,rfl,V⟩:=Y.pos Z6;rw[LW] at V;exact lO s nm u0 u1 Z Y1 hm n0 n1 d01 hZ hl hn hY1 hl1 aah M p t o R hp ht b u m S H hu c r1 q3 w1 hc V
 un:=fun M ev h=>by
  obtain⟨b,u,D,kn,rfl,O,K,z,J⟩:=h;obtain rfl:=J.afm rfl;obtain⟨u,S,rfl,hu⟩:=K.pos (by show 0<2;omega);exact iJ (b0:=u) (new:=[.cells S 1 (stC [u0,u1])]) nm b D [u0,u1] (by show 0<2;omega) (by show 2≤3;omega) 0 S rfl M fun k x X=>by
   match k,X with
   |0,X=>simp only[List.getElem?_cons_zero,Option.some.injEq] at X;subst X;exact hu
   |k+1,X=>simp at X
 le:=by show(2:Nat)≤3;omega
theorem Dm(f0:∀z∈Z,z.natAbs≤14)(f1:∀z∈Y1,z.natAbs≤14):afN s (xu nm (hT Z) [u0,u1] [hT Y1]) where
 toafF:=qs s nm u0 u1 Z Y1 hm n0 n1 d01 hZ hl Z6 hn hY1 hl1 aah
 form:=.inl ⟨_,_,_,_,rfl,fun h=>by have e:(hT Z).length=0:=(by rw[h];rfl);rw[cS] at e;omega⟩
 nmo:=hm
 ren:=fun W V =>qs s W u0 u1 Z Y1 V n0 n1 d01 hZ hl Z6 hn hY1 hl1 aah
 dk:=fun h=>absurd h (by show¬((1:Int)=4);decide)
 evf:=⟨.dep Z [u0,u1] [Y1],⟨hn,rfl,by show(1:Nat)≤2;omega,hZ,fun Y h=>by rw[List.mem_singleton] at h;rw[h];exact⟨hl1,hY1⟩⟩,⟨fun Y h=>by
  simp only[lM] at h;rcases h with rfl | rfl
  ·exact f0
  ·exact f1,fun k A B hA X=>by
  match k,hA,X with
  |0,hA,X=>
   simp only[List.getElem?_cons_zero,List.getElem?_cons_succ,Option.some.injEq] at hA X;subst hA X;exact aah
  |k+1,hA,X=>simp at X⟩,rfl⟩
end
section
variable (u0 u1 u2:List UInt8)(Z Y1 Y2:List Int)(hm:nm∈bG)(n0:u0∈bG)(n1:u1∈bG)(n2:u2∈bG)(d01:u1≠u0)(d02:u2≠u0)(d12:u2≠u1)(hZ:∀z∈Z,z.natAbs<1000)(hl:Z.length≤1000)(Z6:0<Z.length)(hn:Z.length=s.P.length)(hY1:∀z∈Y1,z.natAbs<1000)(hl1:Y1.length=s.P.length)(aah:∀(i:Nat) z y,Z[i]? =some z→Y1[i]? =some y→z≤y)(hY2:∀z∈Y2,z.natAbs<1000)(hl2:Y2.length=s.P.length)(aaM:∀(i:Nat) z y,Y1[i]? =some z→Y2[i]? =some y→z≤y)
include u0 u1 u2 Z Y1 Y2 hm n0 n1 n2 d01 d02 d12 hZ hl Z6 hn hY1 hl1 aah hY2 hl2 aaM
theorem qt:afF s (xu nm (hT Z) [u0,u1,u2] [hT Y1,hT Y2]) where
 ok:=⟨by show(hT Z).length≤1000;rw[cS];exact hl,by show(3:Nat)≤1000;omega,by show(2:Nat)≤2;omega,fun L z=>by simp only[xu,lM] at z;rcases z with rfl | rfl<;>(rw[cS];omega),by show(0:Nat)≤1000;omega⟩
 chk:=fun M p t o G ev hp ht h=>by
  obtain⟨b,u,m,kn,rfl,J,F,j,D⟩:=h;obtain rfl:=D.afm rfl;have e:(xu nm (hT Z) [u0,u1,u2] [hT Y1,hT Y2]).B.length=Z.length:=cS Z;rw[e] at J;obtain⟨b,Y,rfl,A⟩:=J.pos Z6;obtain⟨u,K,rfl,hu⟩:=F.pos (by show 0<3;omega);have Z8 :M[b]? =some (.cells Y 1 (qC (qH Z))):=by rw[←LW];exact A
  obtain⟨R,lv,kv,kc⟩:=j;obtain⟨W,V,rfl⟩:∃W V,R=[W,V]:=by
   match R,lv with
   | [W,V],_=>exact⟨W,V,rfl⟩
  obtain⟨c,q3,rfl,hc⟩:=kv.pos (by show 0<2;omega);have I:=kc 0 W (hT Y1) rfl rfl;rw[cS,hl1,←hn] at I;obtain⟨r1,w1,rfl,S⟩:=I.pos Z6;rw[LW] at S;have H:=kc 1 V (hT Y2) rfl rfl;rw[cS,hl2,←hn] at H;obtain⟨r2,w2,rfl,O⟩:=H.pos Z6;rw[LW] at O;exact lP s nm u0 u1 u2 Z Y1 Y2 hm n0 n1 n2 d01 d02 d12 hZ hl hn hY1 hl1 aah hY2 hl2 aaM M p t o G hp ht b u Y K Z8 hu c r1 r2 q3 w1 w2 hc S O
 un:=fun M ev h=>by
  obtain⟨b,u,m,kn,rfl,J,F,j,D⟩:=h;obtain rfl:=D.afm rfl;obtain⟨u,K,rfl,hu⟩:=F.pos (by show 0<3;omega);exact iJ (b0:=u) (new:=[.cells K 1 (stC [u0,u1,u2])]) nm b m [u0,u1,u2] (by show 0<3;omega) (by show 3≤3;omega) 0 K rfl M fun k x X=>by
   match k,X with
   |0,X=>simp only[List.getElem?_cons_zero,Option.some.injEq] at X;subst X;exact hu
   |k+1,X=>simp at X
 le:=by show(3:Nat)≤3;omega
theorem Dp(f0:∀z∈Z,z.natAbs≤14)(f1:∀z∈Y1,z.natAbs≤14)(f2:∀z∈Y2,z.natAbs≤14):afN s (xu nm (hT Z) [u0,u1,u2] [hT Y1,hT Y2]) where
 toafF:=qt s nm u0 u1 u2 Z Y1 Y2 hm n0 n1 n2 d01 d02 d12 hZ hl Z6 hn hY1 hl1 aah hY2 hl2 aaM
 form:=.inl ⟨_,_,_,_,rfl,fun h=>by have e:(hT Z).length=0:=(by rw[h];rfl);rw[cS] at e;omega⟩
 nmo:=hm
 ren:=fun W V =>qt s W u0 u1 u2 Z Y1 Y2 V n0 n1 n2 d01 d02 d12 hZ hl Z6 hn hY1 hl1 aah hY2 hl2 aaM
 dk:=fun h=>absurd h (by show¬((1:Int)=4);decide)
 evf:=⟨.dep Z [u0,u1,u2] [Y1,Y2],⟨hn,rfl,by show(2:Nat)≤2;omega,hZ,fun Y h=>by
  simp only[lM] at h;rcases h with rfl | rfl
  ·exact⟨hl1,hY1⟩
  ·exact⟨hl2,hY2⟩⟩,⟨fun Y h=>by
  simp only[lM] at h;rcases h with rfl | rfl | rfl
  ·exact f0
  ·exact f1
  ·exact f2,fun k A B hA X=>by
  match k,hA,X with
  |0,hA,X=>
   simp only[List.getElem?_cons_zero,List.getElem?_cons_succ,Option.some.injEq] at hA X;subst hA X;exact aah
  |1,hA,X=>
   simp only[List.getElem?_cons_zero,List.getElem?_cons_succ,Option.some.injEq] at hA X;subst hA X;exact aaM
  |k+2,hA,X=>simp at X⟩,rfl⟩
end
end
end Go.Proofs
