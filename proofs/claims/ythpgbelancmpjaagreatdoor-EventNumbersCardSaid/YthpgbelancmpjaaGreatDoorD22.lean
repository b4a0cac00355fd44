/- See D38. -/
import Derived.Test.YthpgbelancmpjaaGreatDoorD21
set_option linter.all false
set_option maxRecDepth 100000
set_option maxHeartbeats 40000000
namespace Go.Proofs
open Go.Eng
open Tryz
noncomputable def iQ(f:FuncId)(args:List AV):Option AV:=
 match f,args with
 |102,[.str s]=>if s.length<=1000000000 then some (match s.idxOf? 47 with | some i=>.tuple [.str (s.take i),.str (s.drop (i+1))] | none=>.tuple [.str s,.str [49]]) else none
 |f,args=>cN f args
theorem NM:qS prog (ag iQ):=bP fun f Z v h mem=>by
 unfold iQ at h;split at h
 .split at h
  next X=>cases h;exact yp _ X mem
  .cases h
 .have:=uL.fn _ _ mem ⟨v,none,[]⟩ (by unfold ag;simp only;rw[h])
  simpa [afh.mem] using this
theorem HJ(s:List UInt8)(H:s.length<=1000000000)(mem:Mem):
  kO prog 51 [.str s] mem (.bool (yT s==0)) mem:=by
 have R:aX prog 51=some f51:=by kernel_rfl
 refine aA NM ?_ mem;have X:=jH s 47;cases hx:s.idxOf? 47 with
 |none=>
  rw[hx] at X;simp only at X;rw[Ld hx];have u:okI [49]=true:=rfl;cases ho:okI s with
  |true=>simp[aa,R,f51,ag,iQ,cN,di,eR,eh,bM,bJ,bZ,aZ,ak,H,X,hx,ho,u]
  |false=>simp[aa,R,f51,ag,iQ,cN,di,H,hx,ho]
 |some i=>
  rw[hx] at X;simp only at X;have V:¬(i:Int)<0:=by omega
  obtain⟨a,U⟩:=xE (s.take i);obtain⟨b,S⟩:=xE (s.drop (i+1));have N:a.length<=1000000000:=by rw[U,S2];omega
  have K:b.length<=1000000000:=by rw[S,QQj];omega
  cases ho:okI a with
  |false=>
   rw[Lb hx (by rw[<-U];exact ho)];simp[aa,R,f51,ag,iQ,cN,di,H,hx,<-U,<-S,N,ho]
  |true=>
   cases ho2:okI b with
   |false=>
    rw[Lc hx (by rw[<-S];exact ho2)];simp[aa,R,f51,ag,iQ,cN,di,H,hx,<-U,<-S,N,K,ho,ho2]
   |true=>
    have M:∃n,iH a=some n/\(ai n.natAbs).length<=200:=by
     unfold okI at ho;cases hx:iH a with
     |none=>rw[hx] at ho;cases ho
     |some n=>rw[hx] at ho;exact⟨n,rfl,by simpa using ho⟩
    have O:∃n,iH b=some n/\(ai n.natAbs).length<=200:=by
     unfold okI at ho2;cases hx:iH b with
     |none=>rw[hx] at ho2;cases ho2
     |some n=>rw[hx] at ho2;exact⟨n,rfl,by simpa using ho2⟩
    obtain⟨n,M,j⟩:=M;obtain⟨d,O,d2⟩:=O;rw[Ep hx (by rw[<-U];exact M) (by rw[<-S];exact O) j d2];have F:iH [49]=some 1:=rfl;have D:(ai 1).length<=10000:=by decide
    have G:0<jB (d-1)↔1<d:=by
     unfold jB;split
     .constructor<;>intro h<;>omega
     .split<;>constructor<;>intro h<;>omega
    have o:(a==[48])=decide (n=0):=by rw[bK M,fT]
    have m:(ai n.natAbs).length<=10000:=by omega
    have d3:(ai d.natAbs).length<=10000:=by omega
    by_cases C:1<d
    .have Z :0<jB (d-1):=G.2 C
     by_cases B:n=0
     .have L:¬n.natAbs.gcd d.natAbs=1:=by subst B;simp;omega
      rw[if_neg (fun e=>L e.2)];simp[aa,R,f51,ag,iQ,cN,di,eR,eh,bM,bJ,bZ,aZ,ak,H,hx,X,V,<-U,<-S,N,K,ho,ho2,O,F,D,d3,Z,o,B]
     .by_cases L:n.natAbs.gcd d.natAbs=1
      .rw[if_pos ⟨C,L⟩]
       simp[aa,R,f51,ag,iQ,cN,di,eR,eh,bM,bJ,bZ,aZ,ak,H,hx,X,V,<-U,<-S,N,K,ho,ho2,M,O,F,D,m,d3,Z,o,B,fz,L]
      .rw[if_neg (fun e=>L e.2)]
       simp[aa,R,f51,ag,iQ,cN,di,eR,eh,bM,bJ,bZ,aZ,ak,H,hx,X,V,<-U,<-S,N,K,ho,ho2,M,O,F,D,m,d3,Z,o,B,fz,L]
    .have Z :¬0<jB (d-1):=fun e=>C (G.1 e)
     rw[if_neg (fun e=>C e.1)];simp[aa,R,f51,ag,iQ,cN,di,eR,eh,bM,bJ,bZ,aZ,ak,H,hx,X,V,<-U,<-S,N,K,ho,ho2,O,F,D,d3,Z]
variable{M:Mem}{b es:Nat}{cs l:List AV}{o:Bool}
theorem Y3{ks:List Nat}(hc:AV.afm cs=true)(h:M[b]? =some (.cells o es l))(H:l.take cs.length=cs):afX ks M b (.cells false es cs):=by
 refine⟨bj hc,o,l,h,fun j v Z=>?_⟩;have U:=gL Z;have e:l[j]? =cs[j]? :=by rw[<-QQQ U,H]
 have X:=aL (ρ:=fa ks M.length) hc;rw[ix] at X;have V:(cs.map (AV.ren (fa ks M.length)))[j]? =cs[j]? :=by rw[X]
 rw[Zo,Z] at V;rw[e,Z];exact V.symm
theorem Oy{v:AV}{f:Nat->Option Nat}(h:v.closed=true):v.ren f=v:=by have:=aL (vs:=[v]) (ρ:=f) (by simp[AV.afm,h]);simpa [AV.afz] using this
variable{P:Program}{f:FuncId}{n:Nat}{r:Option Nat}{rest:List AV}
theorem agM{v:AV}(hc:AV.afm cs=true)(hr:AV.afm rest=true)(I:v.closed=true)(H:M[b]? =some (.cells o es l))(J:l.take cs.length=cs)(h:kO P f (.slice 0 0 n r::rest) [.cells false es cs] v [.cells false es cs]):kO P f (.slice b 0 n r::rest) M v M:=by
 have X:=gL H;have V:AV.afp [b].length (.slice 0 0 n r::rest)=true:=by
  show(decide (0<1)&&AV.afp 1 rest)=true
  rw[bj hr];rfl
 have:=kO.frame (M:=M) (new:=[]) [b] (m:=[.cells false es cs]) rfl (by simpa using X) V (fun i s Z=>by
  cases i with
  |zero=>simp at Z;subst Z;exact Y3 hc H J
  |succ i=>simp at Z) rfl (by simpa using h)
 simpa [AV.afz,AV.ren,fa,aL hr,Oy I] using this
def sC(L:List (List UInt8)):List AV:=L.map .str
theorem Mc(L:List (List UInt8)):(sC L).length=L.length:=by simp[sC]
theorem Mb:∀L:List (List UInt8),AV.afm (sC L)=true
 | []=>rfl
 |s::L=>by simp[sC,AV.afm,AV.closed];exact Mb L
def sB:List AV->Option (List (List UInt8))
 | []=>some []
 |.str a::l=>match sB l with
  |some r=>some (a::r)
  |none=>none
 |_=>none
theorem CZ:∀{cs:List AV} {L:List (List UInt8)},sB cs=some L->cs=sC L
 | [],L,h=>by cases h;rfl
 |v::l,L,h=>by
  unfold sB at h;split at h
  next Z=>cases Z
  .rename_i Z
   cases Z;split at h
   .rename_i r X
    cases h;rw[CZ X];rfl
   .cases h
  .cases h
def qh(M:Mem):AV->Option (List (List UInt8))
 |.slice b 0 n none=>match M[b]? with
  |some (.cells _ 1 cs)=>if n<=cs.length then sB (cs.take n) else none
  |_=>none
 |.qF=>some []
 |_=>none
variable{L:List (List UInt8)}{x:AV}
theorem OI(h:qh M x=some L):(∃b o l,x=.slice b 0 L.length none/\M[b]? =some (.cells o 1 l)/\l.take L.length=sC L)\/(x=.qF/\L=[]):=by
 unfold qh at h;split at h
 .rename_i b n
  split at h
  .rename_i o cs X
   split at h
   .rename_i U
    have Z:=CZ h;have V:n=L.length:=by have:=congrArg List.length Z;rw[Mc,S2] at this;omega
    subst V;exact .inl ⟨b,o,cs,rfl,X,Z⟩
   .cases h
  .cases h
 .cases h;exact .inr ⟨rfl,rfl⟩
 .cases h
theorem Ww{v:AV}(hr:AV.afm rest=true)(H:v.closed=true)(I:qh M x=some L)(h:kO P f (.slice 0 0 L.length none::rest) [.cells false 1 (sC L)] v [.cells false 1 (sC L)])(h0:L=[]->kO P f (.qF::rest) M v M):kO P f (x::rest) M v M:=by
 rcases OI I with⟨b,o,l,rfl,Z,X⟩ | ⟨rfl,V⟩
 .exact agM (Mb L) hr H Z (by rw[Mc];exact X) h
 .exact h0 V
theorem YI{i:Nat}{s:List UInt8}(h:L[i]? =some s):(sC L)[i]? =some (.str s):=by simp[sC,h]
def tG:List (List UInt8)->Int
 | []=>0
 |s::l=>if yT s=0 then tG l else yT s
variable{K:Nat}
theorem xC(L:List (List UInt8))(I:∀s∈L,s.length<=1000000000)(J:L.length<=1000000000)(W:L.length<K){b:Code}(H:ah f97=[b]):
  ∃F:Env->Bool->Env,∀Z d,(ae Z 6=.slice 0 0 L.length none/\ae Z 7=.int .i64 L.length/\ae Z 8=.int .i64 0/\ae Z 2=.int .i64 0)->
   aU (bd prog) (fun _=>[8]) (ag aT) K 18 1 true (.loop b) ⟨Z,[.cells false 1 (sC L)],d⟩=some (if tG L=0 then .exit 0 else .ret,⟨F Z d,[.cells false 1 (sC L)],d⟩)/\(tG L≠0->ae (F Z d) 2=.int .i64 (tG L)):=by
 refine bl rfl (fun Z=>ae Z 6=.slice 0 0 L.length none/\ae Z 7=.int .i64 L.length/\ae Z 8=.int .i64 0/\ae Z 2=.int .i64 0) (fun _ G =>tG L≠0->ae G 2=.int .i64 (tG L)) ?_;rintro Z d ⟨h6,h7,h8,S⟩;simp[ah,aE,f97] at H;have R:aw [8] (ad b) Z ((8,.int .i64 ((0:Nat):Int))::Z)=aw [8] (ad b) Z Z:=by simp[aw,h8]
 rw[<-R];refine bG (α:=Nat) (fun n=>⟨aw [8] (ad b) Z ((8,.int .i64 (n:Int))::Z),[.cells false 1 (sC L)],d⟩) (fun n=>L.length-n) (fun n=>n<=L.length/\tG L=tG (L.drop n)) (if tG L=0 then .exit 0 else .ret) _ d _ (by split<;>simp) ?_ K 0 ⟨by omega,by rw[List.drop_zero]⟩ (by omega);rintro n ⟨Z5,he⟩;clear R;subst H;by_cases X:n<L.length
 .obtain⟨s,V⟩:∃s,L[n]? =some s:=⟨L[n],GT X⟩
  have O:=YI V;have N:=I s (J1 V);have D:L.drop n=s::L.drop (n+1):=by rw[Ns] at V;obtain⟨C,S⟩:=V;rw[<-S];exact N0 C
  rw[D,tG] at he;have w1:IntKind.i64.wrap ((n:Int)+1)=((n+1:Nat):Int):=by rw[af];omega
  by_cases U:yT s=0
  .rw[if_pos U] at he
   left;obtain⟨v,B⟩:=xE (n+1);rw[<-B] at w1 he;refine⟨v,?_⟩;simp[h6,h7,X,ag,aT,N,U,O,w1];exact⟨⟨by omega,he⟩,by omega⟩
  .rw[if_neg U] at he
   right;rw[he];simp[h6,h7,X,ag,aT,N,U,O]
 .right
  have e:L.drop n=[]:=ZN (by omega);rw[e,tG] at he;rw[he];simp[h7,X]
theorem Fl(L:List (List UInt8))(H:∀s∈L,s.length<=1000000000)(I:L.length<=1000000000):
  kO prog 97 [.slice 0 0 L.length none] [.cells false 1 (sC L)] (.int .i64 (tG L)) [.cells false 1 (sC L)]:=by
 have O:aX prog 97=some f97:=by kernel_rfl
 obtain⟨b,U⟩:∃b,ah f97=[b]:=⟨_,rfl⟩
 obtain⟨F,Z⟩:=xC (K:=L.length+1) L H I (by omega) U;simp[ah,aE,f97] at U;subst U;refine dj (lv:=(fun _=>[8])) (K:=(L.length+1)) cQ ?_;by_cases V:tG L=0
 .rw[if_pos V] at Z
  have S:=fun X d h=>(Z X d h).1
  clear Z;simp[aa,O,f97,S,V]
 .rw[if_neg V] at Z
  have S:=fun X d h=>(Z X d h).1
  have R:=fun X d h=>(Z X d h).2 V
  clear Z;simp[aa,O,f97,S,R]
theorem zu(M:Mem):kO prog 97 [.qF] M (.int .i64 0) M:=by
 have Z:aX prog 97=some f97:=by kernel_rfl
 refine de (az _) (lv:=fun _=>[8]) (K:=1) rfl rfl ?_ M;simp[aa,Z,f97,ba,ga]
def rT(Q:List Rat):List (List UInt8):=Q.map ao
def Db(Q:List Rat)(s:Rat):Rat:=Q.foldl (·+·) s
def Hb:List Rat->Rat->Prop
 | [],s=>ek s
 |q::l,s=>ek s/\ek q/\Hb l (s+q)
section
variable (Q:List Rat)(hQ:Hb Q 0)(hl:Q.length<=1000000000)
include Q hQ hl
theorem Gk(I:Q.length<K){b:Code}(H:ah f117=[b]):
  ∃F:Env->Bool->Env,∀Z d,(ae Z 6=.slice 0 0 Q.length r/\ae Z 7=.int .i64 Q.length/\ae Z 8=.int .i64 0/\ae Z 3=.str [48])->
   aU (bd prog) (fun _=>[3,8]) (ag aT) K 17 1 true (.loop b) ⟨Z,[.cells false es (sC (rT Q))],d⟩=some (.exit 0,⟨F Z d,[.cells false es (sC (rT Q))],d⟩)/\ae (F Z d) 3=.str (ao (Db Q 0)):=by
 refine bl rfl (fun Z=>ae Z 6=.slice 0 0 Q.length r/\ae Z 7=.int .i64 Q.length/\ae Z 8=.int .i64 0/\ae Z 3=.str [48]) (fun _ O =>ae O 3=.str (ao (Db Q 0))) ?_;rintro Z d ⟨h6,h7,h8,h3⟩;simp[ah,aE,f117] at H;have z:ao 0=[48]:=rfl;have R:aw [3,8] (ad b) Z ((3,.str (ao (Db (Q.take 0) 0)))::(8,.int .i64 ((0:Nat):Int))::Z)=aw [3,8] (ad b) Z Z:=by simp[aw,h8,h3,Db,z]
 rw[<-R];refine bG (α:=Nat) (fun n=>⟨aw [3,8] (ad b) Z ((3,.str (ao (Db (Q.take n) 0)))::(8,.int .i64 (n:Int))::Z),[.cells false es (sC (rT Q))],d⟩) (fun n=>Q.length-n) (fun n=>n<=Q.length/\Hb (Q.drop n) (Db (Q.take n) 0)) (.exit 0) _ d _ (by simp) ?_ K 0 ⟨by omega,by simpa [Db] using hQ⟩ (by omega);rintro n ⟨Z5,X⟩;clear R;subst H;by_cases S:n<Q.length
 .obtain⟨q,U⟩:∃s,Q[n]? =some s:=⟨Q[n],GT S⟩
  have N:(sC (rT Q))[n]? =some (.str (ao q)):=by simp[sC,rT,U]
  have G:Q.drop n=q::Q.drop (n+1):=by rw[Ns] at U;obtain⟨D,C⟩:=U;rw[<-C];exact N0 D
  have V:Db (Q.take (n+1)) 0=Db (Q.take n) 0+q:=by rw[List.take_add_one,U];simp[Db]
  rw[G,Hb,<-V] at X;obtain⟨⟨f1,f2⟩,⟨f3,f4⟩,X⟩:=X;have w1:IntKind.i64.wrap ((n:Int)+1)=((n+1:Nat):Int):=by rw[af];omega
  left;obtain⟨v,B⟩:=xE (n+1);rw[<-B] at w1 X V;obtain⟨s,u⟩:=xE (Db (Q.take n) 0);rw[<-u] at f1 f2 V |-;refine⟨v,?_⟩;simp[h6,h7,S,ag,aT,aV,aB,f1,f2,f3,f4,N,w1,V];exact⟨⟨by omega,by rw[<-V];exact X⟩,by omega⟩
 .right
  have e:Q.take n=Q:=B5 (by omega);rw[e];simp[h7,S]
theorem Ql:
  kO prog 117 [.slice 0 0 Q.length r] [.cells false es (sC (rT Q))] (.str (ao (Db Q 0))) [.cells false es (sC (rT Q))]:=by
 have X:aX prog 117=some f117:=by kernel_rfl
 obtain⟨b,Z⟩:∃b,ah f117=[b]:=⟨_,rfl⟩
 obtain⟨F,V⟩:=Gk (es:=es) (r:=r) (K:=Q.length+1) Q hQ hl (by omega) Z;simp[ah,aE,f117] at Z;subst Z;refine dj (lv:=(fun _=>[3,8])) (K:=(Q.length+1)) cQ ?_;simp[aa,X,f117,V]
theorem Qm:
  kO prog 117 [.slice 0 0 Q.length none] [.cells false 1 (sC (rT Q))] (.str (ao (Db Q 0))) [.cells false 1 (sC (rT Q))]:=Ql Q hQ hl
end
def LY:List (List UInt8)->Option (List Rat)
 | []=>some []
 |k::l=>match dY k,LY l with
  |some a,some r=>some (a::r)
  |_,_=>none
theorem ET:∀{L:List (List UInt8)} {Q:List Rat},LY L=some Q->L=rT Q
 | [],Q,h=>by cases h;rfl
 |k::L,Q,h=>by
  unfold LY at h;split at h
  .rename_i a r Z h3
   cases h;rw[ET h3,au Z];rfl
  .cases h
open Classical in
noncomputable def iV:y9:=fun c Z M=>match c,Z with
 |.fn 97,[x]=>match qh M x with
  |some L=>if (∀s∈L,s.length<=1000000000)/\L.length<=1000000000 then some ⟨.int .i64 (tG L),none,[]⟩ else none
  |none=>none
 |.fn 117,[x]=>match qh M x with
  |some L=>match LY L with
   |some Q=>if Hb Q 0/\Q≠[]/\Q.length<=1000000000 then some ⟨.str (ao (Db Q 0)),none,[]⟩ else none
   |none=>none
  |none=>none
 |c,Z=>ag aT c Z M
theorem il:qS prog iV:=by
 refine cB fun c S M r h=>?_
 unfold iV at h;split at h
 .split at h
  .rename_i L V
   split at h
   .rename_i X
    cases h;refine aC ?_;rw[List.append_nil];exact Ww (rest:=[]) rfl rfl V (Fl L X.1 X.2) (fun Z=>by subst Z;exact zu M)
   .cases h
  .cases h
 .split at h
  .rename_i L V
   split at h
   .rename_i Q hQ
    split at h
    .rename_i X
     cases h;refine aC ?_;rw[List.append_nil];have U:=ET hQ;subst U;have:=Qm Q X.1 X.2.2;have R:(rT Q).length=Q.length:=by simp[rT]
     rw[<-R] at this;exact Ww (rest:=[]) rfl rfl V this (fun Z=>by
      cases Q with
      |nil=>exact absurd rfl X.2.1
      |cons q Q=>cases Z)
    .cases h
   .cases h
  .cases h
 .exact dZ cQ h
abbrev LO:Nat:=1000000000
theorem qI(a b c:List UInt8)(H:a.length<=1000000000)(I:b.length<=1000000000)(hc:c.length<=1000000000)(M:Mem):
  kO prog 70 [.agg [.str a,.str b,.str c]] M (.int .i64 (tG [a,b,c])) M:=by
 have Z:aX prog 70=some f70:=by kernel_rfl
 refine aA il ?_ M;simp[aa,Z,f70,iV,qh,sB,H,I,hc]
theorem iz(a b:List UInt8)(H:a.length<=1000000000)(I:b.length<=1000000000)(M:Mem):
  kO prog 47 [.agg [.str a,.str b]] M (.int .i64 (tG [a,b])) M:=by
 have Z:aX prog 47=some f47:=by kernel_rfl
 refine aA il ?_ M;simp[aa,Z,f47,iV,qh,sB,H,I]
abbrev V3:=Rat×Rat×Rat
def vA(v:V3):AV:=.agg [.str (ao v.1),.str (ao v.2.1),.str (ao v.2.2)]
def vDg(n:Nat)(v:V3):Prop:=dg n n v.1/\dg n n v.2.1/\dg n n v.2.2
def gw(a b:V3):Rat:=a.1*b.1+a.2.1*b.2.1+a.2.2*b.2.2
variable{q:Rat}
theorem dz{d:Nat}(h:dg n d q)(H:0<n)(hd:0<d)(h1:n<=40000)(h2:d<=40000):ek q:=by have:=h.lens H hd;exact⟨by omega,by omega⟩
theorem PN(a b:V3)(ha:vDg 3000 a)(hb:vDg 3000 b)(M:Mem):kO prog 113 [vA a,vA b] M (.str (ao (gw a b))) M:=by
 have hG:aX prog 113=some f113:=by kernel_rfl
 obtain⟨V,U,S⟩:=a;obtain⟨R,O,N⟩:=b;obtain⟨G,F,D⟩:=ha;obtain⟨C,B,u⟩:=hb;simp only at G F D C B u;have j:=dy G C;have P2:=dy F B;have Y:=dy D u;have Z:dg 1 1 0:=⟨by decide,by decide⟩;have W:=rN Z j (m:=6001) (by omega) (by omega);have J:=rN W P2 (m:=12003) (by omega) (by omega);have S3:=rN J Y (m:=18004) (by omega) (by omega);have hs:Hb [V*R,U*O,S*N] 0:=
  ⟨dz Z (by omega) (by omega) (by omega) (by omega),dz j (by omega) (by omega) (by omega) (by omega),dz W (by omega) (by omega) (by omega) (by omega),dz P2 (by omega) (by omega) (by omega) (by omega),
   dz J (by omega) (by omega) (by omega) (by omega),dz Y (by omega) (by omega) (by omega) (by omega),dz S3 (by omega) (by omega) (by omega) (by omega)⟩
 have Zs:Db [V*R,U*O,S*N] 0=V*R+U*O+S*N:=by simp[Db,Rat.zero_add]
 obtain⟨f1,f2⟩:=dz G (by omega) (by omega) (by omega) (by omega);obtain⟨f3,f4⟩:=dz F (by omega) (by omega) (by omega) (by omega);obtain⟨f5,f6⟩:=dz D (by omega) (by omega) (by omega) (by omega);obtain⟨g1,g2⟩:=dz C (by omega) (by omega) (by omega) (by omega);obtain⟨g3,g4⟩:=dz B (by omega) (by omega) (by omega) (by omega);obtain⟨g5,g6⟩:=dz u (by omega) (by omega) (by omega) (by omega);clear j P2 Y W J S3 G F D C B u Z;unfold gw;simp only;obtain⟨p,hp⟩:=xE (V*R);obtain⟨q,hq⟩:=xE (U*O);obtain⟨r,hr⟩:=xE (S*N);rw[<-hp,<-hq,<-hr] at hs Zs |-;refine aA il ?_ M;obtain⟨X,I⟩:∃X,aI f113=[X]:=⟨_,rfl⟩
 have UV:=kM I (l:=[0,1,0,4,15,0,32,0,128,511,0,1024,0,4096,16383,32767,65535,131071]) (by kernel_rfl);have H:KU [0,1,0,4,15,0,32,0,128,511,0,1024,0,4096,16383,32767,65535,131071] 18 15=true:=by decide
 simp[aI,ca,f113] at I;subst I;simp[aa,hG,f113,-aG,kh UV,lx,rI,yQ,cS,H,vA,iV,qh,sB,LY,aB,ag,aT,aV,f1,f2,f3,f4,f5,f6,g1,g2,g3,g4,g5,g6,<-hp,<-hq,<-hr,hs,Zs,Nat.testBit]
theorem CL:ao 0=[48]:=rfl
theorem LX:ao q=[48]↔q=0:=by
 constructor
 .intro h
  have:=aB q;rw[h,<-CL,aB] at this;exact(ZQ this).symm
 .rintro rfl;rfl
theorem eH{a b:Rat}(h:ao a=ao b):a=b:=by have:=aB a;rw[h,aB] at this;exact(ZQ this).symm
theorem im(h:dg 200 200 q):yT (ao q)=0:=by unfold yT;rw[aB];exact if_pos (h.lens (by decide) (by decide))
theorem jJ(h:dg n n q)(h0:0<n)(h1:n<=40000):(ao q).length<=1000000000:=gD (dz h h0 h0 h1 h1)
variable{v:V3}
theorem TG(h:vDg 200 v):tG [ao v.1,ao v.2.1,ao v.2.2]=0:=by simp[tG,im h.1,im h.2.1,im h.2.2]
theorem vDg.mono{m:Nat}(h:vDg n v)(H:n<=m):vDg m v:=⟨h.1.mono H H,h.2.1.mono H H,h.2.2.mono H H⟩
theorem vI(v:V3)(h:vDg 200 v)(M:Mem):kO prog 70 [vA v] M (.int .i64 0) M:=by have:=qI (ao v.1) (ao v.2.1) (ao v.2.2) (jJ h.1 (by decide) (by decide)) (jJ h.2.1 (by decide) (by decide)) (jJ h.2.2 (by decide) (by decide)) M;rw[TG h] at this;exact this
theorem M8(a b c:List UInt8)(M:Mem):kO prog 98 [.agg [.str a,.str b,.str c]] M (.bool (a==[48]&&b==[48]&&c==[48])) M:=by
 have Z:aX prog 98=some f98:=by kernel_rfl
 refine aA (az _) ?_ M;cases h1:(a==[48])<;>cases h2:(b==[48])<;>cases h3:(c==[48])<;>simp[aa,Z,f98,h1,h2,h3]
noncomputable def rG(f:FuncId)(args:List AV):Option AV:=
 match f,args with
 |70,[.agg [.str a,.str b,.str c]]=>if a.length<=1000000000/\b.length<=1000000000/\c.length<=1000000000 then some (.int .i64 (tG [a,b,c])) else none
 |47,[.agg [.str a,.str b]]=>if a.length<=1000000000/\b.length<=1000000000 then some (.int .i64 (tG [a,b])) else none
 |98,[.agg [.str a,.str b,.str c]]=>some (.bool (a==[48]&&b==[48]&&c==[48]))
 |113,[.agg [.str a,.str b,.str c],.agg [.str d,.str e,.str f]]=>match dY a,dY b,dY c,dY d,dY e,dY f with
  |some a,some b,some c,some d,some e,some f=>if (ai a.num.natAbs).length<=2999/\(ai a.den).length<=2999/\(ai b.num.natAbs).length<=2999/\(ai b.den).length<=2999/\(ai c.num.natAbs).length<=2999/\(ai c.den).length<=2999/\
    (ai d.num.natAbs).length<=2999/\(ai d.den).length<=2999/\(ai e.num.natAbs).length<=2999/\(ai e.den).length<=2999/\(ai f.num.natAbs).length<=2999/\(ai f.den).length<=2999 then some (.str (ao (a*d+b*e+c*f))) else none
  |_,_,_,_,_,_=>none
 |_,_=>none
theorem dw(h:(ai q.num.natAbs).length<=n/\(ai q.den).length<=n):dg n n q:=by have Z:=cm q.num.natAbs;have X:=cm q.den;have h3:10 ^ (ai q.num.natAbs).length<=10 ^ n:=P3 (by omega) h.1;have V:10 ^ (ai q.den).length<=10 ^ n:=P3 (by omega) h.2;exact⟨by omega,by omega⟩
theorem yO:qS prog (ag rG):=bP fun f S v h mem=>by
 unfold rG at h;split at h
 .split at h
  next Z=>cases h;exact qI _ _ _ Z.1 Z.2.1 Z.2.2 mem
  .cases h
 .split at h
  next Z=>cases h;exact iz _ _ Z.1 Z.2 mem
  .cases h
 .cases h;exact M8 _ _ _ mem
 .split at h
  .rename_i a b c d e f R O Z N G F
   split at h
   .rename_i D
    obtain⟨C,B,u,m,j,Y,W,J,I,X,V,U⟩:=D;cases h;rw[au R,au O,au Z,au N,au G,au F];exact PN (a,b,c) (d,e,f) ⟨(dw ⟨C,B⟩).mono (by omega) (by omega),(dw ⟨u,m⟩).mono (by omega) (by omega),(dw ⟨j,Y⟩).mono (by omega) (by omega)⟩
     ⟨(dw ⟨W,J⟩).mono (by omega) (by omega),(dw ⟨I,X⟩).mono (by omega) (by omega),(dw ⟨V,U⟩).mono (by omega) (by omega)⟩ mem
   .cases h
  .cases h
 .cases h
noncomputable def KC:y9:=y9.or (ag rG) iV
theorem KD:qS prog KC:=qS.or yO il
def Xm(a b:V3):V3:=(a.1+b.1,a.2.1+b.2.1,a.2.2+b.2.2)
def Xv(a:V3)(k:Rat):V3:=(a.1*k,a.2.1*k,a.2.2*k)
def vF(a:V3):Prop:=ek a.1/\ek a.2.1/\ek a.2.2
def nA(a b:V3):Prop:=vF a/\vF b/\Hb [a.1*b.1,a.2.1*b.2.1,a.2.2*b.2.2] 0
def vC(v:V3):Prop:=tG [ao v.1,ao v.2.1,ao v.2.2]=0/\(ao v.1).length<=1000000000/\(ao v.2.1).length<=1000000000/\(ao v.2.2).length<=1000000000
theorem SZ:ek 0:=⟨by decide,by decide⟩
theorem gW(h:dg n n q)(h0:0<n)(h1:n<=40000):ek q:=dz h h0 h0 h1 h1
theorem Yd(h:vDg n v)(h0:0<n)(h1:n<=40000):vF v:=⟨gW h.1 h0 h1,gW h.2.1 h0 h1,gW h.2.2 h0 h1⟩
theorem Uh(h:vDg 200 v):vC v:=⟨TG h,jJ h.1 (by decide) (by decide),jJ h.2.1 (by decide) (by decide),jJ h.2.2 (by decide) (by decide)⟩
theorem wA{a b:V3}(H:vDg n a)(I:vDg n b)(h0:0<n)(h1:n<=4000):nA a b:=by
 obtain⟨X,V,U⟩:=H;obtain⟨S,R,O⟩:=I;have N:=dy X S;have P2:=dy V R;have G:=dy U O;have Z:dg 1 1 0:=⟨by decide,by decide⟩;have F:=rN Z N (m:=3*n+3) (by omega) (by omega);have D:=rN F P2 (m:=6*n+6) (by omega) (by omega);have C:=rN D G (m:=9*n+9) (by omega) (by omega);have f:∀{x y:Nat}{q:Rat},dg x y q->0<x->0<y->x<=40000->y<=40000->ek q:=fun h p q r s=>dz h p q r s
 exact⟨Yd ⟨X,V,U⟩ h0 (by omega),Yd ⟨S,R,O⟩ h0 (by omega),SZ,f N (by omega) (by omega) (by omega) (by omega),f F (by omega) (by omega) (by omega) (by omega),f P2 (by omega) (by omega) (by omega) (by omega),f D (by omega) (by omega) (by omega) (by omega),f G (by omega) (by omega) (by omega) (by omega),f C (by omega) (by omega) (by omega) (by omega)⟩
def v3P(a b c:List UInt8):Option V3:=match dY a,dY b,dY c with
 |some x,some y,some z=>some (x,y,z)
 |_,_,_=>none
theorem OM(x y z:Rat):v3P (ao x) (ao y) (ao z)=some (x,y,z):=by simp only[v3P,aB]
theorem nh{a b c:List UInt8}(h:v3P a b c=some v):a=ao v.1/\b=ao v.2.1/\c=ao v.2.2:=by
 unfold v3P at h;split at h
 .rename_i x y z Z X V
  cases h;exact⟨au Z,au X,au V⟩
 .cases h
theorem Ee(a b:V3)(h:nA a b)(M:Mem):kO prog 113 [vA a,vA b] M (.str (ao (gw a b))) M:=by
 have I:aX prog 113=some f113:=by kernel_rfl
 obtain⟨X,V,U⟩:=a;obtain⟨S,R,O⟩:=b;obtain⟨⟨⟨f1,f2⟩,⟨f3,f4⟩,f5,f6⟩,⟨⟨D,C⟩,⟨g3,B⟩,u,m⟩,N⟩:=h;simp only at f1 f2 f3 f4 f5 f6 D C g3 B u m N;have j:Db [X*S,V*R,U*O] 0=X*S+V*R+U*O:=by simp[Db,Rat.zero_add]
 unfold gw;simp only;obtain⟨p,Y⟩:=xE (X*S);obtain⟨q,W⟩:=xE (V*R);obtain⟨r,J⟩:=xE (U*O);rw[<-Y,<-W,<-J] at N j |-;refine aA il ?_ M;obtain⟨Z,G⟩:∃Z,aI f113=[Z]:=⟨_,rfl⟩
 have H:=kM G (l:=[0,1,0,4,15,0,32,0,128,511,0,1024,0,4096,16383,32767,65535,131071]) (by kernel_rfl);have F:KU [0,1,0,4,15,0,32,0,128,511,0,1024,0,4096,16383,32767,65535,131071] 18 15=true:=by decide
 simp[aI,ca,f113] at G;subst G;simp[aa,I,f113,-aG,kh H,lx,rI,yQ,cS,F,vA,iV,qh,sB,LY,aB,ag,aT,aV,f1,f2,f3,f4,f5,f6,D,C,g3,B,u,m,<-Y,<-W,<-J,N,j,Nat.testBit]
theorem PL(a b:V3)(h:nA a b)(M:Mem):kO prog 259 [vA a,vA b] M (.str (ao (gw a b))) M:=by
 have I:aX prog 259=some f259:=by kernel_rfl
 obtain⟨X,V,U⟩:=a;obtain⟨S,R,O⟩:=b;obtain⟨⟨⟨f1,f2⟩,⟨f3,f4⟩,f5,f6⟩,⟨⟨D,C⟩,⟨g3,B⟩,u,m⟩,N⟩:=h;simp only at f1 f2 f3 f4 f5 f6 D C g3 B u m N;have j:Db [X*S,V*R,U*O] 0=X*S+V*R+U*O:=by simp[Db,Rat.zero_add]
 unfold gw;simp only;obtain⟨p,Y⟩:=xE (X*S);obtain⟨q,W⟩:=xE (V*R);obtain⟨r,J⟩:=xE (U*O);rw[<-Y,<-W,<-J] at N j |-;refine aA il ?_ M;obtain⟨Z,G⟩:∃Z,aI f259=[Z]:=⟨_,rfl⟩
 have H:=kM G (l:=[0,1,0,4,15,0,32,0,128,511,0,1024,0,4096,16383,32767,65535,131071]) (by kernel_rfl);have F:KU [0,1,0,4,15,0,32,0,128,511,0,1024,0,4096,16383,32767,65535,131071] 18 15=true:=by decide
 simp[aI,ca,f259] at G;subst G;simp[aa,I,f259,-aG,kh H,lx,rI,yQ,cS,F,vA,iV,qh,sB,LY,aB,ag,aT,aV,f1,f2,f3,f4,f5,f6,D,C,g3,B,u,m,<-Y,<-W,<-J,N,j,Nat.testBit]
theorem PM(a b:V3)(h:nA a b)(M:Mem):kO prog 246 [vA a,vA b] M (.str (ao (gw a b))) M:=by
 have I:aX prog 246=some f246:=by kernel_rfl
 obtain⟨X,V,U⟩:=a;obtain⟨S,R,O⟩:=b;obtain⟨⟨⟨f1,f2⟩,⟨f3,f4⟩,f5,f6⟩,⟨⟨D,C⟩,⟨g3,B⟩,u,m⟩,N⟩:=h;simp only at f1 f2 f3 f4 f5 f6 D C g3 B u m N;have j:Db [X*S,V*R,U*O] 0=X*S+V*R+U*O:=by simp[Db,Rat.zero_add]
 unfold gw;simp only;obtain⟨p,Y⟩:=xE (X*S);obtain⟨q,W⟩:=xE (V*R);obtain⟨r,J⟩:=xE (U*O);rw[<-Y,<-W,<-J] at N j |-;refine aA il ?_ M;obtain⟨Z,G⟩:∃Z,aI f246=[Z]:=⟨_,rfl⟩
 have H:=kM G (l:=[0,1,0,4,15,0,32,0,128,511,0,1024,0,4096,16383,32767,65535,131071]) (by kernel_rfl);have F:KU [0,1,0,4,15,0,32,0,128,511,0,1024,0,4096,16383,32767,65535,131071] 18 15=true:=by decide
 simp[aI,ca,f246] at G;subst G;simp[aa,I,f246,-aG,kh H,lx,rI,yQ,cS,F,vA,iV,qh,sB,LY,aB,ag,aT,aV,f1,f2,f3,f4,f5,f6,D,C,g3,B,u,m,<-Y,<-W,<-J,N,j,Nat.testBit]
def Po(p v:V3)(k:Rat):Prop:=(vF p/\vF v/\ek k)/\ek (k*v.1)/\ek (k*v.2.1)/\ek (k*v.2.2)
theorem Wd(p v:V3)(k:Rat):Xm p (Xv v k)=(p.1+k*v.1,p.2.1+k*v.2.1,p.2.2+k*v.2.2):=by unfold Xm Xv;simp only[Rat.mul_comm]
theorem MC(p v:V3)(k:Rat)(h:Po p v k)(M:Mem):kO prog 79 [vA p,vA v,.str (ao k)] M (vA (Xm p (Xv v k))) M:=by
 have J:aX prog 79=some f79:=by kernel_rfl
 rw[Wd];obtain⟨a1,a2,a3⟩:=p;obtain⟨I,H,b3⟩:=v;obtain⟨⟨⟨⟨f1,f2⟩,⟨f3,f4⟩,f5,f6⟩,⟨⟨G,F⟩,⟨g3,D⟩,C,B⟩,k1,k2⟩,⟨Z,X⟩,⟨V,U⟩,S,R⟩:=h;simp only at f1 f2 f3 f4 f5 f6 G F g3 D C B Z X V U S R |-;obtain⟨x,u⟩:=xE (k*I);obtain⟨y,m⟩:=xE (k*H);obtain⟨z,Y⟩:=xE (k*b3);rw[<-u] at Z X |-;rw[<-m] at V U |-;rw[<-Y] at S R |-;refine aA cQ ?_ M;obtain⟨W,O⟩:∃W,aI f79=[W]:=⟨_,rfl⟩
 obtain⟨N,j1⟩:=dx O (l:=[0,1,0,0,8,28,63,0,128,0,0,1024,3711,8191,0,16384,0,0,131072,475135,1048575,2097151,4194303]) (j:=22) (by kernel_rfl) (by decide);simp[aI,ca,f79] at O;subst O;simp[aa,J,f79,-aG,an N,bD,bt,bB,j1,vA,cv,aH,aB,ag,aT,aV,f1,f2,f3,f4,f5,f6,G,F,g3,D,C,B,k1,k2,Z,X,V,U,S,R,<-u,<-m,<-Y,Nat.testBit]
open Classical in
noncomputable def dP(f:FuncId)(args:List AV):Option AV:=
 match f,args with
 |113,[.agg [.str a,.str b,.str c],.agg [.str d,.str e,.str g]]=>match v3P a b c,v3P d e g with
  |some u,some v=>if nA u v then some (.str (ao (gw u v))) else none
  |_,_=>none
 |259,[.agg [.str a,.str b,.str c],.agg [.str d,.str e,.str g]]=>match v3P a b c,v3P d e g with
  |some u,some v=>if nA u v then some (.str (ao (gw u v))) else none
  |_,_=>none
 |246,[.agg [.str a,.str b,.str c],.agg [.str d,.str e,.str g]]=>match v3P a b c,v3P d e g with
  |some u,some v=>if nA u v then some (.str (ao (gw u v))) else none
  |_,_=>none
 |79,[.agg [.str a,.str b,.str c],.agg [.str d,.str e,.str g],.str k]=>match v3P a b c,v3P d e g,dY k with
  |some u,some v,some x=>if Po u v x then some (vA (Xm u (Xv v x))) else none
  |_,_,_=>none
 |70,[.agg [.str a,.str b,.str c]]=>if a.length<=1000000000/\b.length<=1000000000/\c.length<=1000000000 then some (.int .i64 (tG [a,b,c])) else none
 |f,args=>aT f args
theorem lQ:qS prog (ag dP):=bP fun f U v h mem=>by
 unfold dP at h;split at h
 .split at h
  .rename_i u v X V
   split at h
   .rename_i Z
    cases h;obtain⟨rfl,rfl,rfl⟩:=nh X;obtain⟨rfl,rfl,rfl⟩:=nh V;exact Ee u v Z mem
   .cases h
  .cases h
 .split at h
  .rename_i u v X V
   split at h
   .rename_i Z
    cases h;obtain⟨rfl,rfl,rfl⟩:=nh X;obtain⟨rfl,rfl,rfl⟩:=nh V;exact PL u v Z mem
   .cases h
  .cases h
 .split at h
  .rename_i u v X V
   split at h
   .rename_i Z
    cases h;obtain⟨rfl,rfl,rfl⟩:=nh X;obtain⟨rfl,rfl,rfl⟩:=nh V;exact PM u v Z mem
   .cases h
  .cases h
 .split at h
  .rename_i u v x X V S
   split at h
   .rename_i Z
    cases h;obtain⟨rfl,rfl,rfl⟩:=nh X;obtain⟨rfl,rfl,rfl⟩:=nh V;rw[au S];exact MC u v x Z mem
   .cases h
  .cases h
 .split at h
  next Z=>cases h;exact qI _ _ _ Z.1 Z.2.1 Z.2.2 mem
  .cases h
 .have:=cQ.fn _ _ mem ⟨v,none,[]⟩ (by unfold ag;simp only;rw[h])
  simpa [afh.mem] using this
end Go.Proofs
