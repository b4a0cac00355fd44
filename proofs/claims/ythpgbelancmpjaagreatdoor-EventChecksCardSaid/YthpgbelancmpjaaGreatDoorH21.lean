/- See H38. -/
import Derived.Test.YthpgbelancmpjaaGreatDoorH20
set_option linter.all false
set_option maxRecDepth 100000
set_option maxHeartbeats 40000000
namespace Go.Proofs
open Go.Eng
open Tryz
noncomputable def iE(f:FuncId)(args:List AV):Option AV:=
 match f,args with
 |102,[.str s]=>if s.length<=1000000000 then some (match s.idxOf? 47 with | some i=>.tuple [.str (s.take i),.str (s.drop (i+1))] | none=>.tuple [.str s,.str [49]]) else none
 |f,args=>cQ f args
theorem Nt:afs prog (ai iE):=bT fun f Z v h mem=>by
 unfold iE at h;split at h
 .split at h
  next X=>cases h;exact yT _ X mem
  .cases h
 .have:=uU.fn _ _ mem ⟨v,none,[]⟩ (by unfold ai;simp only;rw[h])
  simpa [afw.mem] using this
theorem kJ(s:List UInt8):iz s=0\/iz s=2:=by
 unfold iz;split
 .split
  .exact .inl rfl
  .exact .inr rfl
 .exact .inr rfl
theorem qS(s:List UInt8)(H:s.length<=1000000000)(mem:Mem):
  bz prog 51 [.str s] mem (.bool (iz s==0)) mem:=by
 have R:bq prog 51=some f51:=by kernel_rfl
 refine az Nt ?_ mem;have X:=jv s 47;cases hx:s.idxOf? 47 with
 |none=>
  rw[hx] at X;simp only at X;rw[Lg hx];have u:okI [49]=true:=rfl;cases ho:okI s with
  |true=>simp[ad,R,f51,ai,iE,cQ,dq,ez,eh,bM,bJ,cj,be,an,H,X,hx,ho,u]
  |false=>simp[ad,R,f51,ai,iE,cQ,dq,H,hx,ho]
 |some i=>
  rw[hx] at X;simp only at X;have V:¬(i:Int)<0:=by omega
  obtain⟨a,U⟩:=xE (s.take i);obtain⟨b,S⟩:=xE (s.drop (i+1));have N:a.length<=1000000000:=by rw[U,M0];omega
  have G:b.length<=1000000000:=by rw[S,QQh];omega
  cases ho:okI a with
  |false=>
   rw[Le hx (by rw[<-U];exact ho)];simp[ad,R,f51,ai,iE,cQ,dq,H,hx,<-U,<-S,N,ho]
  |true=>
   cases ho2:okI b with
   |false=>
    rw[Lf hx (by rw[<-S];exact ho2)];simp[ad,R,f51,ai,iE,cQ,dq,H,hx,<-U,<-S,N,G,ho,ho2]
   |true=>
    have M:∃n,im a=some n/\(aj n.natAbs).length<=200:=by
     unfold okI at ho;cases hx:im a with
     |none=>rw[hx] at ho;cases ho
     |some n=>rw[hx] at ho;exact⟨n,rfl,by simpa using ho⟩
    have Q:∃n,im b=some n/\(aj n.natAbs).length<=200:=by
     unfold okI at ho2;cases hx:im b with
     |none=>rw[hx] at ho2;cases ho2
     |some n=>rw[hx] at ho2;exact⟨n,rfl,by simpa using ho2⟩
    obtain⟨n,M,m⟩:=M;obtain⟨d,Q,d2⟩:=Q;rw[Fe hx (by rw[<-U];exact M) (by rw[<-S];exact Q) m d2];have D:im [49]=some 1:=rfl;have C:(aj 1).length<=10000:=by decide
    have F:0<jI (d-1)↔1<d:=by
     unfold jI;split
     .constructor<;>intro h<;>omega
     .split<;>constructor<;>intro h<;>omega
    have O:(a==[48])=decide (n=0):=by rw[bK M,fD]
    have o:(aj n.natAbs).length<=10000:=by omega
    have d3:(aj d.natAbs).length<=10000:=by omega
    by_cases B:1<d
    .have Z :0<jI (d-1):=F.2 B
     by_cases y:n=0
     .have K:¬n.natAbs.gcd d.natAbs=1:=by subst y;simp;omega
      rw[if_neg (fun e=>K e.2)];simp[ad,R,f51,ai,iE,cQ,dq,ez,eh,bM,bJ,cj,be,an,H,hx,X,V,<-U,<-S,N,G,ho,ho2,Q,D,C,d3,Z,O,y]
     .by_cases K:n.natAbs.gcd d.natAbs=1
      .rw[if_pos ⟨B,K⟩]
       simp[ad,R,f51,ai,iE,cQ,dq,ez,eh,bM,bJ,cj,be,an,H,hx,X,V,<-U,<-S,N,G,ho,ho2,M,Q,D,C,o,d3,Z,O,y,fg,K]
      .rw[if_neg (fun e=>K e.2)]
       simp[ad,R,f51,ai,iE,cQ,dq,ez,eh,bM,bJ,cj,be,an,H,hx,X,V,<-U,<-S,N,G,ho,ho2,M,Q,D,C,o,d3,Z,O,y,fg,K]
    .have Z :¬0<jI (d-1):=fun e=>B (F.1 e)
     rw[if_neg (fun e=>B e.1)];simp[ad,R,f51,ai,iE,cQ,dq,ez,eh,bM,bJ,cj,be,an,H,hx,X,V,<-U,<-S,N,G,ho,ho2,Q,D,C,d3,Z]
variable{M:Mem}{b es:Nat}{cs l:List AV}{o:Bool}
theorem aag{ks:List Nat}(hc:AV.afA cs=true)(h:M[b]? =some (.cells o es l))(H:l.take cs.length=cs):agb ks M b (.cells false es cs):=by
 refine⟨bx hc,o,l,h,fun j v X=>?_⟩;have U:=gL X;have e:l[j]? =cs[j]? :=by rw[<-V2 U,H]
 have V:=aS (ρ:=back ks M.length) hc;rw[gZ] at V;have Z:(cs.map (AV.ren (back ks M.length)))[j]? =cs[j]? :=by rw[V]
 rw[Y1,X] at Z;rw[e,X];exact Z.symm
theorem Oa{v:AV}{f:Nat->Option Nat}(h:v.closed=true):v.ren f=v:=by have:=aS (vs:=[v]) (ρ:=f) (by simp[AV.afA,h]);simpa [AV.afR] using this
variable{f:FuncId}{n:Nat}{r:Option Nat}{rest:List AV}
theorem agY{P:Program}{v:AV}(hc:AV.afA cs=true)(hr:AV.afA rest=true)(I:v.closed=true)(H:M[b]? =some (.cells o es l))(J:l.take cs.length=cs)(h:bz P f (.slice 0 0 n r::rest) [.cells false es cs] v [.cells false es cs]):bz P f (.slice b 0 n r::rest) M v M:=by
 have X:=gL H;have V:AV.afB [b].length (.slice 0 0 n r::rest)=true:=by
  show(decide (0<1)&&AV.afB 1 rest)=true
  rw[bx hr];rfl
 have:=bz.frame (M:=M) (new:=[]) [b] (m:=[.cells false es cs]) rfl (by simpa using X) V (fun i s Z=>by
  cases i with
  |zero=>simp at Z;subst Z;exact aag hc H J
  |succ i=>simp at Z) rfl (by simpa using h)
 simpa [AV.afR,AV.ren,back,aS hr,Oa I] using this
def sC(L:List (List UInt8)):List AV:=L.map .str
theorem Ma(L:List (List UInt8)):(sC L).length=L.length:=by simp[sC]
theorem L8:∀L:List (List UInt8),AV.afA (sC L)=true
 | []=>rfl
 |s::L=>by simp[sC,AV.afA,AV.closed];exact L8 L
def tY:List AV->Option (List (List UInt8))
 | []=>some []
 |.str a::l=>match tY l with
  |some r=>some (a::r)
  |none=>none
 |_=>none
theorem DK:∀{cs:List AV} {L:List (List UInt8)},tY cs=some L->cs=sC L
 | [],L,h=>by cases h;rfl
 |v::l,L,h=>by
  unfold tY at h;split at h
  next Z=>cases Z
  .rename_i Z
   cases Z;split at h
   .rename_i r X
    cases h;rw[DK X];rfl
   .cases h
  .cases h
def sI(M:Mem):AV->Option (List (List UInt8))
 |.slice b 0 n none=>match M[b]? with
  |some (.cells _ 1 cs)=>if n<=cs.length then tY (cs.take n) else none
  |_=>none
 |.kO=>some []
 |_=>none
variable{L:List (List UInt8)}{x:AV}
theorem Ol(h:sI M x=some L):(∃b o l,x=.slice b 0 L.length none/\M[b]? =some (.cells o 1 l)/\l.take L.length=sC L)\/(x=.kO/\L=[]):=by
 unfold sI at h;split at h
 .rename_i b n
  split at h
  .rename_i o cs X
   split at h
   .rename_i U
    have Z:=DK h;have V:n=L.length:=by have:=congrArg List.length Z;rw[Ma,M0] at this;omega
    subst V;exact .inl ⟨b,o,cs,rfl,X,Z⟩
   .cases h
  .cases h
 .cases h;exact .inr ⟨rfl,rfl⟩
 .cases h
theorem Xt{P:Program}{v:AV}(hr:AV.afA rest=true)(H:v.closed=true)(hx:sI M x=some L)(h:bz P f (.slice 0 0 L.length none::rest) [.cells false 1 (sC L)] v [.cells false 1 (sC L)])(h0:L=[]->bz P f (.kO::rest) M v M):bz P f (x::rest) M v M:=by
 rcases Ol hx with⟨b,o,l,rfl,Z,X⟩ | ⟨rfl,V⟩
 .exact agY (L8 L) hr H Z (by rw[Ma];exact X) h
 .exact h0 V
theorem ZI{i:Nat}{s:List UInt8}(h:L[i]? =some s):(sC L)[i]? =some (.str s):=by simp[sC,h]
def jj:List (List UInt8)->Int
 | []=>0
 |s::l=>if iz s=0 then jj l else iz s
variable{K:Nat}
theorem ye(L:List (List UInt8))(I:∀s∈L,s.length<=1000000000)(J:L.length<=1000000000)(W:L.length<K){b:Code}(H:ah f97=[b]):
  ∃F:Env->Bool->Env,∀Z d,(aa Z 6=.slice 0 0 L.length none/\aa Z 7=.int .i64 L.length/\aa Z 8=.int .i64 0/\aa Z 2=.int .i64 0)->
   aO (aL prog) (fun _=>[8]) (ai cq) K 18 1 true (.loop b) ⟨Z,[.cells false 1 (sC L)],d⟩=some (if jj L=0 then .exit 0 else .ret,⟨F Z d,[.cells false 1 (sC L)],d⟩)/\(jj L≠0->aa (F Z d) 2=.int .i64 (jj L)):=by
 refine bG rfl (fun Z=>aa Z 6=.slice 0 0 L.length none/\aa Z 7=.int .i64 L.length/\aa Z 8=.int .i64 0/\aa Z 2=.int .i64 0) (fun _ N =>jj L≠0->aa N 2=.int .i64 (jj L)) ?_;rintro Z d ⟨h6,h7,h8,S⟩;simp[ah,aw,f97] at H;have R:au [8] (ae b) Z ((8,.int .i64 ((0:Nat):Int))::Z)=au [8] (ae b) Z Z:=by simp[au,h8]
 rw[<-R];refine bZ (α:=Nat) (fun n=>⟨au [8] (ae b) Z ((8,.int .i64 (n:Int))::Z),[.cells false 1 (sC L)],d⟩) (fun n=>L.length-n) (fun n=>n<=L.length/\jj L=jj (L.drop n)) (if jj L=0 then .exit 0 else .ret) _ d _ (by split<;>simp) ?_ K 0 ⟨by omega,by rw[List.drop_zero]⟩ (by omega);rintro n ⟨hn1,he⟩;clear R;subst H;by_cases X:n<L.length
 .obtain⟨s,V⟩:∃s,L[n]? =some s:=⟨L[n],LB X⟩
  have Q:=ZI V;have O:=I s (Lo V);have G:L.drop n=s::L.drop (n+1):=by rw[Hi] at V;obtain⟨D,S⟩:=V;rw[<-S];exact LU D
  rw[G,jj] at he;have w1:IntKind.i64.wrap ((n:Int)+1)=((n+1:Nat):Int):=by rw[af];omega
  by_cases U:iz s=0
  .rw[if_pos U] at he
   left;obtain⟨v,C⟩:=xE (n+1);rw[<-C] at w1 he;refine⟨v,?_⟩;simp[h6,h7,X,ai,cq,O,U,Q,w1];exact⟨⟨by omega,he⟩,by omega⟩
  .rw[if_neg U] at he
   right;rw[he];simp[h6,h7,X,ai,cq,O,U,Q]
 .right
  have e:L.drop n=[]:=M6 (by omega);rw[e,jj] at he;rw[he];simp[h7,X]
theorem FY(L:List (List UInt8))(H:∀s∈L,s.length<=1000000000)(I:L.length<=1000000000):
  bz prog 97 [.slice 0 0 L.length none] [.cells false 1 (sC L)] (.int .i64 (jj L)) [.cells false 1 (sC L)]:=by
 have Q:bq prog 97=some f97:=by kernel_rfl
 obtain⟨b,U⟩:∃b,ah f97=[b]:=⟨_,rfl⟩
 obtain⟨F,Z⟩:=ye (K:=L.length+1) L H I (by omega) U;simp[ah,aw,f97] at U;subst U;refine fQ (lv:=(fun _=>[8])) (K:=(L.length+1)) fc ?_;by_cases V:jj L=0
 .rw[if_pos V] at Z
  have S:=fun X d h=>(Z X d h).1
  clear Z;simp[ad,Q,f97,S,V]
 .rw[if_neg V] at Z
  have S:=fun X d h=>(Z X d h).1
  have R:=fun X d h=>(Z X d h).2 V
  clear Z;simp[ad,Q,f97,S,R]
theorem zT(M:Mem):bz prog 97 [.kO] M (.int .i64 0) M:=by
 have Z:bq prog 97=some f97:=by kernel_rfl
 refine dE (ar _) (lv:=fun _=>[8]) (K:=1) rfl rfl ?_ M;simp[ad,Z,f97,bw,ga]
def rT(Q:List Rat):List (List UInt8):=Q.map aJ
def HK(Q:List Rat)(s:Rat):Rat:=Q.foldl (·+·) s
def HD:List Rat->Rat->Prop
 | [],s=>lD s
 |q::l,s=>lD s/\lD q/\HD l (s+q)
section
variable (Q:List Rat)(hQ:HD Q 0)(hl:Q.length<=1000000000)
include Q hQ hl
theorem GM(I:Q.length<K){b:Code}(H:ah f117=[b]):
  ∃F:Env->Bool->Env,∀Z d,(aa Z 6=.slice 0 0 Q.length r/\aa Z 7=.int .i64 Q.length/\aa Z 8=.int .i64 0/\aa Z 3=.str [48])->
   aO (aL prog) (fun _=>[3,8]) (ai cq) K 17 1 true (.loop b) ⟨Z,[.cells false es (sC (rT Q))],d⟩=some (.exit 0,⟨F Z d,[.cells false es (sC (rT Q))],d⟩)/\aa (F Z d) 3=.str (aJ (HK Q 0)):=by
 refine bG rfl (fun Z=>aa Z 6=.slice 0 0 Q.length r/\aa Z 7=.int .i64 Q.length/\aa Z 8=.int .i64 0/\aa Z 3=.str [48]) (fun _ O =>aa O 3=.str (aJ (HK Q 0))) ?_;rintro Z d ⟨h6,h7,h8,h3⟩;simp[ah,aw,f117] at H;have z:aJ 0=[48]:=rfl;have R:au [3,8] (ae b) Z ((3,.str (aJ (HK (Q.take 0) 0)))::(8,.int .i64 ((0:Nat):Int))::Z)=au [3,8] (ae b) Z Z:=by simp[au,h8,h3,HK,z]
 rw[<-R];refine bZ (α:=Nat) (fun n=>⟨au [3,8] (ae b) Z ((3,.str (aJ (HK (Q.take n) 0)))::(8,.int .i64 (n:Int))::Z),[.cells false es (sC (rT Q))],d⟩) (fun n=>Q.length-n) (fun n=>n<=Q.length/\HD (Q.drop n) (HK (Q.take n) 0)) (.exit 0) _ d _ (by simp) ?_ K 0 ⟨by omega,by simpa [HK] using hQ⟩ (by omega);rintro n ⟨hn1,X⟩;clear R;subst H;by_cases S:n<Q.length
 .obtain⟨q,U⟩:∃s,Q[n]? =some s:=⟨Q[n],LB S⟩
  have N:(sC (rT Q))[n]? =some (.str (aJ q)):=by simp[sC,rT,U]
  have G:Q.drop n=q::Q.drop (n+1):=by rw[Hi] at U;obtain⟨D,C⟩:=U;rw[<-C];exact LU D
  have V:HK (Q.take (n+1)) 0=HK (Q.take n) 0+q:=by rw[List.take_add_one,U];simp[HK]
  rw[G,HD,<-V] at X;obtain⟨⟨f1,f2⟩,⟨f3,f4⟩,X⟩:=X;have w1:IntKind.i64.wrap ((n:Int)+1)=((n+1:Nat):Int):=by rw[af];omega
  left;obtain⟨v,B⟩:=xE (n+1);rw[<-B] at w1 X V;obtain⟨s,y⟩:=xE (HK (Q.take n) 0);rw[<-y] at f1 f2 V |-;refine⟨v,?_⟩;simp[h6,h7,S,ai,cq,cp,aE,f1,f2,f3,f4,N,w1,V];exact⟨⟨by omega,by rw[<-V];exact X⟩,by omega⟩
 .right
  have e:Q.take n=Q:=An (by omega);rw[e];simp[h7,S]
theorem P9:
  bz prog 117 [.slice 0 0 Q.length r] [.cells false es (sC (rT Q))] (.str (aJ (HK Q 0))) [.cells false es (sC (rT Q))]:=by
 have X:bq prog 117=some f117:=by kernel_rfl
 obtain⟨b,Z⟩:∃b,ah f117=[b]:=⟨_,rfl⟩
 obtain⟨F,V⟩:=GM (es:=es) (r:=r) (K:=Q.length+1) Q hQ hl (by omega) Z;simp[ah,aw,f117] at Z;subst Z;refine fQ (lv:=(fun _=>[3,8])) (K:=(Q.length+1)) fc ?_;simp[ad,X,f117,V]
theorem Qa:
  bz prog 117 [.slice 0 0 Q.length none] [.cells false 1 (sC (rT Q))] (.str (aJ (HK Q 0))) [.cells false 1 (sC (rT Q))]:=P9 Q hQ hl
end
def Ry:List (List UInt8)->Option (List Rat)
 | []=>some []
 |k::l=>match dZ k,Ry l with
  |some a,some r=>some (a::r)
  |_,_=>none
theorem FD:∀{L:List (List UInt8)} {Q:List Rat},Ry L=some Q->L=rT Q
 | [],Q,h=>by cases h;rfl
 |k::L,Q,h=>by
  unfold Ry at h;split at h
  .rename_i a r Z h3
   cases h;rw[FD h3,aF Z];rfl
  .cases h
open Classical in
noncomputable def jq:afu:=fun c Z M=>match c,Z with
 |.fn 97,[x]=>match sI M x with
  |some L=>if (∀s∈L,s.length<=1000000000)/\L.length<=1000000000 then some ⟨.int .i64 (jj L),none,[]⟩ else none
  |none=>none
 |.fn 117,[x]=>match sI M x with
  |some L=>match Ry L with
   |some Q=>if HD Q 0/\Q≠[]/\Q.length<=1000000000 then some ⟨.str (aJ (HK Q 0)),none,[]⟩ else none
   |none=>none
  |none=>none
 |c,Z=>ai cq c Z M
theorem kG:afs prog jq:=by
 refine cG fun c S M r h=>?_
 unfold jq at h;split at h
 .split at h
  .rename_i L V
   split at h
   .rename_i X
    cases h;refine aA ?_;rw[List.append_nil];exact Xt (rest:=[]) rfl rfl V (FY L X.1 X.2) (fun Z=>by subst Z;exact zT M)
   .cases h
  .cases h
 .split at h
  .rename_i L V
   split at h
   .rename_i Q hQ
    split at h
    .rename_i X
     cases h;refine aA ?_;rw[List.append_nil];have U:=FD hQ;subst U;have:=Qa Q X.1 X.2.2;have R:(rT Q).length=Q.length:=by simp[rT]
     rw[<-R] at this;exact Xt (rest:=[]) rfl rfl V this (fun Z=>by
      cases Q with
      |nil=>exact absurd rfl X.2.1
      |cons q Q=>cases Z)
    .cases h
   .cases h
  .cases h
 .exact ee fc h
theorem iY(a b c:List UInt8)(H:a.length<=1000000000)(I:b.length<=1000000000)(hc:c.length<=1000000000)(M:Mem):
  bz prog 70 [.agg [.str a,.str b,.str c]] M (.int .i64 (jj [a,b,c])) M:=by
 have Z:bq prog 70=some f70:=by kernel_rfl
 refine az kG ?_ M;simp[ad,Z,f70,jq,sI,tY,H,I,hc]
theorem nI(a b:List UInt8)(H:a.length<=1000000000)(I:b.length<=1000000000)(M:Mem):
  bz prog 47 [.agg [.str a,.str b]] M (.int .i64 (jj [a,b])) M:=by
 have Z:bq prog 47=some f47:=by kernel_rfl
 refine az kG ?_ M;simp[ad,Z,f47,jq,sI,tY,H,I]
abbrev V3:=Rat×Rat×Rat
def vA(v:V3):AV:=.agg [.str (aJ v.1),.str (aJ v.2.1),.str (aJ v.2.2)]
def vDg(n:Nat)(v:V3):Prop:=dg n n v.1/\dg n n v.2.1/\dg n n v.2.2
def xA(a b:V3):Rat:=a.1*b.1+a.2.1*b.2.1+a.2.2*b.2.2
variable{q:Rat}
theorem dC{d:Nat}(h:dg n d q)(H:0<n)(hd:0<d)(h1:n<=40000)(h2:d<=40000):lD q:=by have:=h.lens H hd;exact⟨by omega,by omega⟩
theorem Pw(a b:V3)(ha:vDg 3000 a)(hb:vDg 3000 b)(M:Mem):bz prog 113 [vA a,vA b] M (.str (aJ (xA a b))) M:=by
 have hG:bq prog 113=some f113:=by kernel_rfl
 obtain⟨U,S,R⟩:=a;obtain⟨Q,O,N⟩:=b;obtain⟨G,F,D⟩:=ha;obtain⟨C,B,y⟩:=hb;simp only at G F D C B y;have u:=rO G C;have P2:=rO F B;have j:=rO D y;have Z:dg 1 1 0:=⟨by decide,by decide⟩;have Y:=zl Z u (m:=6001) (by omega) (by omega);have W:=zl Y P2 (m:=12003) (by omega) (by omega);have S3:=zl W j (m:=18004) (by omega) (by omega);have hs:HD [U*Q,S*O,R*N] 0:=
  ⟨dC Z (by omega) (by omega) (by omega) (by omega),dC u (by omega) (by omega) (by omega) (by omega),dC Y (by omega) (by omega) (by omega) (by omega),dC P2 (by omega) (by omega) (by omega) (by omega),
   dC W (by omega) (by omega) (by omega) (by omega),dC j (by omega) (by omega) (by omega) (by omega),dC S3 (by omega) (by omega) (by omega) (by omega)⟩
 have X:HK [U*Q,S*O,R*N] 0=U*Q+S*O+R*N:=by simp[HK,Rat.zero_add]
 obtain⟨f1,f2⟩:=dC G (by omega) (by omega) (by omega) (by omega);obtain⟨f3,f4⟩:=dC F (by omega) (by omega) (by omega) (by omega);obtain⟨f5,f6⟩:=dC D (by omega) (by omega) (by omega) (by omega);obtain⟨g1,g2⟩:=dC C (by omega) (by omega) (by omega) (by omega);obtain⟨g3,g4⟩:=dC B (by omega) (by omega) (by omega) (by omega);obtain⟨g5,g6⟩:=dC y (by omega) (by omega) (by omega) (by omega);clear u P2 j Y W S3 G F D C B y Z;unfold xA;simp only;obtain⟨p,hp⟩:=xE (U*Q);obtain⟨q,hq⟩:=xE (S*O);obtain⟨r,hr⟩:=xE (R*N);rw[<-hp,<-hq,<-hr] at hs X |-;refine az kG ?_ M;obtain⟨V,J⟩:∃V,bn f113=[V]:=⟨_,rfl⟩
 have I:=wR J (l:=[0,1,0,4,15,0,32,0,128,511,0,1024,0,4096,16383,32767,65535,131071]) (by kernel_rfl);have H:Wq [0,1,0,4,15,0,32,0,128,511,0,1024,0,4096,16383,32767,65535,131071] 18 15=true:=by decide
 simp[bn,cU,f113] at J;subst J;simp[ad,hG,f113,-aN,DE I,xp,CD,OB,cF,H,vA,jq,sI,tY,Ry,aE,ai,cq,cp,f1,f2,f3,f4,f5,f6,g1,g2,g3,g4,g5,g6,<-hp,<-hq,<-hr,hs,X,Nat.testBit]
theorem ml:aJ 0=[48]:=rfl
theorem LW:aJ q=[48]↔q=0:=by
 constructor
 .intro h
  have:=aE q;rw[h,<-ml,aE] at this;exact(QQc this).symm
 .rintro rfl;rfl
theorem Ba{a b:Rat}(h:aJ a=aJ b):a=b:=by have:=aE a;rw[h,aE] at this;exact(QQc this).symm
theorem jT(h:dg 200 200 q):iz (aJ q)=0:=by unfold iz;rw[aE];exact if_pos (h.lens (by decide) (by decide))
theorem Xm(h:dg n n q)(h0:0<n)(h1:n<=40000):(aJ q).length<=1000000000:=gh (dC h h0 h0 h1 h1)
theorem UM{v:V3}(h:vDg 200 v):jj [aJ v.1,aJ v.2.1,aJ v.2.2]=0:=by simp[jj,jT h.1,jT h.2.1,jT h.2.2]
theorem vDg.mono{m:Nat}{v:V3}(h:vDg n v)(H:n<=m):vDg m v:=⟨h.1.mono H H,h.2.1.mono H H,h.2.2.mono H H⟩
theorem M8(a b c:List UInt8)(M:Mem):bz prog 98 [.agg [.str a,.str b,.str c]] M (.bool (a==[48]&&b==[48]&&c==[48])) M:=by
 have Z:bq prog 98=some f98:=by kernel_rfl
 refine az (ar _) ?_ M;cases h1:(a==[48])<;>cases h2:(b==[48])<;>cases h3:(c==[48])<;>simp[ad,Z,f98,h1,h2,h3]
noncomputable def rJ(f:FuncId)(args:List AV):Option AV:=
 match f,args with
 |70,[.agg [.str a,.str b,.str c]]=>if a.length<=1000000000/\b.length<=1000000000/\c.length<=1000000000 then some (.int .i64 (jj [a,b,c])) else none
 |47,[.agg [.str a,.str b]]=>if a.length<=1000000000/\b.length<=1000000000 then some (.int .i64 (jj [a,b])) else none
 |98,[.agg [.str a,.str b,.str c]]=>some (.bool (a==[48]&&b==[48]&&c==[48]))
 |113,[.agg [.str a,.str b,.str c],.agg [.str d,.str e,.str f]]=>match dZ a,dZ b,dZ c,dZ d,dZ e,dZ f with
  |some a,some b,some c,some d,some e,some f=>if (aj a.num.natAbs).length<=2999/\(aj a.den).length<=2999/\(aj b.num.natAbs).length<=2999/\(aj b.den).length<=2999/\(aj c.num.natAbs).length<=2999/\(aj c.den).length<=2999/\
    (aj d.num.natAbs).length<=2999/\(aj d.den).length<=2999/\(aj e.num.natAbs).length<=2999/\(aj e.den).length<=2999/\(aj f.num.natAbs).length<=2999/\(aj f.den).length<=2999 then some (.str (aJ (a*d+b*e+c*f))) else none
  |_,_,_,_,_,_=>none
 |_,_=>none
theorem dH(h:(aj q.num.natAbs).length<=n/\(aj q.den).length<=n):dg n n q:=by have Z:=cf q.num.natAbs;have X:=cf q.den;have h3:10 ^ (aj q.num.natAbs).length<=10 ^ n:=L9 (by omega) h.1;have V:10 ^ (aj q.den).length<=10 ^ n:=L9 (by omega) h.2;exact⟨by omega,by omega⟩
theorem KH:afs prog (ai rJ):=bT fun f R v h mem=>by
 unfold rJ at h;split at h
 .split at h
  next Z=>cases h;exact iY _ _ _ Z.1 Z.2.1 Z.2.2 mem
  .cases h
 .split at h
  next Z=>cases h;exact nI _ _ Z.1 Z.2 mem
  .cases h
 .cases h;exact M8 _ _ _ mem
 .split at h
  .rename_i a b c d e f Q O Z N G F
   split at h
   .rename_i X
    obtain⟨D,C,B,y,u,m,j,Y,W,V,U,S⟩:=X;cases h;rw[aF Q,aF O,aF Z,aF N,aF G,aF F];exact Pw (a,b,c) (d,e,f) ⟨(dH ⟨D,C⟩).mono (by omega) (by omega),(dH ⟨B,y⟩).mono (by omega) (by omega),(dH ⟨u,m⟩).mono (by omega) (by omega)⟩
     ⟨(dH ⟨j,Y⟩).mono (by omega) (by omega),(dH ⟨W,V⟩).mono (by omega) (by omega),(dH ⟨U,S⟩).mono (by omega) (by omega)⟩ mem
   .cases h
  .cases h
 .cases h
noncomputable def Cm:afu:=afu.or (ai rJ) jq
theorem KI:afs prog Cm:=afs.or KH kG
def ZN(a b:V3):V3:=(a.1+b.1,a.2.1+b.2.1,a.2.2+b.2.2)
def Z6(a:V3)(k:Rat):V3:=(a.1*k,a.2.1*k,a.2.2*k)
def vF(a:V3):Prop:=lD a.1/\lD a.2.1/\lD a.2.2
def NL(a b:V3):Prop:=vF a/\vF b/\HD [a.1*b.1,a.2.1*b.2.1,a.2.2*b.2.2] 0
def vC(v:V3):Prop:=jj [aJ v.1,aJ v.2.1,aJ v.2.2]=0/\(aJ v.1).length<=1000000000/\(aJ v.2.1).length<=1000000000/\(aJ v.2.2).length<=1000000000
theorem Uc:lD 0:=⟨by decide,by decide⟩
theorem NN(h:dg n n q)(h0:0<n)(h1:n<=40000):lD q:=dC h h0 h0 h1 h1
theorem Zi{v:V3}(h:vDg n v)(h0:0<n)(h1:n<=40000):vF v:=⟨NN h.1 h0 h1,NN h.2.1 h0 h1,NN h.2.2 h0 h1⟩
theorem Wu{a b:V3}(H:vDg n a)(I:vDg n b)(h0:0<n)(h1:n<=4000):NL a b:=by
 obtain⟨X,V,U⟩:=H;obtain⟨S,R,Q⟩:=I;have O:=rO X S;have P2:=rO V R;have N:=rO U Q;have Z:dg 1 1 0:=⟨by decide,by decide⟩;have G:=zl Z O (m:=3*n+3) (by omega) (by omega);have F:=zl G P2 (m:=6*n+6) (by omega) (by omega);have D:=zl F N (m:=9*n+9) (by omega) (by omega);have f:∀{x y:Nat}{q:Rat},dg x y q->0<x->0<y->x<=40000->y<=40000->lD q:=fun h p q r s=>dC h p q r s
 exact⟨Zi ⟨X,V,U⟩ h0 (by omega),Zi ⟨S,R,Q⟩ h0 (by omega),Uc,f O (by omega) (by omega) (by omega) (by omega),f G (by omega) (by omega) (by omega) (by omega),f P2 (by omega) (by omega) (by omega) (by omega),f F (by omega) (by omega) (by omega) (by omega),f N (by omega) (by omega) (by omega) (by omega),f D (by omega) (by omega) (by omega) (by omega)⟩
theorem Ps(a b:V3)(h:NL a b)(M:Mem):bz prog 113 [vA a,vA b] M (.str (aJ (xA a b))) M:=by
 have W:bq prog 113=some f113:=by kernel_rfl
 obtain⟨V,U,S⟩:=a;obtain⟨R,Q,O⟩:=b;obtain⟨⟨⟨f1,f2⟩,⟨f3,f4⟩,f5,f6⟩,⟨⟨g1,C⟩,⟨g3,B⟩,y,u⟩,N⟩:=h;simp only at f1 f2 f3 f4 f5 f6 g1 C g3 B y u N;have Z:HK [V*R,U*Q,S*O] 0=V*R+U*Q+S*O:=by simp[HK,Rat.zero_add]
 unfold xA;simp only;obtain⟨p,m⟩:=xE (V*R);obtain⟨q,j⟩:=xE (U*Q);obtain⟨r,Y⟩:=xE (S*O);rw[<-m,<-j,<-Y] at N Z |-;refine az kG ?_ M;obtain⟨X,G⟩:∃X,bn f113=[X]:=⟨_,rfl⟩
 have F:=wR G (l:=[0,1,0,4,15,0,32,0,128,511,0,1024,0,4096,16383,32767,65535,131071]) (by kernel_rfl);have D:Wq [0,1,0,4,15,0,32,0,128,511,0,1024,0,4096,16383,32767,65535,131071] 18 15=true:=by decide
 simp[bn,cU,f113] at G;subst G;simp[ad,W,f113,-aN,DE F,xp,CD,OB,cF,D,vA,jq,sI,tY,Ry,aE,ai,cq,cp,f1,f2,f3,f4,f5,f6,g1,C,g3,B,y,u,<-m,<-j,<-Y,N,Z,Nat.testBit]
def Xn(p v:V3)(k:Rat):Prop:=(vF p/\vF v/\lD k)/\lD (k*v.1)/\lD (k*v.2.1)/\lD (k*v.2.2)
def Zw(a b c:P2):Prop:=((lD a.1/\lD a.2)/\(lD b.1/\lD b.2)/\lD c.1/\lD c.2)/\(lD (b.1-a.1)/\lD (c.2-a.2)/\lD (b.2-a.2)/\lD (c.1-a.1))/\lD ((b.1-a.1)*(c.2-a.2))/\lD ((b.2-a.2)*(c.1-a.1))
def ZK(A B C q:P2):Prop:=Zw B C q/\Zw C A q/\Zw A B q
structure aim (P:List P2)(T:List Tr)(q:P2):Prop where
 tri:∀(i:Nat) t,T[i]? =some t->∃A B C,P[t.1]? =some A/\P[t.2.1]? =some B/\P[t.2.2]? =some C/\ZK A B C q
 hl:P.length<=1000/\T.length<=1000
section
variable {P:List P2}{T:List Tr}{v:V3}
end
end Go.Proofs
namespace Go.Proofs
open Go.Eng
end Go.Proofs
namespace Go.Proofs
open Go.Eng
open Tryz
theorem P4(q:Rat)(H:(aJ q).length<=1000000000)(mem:Mem):bz prog 107 [.str (aJ q)] mem (.str (aJ (-q))) mem:=by
 have X:bq prog 107=some f107:=by kernel_rfl
 refine az (ar _) ?_ mem;by_cases Z:q=0
 .subst Z
  simp[ad,X,f107,bk]
 .have O:¬q.num=0:=fun e=>Z (qe.1 e)
  by_cases S:q.num<0
  .have e:=iX S
   have V:(45::aJ (-q)==[48])=false:=by rw[<-e,bk];simpa using Z
   rw[e];have h3:(1:Int)<=((aJ (-q)).length:Int)+1:=by omega
   simp[ad,X,f107,V,h3]
  .have e:=nh (q:=q) (by omega)
   obtain⟨c,r,U,R⟩:=kP (q:=q) (by omega);have V:(c::r==[48])=false:=by rw[<-U,bk];simpa using Z
   have Q:=ff R;rw[e,U];rw[U] at H;simp only[List.length_cons] at H;have h3:1+(r.length+1)<=9223372036854775807:=by omega
   simp[ad,X,f107,V,Q,h3,ft]
noncomputable def fl(f:FuncId)(args:List AV):Option AV:=
 match f,args with
 |37,[.int .i64 n,.int .i64 d]=>if 0<d/\n.natAbs<10 ^ 8/\d.toNat<10 ^ 8 then some (.str (aJ (mkRat n d.toNat))) else none
 |90,[.str s,.str t]=>match dZ s,dZ t with
  |some a,some b=>if (aJ a).length<=9/\(aJ b).length<=9 then some (.str (aJ (a+b))) else none
  |_,_=>none
 |94,[.str s,.str t]=>match dZ s,dZ t with
  |some a,some b=>if (aJ a).length<=9/\(aJ b).length<=9 then some (.str (aJ (a*b))) else none
  |_,_=>none
 |107,[.str s]=>match dZ s with
  |some a=>if (aJ a).length<=9 then some (.str (aJ (-a))) else none
  |none=>none
 |_,_=>none
theorem iQ:afs prog (ai fl):=bT fun f U v h mem=>by
 unfold fl at h;split at h
 .rename_i n d
  split at h
  .rename_i Z
   cases h;have:=If n d.toNat (by omega) Z.2.1 Z.2.2 mem;rw[QQb (by omega)] at this;exact this
  .cases h
 .split at h
  .rename_i m n X V
   split at h
   next Z=>cases h;rw[aF X,aF V];exact PZ m n Z.1 Z.2 mem
   .cases h
  .cases h
 .split at h
  .rename_i m n X V
   split at h
   next Z=>cases h;rw[aF X,aF V];exact P0 m n Z.1 Z.2 mem
   .cases h
  .cases h
 .split at h
  .rename_i m X
   split at h
   next Z=>cases h;rw[aF X];exact P4 m (by omega) mem
   .cases h
  .cases h
 .cases h
theorem P5(a b:Rat)(H:(aJ a).length<=9)(I:(aJ b).length<=9)(J:(aJ (-b)).length<=9)(mem:Mem):
  bz prog 53 [.str (aJ a),.str (aJ b)] mem (.str (aJ (a-b))) mem:=by
 have Z:bq prog 53=some f53:=by kernel_rfl
 refine az iQ ?_ mem;have e:a+ -b=a-b:=(Rat.sub_eq_add_neg a b).symm;simp[ad,Z,f53,ai,fl,aE,H,I,J,e]
def zS(n:Int):List UInt8:=aJ (n:Rat)
theorem ua{n:Int}(h:n.natAbs<10 ^ 4):(aJ (n:Rat)).length<=9:=by
 have e:aJ (n:Rat)=bH n:=by unfold aJ;simp
 rw[e];have Z:=du n;have X:(aj n.natAbs).length<=4:=ba (by omega) h;omega
noncomputable def Cd(f:FuncId)(args:List AV):Option AV:=
 match f,args with
 |53,[.str s,.str t]=>match dZ s,dZ t with
  |some a,some b=>if (aJ a).length<=9/\(aJ b).length<=9/\(aJ (-b)).length<=9 then some (.str (aJ (a-b))) else none
  |_,_=>none
 |f,args=>fl f args
theorem Nu:afs prog (ai Cd):=bT fun f X v h mem=>by
 unfold Cd at h;split at h
 .split at h
  .rename_i m n V U
   split at h
   next Z=>cases h;rw[aF V,aF U];exact P5 m n Z.1 Z.2.1 Z.2.2 mem
   .cases h
  .cases h
 .have:=iQ.fn _ _ mem ⟨v,none,[]⟩ (by unfold ai;simp only;rw[h])
  simpa [afw.mem] using this
theorem LK{a b:Int}(H:a.natAbs<=30)(I:b.natAbs<=30):(a*b).natAbs<=900:=by rw[QQf];exact Nat.mul_le_mul H I
abbrev Z3:=Int×Int×Int
def zA(v:Z3):AV:=.agg [.str (zS v.1),.str (zS v.2.1),.str (zS v.2.2)]
def Pg(n:Nat)(v:Z3):Prop:=v.1.natAbs<=n/\v.2.1.natAbs<=n/\v.2.2.natAbs<=n
instance (n:Nat) (v:Z3):Decidable (Pg n v):=inferInstanceAs (Decidable (v.1.natAbs<=n/\v.2.1.natAbs<=n/\v.2.2.natAbs<=n))
theorem kX{n:Int}(h0: -1000000<=n)(h1:n<=1000000):IntKind.i64.wrap n=n:=by rw[af]
def rM(a b:Z3):Z3:=(a.2.1*b.2.2-a.2.2*b.2.1,a.2.2*b.1-a.1*b.2.2,a.1*b.2.1-a.2.1*b.1)
def W9(v:Z3):Bool:=decide (v.1=0)&&decide (v.2.1=0)&&decide (v.2.2=0)
theorem oC{q:Rat}(h:q.den=1):q=(q.num:Rat):=Rat.ext rfl h
end Go.Proofs
namespace Go.Eng
structure Hts where
 v:List Int
 half:Bool
def i8C(l:List Int):List AV:=l.map fun n=>.int .i8 n
def Hts.cells(h:Hts):List AV:=i8C h.v++[.bool h.half]
structure Hts.Ok (h:Hts):Prop where
 len:h.v.length=6
 ok:∀n∈h.v,AS n
structure afv where
 kind:Nat
 base:Hts
 s0:Hts
 s1:Hts
 N:List Int
 T:List Int
def afv.cells(x:afv):List AV:=.int .u8 x.kind::(x.base.cells++(x.s0.cells++(x.s1.cells++(i8C x.N++i8C x.T))))
structure afv.Ok (x:afv):Prop where
 kind:x.kind<256
 base:x.base.Ok
 s0:x.s0.Ok
 s1:x.s1.Ok
 nl:x.N.length=8
 nk:∀n∈x.N,AS n
 tl:x.T.length=4
 tk:∀n∈x.T,AS n
theorem il(l:List Int):(i8C l).length=l.length:=by simp[i8C]
theorem ov:∀l:List Int,AV.afA (i8C l)=true
 | []=>rfl
 |n::l=>by have:=ov l;simp only[i8C] at this;simp[i8C,AV.afA,AV.closed,this]
variable{k:Nat}
theorem Xh{l:List Int}(h:k<l.length):(i8C l)[k]? =some (.int .i8 (l.getD k 0)):=by simp[i8C,List.getD_eq_getElem?_getD,LB h]
theorem pX{l:List Int}(h:k<l.length):l.getD k 0∈l:=by rw[List.getD_eq_getElem?_getD,LB h];exact List.getElem_mem _
def iC(n:Int):Int:=n.tmod 10
def ps9(n:Int):Int:=1+(n.tmod 9+9).tmod 9
def ct3(n:Int):Int:=1+(n.tmod 3+3).tmod 3
theorem dO(n:Int):(iC n).natAbs<=9:=by have:=AF n 10 (by decide);unfold iC;simp only[Int.cast_ofNat_Int] at this;omega
theorem nd(n:Int):1<=ps9 n/\ps9 n<=9:=by have h:=AF n 9 (by decide);have Z:=AF (n.tmod 9+9) 9 (by decide);have h3:=Int.tmod_nonneg 9 (a:=n.tmod 9+9) (by simp only[Int.cast_ofNat_Int] at h;omega);unfold ps9;simp only[Int.cast_ofNat_Int] at h Z;omega
theorem OE(n:Int):1<=ct3 n/\ct3 n<=3:=by have h:=AF n 3 (by decide);have Z:=AF (n.tmod 3+3) 3 (by decide);have h3:=Int.tmod_nonneg 3 (a:=n.tmod 3+3) (by simp only[Int.cast_ofNat_Int] at h;omega);unfold ct3;simp only[Int.cast_ofNat_Int] at h Z;omega
def afv.n(x:afv)(i:Nat):Int:=x.N.getD i 0
def afv.t(x:afv)(i:Nat):Int:=x.T.getD i 0
def Hts.z(h:Hts)(k:Nat):Int:=(if h.half then 1 else 2)*(h.v.getD (k%6) 0).tmod 20
def Hts.l(h:Hts)(n:Nat):List Int:=(List.range n).map h.z
theorem Hts.afY(h:Hts)(n:Nat):(h.l n).length=n:=by simp[Hts.l]
theorem Hts.ahN(h:Hts)(n:Nat):h.l (n+1)=h.l n++[h.z n]:=by simp[Hts.l,List.range_succ]
theorem Hts.ahq(h:Hts)(k:Nat):(h.z k).natAbs<=38:=by have:=AF (h.v.getD (k%6) 0) 20 (by decide);unfold Hts.z;simp only[Int.cast_ofNat_Int] at this;split<;>omega
def upL(h:Hts)(L:List Int)(n:Nat):List Int:=(List.range n).map fun k=>L.getD k 0+(h.z k).natAbs
theorem eG(h:Hts)(L:List Int)(n:Nat):(upL h L n).length=n:=by simp[upL]
theorem Pe(h:Hts)(L:List Int)(n:Nat):upL h L (n+1)=upL h L n++[L.getD n 0+(h.z n).natAbs]:=by simp[upL,List.range_succ]
def afv.at(x:afv):Nat->Int
 |0=>iC (x.n 6)
 |i+1=>x.at i+ps9 (x.n ((i+3)%8))
def afv.val(x:afv)(i:Nat):Int:=iC (x.n ((i+7)%8))
def afv.ah9(x:afv)(i:Nat):Rat×Rat:=((x.at i:Int),hQ (x.val i))
def afv.af0(x:afv)(c:Nat):List (Rat×Rat):=(List.range c).map x.ah9
theorem afv.agf(x:afv)(c:Nat):(x.af0 c).length=c:=by simp[afv.af0]
theorem afv.ahO(x:afv):∀i,(x.at i).natAbs<=9+9*i
 |0=>dO _
 |i+1=>by
  have Z:=x.ahO i;have X:=nd (x.n ((i+3)%8));show(x.at i+ps9 (x.n ((i+3)%8))).natAbs<=_
  omega
theorem afv.ah3(x:afv)(i:Nat):x.at i<x.at (i+1):=by
 have Z:=nd (x.n ((i+3)%8));show x.at i<x.at i+ps9 (x.n ((i+3)%8))
 omega
variable{vs:List AV}
theorem eD(h:AV.afA vs=true)(n:Nat):AV.afN n vs=[]:=AV.afX (Nat.zero_le n) (bx h)
theorem iw(h:AV.afA vs=true)(f:Nat->Bool):AV.afD f vs=true:=AV.afU (k:=0) (fun b Z=>absurd Z (Nat.not_lt_zero b)) (bx h)
theorem yx{a b:List AV}(H:AV.afA a=true)(I:AV.afA b=true):AV.afA (a++b)=true:=by
 induction a with
 |nil=>exact I
 |cons x a ih=>
  simp only[AV.afA,Ar,List.cons_append] at H |-;exact⟨H.1,ih H.2⟩
theorem Hts.closed(h:Hts):AV.afA h.cells=true:=yx (ov _) rfl
theorem afv.closed(x:afv):AV.afA x.cells=true:=by
 show AV.afA ([.int .u8 x.kind]++(x.base.cells++(x.s0.cells++(x.s1.cells++(i8C x.N++i8C x.T)))))=true
 exact yx rfl (yx x.base.closed (yx x.s0.closed (yx x.s1.closed (yx (ov _) (ov _)))))
variable{h:Hts}
theorem Hts.afE(H:h.Ok):h.cells.length=7:=by unfold Hts.cells;rw[Nm,il,H.len];rfl
section
variable {x:afv}(hx:x.Ok)
include hx
theorem afv.afE:x.cells.length=34:=by unfold afv.cells;simp only[List.length_cons,Nm,Hts.afE hx.base,Hts.afE hx.s0,Hts.afE hx.s1,il,hx.nl,hx.tl]
theorem afv.agk:x.cells[0]? =some (.int .u8 x.kind):=by rfl
theorem afv.afG(H:k<8):x.cells[22+k]? =some (.int .i8 (x.n k)):=by
 show(AV.int .u8 x.kind::(x.base.cells++(x.s0.cells++(x.s1.cells++(i8C x.N++i8C x.T)))))[22+k]? =_
 have e:22+k=(21+k)+1:=by omega
 have X:=Hts.afE hx.base;have V:=Hts.afE hx.s0;have U:=Hts.afE hx.s1;have S:=il x.N;have R:=hx.nl;rw[e,List.getElem?_cons_succ,Ns (by omega),Ns (by omega),Ns (by omega),GE (by omega)];have Z:21+k-x.base.cells.length-x.s0.cells.length-x.s1.cells.length=k:=by omega
 rw[Z];exact Xh (by omega)
theorem afv.agM:x.cells.drop 1=x.base.cells++(x.s0.cells++(x.s1.cells++(i8C x.N++i8C x.T))):=rfl
theorem afv.ago:(x.cells.drop 1).take 7=x.base.cells:=by rw[afv.agM hx,List.take_left' (Hts.afE hx.base)]
theorem afv.ag7:(x.cells.drop 8).take 7=x.s0.cells:=by
 have e:x.cells.drop 8=(x.cells.drop 1).drop 7:=by rw[QXQ]
 rw[e,afv.agM hx,List.drop_left' (Hts.afE hx.base),List.take_left' (Hts.afE hx.s0)]
theorem afv.ag8:(x.cells.drop 15).take 7=x.s1.cells:=by
 have e:x.cells.drop 15=((x.cells.drop 1).drop 7).drop 7:=by rw[QXQ,QXQ]
 rw[e,afv.agM hx,List.drop_left' (Hts.afE hx.base),List.drop_left' (Hts.afE hx.s0),List.take_left' (Hts.afE hx.s1)]
theorem afv.ahr:(x.cells.drop 30).take 4=i8C x.T:=by
 have e:x.cells.drop 30=((((x.cells.drop 1).drop 7).drop 7).drop 7).drop 8:=by rw[QXQ,QXQ,QXQ,QXQ]
 have Z:(i8C x.N).length=8:=by rw[il,hx.nl]
 have X:(i8C x.T).length=4:=by rw[il,hx.tl]
 rw[e,afv.agM hx,List.drop_left' (Hts.afE hx.base),List.drop_left' (Hts.afE hx.s0),List.drop_left' (Hts.afE hx.s1),List.drop_left' Z,An (by omega)]
theorem afv.af9(H:k<8):AS (x.n k):=hx.nk _ (pX (by rw[hx.nl];exact H))
end
theorem Hts.ahs(H:h.Ok)(I:k<6):h.cells[k]? =some (.int .i8 (h.v.getD k 0)):=by unfold Hts.cells;rw[GE (by rw[il,H.len];exact I)];exact Xh (by rw[H.len];exact I)
theorem Hts.agR(H:h.Ok):h.cells[6]? =some (.bool h.half):=by unfold Hts.cells;rw[Ns (by rw[il,H.len];omega),il,H.len];rfl
theorem Hts.aif(H:h.Ok)(I:k<6):AS (h.v.getD k 0):=H.ok _ (pX (by rw[H.len];exact I))
theorem de{C:List AV}{i:Nat}{v:AV}(h:C[i]? =some v):∀h,C[i]'h=v:=fun Z=>QQc ((LB Z).symm.trans h)
theorem gV(n:Int):mkRat n 1=(n:Rat):=Rat.mkRat_self (n:Rat)
def Hts.d(h:Hts):Nat:=if h.half then 2 else 1
theorem YM(n:Int):hQ (2*n)=(n:Rat):=by
 rw[mX,Rat.intCast_mul];have:((2:Int):Rat)=2:=rfl;rw[this]
 grind
theorem Hts.aih(h:Hts)(k:Nat):mkRat ((h.v.getD (k%6) 0).tmod 20) h.d=hQ (h.z k):=by
 unfold Hts.d Hts.z;cases h.half
 .simp only[Bool.false_eq_true,if_false]
  rw[gV,YM]
 .simp only[if_true,Int.one_mul]
  rfl
end Go.Eng
namespace Go.Proofs
open Go.Eng
open Tryz
theorem Iv(n:Int)(h:AS n)(M:Mem):bz prog 38 [.int .i8 n] M (.int .i64 (iC n)) M:=by
 have Z:bq prog 38=some f38:=by kernel_rfl
 refine az (ar _) ?_ M;unfold AS at h;have w:IntKind.i64.wrap n=n:=kX (by omega) (by omega);simp[ad,Z,f38,w,iC]
theorem Qe(n:Int)(h:AS n)(M:Mem):bz prog 41 [.int .i8 n] M (.int .i64 (ps9 n)) M:=by
 have U:bq prog 41=some f41:=by kernel_rfl
 refine az (ar _) ?_ M;unfold AS at h;have w:IntKind.i64.wrap n=n:=kX (by omega) (by omega);have q:=AF n 9 (by decide);simp only[Int.cast_ofNat_Int] at q;unfold ps9;obtain⟨a,Z⟩:=xE (n.tmod 9);rw[<-Z] at q |-;have w1:IntKind.i64.wrap (a+9)=a+9:=kX (by omega) (by omega);have X:=AF (a+9) 9 (by decide);simp only[Int.cast_ofNat_Int] at X;obtain⟨b,V⟩:=xE ((a+9).tmod 9);rw[<-V] at X |-;have w2:IntKind.i64.wrap (1+b)=1+b:=kX (by omega) (by omega);simp[ad,U,f41,w,<-Z,w1,<-V,w2]
theorem R8(v:Z3)(H:Pg 10000 v)(M:Mem):bz prog 30 [.int .i64 v.1,.int .i64 v.2.1,.int .i64 v.2.2] M (zA v) M:=by
 have Z:bq prog 30=some f30:=by kernel_rfl
 refine az iQ ?_ M;obtain⟨a,b,c⟩:=v;obtain⟨X,V,h3⟩:=H;simp only at X V h3;have g1:a.natAbs<100000000:=by omega
 have U:b.natAbs<100000000:=by omega
 have g3:c.natAbs<100000000:=by omega
 simp[ad,Z,f30,ai,fl,zA,zS,gV,g1,U,g3,aD,ag]
theorem Iu(a b c d:Int)(H:a.natAbs<=30)(I:b.natAbs<=30)(hc:c.natAbs<=30)(hd:d.natAbs<=30)(M:Mem):
  bz prog 153 [.str (zS a),.str (zS b),.str (zS c),.str (zS d)] M (.str (zS (a*b-c*d))) M:=by
 have U:bq prog 153=some f153:=by kernel_rfl
 have S:=LK H I;have R:=LK hc hd;have Z:(a:Rat)*(b:Rat)=((a*b:Int):Rat):=(Rat.intCast_mul a b).symm;have X:(c:Rat)*(d:Rat)=((c*d:Int):Rat):=(Rat.intCast_mul c d).symm;obtain⟨x,Q⟩:=xE (a*b);obtain⟨y,O⟩:=xE (c*d);rw[<-Q] at S Z |-;rw[<-O] at R X |-;have V:(x:Rat)-(y:Rat)=((x-y:Int):Rat):=(Rat.intCast_sub x y).symm;obtain⟨z,N⟩:=xE (x-y);rw[<-N] at V |-;have K:=ua (n:=a) (by omega);have G:=ua (n:=b) (by omega);have F:=ua (n:=c) (by omega);have D:=ua (n:=d) (by omega);have C:=ua (n:=x) (by omega);have B:=ua (n:=y) (by omega);have u:(aJ (-(y:Rat))).length<=9:=by rw[<-Rat.intCast_neg];exact ua (n:= -y) (by omega)
 refine az Nu ?_ M;simp[ad,U,f153,ai,Cd,fl,zS,aE,K,G,F,D,C,B,u,Z,X,V]
noncomputable def Cl(f:FuncId)(args:List AV):Option AV:=
 match f,args with
 |153,[.str s,.str t,.str u,.str v]=>match dZ s,dZ t,dZ u,dZ v with
  |some a,some b,some c,some d=>if (a.den=1/\b.den=1/\c.den=1/\d.den=1)/\a.num.natAbs<=30/\b.num.natAbs<=30/\c.num.natAbs<=30/\d.num.natAbs<=30 then some (.str (zS (a.num*b.num-c.num*d.num))) else none
  |_,_,_,_=>none
 |_,_=>none
theorem Ny:afs prog (ai Cl):=bT fun f X v h mem=>by
 unfold Cl at h;split at h
 .split at h
  .rename_i a b c d V U S R
   split at h
   .rename_i Z
    obtain⟨⟨d1,d2,d3,d4⟩,Q,O,N,M⟩:=Z;cases h;rw[aF V,aF U,aF S,aF R];have:=Iu a.num b.num c.num d.num Q O N M mem;unfold zS at this |-;rw[<-oC d1,<-oC d2,<-oC d3,<-oC d4] at this;exact this
   .cases h
  .cases h
 .cases h
theorem Io(a b:Z3)(H:Pg 30 a)(I:Pg 30 b)(M:Mem):bz prog 95 [zA a,zA b] M (zA (rM a b)) M:=by
 have hG:bq prog 95=some f95:=by kernel_rfl
 obtain⟨V,U,S⟩:=a;obtain⟨R,Q,O⟩:=b;obtain⟨F,D,h3⟩:=H;obtain⟨C,B,y⟩:=I;simp only at F D h3 C B y;refine az Ny ?_ M;obtain⟨X,N⟩:∃X,bn f95=[X]:=⟨_,rfl⟩
 obtain⟨K,G⟩:=gF N (l:=[0,1,0,4,0,16,0,64,255,0,512,0,2048,0,8192,0,32768,131071,0,262144,0,1048576,0,4194304,0,16777216,67108863,134217727,268435455]) (j:=28) (by kernel_rfl) (by decide);simp[bn,cU,f95] at N;subst N;have Z:∀n:Int,dZ (zS n)=some (n:Rat):=fun n=>aE _
 unfold zA rM;simp only;obtain⟨A1,u⟩:=xE (zS V);obtain⟨A2,o⟩:=xE (zS U);obtain⟨A3,m⟩:=xE (zS S);obtain⟨B1,Y⟩:=xE (zS R);obtain⟨B2,W⟩:=xE (zS Q);obtain⟨B3,J⟩:=xE (zS O);have p1:dZ A1=some (V:Rat):=by rw[u];exact Z _
 have p2:dZ A2=some (U:Rat):=by rw[o];exact Z _
 have p3:dZ A3=some (S:Rat):=by rw[m];exact Z _
 have p4:dZ B1=some (R:Rat):=by rw[Y];exact Z _
 have p5:dZ B2=some (Q:Rat):=by rw[W];exact Z _
 have p6:dZ B3=some (O:Rat):=by rw[J];exact Z _
 rw[<-u,<-o,<-m,<-Y,<-W,<-J];obtain⟨C1,f1⟩:=xE (zS (U*O-S*Q));obtain⟨C2,f2⟩:=xE (zS (S*R-V*O));obtain⟨C3,f3⟩:=xE (zS (V*Q-U*R));rw[<-f1,<-f2,<-f3];simp[ad,hG,f95,-aN,aY K,cX,cO,cV,G,ai,Cl,p1,p2,p3,p4,p5,p6,F,D,h3,C,B,y,<-f1,<-f2,<-f3,aD,ag,Nat.testBit]
def zQ(v:Z3):V3:=((v.1:Rat),(v.2.1:Rat),(v.2.2:Rat))
def hV(v:Z3):V3:=(hQ v.1,hQ v.2.1,hQ v.2.2)
def fL(x:afv):Z3:=if iC (x.n 0)=0/\iC (x.n 1)=0/\iC (x.n 2)=0 then (0,0,1) else (iC (x.n 0),iC (x.n 1),iC (x.n 2))
def DO(x:afv):Z3:=rM (fL x) (iC (x.n 3),iC (x.n 4),iC (x.n 5))
theorem A9(x:afv):Pg 9 (fL x):=by
 unfold fL;split
 .exact⟨by decide,by decide,by decide⟩
 .exact⟨dO _,dO _,dO _⟩
theorem WL(x:afv):W9 (fL x)=false:=by
 unfold fL;split
 .rfl
 .rename_i h
  simp only[W9,Bool.and_eq_false_imp,Ar,Cs,decide_eq_false_iff_not];exact fun Z X=>h ⟨Z.1,Z.2,X⟩
theorem Yy{a b:Int}(H:a.natAbs<=9)(I:b.natAbs<=9):(a*b).natAbs<=81:=by rw[QQf];exact Nat.mul_le_mul H I
theorem Cw(x:afv):Pg 162 (DO x):=by obtain⟨Z,X,h3⟩:=A9 x;have V:=dO (x.n 3);have U:=dO (x.n 4);have S:=dO (x.n 5);have R:=Yy X S;have Q:=Yy h3 U;have O:=Yy h3 V;have N:=Yy Z S;have M:=Yy Z U;have K:=Yy X V;unfold DO rM Pg;simp only;omega
open Classical in
noncomputable def eC(f:FuncId)(args:List AV):Option AV:=
 match f,args with
 |38,[.int .i8 n]=>if -128<=n/\n<=127 then some (.int .i64 (iC n)) else none
 |41,[.int .i8 n]=>if -128<=n/\n<=127 then some (.int .i64 (ps9 n)) else none
 |30,[.int .i64 a,.int .i64 b,.int .i64 c]=>if a.natAbs<=10000/\b.natAbs<=10000/\c.natAbs<=10000 then some (zA (a,b,c)) else none
 |95,[.agg [.str s,.str t,.str u],.agg [.str s',.str t',.str u']]=>match dZ s,dZ t,dZ u,dZ s',dZ t',dZ u' with
  |some a,some b,some c,some d,some e,some f=>if (a.den=1/\b.den=1/\c.den=1/\d.den=1/\e.den=1/\f.den=1)/\Pg 30 (a.num,b.num,c.num)/\Pg 30 (d.num,e.num,f.num) then some (zA (rM (a.num,b.num,c.num) (d.num,e.num,f.num))) else none
  |_,_,_,_,_,_=>none
 |37,[.int .i64 n,.int .i64 d]=>if 0<d/\n.natAbs<10 ^ 8/\d.toNat<10 ^ 8 then some (.str (aJ (mkRat n d.toNat))) else none
 |_,_=>none
theorem uW:afs prog (ai eC):=bT fun f V v h mem=>by
 unfold eC at h;split at h
 .split at h
  next Z=>cases h;exact Iv _ Z mem
  .cases h
 .split at h
  next Z=>cases h;exact Qe _ Z mem
  .cases h
 .split at h
  next Z=>cases h;exact R8 (_,_,_) Z mem
  .cases h
 .split at h
  .rename_i a b c d e f U S Z R Q O
   split at h
   .rename_i X
    obtain⟨⟨d1,d2,d3,d4,d5,d6⟩,N,M⟩:=X;cases h;rw[aF U,aF S,aF Z,aF R,aF Q,aF O];have:=Io (a.num,b.num,c.num) (d.num,e.num,f.num) N M mem;unfold zA at this;simp only at this;have k:∀q:Rat,q.den=1->zS q.num=aJ q:=fun q K=>by unfold zS;rw[<-oC K]
    rw[k a d1,k b d2,k c d3,k d d4,k e d5,k f d6] at this;exact this
   .cases h
  .cases h
 .split at h
  .rename_i Z
   cases h;have:=If _ _ (by omega) Z.2.1 Z.2.2 mem;rw[QQb (by omega)] at this;exact this
  .cases h
 .cases h
theorem Gd(x:afv)(hx:x.Ok)(M:Mem):bz prog 36 [.agg x.cells] M (zA (fL x)) M:=by
 have J:bq prog 36=some f36:=by kernel_rfl
 refine dE uW (lv:=fun _=>[]) (K:=1) (by simp[AV.afA,AV.closed,x.closed]) rfl ?_ M;obtain⟨Q,B'⟩:∃Q,bn f36=[Q]:=⟨_,rfl⟩
 obtain⟨Z,X⟩:=gF B' (l:=[0,1,3,7,0,16,48,127,0,256,768,2047,4095,8191,16383]) (j:=14) (by kernel_rfl) (by decide);simp[bn,cU,f36] at B';subst B';have O:=afv.afE hx;have r0:=eD x.closed;have o0:=iw x.closed;have I:=afv.afG hx (k:=0) (by decide);have H:=afv.afG hx (k:=1) (by decide);have i2:=afv.afG hx (k:=2) (by decide);simp only[Nat.reduceAdd] at I H i2;have V:=de I;have U:=de H;have S:=de i2;obtain⟨N,G⟩:=afv.af9 hx (k:=0) (by decide);obtain⟨F,D⟩:=afv.af9 hx (k:=1) (by decide);obtain⟨B,y⟩:=afv.af9 hx (k:=2) (by decide);have s0:=dO (x.n 0);have s1:=dO (x.n 1);have s2:=dO (x.n 2);unfold fL;obtain⟨C,hC⟩:=xE x.cells;rw[<-hC] at O r0 o0 I H i2 V U S |-;obtain⟨p,hp⟩:=xE (x.n 0);obtain⟨q,hq⟩:=xE (x.n 1);obtain⟨r,hr⟩:=xE (x.n 2);rw[<-hp] at I V N G s0 |-;rw[<-hq] at H U F D s1 |-;rw[<-hr] at i2 S B y s2 |-;obtain⟨v,o⟩:=xE (iC q);obtain⟨w,m⟩:=xE (iC r);obtain⟨u,Y⟩:=xE (iC p);rw[<-Y] at s0 |-;rw[<-o] at s1 |-;rw[<-m] at s2 |-;have g0:u.natAbs<=10000:=by omega
 have g1:v.natAbs<=10000:=by omega
 have g2:w.natAbs<=10000:=by omega
 have tk:C.take 34=C:=An (by omega);clear hC hp hq hr;by_cases R:u=0
 .by_cases W:v=0
  .by_cases k2:w=0
   .rw[if_pos ⟨R,W,k2⟩]
    subst R W k2;simp[ad,J,f36,-aN,aY Z,cX,cO,cV,X,ai,eC,O,V,U,S,N,G,F,D,B,y,<-Y,<-o,<-m,Nat.testBit,zA]
   .rw[if_neg fun h=>k2 h.2.2]
    subst R W;simp[ad,J,f36,-aN,aY Z,cX,cO,cV,X,ai,eC,O,V,U,S,N,G,F,D,B,y,<-Y,<-o,<-m,Nat.testBit,zA,k2,g2]
  .rw[if_neg fun h=>W h.2.1]
   subst R;simp[ad,J,f36,-aN,aY Z,cX,cO,cV,X,ai,eC,O,V,U,S,N,G,F,D,B,y,<-Y,<-o,<-m,Nat.testBit,zA,W,g1,g2]
 .rw[if_neg fun h=>R h.1]
  simp[ad,J,f36,-aN,aY Z,cX,cO,cV,X,ai,eC,O,V,U,S,N,G,F,D,B,y,<-Y,<-o,<-m,Nat.testBit,zA,R,g0,g1,g2]
open Classical in
noncomputable def iF(x:afv)(f:FuncId)(args:List AV):Option AV:=
 match f,args with
 |36,[.agg cs]=>if cs=x.cells then some (zA (fL x)) else none
 |f,args=>eC f args
theorem Ck{x:afv}(hx:x.Ok):afs prog (ai (iF x)):=bT fun f Z v h mem=>by
 unfold iF at h;split at h
 .split at h
  next X=>cases h;rw[X];exact Gd x hx mem
  .cases h
 .have:=uW.fn _ _ mem ⟨v,none,[]⟩ (by unfold ai;simp only;rw[h])
  simpa [afw.mem] using this
theorem Xp(n:Int):dZ (zS n)=some (n:Rat):=aE _
theorem F8(x:afv)(hx:x.Ok)(M:Mem):bz prog 40 [.agg x.cells] M (zA (DO x)) M:=by
 have hG:bq prog 40=some f40:=by kernel_rfl
 refine dE (Ck hx) (lv:=fun _=>[]) (K:=1) (by simp[AV.afA,AV.closed,x.closed]) rfl ?_ M;obtain⟨X,Q⟩:∃X,bn f40=[X]:=⟨_,rfl⟩
 obtain⟨O,N⟩:=gF Q (l:=[0,1,0,4,12,31,0,64,192,511,0,1024,3072,8191,16383,32767,65535]) (j:=16) (by kernel_rfl) (by decide);simp[bn,cU,f40] at Q;subst Q;have Y:=afv.afE hx;have r0:=eD x.closed;have W:=iw x.closed;have V:=afv.afG hx (k:=3) (by decide);have U:=afv.afG hx (k:=4) (by decide);have S:=afv.afG hx (k:=5) (by decide);simp only[Nat.reduceAdd] at V U S;have G:=de V;have F:=de U;have D:=de S;obtain⟨J,I⟩:=afv.af9 hx (k:=3) (by decide);obtain⟨H,c1⟩:=afv.af9 hx (k:=4) (by decide);obtain⟨b2,c2⟩:=afv.af9 hx (k:=5) (by decide);have s0:=dO (x.n 3);have s1:=dO (x.n 4);have s2:=dO (x.n 5);have R:=A9 x;have Z:DO x=rM (fL x) (iC (x.n 3),iC (x.n 4),iC (x.n 5)):=rfl;obtain⟨C,hC⟩:=xE x.cells;have B :x.cells=C:=hC.symm;rw[<-hC] at Y r0 W V U S G F D |-;obtain⟨p,hp⟩:=xE (x.n 3);obtain⟨q,hq⟩:=xE (x.n 4);obtain⟨r,hr⟩:=xE (x.n 5);rw[<-hp] at V G J I s0 Z;rw[<-hq] at U F H c1 s1 Z;rw[<-hr] at S D b2 c2 s2 Z;obtain⟨v,hv⟩:=xE (iC q);obtain⟨w,hw⟩:=xE (iC r);obtain⟨u,hu⟩:=xE (iC p);rw[<-hu] at s0 Z;rw[<-hv] at s1 Z;rw[<-hw] at s2 Z;have g0:u.natAbs<=10000:=by omega
 have g1:v.natAbs<=10000:=by omega
 have g2:w.natAbs<=10000:=by omega
 have z2:Pg 30 (u,v,w):=⟨by show u.natAbs<=30;omega,by show v.natAbs<=30;omega,by show w.natAbs<=30;omega⟩;have tk:C.take 34=C:=An (by omega);obtain⟨⟨y,o,m⟩,hn⟩:∃n,n=fL x:=⟨_,rfl⟩
 rw[<-hn] at R Z;have z1:Pg 30 (y,o,m):=⟨by have:=R.1;show y.natAbs<=30;simp only at this;omega,by have:=R.2.1;show o.natAbs<=30;simp only at this;omega,by have:=R.2.2;show m.natAbs<=30;simp only at this;omega⟩;rw[Z];clear Z;obtain⟨⟨cx,cy,cz⟩,hc⟩:∃n,n=rM (y,o,m) (u,v,w):=⟨_,rfl⟩
 rw[<-hc];simp[ad,hG,f40,-aN,aY O,cX,cO,cV,N,ai,iF,eC,B,Y,W,G,F,D,tk,J,I,H,c1,b2,c2,<-hn,<-hu,<-hv,<-hw,Nat.testBit,zA,g0,g1,g2,Xp,z1,z2,<-hc]
theorem YI(n:Int):(n:Rat)*hQ 1=hQ n:=by
 rw[mX,mX];have:((1:Int):Rat)=1:=rfl;rw[this]
 grind
theorem U0:dZ [49,47,50]=some (hQ 1):=aE (hQ 1)
theorem M1(v:Z3)(H:Pg 162 v)(M:Mem):bz prog 39 [zA v,.str [49,47,50]] M (vA (hV v)) M:=by
 have S:bq prog 39=some f39:=by kernel_rfl
 refine az iQ ?_ M;obtain⟨Z,X⟩:∃Z,bn f39=[Z]:=⟨_,rfl⟩
 obtain⟨V,U⟩:=gF X (l:=[0,1,0,7,0,16,0,127,0,256,0,2047,4095,8191]) (j:=13) (by kernel_rfl) (by decide);simp[bn,cU,f39] at X;subst X;obtain⟨a,b,c⟩:=v;obtain⟨R,Q,h3⟩:=H;simp only at R Q h3;have O:=ua (n:=a) (by omega);have N:=ua (n:=b) (by omega);have K:=ua (n:=c) (by omega);have G:(aJ (hQ 1)).length<=9:=CR (by decide);simp[ad,S,f39,-aN,aY V,cX,cO,cV,U,ai,fl,zA,vA,hV,Xp,U0,O,N,K,G,YI,aD,ag,Nat.testBit]
end Go.Proofs
