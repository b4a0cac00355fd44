/- See G38. -/
import Derived.Test.YthpgbelancmpjaaGreatDoorG20
set_option linter.all false
set_option maxRecDepth 100000
set_option maxHeartbeats 40000000
namespace Go.Proofs
open Go.Eng
open Tryz
noncomputable def iO(f:FuncId)(args:List AV):Option AV:=
 match f,args with
 |102,[.str s]=>if s.length<=1000000000 then some (match s.idxOf? 47 with | some i=>.tuple [.str (s.take i),.str (s.drop (i+1))] | none=>.tuple [.str s,.str [49]]) else none
 |f,args=>cQ f args
theorem NT:qS prog (ah iO):=bM fun f Z v h mem=>by
 unfold iO at h;split at h
 .split at h
  next X=>cases h;exact yG _ X mem
  .cases h
 .have:=uS.fn _ _ mem ⟨v,none,[]⟩ (by unfold ah;simp only;rw[h])
  simpa [afl.mem] using this
theorem qL(s:List UInt8)(H:s.length<=1000000000)(mem:Mem):
  kO prog 51 [.str s] mem (.bool (zj s==0)) mem:=by
 have R:aZ prog 51=some f51:=by kernel_rfl
 refine aA NT ?_ mem;have X:=jG s 47;cases hx:s.idxOf? 47 with
 |none=>
  rw[hx] at X;simp only at X;rw[Lr hx];have m:okI [49]=true:=rfl;cases ho:okI s with
  |true=>simp[ae,R,f51,ah,iO,cQ,dh,eH,ej,bJ,bC,cc,aY,ak,H,X,hx,ho,m]
  |false=>simp[ae,R,f51,ah,iO,cQ,dh,H,hx,ho]
 |some i=>
  rw[hx] at X;simp only at X;have V:¬(i:Int)<0:=by omega
  obtain⟨a,U⟩:=xE (s.take i);obtain⟨b,S⟩:=xE (s.drop (i+1));have M:a.length<=1000000000:=by rw[U,SP];omega
  have G:b.length<=1000000000:=by rw[S,QXX];omega
  cases ho:okI a with
  |false=>
   rw[Lp hx (by rw[<-U];exact ho)];simp[ae,R,f51,ah,iO,cQ,dh,H,hx,<-U,<-S,M,ho]
  |true=>
   cases ho2:okI b with
   |false=>
    rw[Lq hx (by rw[<-S];exact ho2)];simp[ae,R,f51,ah,iO,cQ,dh,H,hx,<-U,<-S,M,G,ho,ho2]
   |true=>
    have L:∃n,iE a=some n/\(ai n.natAbs).length<=200:=by
     unfold okI at ho;cases hx:iE a with
     |none=>rw[hx] at ho;cases ho
     |some n=>rw[hx] at ho;exact⟨n,rfl,by simpa using ho⟩
    have O:∃n,iE b=some n/\(ai n.natAbs).length<=200:=by
     unfold okI at ho2;cases hx:iE b with
     |none=>rw[hx] at ho2;cases ho2
     |some n=>rw[hx] at ho2;exact⟨n,rfl,by simpa using ho2⟩
    obtain⟨n,L,Y⟩:=L;obtain⟨d,O,d2⟩:=O;rw[EE hx (by rw[<-U];exact L) (by rw[<-S];exact O) Y d2];have C:iE [49]=some 1:=rfl;have B:(ai 1).length<=10000:=by decide
    have F:0<jz (d-1)↔1<d:=by
     unfold jz;split
     .constructor<;>intro h<;>omega
     .split<;>constructor<;>intro h<;>omega
    have N:(a==[48])=decide (n=0):=by rw[bE L,fU]
    have j:(ai n.natAbs).length<=10000:=by omega
    have d3:(ai d.natAbs).length<=10000:=by omega
    by_cases u:1<d
    .have Z :0<jz (d-1):=F.2 u
     by_cases o:n=0
     .have K:¬n.natAbs.gcd d.natAbs=1:=by subst o;simp;omega
      rw[if_neg (fun e=>K e.2)];simp[ae,R,f51,ah,iO,cQ,dh,eH,ej,bJ,bC,cc,aY,ak,H,hx,X,V,<-U,<-S,M,G,ho,ho2,O,C,B,d3,Z,N,o]
     .by_cases K:n.natAbs.gcd d.natAbs=1
      .rw[if_pos ⟨u,K⟩]
       simp[ae,R,f51,ah,iO,cQ,dh,eH,ej,bJ,bC,cc,aY,ak,H,hx,X,V,<-U,<-S,M,G,ho,ho2,L,O,C,B,j,d3,Z,N,o,fy,K]
      .rw[if_neg (fun e=>K e.2)]
       simp[ae,R,f51,ah,iO,cQ,dh,eH,ej,bJ,bC,cc,aY,ak,H,hx,X,V,<-U,<-S,M,G,ho,ho2,L,O,C,B,j,d3,Z,N,o,fy,K]
    .have Z :¬0<jz (d-1):=fun e=>u (F.1 e)
     rw[if_neg (fun e=>u e.1)];simp[ae,R,f51,ah,iO,cQ,dh,eH,ej,bJ,bC,cc,aY,ak,H,hx,X,V,<-U,<-S,M,G,ho,ho2,O,C,B,d3,Z]
variable{M:Mem}{b es:Nat}{cs l:List AV}{o:Bool}
theorem Zp{ks:List Nat}(hc:AV.afr cs=true)(h:M[b]? =some (.cells o es l))(H:l.take cs.length=cs):af5 ks M b (.cells false es cs):=by
 refine⟨bl hc,o,l,h,fun j v Z=>?_⟩;have U:=gL Z;have e:l[j]? =cs[j]? :=by rw[<-QQa U,H]
 have X:=aT (ρ:=fA ks M.length) hc;rw[jm] at X;have V:(cs.map (AV.ren (fA ks M.length)))[j]? =cs[j]? :=by rw[X]
 rw[QQJ,Z] at V;rw[e,Z];exact V.symm
theorem OG{v:AV}{f:Nat->Option Nat}(h:v.closed=true):v.ren f=v:=by have:=aT (vs:=[v]) (ρ:=f) (by simp[AV.afr,h]);simpa [AV.afI] using this
variable{f:FuncId}{n:Nat}{r:Option Nat}{rest:List AV}
theorem agP{P:Program}{v:AV}(hc:AV.afr cs=true)(hr:AV.afr rest=true)(I:v.closed=true)(H:M[b]? =some (.cells o es l))(J:l.take cs.length=cs)(h:kO P f (.slice 0 0 n r::rest) [.cells false es cs] v [.cells false es cs]):kO P f (.slice b 0 n r::rest) M v M:=by
 have X:=gL H;have V:AV.afu [b].length (.slice 0 0 n r::rest)=true:=by
  show(decide (0<1)&&AV.afu 1 rest)=true
  rw[bl hr];rfl
 have:=kO.frame (M:=M) (new:=[]) [b] (m:=[.cells false es cs]) rfl (by simpa using X) V (fun i s Z=>by
  cases i with
  |zero=>simp at Z;subst Z;exact Zp hc H J
  |succ i=>simp at Z) rfl (by simpa using h)
 simpa [AV.afI,AV.ren,fA,aT hr,OG I] using this
def sC(L:List (List UInt8)):List AV:=L.map .str
theorem Mr(L:List (List UInt8)):(sC L).length=L.length:=by simp[sC]
theorem Mq:∀L:List (List UInt8),AV.afr (sC L)=true
 | []=>rfl
 |s::L=>by simp[sC,AV.afr,AV.closed];exact Mq L
def xg:List AV->Option (List (List UInt8))
 | []=>some []
 |.str a::l=>match xg l with
  |some r=>some (a::r)
  |none=>none
 |_=>none
theorem Dh:∀{cs:List AV} {L:List (List UInt8)},xg cs=some L->cs=sC L
 | [],L,h=>by cases h;rfl
 |v::l,L,h=>by
  unfold xg at h;split at h
  next Z=>cases Z
  .rename_i Z
   cases Z;split at h
   .rename_i r X
    cases h;rw[Dh X];rfl
   .cases h
  .cases h
def tV(M:Mem):AV->Option (List (List UInt8))
 |.slice b 0 n none=>match M[b]? with
  |some (.cells _ 1 cs)=>if n<=cs.length then xg (cs.take n) else none
  |_=>none
 |.qF=>some []
 |_=>none
variable{L:List (List UInt8)}{x:AV}
theorem OR(h:tV M x=some L):(∃b o l,x=.slice b 0 L.length none/\M[b]? =some (.cells o 1 l)/\l.take L.length=sC L)\/(x=.qF/\L=[]):=by
 unfold tV at h;split at h
 .rename_i b n
  split at h
  .rename_i o cs X
   split at h
   .rename_i U
    have Z:=Dh h;have V:n=L.length:=by have:=congrArg List.length Z;rw[Mr,SP] at this;omega
    subst V;exact .inl ⟨b,o,cs,rfl,X,Z⟩
   .cases h
  .cases h
 .cases h;exact .inr ⟨rfl,rfl⟩
 .cases h
theorem WG{P:Program}{v:AV}(hr:AV.afr rest=true)(H:v.closed=true)(I:tV M x=some L)(h:kO P f (.slice 0 0 L.length none::rest) [.cells false 1 (sC L)] v [.cells false 1 (sC L)])(h0:L=[]->kO P f (.qF::rest) M v M):kO P f (x::rest) M v M:=by
 rcases OR I with⟨b,o,l,rfl,Z,X⟩ | ⟨rfl,V⟩
 .exact agP (Mq L) hr H Z (by rw[Mr];exact X) h
 .exact h0 V
theorem Y5{i:Nat}{s:List UInt8}(h:L[i]? =some s):(sC L)[i]? =some (.str s):=by simp[sC,h]
def vo:List (List UInt8)->Int
 | []=>0
 |s::l=>if zj s=0 then vo l else zj s
variable{K:Nat}
theorem xO(L:List (List UInt8))(I:∀s∈L,s.length<=1000000000)(J:L.length<=1000000000)(Y:L.length<K){b:Code}(H:ag f97=[b]):
  ∃F:Env->Bool->Env,∀Z d,(ad Z 6=.slice 0 0 L.length none/\ad Z 7=.int .i64 L.length/\ad Z 8=.int .i64 0/\ad Z 2=.int .i64 0)->
   aL (aX prog) (fun _=>[8]) (ah bn) K 18 1 true (.loop b) ⟨Z,[.cells false 1 (sC L)],d⟩=some (if vo L=0 then .exit 0 else .ret,⟨F Z d,[.cells false 1 (sC L)],d⟩)/\(vo L≠0->ad (F Z d) 2=.int .i64 (vo L)):=by
 refine bj rfl (fun Z=>ad Z 6=.slice 0 0 L.length none/\ad Z 7=.int .i64 L.length/\ad Z 8=.int .i64 0/\ad Z 2=.int .i64 0) (fun _ G =>vo L≠0->ad G 2=.int .i64 (vo L)) ?_;rintro Z d ⟨h6,h7,h8,S⟩;simp[ag,aE,f97] at H;have R:an [8] (aa b) Z ((8,.int .i64 ((0:Nat):Int))::Z)=an [8] (aa b) Z Z:=by simp[an,h8]
 rw[<-R];refine bI (α:=Nat) (fun n=>⟨an [8] (aa b) Z ((8,.int .i64 (n:Int))::Z),[.cells false 1 (sC L)],d⟩) (fun n=>L.length-n) (fun n=>n<=L.length/\vo L=vo (L.drop n)) (if vo L=0 then .exit 0 else .ret) _ d _ (by split<;>simp) ?_ K 0 ⟨by omega,by rw[List.drop_zero]⟩ (by omega);rintro n ⟨hn1,he⟩;clear R;subst H;by_cases X:n<L.length
 .obtain⟨s,V⟩:∃s,L[n]? =some s:=⟨L[n],G2 X⟩
  have O:=Y5 V;have N:=I s (J1 V);have C:L.drop n=s::L.drop (n+1):=by rw[O2] at V;obtain⟨B,S⟩:=V;rw[<-S];exact N0 B
  rw[C,vo] at he;have w1:IntKind.i64.wrap ((n:Int)+1)=((n+1:Nat):Int):=by rw[af];omega
  by_cases U:zj s=0
  .rw[if_pos U] at he
   left;obtain⟨v,u⟩:=xE (n+1);rw[<-u] at w1 he;refine⟨v,?_⟩;simp[h6,h7,X,ah,bn,N,U,O,w1];exact⟨⟨by omega,he⟩,by omega⟩
  .rw[if_neg U] at he
   right;rw[he];simp[h6,h7,X,ah,bn,N,U,O]
 .right
  have e:L.drop n=[]:=ZN (by omega);rw[e,vo] at he;rw[he];simp[h7,X]
theorem Fy(L:List (List UInt8))(H:∀s∈L,s.length<=1000000000)(I:L.length<=1000000000):
  kO prog 97 [.slice 0 0 L.length none] [.cells false 1 (sC L)] (.int .i64 (vo L)) [.cells false 1 (sC L)]:=by
 have O:aZ prog 97=some f97:=by kernel_rfl
 obtain⟨b,U⟩:∃b,ag f97=[b]:=⟨_,rfl⟩
 obtain⟨F,Z⟩:=xO (K:=L.length+1) L H I (by omega) U;simp[ag,aE,f97] at U;subst U;refine dv (lv:=(fun _=>[8])) (K:=(L.length+1)) cU ?_;by_cases V:vo L=0
 .rw[if_pos V] at Z
  have S:=fun X d h=>(Z X d h).1
  clear Z;simp[ae,O,f97,S,V]
 .rw[if_neg V] at Z
  have S:=fun X d h=>(Z X d h).1
  have R:=fun X d h=>(Z X d h).2 V
  clear Z;simp[ae,O,f97,S,R]
theorem zN(M:Mem):kO prog 97 [.qF] M (.int .i64 0) M:=by
 have Z:aZ prog 97=some f97:=by kernel_rfl
 refine dc (az _) (lv:=fun _=>[8]) (K:=1) rfl rfl ?_ M;simp[ae,Z,f97,aM,fj]
def rT(Q:List Rat):List (List UInt8):=Q.map aq
def Hv(Q:List Rat)(s:Rat):Rat:=Q.foldl (·+·) s
def Hp:List Rat->Rat->Prop
 | [],s=>fI s
 |q::l,s=>fI s/\fI q/\Hp l (s+q)
section
variable (Q:List Rat)(hQ:Hp Q 0)(hl:Q.length<=1000000000)
include Q hQ hl
theorem GA(I:Q.length<K){b:Code}(H:ag f117=[b]):
  ∃F:Env->Bool->Env,∀Z d,(ad Z 6=.slice 0 0 Q.length r/\ad Z 7=.int .i64 Q.length/\ad Z 8=.int .i64 0/\ad Z 3=.str [48])->
   aL (aX prog) (fun _=>[3,8]) (ah bn) K 17 1 true (.loop b) ⟨Z,[.cells false es (sC (rT Q))],d⟩=some (.exit 0,⟨F Z d,[.cells false es (sC (rT Q))],d⟩)/\ad (F Z d) 3=.str (aq (Hv Q 0)):=by
 refine bj rfl (fun Z=>ad Z 6=.slice 0 0 Q.length r/\ad Z 7=.int .i64 Q.length/\ad Z 8=.int .i64 0/\ad Z 3=.str [48]) (fun _ O =>ad O 3=.str (aq (Hv Q 0))) ?_;rintro Z d ⟨h6,h7,h8,h3⟩;simp[ag,aE,f117] at H;have z:aq 0=[48]:=rfl;have R:an [3,8] (aa b) Z ((3,.str (aq (Hv (Q.take 0) 0)))::(8,.int .i64 ((0:Nat):Int))::Z)=an [3,8] (aa b) Z Z:=by simp[an,h8,h3,Hv,z]
 rw[<-R];refine bI (α:=Nat) (fun n=>⟨an [3,8] (aa b) Z ((3,.str (aq (Hv (Q.take n) 0)))::(8,.int .i64 (n:Int))::Z),[.cells false es (sC (rT Q))],d⟩) (fun n=>Q.length-n) (fun n=>n<=Q.length/\Hp (Q.drop n) (Hv (Q.take n) 0)) (.exit 0) _ d _ (by simp) ?_ K 0 ⟨by omega,by simpa [Hv] using hQ⟩ (by omega);rintro n ⟨hn1,X⟩;clear R;subst H;by_cases S:n<Q.length
 .obtain⟨q,U⟩:∃s,Q[n]? =some s:=⟨Q[n],G2 S⟩
  have N:(sC (rT Q))[n]? =some (.str (aq q)):=by simp[sC,rT,U]
  have G:Q.drop n=q::Q.drop (n+1):=by rw[O2] at U;obtain⟨C,B⟩:=U;rw[<-B];exact N0 C
  have V:Hv (Q.take (n+1)) 0=Hv (Q.take n) 0+q:=by rw[List.take_add_one,U];simp[Hv]
  rw[G,Hp,<-V] at X;obtain⟨⟨f1,f2⟩,⟨f3,f4⟩,X⟩:=X;have w1:IntKind.i64.wrap ((n:Int)+1)=((n+1:Nat):Int):=by rw[af];omega
  left;obtain⟨v,u⟩:=xE (n+1);rw[<-u] at w1 X V;obtain⟨s,m⟩:=xE (Hv (Q.take n) 0);rw[<-m] at f1 f2 V |-;refine⟨v,?_⟩;simp[h6,h7,S,ah,bn,bH,aF,f1,f2,f3,f4,N,w1,V];exact⟨⟨by omega,by rw[<-V];exact X⟩,by omega⟩
 .right
  have e:Q.take n=Q:=B5 (by omega);rw[e];simp[h7,S]
theorem QC:
  kO prog 117 [.slice 0 0 Q.length r] [.cells false es (sC (rT Q))] (.str (aq (Hv Q 0))) [.cells false es (sC (rT Q))]:=by
 have X:aZ prog 117=some f117:=by kernel_rfl
 obtain⟨b,Z⟩:∃b,ag f117=[b]:=⟨_,rfl⟩
 obtain⟨F,V⟩:=GA (es:=es) (r:=r) (K:=Q.length+1) Q hQ hl (by omega) Z;simp[ag,aE,f117] at Z;subst Z;refine dv (lv:=(fun _=>[3,8])) (K:=(Q.length+1)) cU ?_;simp[ae,X,f117,V]
theorem QD:
  kO prog 117 [.slice 0 0 Q.length none] [.cells false 1 (sC (rT Q))] (.str (aq (Hv Q 0))) [.cells false 1 (sC (rT Q))]:=QC Q hQ hl
end
def RJ:List (List UInt8)->Option (List Rat)
 | []=>some []
 |k::l=>match eh k,RJ l with
  |some a,some r=>some (a::r)
  |_,_=>none
theorem E6:∀{L:List (List UInt8)} {Q:List Rat},RJ L=some Q->L=rT Q
 | [],Q,h=>by cases h;rfl
 |k::L,Q,h=>by
  unfold RJ at h;split at h
  .rename_i a r Z h3
   cases h;rw[E6 h3,aw Z];rfl
  .cases h
open Classical in
noncomputable def kH:y9:=fun c Z M=>match c,Z with
 |.fn 97,[x]=>match tV M x with
  |some L=>if (∀s∈L,s.length<=1000000000)/\L.length<=1000000000 then some ⟨.int .i64 (vo L),none,[]⟩ else none
  |none=>none
 |.fn 117,[x]=>match tV M x with
  |some L=>match RJ L with
   |some Q=>if Hp Q 0/\Q≠[]/\Q.length<=1000000000 then some ⟨.str (aq (Hv Q 0)),none,[]⟩ else none
   |none=>none
  |none=>none
 |c,Z=>ah bn c Z M
theorem kI:qS prog kH:=by
 refine cw fun c S M r h=>?_
 unfold kH at h;split at h
 .split at h
  .rename_i L V
   split at h
   .rename_i X
    cases h;refine au ?_;rw[List.append_nil];exact WG (rest:=[]) rfl rfl V (Fy L X.1 X.2) (fun Z=>by subst Z;exact zN M)
   .cases h
  .cases h
 .split at h
  .rename_i L V
   split at h
   .rename_i Q hQ
    split at h
    .rename_i X
     cases h;refine au ?_;rw[List.append_nil];have U:=E6 hQ;subst U;have:=QD Q X.1 X.2.2;have R:(rT Q).length=Q.length:=by simp[rT]
     rw[<-R] at this;exact WG (rest:=[]) rfl rfl V this (fun Z=>by
      cases Q with
      |nil=>exact absurd rfl X.2.1
      |cons q Q=>cases Z)
    .cases h
   .cases h
  .cases h
 .exact ee cU h
abbrev RD:Nat:=1000000000
theorem yJ(a b c:List UInt8)(H:a.length<=1000000000)(I:b.length<=1000000000)(hc:c.length<=1000000000)(M:Mem):
  kO prog 70 [.agg [.str a,.str b,.str c]] M (.int .i64 (vo [a,b,c])) M:=by
 have Z:aZ prog 70=some f70:=by kernel_rfl
 refine aA kI ?_ M;simp[ae,Z,f70,kH,tV,xg,H,I,hc]
theorem iv(a b:List UInt8)(H:a.length<=1000000000)(I:b.length<=1000000000)(M:Mem):
  kO prog 47 [.agg [.str a,.str b]] M (.int .i64 (vo [a,b])) M:=by
 have Z:aZ prog 47=some f47:=by kernel_rfl
 refine aA kI ?_ M;simp[ae,Z,f47,kH,tV,xg,H,I]
abbrev V3:=Rat×Rat×Rat
def vA(v:V3):AV:=.agg [.str (aq v.1),.str (aq v.2.1),.str (aq v.2.2)]
def vDg(n:Nat)(v:V3):Prop:=dg n n v.1/\dg n n v.2.1/\dg n n v.2.2
def iK(a b:V3):Rat:=a.1*b.1+a.2.1*b.2.1+a.2.2*b.2.2
variable{q:Rat}
theorem dC{d:Nat}(h:dg n d q)(H:0<n)(hd:0<d)(h1:n<=40000)(h2:d<=40000):fI q:=by have:=h.lens H hd;exact⟨by omega,by omega⟩
theorem PZ(a b:V3)(ha:vDg 3000 a)(hb:vDg 3000 b)(M:Mem):kO prog 113 [vA a,vA b] M (.str (aq (iK a b))) M:=by
 have hG:aZ prog 113=some f113:=by kernel_rfl
 obtain⟨U,S,R⟩:=a;obtain⟨O,N,G⟩:=b;obtain⟨F,C,B⟩:=ha;obtain⟨u,j,Y⟩:=hb;simp only at F C B u j Y;have J:=dp F u;have P2:=dp C j;have I:=dp B Y;have Z:dg 1 1 0:=⟨by decide,by decide⟩;have H:=nP Z J (m:=6001) (by omega) (by omega);have S2:=nP H P2 (m:=12003) (by omega) (by omega);have S3:=nP S2 I (m:=18004) (by omega) (by omega);have hs:Hp [U*O,S*N,R*G] 0:=
  ⟨dC Z (by omega) (by omega) (by omega) (by omega),dC J (by omega) (by omega) (by omega) (by omega),dC H (by omega) (by omega) (by omega) (by omega),dC P2 (by omega) (by omega) (by omega) (by omega),
   dC S2 (by omega) (by omega) (by omega) (by omega),dC I (by omega) (by omega) (by omega) (by omega),dC S3 (by omega) (by omega) (by omega) (by omega)⟩
 have X:Hv [U*O,S*N,R*G] 0=U*O+S*N+R*G:=by simp[Hv,Rat.zero_add]
 obtain⟨f1,f2⟩:=dC F (by omega) (by omega) (by omega) (by omega);obtain⟨f3,f4⟩:=dC C (by omega) (by omega) (by omega) (by omega);obtain⟨f5,f6⟩:=dC B (by omega) (by omega) (by omega) (by omega);obtain⟨g1,g2⟩:=dC u (by omega) (by omega) (by omega) (by omega);obtain⟨g3,g4⟩:=dC j (by omega) (by omega) (by omega) (by omega);obtain⟨g5,g6⟩:=dC Y (by omega) (by omega) (by omega) (by omega);clear J P2 I H S2 S3 F C B u j Y Z;unfold iK;simp only;obtain⟨p,hp⟩:=xE (U*O);obtain⟨q,hq⟩:=xE (S*N);obtain⟨r,hr⟩:=xE (R*G);rw[<-hp,<-hq,<-hr] at hs X |-;refine aA kI ?_ M;obtain⟨V,F'⟩:∃V,aJ f113=[V]:=⟨_,rfl⟩
 have X':=nS F' (l:=[0,1,0,4,15,0,32,0,128,511,0,1024,0,4096,16383,32767,65535,131071]) (by kernel_rfl);have hba:Rg [0,1,0,4,15,0,32,0,128,511,0,1024,0,4096,16383,32767,65535,131071] 18 15=true:=by decide
 simp[aJ,cB,f113] at F';subst F';simp[ae,hG,f113,-aR,pV X',pT,wJ,EB,dR,hba,vA,kH,tV,xg,RJ,aF,ah,bn,bH,f1,f2,f3,f4,f5,f6,g1,g2,g3,g4,g5,g6,<-hp,<-hq,<-hr,hs,X,Nat.testBit]
theorem CX:aq 0=[48]:=rfl
theorem Mg:aq q=[48]↔q=0:=by
 constructor
 .intro h
  have:=aF q;rw[h,<-CX,aF] at this;exact(QQX this).symm
 .rintro rfl;rfl
theorem dy{a b:Rat}(h:aq a=aq b):a=b:=by have:=aF a;rw[h,aF] at this;exact(QQX this).symm
theorem gB(h:dg 200 200 q):zj (aq q)=0:=by unfold zj;rw[aF];exact if_pos (h.lens (by decide) (by decide))
theorem jW(h:dg n n q)(h0:0<n)(h1:n<=40000):(aq q).length<=1000000000:=gC (dC h h0 h0 h1 h1)
theorem Wy{v:V3}(h:vDg 200 v):vo [aq v.1,aq v.2.1,aq v.2.2]=0:=by simp[vo,gB h.1,gB h.2.1,gB h.2.2]
theorem vDg.mono{m:Nat}{v:V3}(h:vDg n v)(H:n<=m):vDg m v:=⟨h.1.mono H H,h.2.1.mono H H,h.2.2.mono H H⟩
theorem vP(v:V3)(h:vDg 200 v)(M:Mem):kO prog 70 [vA v] M (.int .i64 0) M:=by have:=yJ (aq v.1) (aq v.2.1) (aq v.2.2) (jW h.1 (by decide) (by decide)) (jW h.2.1 (by decide) (by decide)) (jW h.2.2 (by decide) (by decide)) M;rw[Wy h] at this;exact this
theorem Nf(a b c:List UInt8)(M:Mem):kO prog 98 [.agg [.str a,.str b,.str c]] M (.bool (a==[48]&&b==[48]&&c==[48])) M:=by
 have Z:aZ prog 98=some f98:=by kernel_rfl
 refine aA (az _) ?_ M;cases h1:(a==[48])<;>cases h2:(b==[48])<;>cases h3:(c==[48])<;>simp[ae,Z,f98,h1,h2,h3]
noncomputable def rJ(f:FuncId)(args:List AV):Option AV:=
 match f,args with
 |70,[.agg [.str a,.str b,.str c]]=>if a.length<=1000000000/\b.length<=1000000000/\c.length<=1000000000 then some (.int .i64 (vo [a,b,c])) else none
 |47,[.agg [.str a,.str b]]=>if a.length<=1000000000/\b.length<=1000000000 then some (.int .i64 (vo [a,b])) else none
 |98,[.agg [.str a,.str b,.str c]]=>some (.bool (a==[48]&&b==[48]&&c==[48]))
 |113,[.agg [.str a,.str b,.str c],.agg [.str d,.str e,.str f]]=>match eh a,eh b,eh c,eh d,eh e,eh f with
  |some a,some b,some c,some d,some e,some f=>if (ai a.num.natAbs).length<=2999/\(ai a.den).length<=2999/\(ai b.num.natAbs).length<=2999/\(ai b.den).length<=2999/\(ai c.num.natAbs).length<=2999/\(ai c.den).length<=2999/\
    (ai d.num.natAbs).length<=2999/\(ai d.den).length<=2999/\(ai e.num.natAbs).length<=2999/\(ai e.den).length<=2999/\(ai f.num.natAbs).length<=2999/\(ai f.den).length<=2999 then some (.str (aq (a*d+b*e+c*f))) else none
  |_,_,_,_,_,_=>none
 |_,_=>none
theorem dz(h:(ai q.num.natAbs).length<=n/\(ai q.den).length<=n):dg n n q:=by have Z:=cq q.num.natAbs;have X:=cq q.den;have h3:10 ^ (ai q.num.natAbs).length<=10 ^ n:=P3 (by omega) h.1;have V:10 ^ (ai q.den).length<=10 ^ n:=P3 (by omega) h.2;exact⟨by omega,by omega⟩
theorem zf:qS prog (ah rJ):=bM fun f S v h mem=>by
 unfold rJ at h;split at h
 .split at h
  next Z=>cases h;exact yJ _ _ _ Z.1 Z.2.1 Z.2.2 mem
  .cases h
 .split at h
  next Z=>cases h;exact iv _ _ Z.1 Z.2 mem
  .cases h
 .cases h;exact Nf _ _ _ mem
 .split at h
  .rename_i a b c d e f R O Z N G F
   split at h
   .rename_i C
    obtain⟨B,u,m,j,Y,J,I,H,c9,X,V,U⟩:=C;cases h;rw[aw R,aw O,aw Z,aw N,aw G,aw F];exact PZ (a,b,c) (d,e,f) ⟨(dz ⟨B,u⟩).mono (by omega) (by omega),(dz ⟨m,j⟩).mono (by omega) (by omega),(dz ⟨Y,J⟩).mono (by omega) (by omega)⟩
     ⟨(dz ⟨I,H⟩).mono (by omega) (by omega),(dz ⟨c9,X⟩).mono (by omega) (by omega),(dz ⟨V,U⟩).mono (by omega) (by omega)⟩ mem
   .cases h
  .cases h
 .cases h
noncomputable def KQ:y9:=y9.or (ah rJ) kH
theorem KR:qS prog KQ:=qS.or zf kI
def Y9(a b:V3):V3:=(a.1+b.1,a.2.1+b.2.1,a.2.2+b.2.2)
def Zh(a:V3)(k:Rat):V3:=(a.1*k,a.2.1*k,a.2.2*k)
def vF(a:V3):Prop:=fI a.1/\fI a.2.1/\fI a.2.2
def GZ(a b:V3):Prop:=vF a/\vF b/\Hp [a.1*b.1,a.2.1*b.2.1,a.2.2*b.2.2] 0
def vC(v:V3):Prop:=vo [aq v.1,aq v.2.1,aq v.2.2]=0/\(aq v.1).length<=1000000000/\(aq v.2.1).length<=1000000000/\(aq v.2.2).length<=1000000000
theorem Tk:fI 0:=⟨by decide,by decide⟩
theorem pI(h:dg n n q)(h0:0<n)(h1:n<=40000):fI q:=dC h h0 h0 h1 h1
theorem YB{v:V3}(h:vDg n v)(h0:0<n)(h1:n<=40000):vF v:=⟨pI h.1 h0 h1,pI h.2.1 h0 h1,pI h.2.2 h0 h1⟩
theorem VI{a b:V3}(H:vDg n a)(I:vDg n b)(h0:0<n)(h1:n<=4000):GZ a b:=by
 obtain⟨X,V,U⟩:=H;obtain⟨S,R,O⟩:=I;have N:=dp X S;have P2:=dp V R;have G:=dp U O;have Z:dg 1 1 0:=⟨by decide,by decide⟩;have F:=nP Z N (m:=3*n+3) (by omega) (by omega);have C:=nP F P2 (m:=6*n+6) (by omega) (by omega);have B:=nP C G (m:=9*n+9) (by omega) (by omega);have f:∀{x y:Nat}{q:Rat},dg x y q->0<x->0<y->x<=40000->y<=40000->fI q:=fun h p q r s=>dC h p q r s
 exact⟨YB ⟨X,V,U⟩ h0 (by omega),YB ⟨S,R,O⟩ h0 (by omega),Tk,f N (by omega) (by omega) (by omega) (by omega),f F (by omega) (by omega) (by omega) (by omega),f P2 (by omega) (by omega) (by omega) (by omega),f C (by omega) (by omega) (by omega) (by omega),f G (by omega) (by omega) (by omega) (by omega),f B (by omega) (by omega) (by omega) (by omega)⟩
theorem PY(a b:V3)(h:GZ a b)(M:Mem):kO prog 113 [vA a,vA b] M (.str (aq (iK a b))) M:=by
 have hG:aZ prog 113=some f113:=by kernel_rfl
 obtain⟨V,U,S⟩:=a;obtain⟨R,O,N⟩:=b;obtain⟨⟨⟨f1,f2⟩,⟨f3,f4⟩,f5,f6⟩,⟨⟨B,u⟩,⟨g3,m⟩,j,Y⟩,G⟩:=h;simp only at f1 f2 f3 f4 f5 f6 B u g3 m j Y G;have Z:Hv [V*R,U*O,S*N] 0=V*R+U*O+S*N:=by simp[Hv,Rat.zero_add]
 unfold iK;simp only;obtain⟨p,J⟩:=xE (V*R);obtain⟨q,I⟩:=xE (U*O);obtain⟨r,H⟩:=xE (S*N);rw[<-J,<-I,<-H] at G Z |-;refine aA kI ?_ M;obtain⟨X,F⟩:∃X,aJ f113=[X]:=⟨_,rfl⟩
 have X':=nS F (l:=[0,1,0,4,15,0,32,0,128,511,0,1024,0,4096,16383,32767,65535,131071]) (by kernel_rfl);have C:Rg [0,1,0,4,15,0,32,0,128,511,0,1024,0,4096,16383,32767,65535,131071] 18 15=true:=by decide
 simp[aJ,cB,f113] at F;subst F;simp[ae,hG,f113,-aR,pV X',pT,wJ,EB,dR,C,vA,kH,tV,xg,RJ,aF,ah,bn,bH,f1,f2,f3,f4,f5,f6,B,u,g3,m,j,Y,<-J,<-I,<-H,G,Z,Nat.testBit]
def WA(p v:V3)(k:Rat):Prop:=(vF p/\vF v/\fI k)/\fI (k*v.1)/\fI (k*v.2.1)/\fI (k*v.2.2)
def WU(a b c:P2):Prop:=((fI a.1/\fI a.2)/\(fI b.1/\fI b.2)/\fI c.1/\fI c.2)/\(fI (b.1-a.1)/\fI (c.2-a.2)/\fI (b.2-a.2)/\fI (c.1-a.1))/\fI ((b.1-a.1)*(c.2-a.2))/\fI ((b.2-a.2)*(c.1-a.1))
def Ur(A B C q:P2):Prop:=WU B C q/\WU C A q/\WU A B q
structure ahT (P:List P2)(T:List Tr)(q:P2):Prop where
 tri:∀(i:Nat) t,T[i]? =some t->∃A B C,P[t.1]? =some A/\P[t.2.1]? =some B/\P[t.2.2]? =some C/\Ur A B C q
 hl:P.length<=1000/\T.length<=1000
section
variable {P:List P2}{T:List Tr}{v:V3}
end
end Go.Proofs
namespace Go.Proofs
open Go.Eng
open Tryz
def slX(A B C:P2)(f g h:Rat):P2:=(1 / bD A B C*((g-f)*(C.2-A.2)-(B.2-A.2)*(h-f)),1 / bD A B C*((B.1-A.1)*(h-f)-(g-f)*(C.1-A.1)))
def UH(A B C:P2)(f g h:Rat):V3:=(-(slX A B C f g h).1,-(slX A B C f g h).2,1)
theorem Xe{A B C q:P2}{f g h z:Rat}(hS:bD A B C≠0):iK (UH A B C f g h) (q.1,q.2,z)-iK (UH A B C f g h) (A.1,A.2,f)=z-mz (gZ A B C q) f g h:=by
 have X:=wH A B C q;unfold UH slX iK mz gZ;simp only;rw[X];obtain⟨S,Z⟩:=xE (bD A B C);have e:S=(B.1-A.1)*(C.2-A.2)-(B.2-A.2)*(C.1-A.1):=Z;rw[<-Z] at hS |-;have U:=QXg (a:=1) hS;obtain⟨w,V⟩:=xE (1 / S);rw[<-V] at U |-;have R:∀x:Rat,x / S=x*w:=fun x=>by rw[V,Rat.div_def,Rat.div_def,Rat.one_mul]
 rw[R];unfold bD
 grind
def Dp(A B C:P2)(t:Tr)(Q:List Rat):V3×Rat:=(UH A B C (Q.getD t.1 0) (Q.getD t.2.1 0) (Q.getD t.2.2 0),iK (UH A B C (Q.getD t.1 0) (Q.getD t.2.1 0) (Q.getD t.2.2 0)) (A.1,A.2,Q.getD t.1 0))
def EJ(p:V3):List (V3×Rat)->Nat
 | []=>0
 |w::l=>(if w.2<=iK w.1 p then 1 else 0)+EJ p l
theorem SX(p:V3):∀l,EJ p l<=l.length
 | []=>L9 0
 |w::l=>by have:=SX p l;rw[EJ,List.length_cons];split<;>omega
theorem O8{A B C:P2}{t:Tr}{p:V3}(hS:bD A B C≠0):∀L:List (List Rat),EJ p (L.map (Dp A B C t))=UC p.2.2 (L.map fun Q=>mz (gZ A B C (p.1,p.2.1)) (Q.getD t.1 0) (Q.getD t.2.1 0) (Q.getD t.2.2 0))
 | []=>rfl
 |Q::L=>by
  rw[List.map_cons,List.map_cons,EJ,UC,O8 hS L];have:=Xe (f:=Q.getD t.1 0) (g:=Q.getD t.2.1 0) (h:=Q.getD t.2.2 0) (q:=(p.1,p.2.1)) (z:=p.2.2) hS;have e:(Dp A B C t Q).2<=iK (Dp A B C t Q).1 p↔mz (gZ A B C (p.1,p.2.1)) (Q.getD t.1 0) (Q.getD t.2.1 0) (Q.getD t.2.2 0)<=p.2.2:=by unfold Dp;simp only at this |-;constructor<;>intro h<;>grind
  by_cases c:(Dp A B C t Q).2<=iK (Dp A B C t Q).1 p
  .rw[if_pos c,if_pos (e.1 c)]
  .rw[if_neg c,if_neg fun h=>c (e.2 h)]
theorem TI{x S V:Rat}(hS:0<S)(h:x*S<=V*S):x<=V:=by
 rcases (Rat.le_total:x<=V\/V<=x) with h1 | h1
 .exact h1
 .by_cases Z:x=V
  .rw[Z];exact Rat.le_refl
  .have:=Rat.mul_pos (show 0<x-V by grind) hS
   grind
theorem To{w:V3}{a b c H I c' :Rat}(h1:0<=w.1)(h2:0<=w.2.1)(h3:0<=w.2.2)(hs:0<w.1+w.2.1+w.2.2)(J:a<=H)(Y:b<=I)(hc:c<=c'):mz w a b c<=mz w H I c' :=by
 unfold mz;obtain⟨S,hS⟩:=xE (w.1+w.2.1+w.2.2);rw[<-hS] at hs |-;have Z:S≠0:=by grind
 have X:=Rat.mul_nonneg h1 (show 0<=H -a by grind);have V:=Rat.mul_nonneg h2 (show 0<=I -b by grind);have U:=Rat.mul_nonneg h3 (show 0<=c' -c by grind);refine TI hs ?_;rw[QXg Z,QXg Z]
 grind
theorem Xl{Y H :List Int}(h:∀(i:Nat) z y,Y[i]? =some z->H[i]? =some y->z<=y)(I:Y.length=H.length)(i:Nat):(qH Y).getD i 0<=(qH H).getD i 0:=by
 unfold qH;by_cases U:i<Y.length
 .obtain⟨z,Z⟩:∃z,Y[i]? =some z:=⟨_,G2 U⟩
  obtain⟨y,X⟩:∃z,H[i]? =some z:=⟨_,G2 (by omega)⟩
  have:=h i z y Z X;simp only[List.getD,QQJ,Z,X,Option.map_some,Option.getD_some];unfold hQ;have V:∀n:Int,mkRat n 2=(n:Rat)*mkRat 1 2:=fun n=>by rw[Rat.mkRat_eq_div,Rat.mkRat_eq_div,Rat.div_def,Rat.div_def];show _=_*(1*_);rw[Rat.one_mul]
  rw[V z,V y];have e:=Rat.intCast_le_intCast.2 this;have k:(0:Rat)<=mkRat 1 2:=by decide
  have:=Rat.mul_nonneg (show 0<=(y:Rat)-(z:Rat) by grind) k
  grind
 .simp only[List.getD,QQJ,List.getElem?_eq_none (show Y.length<=i by omega),List.getElem?_eq_none (show H.length<=i by omega),Option.map_none,Option.getD_none]
  exact Rat.le_refl
theorem Qy(q:Rat)(H:(aq q).length<=1000000000)(mem:Mem):kO prog 107 [.str (aq q)] mem (.str (aq (-q))) mem:=by
 have X:aZ prog 107=some f107:=by kernel_rfl
 refine aA (az _) ?_ mem;by_cases Z:q=0
 .subst Z
  simp[ae,X,f107,ba]
 .have N:¬q.num=0:=fun e=>Z (mO.1 e)
  by_cases S:q.num<0
  .have e:=jl S
   have V:(45::aq (-q)==[48])=false:=by rw[<-e,ba];simpa using Z
   rw[e];have h3:(1:Int)<=((aq (-q)).length:Int)+1:=by omega
   simp[ae,X,f107,V,h3]
  .have e:=mR (q:=q) (by omega)
   obtain⟨c,r,U,R⟩:=kX (q:=q) (by omega);have V:(c::r==[48])=false:=by rw[<-U,ba];simpa using Z
   have O:=fv R;rw[e,U];rw[U] at H;simp only[List.length_cons] at H;have h3:1+(r.length+1)<=9223372036854775807:=by omega
   simp[ae,X,f107,V,O,h3,fM]
noncomputable def fG(f:FuncId)(args:List AV):Option AV:=
 match f,args with
 |37,[.int .i64 n,.int .i64 d]=>if 0<d/\n.natAbs<10 ^ 8/\d.toNat<10 ^ 8 then some (.str (aq (mkRat n d.toNat))) else none
 |90,[.str s,.str t]=>match eh s,eh t with
  |some a,some b=>if (aq a).length<=9/\(aq b).length<=9 then some (.str (aq (a+b))) else none
  |_,_=>none
 |94,[.str s,.str t]=>match eh s,eh t with
  |some a,some b=>if (aq a).length<=9/\(aq b).length<=9 then some (.str (aq (a*b))) else none
  |_,_=>none
 |107,[.str s]=>match eh s with
  |some a=>if (aq a).length<=9 then some (.str (aq (-a))) else none
  |none=>none
 |_,_=>none
theorem jd:qS prog (ah fG):=bM fun f U v h mem=>by
 unfold fG at h;split at h
 .rename_i n d
  split at h
  .rename_i Z
   cases h;have:=Bg n d.toNat (by omega) Z.2.1 Z.2.2 mem;rw[QQi (by omega)] at this;exact this
  .cases h
 .split at h
  .rename_i m n X V
   split at h
   next Z=>cases h;rw[aw X,aw V];exact Qw m n Z.1 Z.2 mem
   .cases h
  .cases h
 .split at h
  .rename_i m n X V
   split at h
   next Z=>cases h;rw[aw X,aw V];exact Qx m n Z.1 Z.2 mem
   .cases h
  .cases h
 .split at h
  .rename_i m X
   split at h
   next Z=>cases h;rw[aw X];exact Qy m (by omega) mem
   .cases h
  .cases h
 .cases h
theorem Qz(a b:Rat)(H:(aq a).length<=9)(I:(aq b).length<=9)(J:(aq (-b)).length<=9)(mem:Mem):
  kO prog 53 [.str (aq a),.str (aq b)] mem (.str (aq (a-b))) mem:=by
 have Z:aZ prog 53=some f53:=by kernel_rfl
 refine aA jd ?_ mem;have e:a+ -b=a-b:=(Rat.sub_eq_add_neg a b).symm;simp[ae,Z,f53,ah,fG,aF,H,I,J,e]
def zS(n:Int):List UInt8:=aq (n:Rat)
theorem tX{n:Int}(h:n.natAbs<10 ^ 4):(aq (n:Rat)).length<=9:=by
 have e:aq (n:Rat)=bF n:=by unfold aq;simp
 rw[e];have Z:=dj n;have X:(ai n.natAbs).length<=4:=aN (by omega) h;omega
noncomputable def BO(f:FuncId)(args:List AV):Option AV:=
 match f,args with
 |53,[.str s,.str t]=>match eh s,eh t with
  |some a,some b=>if (aq a).length<=9/\(aq b).length<=9/\(aq (-b)).length<=9 then some (.str (aq (a-b))) else none
  |_,_=>none
 |f,args=>fG f args
theorem NV:qS prog (ah BO):=bM fun f X v h mem=>by
 unfold BO at h;split at h
 .split at h
  .rename_i m n V U
   split at h
   next Z=>cases h;rw[aw V,aw U];exact Qz m n Z.1 Z.2.1 Z.2.2 mem
   .cases h
  .cases h
 .have:=jd.fn _ _ mem ⟨v,none,[]⟩ (by unfold ah;simp only;rw[h])
  simpa [afl.mem] using this
theorem L6{a b:Int}(H:a.natAbs<=30)(I:b.natAbs<=30):(a*b).natAbs<=900:=by rw[QQl];exact Nat.mul_le_mul H I
abbrev Z3:=Int×Int×Int
def zA(v:Z3):AV:=.agg [.str (zS v.1),.str (zS v.2.1),.str (zS v.2.2)]
def PO(n:Nat)(v:Z3):Prop:=v.1.natAbs<=n/\v.2.1.natAbs<=n/\v.2.2.natAbs<=n
instance (n:Nat) (v:Z3):Decidable (PO n v):=inferInstanceAs (Decidable (v.1.natAbs<=n/\v.2.1.natAbs<=n/\v.2.2.natAbs<=n))
theorem k9{n:Int}(h0: -1000000<=n)(h1:n<=1000000):IntKind.i64.wrap n=n:=by rw[af]
def rP(a b:Z3):Z3:=(a.2.1*b.2.2-a.2.2*b.2.1,a.2.2*b.1-a.1*b.2.2,a.1*b.2.1-a.2.1*b.1)
def Wo(v:Z3):Bool:=decide (v.1=0)&&decide (v.2.1=0)&&decide (v.2.2=0)
theorem nX{q:Rat}(h:q.den=1):q=(q.num:Rat):=Rat.ext rfl h
end Go.Proofs
namespace Go.Eng
structure Hts where
 v:List Int
 half:Bool
def i8C(l:List Int):List AV:=l.map fun n=>.int .i8 n
def Hts.cells(h:Hts):List AV:=i8C h.v++[.bool h.half]
structure Hts.Ok (h:Hts):Prop where
 len:h.v.length=6
 ok:∀n∈h.v,AQ n
structure adM where
 kind:Nat
 base:Hts
 s0:Hts
 s1:Hts
 N:List Int
 T:List Int
def adM.cells(x:adM):List AV:=.int .u8 x.kind::(x.base.cells++(x.s0.cells++(x.s1.cells++(i8C x.N++i8C x.T))))
structure adM.Ok (x:adM):Prop where
 kind:x.kind<256
 base:x.base.Ok
 s0:x.s0.Ok
 s1:x.s1.Ok
 nl:x.N.length=8
 nk:∀n∈x.N,AQ n
 tl:x.T.length=4
 tk:∀n∈x.T,AQ n
theorem iD(l:List Int):(i8C l).length=l.length:=by simp[i8C]
theorem nV:∀l:List Int,AV.afr (i8C l)=true
 | []=>rfl
 |n::l=>by have:=nV l;simp only[i8C] at this;simp[i8C,AV.afr,AV.closed,this]
variable{k:Nat}
theorem Wv{l:List Int}(h:k<l.length):(i8C l)[k]? =some (.int .i8 (l.getD k 0)):=by simp[i8C,List.getD_eq_getElem?_getD,G2 h]
theorem mK{l:List Int}(h:k<l.length):l.getD k 0∈l:=by rw[List.getD_eq_getElem?_getD,G2 h];exact List.getElem_mem _
def ir(n:Int):Int:=n.tmod 10
def ps9(n:Int):Int:=1+(n.tmod 9+9).tmod 9
def ct3(n:Int):Int:=1+(n.tmod 3+3).tmod 3
theorem dx(n:Int):(ir n).natAbs<=9:=by have:=AD n 10 (by decide);unfold ir;simp only[Int.cast_ofNat_Int] at this;omega
theorem kV(n:Int):1<=ps9 n/\ps9 n<=9:=by have h:=AD n 9 (by decide);have Z:=AD (n.tmod 9+9) 9 (by decide);have h3:=Int.tmod_nonneg 9 (a:=n.tmod 9+9) (by simp only[Int.cast_ofNat_Int] at h;omega);unfold ps9;simp only[Int.cast_ofNat_Int] at h Z;omega
theorem O9(n:Int):1<=ct3 n/\ct3 n<=3:=by have h:=AD n 3 (by decide);have Z:=AD (n.tmod 3+3) 3 (by decide);have h3:=Int.tmod_nonneg 3 (a:=n.tmod 3+3) (by simp only[Int.cast_ofNat_Int] at h;omega);unfold ct3;simp only[Int.cast_ofNat_Int] at h Z;omega
def adM.n(x:adM)(i:Nat):Int:=x.N.getD i 0
def adM.t(x:adM)(i:Nat):Int:=x.T.getD i 0
def Hts.z(h:Hts)(k:Nat):Int:=(if h.half then 1 else 2)*(h.v.getD (k%6) 0).tmod 20
def Hts.l(h:Hts)(n:Nat):List Int:=(List.range n).map h.z
theorem Hts.afP(h:Hts)(n:Nat):(h.l n).length=n:=by simp[Hts.l]
theorem Hts.ahy(h:Hts)(n:Nat):h.l (n+1)=h.l n++[h.z n]:=by simp[Hts.l,List.range_succ]
theorem Hts.ag4(h:Hts)(k:Nat):(h.z k).natAbs<=38:=by have:=AD (h.v.getD (k%6) 0) 20 (by decide);unfold Hts.z;simp only[Int.cast_ofNat_Int] at this;split<;>omega
def upL(h:Hts)(L:List Int)(n:Nat):List Int:=(List.range n).map fun k=>L.getD k 0+(h.z k).natAbs
theorem fE(h:Hts)(L:List Int)(n:Nat):(upL h L n).length=n:=by simp[upL]
theorem PM(h:Hts)(L:List Int)(n:Nat):upL h L (n+1)=upL h L n++[L.getD n 0+(h.z n).natAbs]:=by simp[upL,List.range_succ]
def adM.at(x:adM):Nat->Int
 |0=>ir (x.n 6)
 |i+1=>x.at i+ps9 (x.n ((i+3)%8))
def adM.val(x:adM)(i:Nat):Int:=ir (x.n ((i+7)%8))
def adM.ah3(x:adM)(i:Nat):Rat×Rat:=((x.at i:Int),hQ (x.val i))
def adM.afM(x:adM)(c:Nat):List (Rat×Rat):=(List.range c).map x.ah3
theorem adM.afN(x:adM)(c:Nat):(x.afM c).length=c:=by simp[adM.afM]
theorem adM.ahz(x:adM):∀i,(x.at i).natAbs<=9+9*i
 |0=>dx _
 |i+1=>by
  have Z:=x.ahz i;have X:=kV (x.n ((i+3)%8));show(x.at i+ps9 (x.n ((i+3)%8))).natAbs<=_
  omega
theorem adM.ahU(x:adM)(i:Nat):x.at i<x.at (i+1):=by
 have Z:=kV (x.n ((i+3)%8));show x.at i<x.at i+ps9 (x.n ((i+3)%8))
 omega
variable{vs:List AV}
theorem fl(h:AV.afr vs=true)(n:Nat):AV.afE n vs=[]:=AV.afR (Nat.zero_le n) (bl h)
theorem ig(h:AV.afr vs=true)(f:Nat->Bool):AV.afs f vs=true:=AV.afK (k:=0) (fun b Z=>absurd Z (Nat.not_lt_zero b)) (bl h)
theorem yc{a b:List AV}(H:AV.afr a=true)(I:AV.afr b=true):AV.afr (a++b)=true:=by
 induction a with
 |nil=>exact I
 |cons x a ih=>
  simp only[AV.afr,Es,List.cons_append] at H |-;exact⟨H.1,ih H.2⟩
theorem Hts.closed(h:Hts):AV.afr h.cells=true:=yc (nV _) rfl
theorem adM.closed(x:adM):AV.afr x.cells=true:=by
 show AV.afr ([.int .u8 x.kind]++(x.base.cells++(x.s0.cells++(x.s1.cells++(i8C x.N++i8C x.T)))))=true
 exact yc rfl (yc x.base.closed (yc x.s0.closed (yc x.s1.closed (yc (nV _) (nV _)))))
variable{h:Hts}
theorem Hts.aft(H:h.Ok):h.cells.length=7:=by unfold Hts.cells;rw[Qs,iD,H.len];rfl
section
variable {x:adM}(hx:x.Ok)
include hx
theorem adM.aft:x.cells.length=34:=by unfold adM.cells;simp only[List.length_cons,Qs,Hts.aft hx.base,Hts.aft hx.s0,Hts.aft hx.s1,iD,hx.nl,hx.tl]
theorem adM.agb:x.cells[0]? =some (.int .u8 x.kind):=by rfl
theorem adM.afy(H:k<8):x.cells[22+k]? =some (.int .i8 (x.n k)):=by
 show(AV.int .u8 x.kind::(x.base.cells++(x.s0.cells++(x.s1.cells++(i8C x.N++i8C x.T)))))[22+k]? =_
 have e:22+k=(21+k)+1:=by omega
 have X:=Hts.aft hx.base;have V:=Hts.aft hx.s0;have U:=Hts.aft hx.s1;have S:=iD x.N;have R:=hx.nl;rw[e,List.getElem?_cons_succ,V1 (by omega),V1 (by omega),V1 (by omega),GT (by omega)];have Z:21+k-x.base.cells.length-x.s0.cells.length-x.s1.cells.length=k:=by omega
 rw[Z];exact Wv (by omega)
theorem adM.agE:x.cells.drop 1=x.base.cells++(x.s0.cells++(x.s1.cells++(i8C x.N++i8C x.T))):=rfl
theorem adM.agh:(x.cells.drop 1).take 7=x.base.cells:=by rw[adM.agE hx,List.take_left' (Hts.aft hx.base)]
theorem adM.agZ:(x.cells.drop 8).take 7=x.s0.cells:=by
 have e:x.cells.drop 8=(x.cells.drop 1).drop 7:=by rw[QXY]
 rw[e,adM.agE hx,List.drop_left' (Hts.aft hx.base),List.take_left' (Hts.aft hx.s0)]
theorem adM.ag0:(x.cells.drop 15).take 7=x.s1.cells:=by
 have e:x.cells.drop 15=((x.cells.drop 1).drop 7).drop 7:=by rw[QXY,QXY]
 rw[e,adM.agE hx,List.drop_left' (Hts.aft hx.base),List.drop_left' (Hts.aft hx.s0),List.take_left' (Hts.aft hx.s1)]
theorem adM.ahg:(x.cells.drop 30).take 4=i8C x.T:=by
 have e:x.cells.drop 30=((((x.cells.drop 1).drop 7).drop 7).drop 7).drop 8:=by rw[QXY,QXY,QXY,QXY]
 have Z:(i8C x.N).length=8:=by rw[iD,hx.nl]
 have X:(i8C x.T).length=4:=by rw[iD,hx.tl]
 rw[e,adM.agE hx,List.drop_left' (Hts.aft hx.base),List.drop_left' (Hts.aft hx.s0),List.drop_left' (Hts.aft hx.s1),List.drop_left' Z,B5 (by omega)]
theorem adM.af1(H:k<8):AQ (x.n k):=hx.nk _ (mK (by rw[hx.nl];exact H))
end
theorem Hts.ahh(H:h.Ok)(I:k<6):h.cells[k]? =some (.int .i8 (h.v.getD k 0)):=by unfold Hts.cells;rw[GT (by rw[iD,H.len];exact I)];exact Wv (by rw[H.len];exact I)
theorem Hts.agH(H:h.Ok):h.cells[6]? =some (.bool h.half):=by unfold Hts.cells;rw[V1 (by rw[iD,H.len];omega),iD,H.len];rfl
theorem Hts.ah9(H:h.Ok)(I:k<6):AQ (h.v.getD k 0):=H.ok _ (mK (by rw[H.len];exact I))
theorem cV{C:List AV}{i:Nat}{v:AV}(h:C[i]? =some v):∀h,C[i]'h=v:=fun Z=>QQX ((G2 Z).symm.trans h)
theorem iq(n:Int):mkRat n 1=(n:Rat):=Rat.mkRat_self (n:Rat)
def Hts.d(h:Hts):Nat:=if h.half then 2 else 1
theorem Yc(n:Int):hQ (2*n)=(n:Rat):=by
 rw[mL,Rat.intCast_mul];have:((2:Int):Rat)=2:=rfl;rw[this]
 grind
theorem Hts.aia(h:Hts)(k:Nat):mkRat ((h.v.getD (k%6) 0).tmod 20) h.d=hQ (h.z k):=by
 unfold Hts.d Hts.z;cases h.half
 .simp only[Bool.false_eq_true,if_false]
  rw[iq,Yc]
 .simp only[if_true,Int.one_mul]
  rfl
end Go.Eng
namespace Go.Proofs
open Go.Eng
open Tryz
theorem Ip(n:Int)(h:AQ n)(M:Mem):kO prog 38 [.int .i8 n] M (.int .i64 (ir n)) M:=by
 have Z:aZ prog 38=some f38:=by kernel_rfl
 refine aA (az _) ?_ M;unfold AQ at h;have w:IntKind.i64.wrap n=n:=k9 (by omega) (by omega);simp[ae,Z,f38,w,ir]
theorem QH(n:Int)(h:AQ n)(M:Mem):kO prog 41 [.int .i8 n] M (.int .i64 (ps9 n)) M:=by
 have U:aZ prog 41=some f41:=by kernel_rfl
 refine aA (az _) ?_ M;unfold AQ at h;have w:IntKind.i64.wrap n=n:=k9 (by omega) (by omega);have q:=AD n 9 (by decide);simp only[Int.cast_ofNat_Int] at q;unfold ps9;obtain⟨a,Z⟩:=xE (n.tmod 9);rw[<-Z] at q |-;have w1:IntKind.i64.wrap (a+9)=a+9:=k9 (by omega) (by omega);have X:=AD (a+9) 9 (by decide);simp only[Int.cast_ofNat_Int] at X;obtain⟨b,V⟩:=xE ((a+9).tmod 9);rw[<-V] at X |-;have w2:IntKind.i64.wrap (1+b)=1+b:=k9 (by omega) (by omega);simp[ae,U,f41,w,<-Z,w1,<-V,w2]
theorem Se(v:Z3)(H:PO 10000 v)(M:Mem):kO prog 30 [.int .i64 v.1,.int .i64 v.2.1,.int .i64 v.2.2] M (zA v) M:=by
 have Z:aZ prog 30=some f30:=by kernel_rfl
 refine aA jd ?_ M;obtain⟨a,b,c⟩:=v;obtain⟨X,V,h3⟩:=H;simp only at X V h3;have U:a.natAbs<100000000:=by omega
 have S:b.natAbs<100000000:=by omega
 have g3:c.natAbs<100000000:=by omega
 simp[ae,Z,f30,ah,fG,zA,zS,iq,U,S,g3,cj,aH]
theorem Io(a b c d:Int)(H:a.natAbs<=30)(I:b.natAbs<=30)(hc:c.natAbs<=30)(hd:d.natAbs<=30)(M:Mem):
  kO prog 153 [.str (zS a),.str (zS b),.str (zS c),.str (zS d)] M (.str (zS (a*b-c*d))) M:=by
 have U:aZ prog 153=some f153:=by kernel_rfl
 have S:=L6 H I;have R:=L6 hc hd;have Z:(a:Rat)*(b:Rat)=((a*b:Int):Rat):=(Rat.intCast_mul a b).symm;have X:(c:Rat)*(d:Rat)=((c*d:Int):Rat):=(Rat.intCast_mul c d).symm;obtain⟨x,O⟩:=xE (a*b);obtain⟨y,N⟩:=xE (c*d);rw[<-O] at S Z |-;rw[<-N] at R X |-;have V:(x:Rat)-(y:Rat)=((x-y:Int):Rat):=(Rat.intCast_sub x y).symm;obtain⟨z,L⟩:=xE (x-y);rw[<-L] at V |-;have K:=tX (n:=a) (by omega);have G:=tX (n:=b) (by omega);have F:=tX (n:=c) (by omega);have C:=tX (n:=d) (by omega);have B:=tX (n:=x) (by omega);have u:=tX (n:=y) (by omega);have o:(aq (-(y:Rat))).length<=9:=by rw[<-Rat.intCast_neg];exact tX (n:= -y) (by omega)
 refine aA NV ?_ M;simp[ae,U,f153,ah,BO,fG,zS,aF,K,G,F,C,B,u,o,Z,X,V]
noncomputable def BT(f:FuncId)(args:List AV):Option AV:=
 match f,args with
 |153,[.str s,.str t,.str u,.str v]=>match eh s,eh t,eh u,eh v with
  |some a,some b,some c,some d=>if (a.den=1/\b.den=1/\c.den=1/\d.den=1)/\a.num.natAbs<=30/\b.num.natAbs<=30/\c.num.natAbs<=30/\d.num.natAbs<=30 then some (.str (zS (a.num*b.num-c.num*d.num))) else none
  |_,_,_,_=>none
 |_,_=>none
theorem NZ:qS prog (ah BT):=bM fun f Z v h mem=>by
 unfold BT at h;split at h
 .split at h
  .rename_i a b c d X V U S
   split at h
   .rename_i R
    obtain⟨⟨d1,d2,d3,d4⟩,O,N,M,L⟩:=R;cases h;rw[aw X,aw V,aw U,aw S];have:=Io a.num b.num c.num d.num O N M L mem;unfold zS at this |-;rw[<-nX d1,<-nX d2,<-nX d3,<-nX d4] at this;exact this
   .cases h
  .cases h
 .cases h
theorem Ig(a b:Z3)(H:PO 30 a)(hb:PO 30 b)(M:Mem):kO prog 95 [zA a,zA b] M (zA (rP a b)) M:=by
 have hG:aZ prog 95=some f95:=by kernel_rfl
 obtain⟨V,U,S⟩:=a;obtain⟨R,O,N⟩:=b;obtain⟨K,G,h3⟩:=H;obtain⟨F,C,B⟩:=hb;simp only at K G h3 F C B;refine aA NZ ?_ M;obtain⟨X,L⟩:∃X,aJ f95=[X]:=⟨_,rfl⟩
 obtain⟨X',Z2⟩:=eU L (l:=[0,1,0,4,0,16,0,64,255,0,512,0,2048,0,8192,0,32768,131071,0,262144,0,1048576,0,4194304,0,16777216,67108863,134217727,268435455]) (j:=28) (by kernel_rfl) (by decide);simp[aJ,cB,f95] at L;subst L;have Z:∀n:Int,eh (zS n)=some (n:Rat):=fun n=>aF _
 unfold zA rP;simp only;obtain⟨A1,u⟩:=xE (zS V);obtain⟨A2,o⟩:=xE (zS U);obtain⟨A3,m⟩:=xE (zS S);obtain⟨B1,Y⟩:=xE (zS R);obtain⟨B2,J⟩:=xE (zS O);obtain⟨B3,I⟩:=xE (zS N);have p1:eh A1=some (V:Rat):=by rw[u];exact Z _
 have p2:eh A2=some (U:Rat):=by rw[o];exact Z _
 have p3:eh A3=some (S:Rat):=by rw[m];exact Z _
 have p4:eh B1=some (R:Rat):=by rw[Y];exact Z _
 have p5:eh B2=some (O:Rat):=by rw[J];exact Z _
 have p6:eh B3=some (N:Rat):=by rw[I];exact Z _
 rw[<-u,<-o,<-m,<-Y,<-J,<-I];obtain⟨C1,f1⟩:=xE (zS (U*N-S*O));obtain⟨C2,f2⟩:=xE (zS (S*R-V*N));obtain⟨C3,f3⟩:=xE (zS (V*O-U*R));rw[<-f1,<-f2,<-f3];simp[ae,hG,f95,-aR,aC X',bV,bK,bQ,Z2,ah,BT,p1,p2,p3,p4,p5,p6,K,G,h3,F,C,B,<-f1,<-f2,<-f3,cj,aH,Nat.testBit]
def zQ(v:Z3):V3:=((v.1:Rat),(v.2.1:Rat),(v.2.2:Rat))
def hV(v:Z3):V3:=(hQ v.1,hQ v.2.1,hQ v.2.2)
def fW(x:adM):Z3:=if ir (x.n 0)=0/\ir (x.n 1)=0/\ir (x.n 2)=0 then (0,0,1) else (ir (x.n 0),ir (x.n 1),ir (x.n 2))
def Aw(x:adM):Z3:=rP (fW x) (ir (x.n 3),ir (x.n 4),ir (x.n 5))
theorem xa(x:adM):PO 9 (fW x):=by
 unfold fW;split
 .exact⟨by decide,by decide,by decide⟩
 .exact⟨dx _,dx _,dx _⟩
theorem Px(x:adM):Wo (fW x)=false:=by
 unfold fW;split
 .rfl
 .rename_i h
  simp only[Wo,Bool.and_eq_false_imp,Es,GE,decide_eq_false_iff_not];exact fun Z X=>h ⟨Z.1,Z.2,X⟩
theorem XO{a b:Int}(H:a.natAbs<=9)(I:b.natAbs<=9):(a*b).natAbs<=81:=by rw[QQl];exact Nat.mul_le_mul H I
theorem N5(x:adM):PO 162 (Aw x):=by obtain⟨Z,X,h3⟩:=xa x;have V:=dx (x.n 3);have U:=dx (x.n 4);have S:=dx (x.n 5);have R:=XO X S;have O:=XO h3 U;have N:=XO h3 V;have M:=XO Z S;have L:=XO Z U;have K:=XO X V;unfold Aw rP PO;simp only;omega
open Classical in
noncomputable def eJ(f:FuncId)(args:List AV):Option AV:=
 match f,args with
 |38,[.int .i8 n]=>if -128<=n/\n<=127 then some (.int .i64 (ir n)) else none
 |41,[.int .i8 n]=>if -128<=n/\n<=127 then some (.int .i64 (ps9 n)) else none
 |30,[.int .i64 a,.int .i64 b,.int .i64 c]=>if a.natAbs<=10000/\b.natAbs<=10000/\c.natAbs<=10000 then some (zA (a,b,c)) else none
 |95,[.agg [.str s,.str t,.str u],.agg [.str s',.str t',.str u']]=>match eh s,eh t,eh u,eh s',eh t',eh u' with
  |some a,some b,some c,some d,some e,some f=>if (a.den=1/\b.den=1/\c.den=1/\d.den=1/\e.den=1/\f.den=1)/\PO 30 (a.num,b.num,c.num)/\PO 30 (d.num,e.num,f.num) then some (zA (rP (a.num,b.num,c.num) (d.num,e.num,f.num))) else none
  |_,_,_,_,_,_=>none
 |37,[.int .i64 n,.int .i64 d]=>if 0<d/\n.natAbs<10 ^ 8/\d.toNat<10 ^ 8 then some (.str (aq (mkRat n d.toNat))) else none
 |_,_=>none
theorem uU:qS prog (ah eJ):=bM fun f X v h mem=>by
 unfold eJ at h;split at h
 .split at h
  next Z=>cases h;exact Ip _ Z mem
  .cases h
 .split at h
  next Z=>cases h;exact QH _ Z mem
  .cases h
 .split at h
  next Z=>cases h;exact Se (_,_,_) Z mem
  .cases h
 .split at h
  .rename_i a b c d e f V U Z S R O
   split at h
   .rename_i N
    obtain⟨⟨d1,d2,d3,d4,d5,d6⟩,M,L⟩:=N;cases h;rw[aw V,aw U,aw Z,aw S,aw R,aw O];have:=Ig (a.num,b.num,c.num) (d.num,e.num,f.num) M L mem;unfold zA at this;simp only at this;have k:∀q:Rat,q.den=1->zS q.num=aq q:=fun q K=>by unfold zS;rw[<-nX K]
    rw[k a d1,k b d2,k c d3,k d d4,k e d5,k f d6] at this;exact this
   .cases h
  .cases h
 .split at h
  .rename_i Z
   cases h;have:=Bg _ _ (by omega) Z.2.1 Z.2.2 mem;rw[QQi (by omega)] at this;exact this
  .cases h
 .cases h
theorem FP(x:adM)(H:x.Ok)(M:Mem):kO prog 36 [.agg x.cells] M (zA (fW x)) M:=by
 have I:aZ prog 36=some f36:=by kernel_rfl
 refine dc uU (lv:=fun _=>[]) (K:=1) (by simp[AV.afr,AV.closed,x.closed]) rfl ?_ M;obtain⟨S,F'⟩:∃S,aJ f36=[S]:=⟨_,rfl⟩
 obtain⟨X',Z2⟩:=eU F' (l:=[0,1,3,7,0,16,48,127,0,256,768,2047,4095,8191,16383]) (j:=14) (by kernel_rfl) (by decide);simp[aJ,cB,f36] at F';subst F';have R:=adM.aft H;have r0:=fl x.closed;have o0:=ig x.closed;have i0:=adM.afy H (k:=0) (by decide);have i1:=adM.afy H (k:=1) (by decide);have i2:=adM.afy H (k:=2) (by decide);simp only[Nat.reduceAdd] at i0 i1 i2;have Z:=cV i0;have X:=cV i1;have V:=cV i2;obtain⟨O,N⟩:=adM.af1 H (k:=0) (by decide);obtain⟨L,G⟩:=adM.af1 H (k:=1) (by decide);obtain⟨F,B⟩:=adM.af1 H (k:=2) (by decide);have s0:=dx (x.n 0);have s1:=dx (x.n 1);have s2:=dx (x.n 2);unfold fW;obtain⟨C,hC⟩:=xE x.cells;rw[<-hC] at R r0 o0 i0 i1 i2 Z X V |-;obtain⟨p,hp⟩:=xE (x.n 0);obtain⟨q,hq⟩:=xE (x.n 1);obtain⟨r,hr⟩:=xE (x.n 2);rw[<-hp] at i0 Z O N s0 |-;rw[<-hq] at i1 X L G s1 |-;rw[<-hr] at i2 V F B s2 |-;obtain⟨v,o⟩:=xE (ir q);obtain⟨w,m⟩:=xE (ir r);obtain⟨u,Y⟩:=xE (ir p);rw[<-Y] at s0 |-;rw[<-o] at s1 |-;rw[<-m] at s2 |-;have g0:u.natAbs<=10000:=by omega
 have g1:v.natAbs<=10000:=by omega
 have g2:w.natAbs<=10000:=by omega
 have tk:C.take 34=C:=B5 (by omega);clear hC hp hq hr;by_cases U:u=0
 .by_cases J:v=0
  .by_cases k2:w=0
   .rw[if_pos ⟨U,J,k2⟩]
    subst U J k2;simp[ae,I,f36,-aR,aC X',bV,bK,bQ,Z2,ah,eJ,R,Z,X,V,O,N,L,G,F,B,<-Y,<-o,<-m,Nat.testBit,zA]
   .rw[if_neg fun h=>k2 h.2.2]
    subst U J;simp[ae,I,f36,-aR,aC X',bV,bK,bQ,Z2,ah,eJ,R,Z,X,V,O,N,L,G,F,B,<-Y,<-o,<-m,Nat.testBit,zA,k2,g2]
  .rw[if_neg fun h=>J h.2.1]
   subst U;simp[ae,I,f36,-aR,aC X',bV,bK,bQ,Z2,ah,eJ,R,Z,X,V,O,N,L,G,F,B,<-Y,<-o,<-m,Nat.testBit,zA,J,g1,g2]
 .rw[if_neg fun h=>U h.1]
  simp[ae,I,f36,-aR,aC X',bV,bK,bQ,Z2,ah,eJ,R,Z,X,V,O,N,L,G,F,B,<-Y,<-o,<-m,Nat.testBit,zA,U,g0,g1,g2]
open Classical in
noncomputable def iQ(x:adM)(f:FuncId)(args:List AV):Option AV:=
 match f,args with
 |36,[.agg cs]=>if cs=x.cells then some (zA (fW x)) else none
 |f,args=>eJ f args
theorem BS{x:adM}(H:x.Ok):qS prog (ah (iQ x)):=bM fun f Z v h mem=>by
 unfold iQ at h;split at h
 .split at h
  next X=>cases h;rw[X];exact FP x H mem
  .cases h
 .have:=uU.fn _ _ mem ⟨v,none,[]⟩ (by unfold ah;simp only;rw[h])
  simpa [afl.mem] using this
theorem WD(n:Int):eh (zS n)=some (n:Rat):=aF _
theorem FK(x:adM)(H:x.Ok)(M:Mem):kO prog 40 [.agg x.cells] M (zA (Aw x)) M:=by
 have hG:aZ prog 40=some f40:=by kernel_rfl
 refine dc (BS H) (lv:=fun _=>[]) (K:=1) (by simp[AV.afr,AV.closed,x.closed]) rfl ?_ M;obtain⟨X,O⟩:∃X,aJ f40=[X]:=⟨_,rfl⟩
 obtain⟨X',Z2⟩:=eU O (l:=[0,1,0,4,12,31,0,64,192,511,0,1024,3072,8191,16383,32767,65535]) (j:=16) (by kernel_rfl) (by decide);simp[aJ,cB,f40] at O;subst O;have Y:=adM.aft H;have r0:=fl x.closed;have J:=ig x.closed;have V:=adM.afy H (k:=3) (by decide);have U:=adM.afy H (k:=4) (by decide);have S:=adM.afy H (k:=5) (by decide);simp only[Nat.reduceAdd] at V U S;have N:=cV V;have L:=cV U;have G:=cV S;obtain⟨I,c0⟩:=adM.af1 H (k:=3) (by decide);obtain⟨b1,c1⟩:=adM.af1 H (k:=4) (by decide);obtain⟨b2,c2⟩:=adM.af1 H (k:=5) (by decide);have s0:=dx (x.n 3);have s1:=dx (x.n 4);have s2:=dx (x.n 5);have R:=xa x;have Z:Aw x=rP (fW x) (ir (x.n 3),ir (x.n 4),ir (x.n 5)):=rfl;obtain⟨C,hC⟩:=xE x.cells;have F :x.cells=C:=hC.symm;rw[<-hC] at Y r0 J V U S N L G |-;obtain⟨p,hp⟩:=xE (x.n 3);obtain⟨q,hq⟩:=xE (x.n 4);obtain⟨r,hr⟩:=xE (x.n 5);rw[<-hp] at V N I c0 s0 Z;rw[<-hq] at U L b1 c1 s1 Z;rw[<-hr] at S G b2 c2 s2 Z;obtain⟨v,hv⟩:=xE (ir q);obtain⟨w,hw⟩:=xE (ir r);obtain⟨u,hu⟩:=xE (ir p);rw[<-hu] at s0 Z;rw[<-hv] at s1 Z;rw[<-hw] at s2 Z;have g0:u.natAbs<=10000:=by omega
 have g1:v.natAbs<=10000:=by omega
 have g2:w.natAbs<=10000:=by omega
 have z2:PO 30 (u,v,w):=⟨by show u.natAbs<=30;omega,by show v.natAbs<=30;omega,by show w.natAbs<=30;omega⟩;have tk:C.take 34=C:=B5 (by omega);obtain⟨⟨B,o,m⟩,hn⟩:∃n,n=fW x:=⟨_,rfl⟩
 rw[<-hn] at R Z;have z1:PO 30 (B,o,m):=⟨by have:=R.1;show B.natAbs<=30;simp only at this;omega,by have:=R.2.1;show o.natAbs<=30;simp only at this;omega,by have:=R.2.2;show m.natAbs<=30;simp only at this;omega⟩;rw[Z];clear Z;obtain⟨⟨cx,cy,cz⟩,hc⟩:∃n,n=rP (B,o,m) (u,v,w):=⟨_,rfl⟩
 rw[<-hc];simp[ae,hG,f40,-aR,aC X',bV,bK,bQ,Z2,ah,iQ,eJ,F,Y,J,N,L,G,tk,I,c0,b1,c1,b2,c2,<-hn,<-hu,<-hv,<-hw,Nat.testBit,zA,g0,g1,g2,WD,z1,z2,<-hc]
theorem X9(n:Int):(n:Rat)*hQ 1=hQ n:=by
 rw[mL,mL];have:((1:Int):Rat)=1:=rfl;rw[this]
 grind
theorem Ub:eh [49,47,50]=some (hQ 1):=aF (hQ 1)
theorem Nb(v:Z3)(H:PO 162 v)(M:Mem):kO prog 39 [zA v,.str [49,47,50]] M (vA (hV v)) M:=by
 have V:aZ prog 39=some f39:=by kernel_rfl
 refine aA jd ?_ M;obtain⟨Z,X⟩:∃Z,aJ f39=[Z]:=⟨_,rfl⟩
 obtain⟨U,S⟩:=eU X (l:=[0,1,0,7,0,16,0,127,0,256,0,2047,4095,8191]) (j:=13) (by kernel_rfl) (by decide);simp[aJ,cB,f39] at X;subst X;obtain⟨a,b,c⟩:=v;obtain⟨R,O,h3⟩:=H;simp only at R O h3;have N:=tX (n:=a) (by omega);have L:=tX (n:=b) (by omega);have K:=tX (n:=c) (by omega);have G:(aq (hQ 1)).length<=9:=Co (by decide);simp[ae,V,f39,-aR,aC U,bV,bK,bQ,S,ah,fG,zA,vA,hV,WD,Ub,N,L,K,G,X9,cj,aH,Nat.testBit]
end Go.Proofs
