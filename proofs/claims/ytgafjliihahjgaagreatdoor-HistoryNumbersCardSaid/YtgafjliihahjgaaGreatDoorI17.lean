/- See I36. -/
import Derived.Test.YtgafjliihahjgaaGreatDoorI05
import Derived.Test.YtgafjliihahjgaaGreatDoorI16
set_option linter.all false
set_option maxRecDepth 100000
set_option maxHeartbeats 40000000
namespace Go.Proofs
open Go.Eng
open Tryz
variable{M:Mem}{b es:Nat}{cs l:List AV}{o:Bool}
theorem aan{ks:List Nat}(hc:AV.af9 cs=true)(h:M[b]? =some (.cells o es l))(y:l.take cs.length=cs):agH ks M b (.cells false es cs):=by
 refine⟨cT hc,o,l,h,fun j v X=>?_⟩;have V:=gL X;have e:l[j]? =cs[j]? :=by rw[<-QQQ V,y]
 have W:=ca (ρ:=eg ks M.length) hc;rw[gT] at W;have Z:(cs.map (AV.ren (eg ks M.length)))[j]? =cs[j]? :=by rw[W]
 rw[QQX,X] at Z;rw[e,X];exact Z.symm
variable{v:AV}
theorem Pv{f:Nat->Option Nat}(h:v.closed=true):v.ren f=v:=by have:=ca (vs:=[v]) (ρ:=f) (by simp[AV.af9,h]);simpa [AV.agd] using this
variable{P:Program}{f:FuncId}{n:Nat}{r:Option Nat}{rest:List AV}
theorem ahk(hc:AV.af9 cs=true)(hr:AV.af9 rest=true)(H:v.closed=true)(y:M[b]? =some (.cells o es l))(I:l.take cs.length=cs)(h:kO P f (.slice 0 0 n r::rest) [.cells false es cs] v [.cells false es cs]):kO P f (.slice b 0 n r::rest) M v M:=by
 have X:=gL y;have hu:AV.agn [b].length (.slice 0 0 n r::rest)=true:=by
  show(decide (0<1)&&AV.agn 1 rest)=true
  rw[cT hr];rfl
 have:=kO.frame (M:=M) (new:=[]) [b] (m:=[.cells false es cs]) rfl (by simpa using X) hu (fun i s Z=>by
  cases i with
  |zero=>simp at Z;subst Z;exact aan hc y I
  |succ i=>simp at Z) rfl (by simpa using h)
 simpa [AV.agd,AV.ren,eg,ca hr,Pv H] using this
def sC(L:List (List UInt8)):List AV:=L.map .str
theorem Nh(L:List (List UInt8)):(sC L).length=L.length:=by simp[sC]
theorem Ng:∀L:List (List UInt8),AV.af9 (sC L)=true
 | []=>rfl
 |s::L=>by simp[sC,AV.af9,AV.closed];exact Ng L
def qN:List AV->Option (List (List UInt8))
 | []=>some []
 |.str a::l=>match qN l with
  |some r=>some (a::r)
  |none=>none
 |_=>none
theorem D4:∀{cs:List AV} {L:List (List UInt8)},qN cs=some L->cs=sC L
 | [],L,h=>by cases h;rfl
 |v::l,L,h=>by
  unfold qN at h;split at h
  next Z=>cases Z
  .rename_i Z
   cases Z;split at h
   .rename_i r X
    cases h;rw[D4 X];rfl
   .cases h
  .cases h
def po(M:Mem):AV->Option (List (List UInt8))
 |.slice b 0 n none=>match M[b]? with
  |some (.cells _ 1 cs)=>if n<=cs.length then qN (cs.take n) else none
  |_=>none
 |.y9=>some []
 |_=>none
variable{L:List (List UInt8)}{x:AV}
theorem PE(h:po M x=some L):(∃b o l,x=.slice b 0 L.length none/\M[b]? =some (.cells o 1 l)/\l.take L.length=sC L)\/(x=.y9/\L=[]):=by
 unfold po at h;split at h
 .rename_i b n
  split at h
  .rename_i o cs X
   split at h
   .rename_i V
    have Z:=D4 h;have W:n=L.length:=by have:=congrArg List.length Z;rw[Nh,P3] at this;omega
    subst W;exact .inl ⟨b,o,cs,rfl,X,Z⟩
   .cases h
  .cases h
 .cases h;exact .inr ⟨rfl,rfl⟩
 .cases h
theorem X6(hr:AV.af9 rest=true)(y:v.closed=true)(hx:po M x=some L)(h:kO P f (.slice 0 0 L.length none::rest) [.cells false 1 (sC L)] v [.cells false 1 (sC L)])(h0:L=[]->kO P f (.y9::rest) M v M):kO P f (x::rest) M v M:=by
 rcases PE hx with⟨b,o,l,rfl,Z,X⟩ | ⟨rfl,W⟩
 .exact ahk (Ng L) hr y Z (by rw[Nh];exact X) h
 .exact h0 W
theorem Z7{i:Nat}{s:List UInt8}(h:L[i]? =some s):(sC L)[i]? =some (.str s):=by simp[sC,h]
def uz:List (List UInt8)->Int
 | []=>0
 |s::l=>if xz s=0 then uz l else xz s
variable{K:Nat}
theorem yP(L:List (List UInt8))(H:∀s∈L,s.length<=1000000000)(I:L.length<=1000000000)(Q:L.length<K){b:Code}(y:ag f32=[b]):
  ∃F:Env->Bool->Env,∀Z d,(ad Z 6=.slice 0 0 L.length none/\ad Z 7=.int .i64 L.length/\ad Z 8=.int .i64 0/\ad Z 2=.int .i64 0)->
   aT (aU prog) (fun _=>[8]) (af aq) K 18 1 true (.loop b) ⟨Z,[.cells false 1 (sC L)],d⟩=some (if uz L=0 then .exit 0 else .ret,⟨F Z d,[.cells false 1 (sC L)],d⟩)/\(uz L≠0->ad (F Z d) 2=.int .i64 (uz L)):=by
 refine bG rfl (fun Z=>ad Z 6=.slice 0 0 L.length none/\ad Z 7=.int .i64 L.length/\ad Z 8=.int .i64 0/\ad Z 2=.int .i64 0) (fun _ D =>uz L≠0->ad D 2=.int .i64 (uz L)) ?_;rintro Z d ⟨h6,h7,h8,S⟩;simp[ag,aH,f32] at y;have O:au [8] (ab b) Z ((8,.int .i64 ((0:Nat):Int))::Z)=au [8] (ab b) Z Z:=by simp[au,h8]
 rw[<-O];refine bW (α:=Nat) (fun n=>⟨au [8] (ab b) Z ((8,.int .i64 (n:Int))::Z),[.cells false 1 (sC L)],d⟩) (fun n=>L.length-n) (fun n=>n<=L.length/\uz L=uz (L.drop n)) (if uz L=0 then .exit 0 else .ret) _ d _ (by split<;>simp) ?_ K 0 ⟨by omega,by rw[List.drop_zero]⟩ (by omega);rintro n ⟨hn1,he⟩;clear O;subst y;by_cases X:n<L.length
 .obtain⟨s,W⟩:∃s,L[n]? =some s:=⟨L[n],GT X⟩
  have J:=Z7 W;have G:=H s (Lo W);have C:L.drop n=s::L.drop (n+1):=by rw[N4] at W;obtain⟨B,S⟩:=W;rw[<-S];exact N2 B
  rw[C,uz] at he;have w1:IntKind.i64.wrap ((n:Int)+1)=((n+1:Nat):Int):=by rw[ai];omega
  by_cases V:xz s=0
  .rw[if_pos V] at he
   left;obtain⟨v,A⟩:=xE (n+1);rw[<-A] at w1 he;refine⟨v,?_⟩;simp[h6,h7,X,af,aq,G,V,J,w1];exact⟨⟨by omega,he⟩,by omega⟩
  .rw[if_neg V] at he
   right;rw[he];simp[h6,h7,X,af,aq,G,V,J]
 .right
  have e:L.drop n=[]:=Mp (by omega);rw[e,uz] at he;rw[he];simp[h7,X]
theorem GH(L:List (List UInt8))(y:∀s∈L,s.length<=1000000000)(H:L.length<=1000000000):
  kO prog 32 [.slice 0 0 L.length none] [.cells false 1 (sC L)] (.int .i64 (uz L)) [.cells false 1 (sC L)]:=by
 have O:aS prog 32=some f32:=by kernel_rfl
 obtain⟨b,W⟩:∃b,ag f32=[b]:=⟨_,rfl⟩
 obtain⟨F,Z⟩:=yP (K:=L.length+1) L y H (by omega) W;simp[ag,aH,f32] at W;subst W;refine dx (lv:=(fun _=>[8])) (K:=(L.length+1)) cw ?_;by_cases hc:uz L=0
 .rw[if_pos hc] at Z
  have V:=fun X d h=>(Z X d h).1
  clear Z;simp[aa,O,f32,V,hc]
 .rw[if_neg hc] at Z
  have V:=fun X d h=>(Z X d h).1
  have S:=fun X d h=>(Z X d h).2 hc
  clear Z;simp[aa,O,f32,V,S]
theorem Au(M:Mem):kO prog 32 [.y9] M (.int .i64 0) M:=by
 have Z:aS prog 32=some f32:=by kernel_rfl
 refine dv (aj _) (lv:=fun _=>[8]) (K:=1) rfl rfl ?_ M;simp[aa,Z,f32,aR,fW]
def rT(Q:List Rat):List (List UInt8):=Q.map aB
def Bx(Q:List Rat)(s:Rat):Rat:=Q.foldl (·+·) s
def Ii:List Rat->Rat->Prop
 | [],s=>aga s
 |q::l,s=>aga s/\aga q/\Ii l (s+q)
section
variable (Q:List Rat)(hQ:Ii Q 0)(hl:Q.length<=1000000000)
include Q hQ hl
theorem Hw(H:Q.length<K){b:Code}(y:ag f114=[b]):
  ∃F:Env->Bool->Env,∀Z d,(ad Z 6=.slice 0 0 Q.length r/\ad Z 7=.int .i64 Q.length/\ad Z 8=.int .i64 0/\ad Z 3=.str [48])->
   aT (aU prog) (fun _=>[3,8]) (af aq) K 17 1 true (.loop b) ⟨Z,[.cells false es (sC (rT Q))],d⟩=some (.exit 0,⟨F Z d,[.cells false es (sC (rT Q))],d⟩)/\ad (F Z d) 3=.str (aB (Bx Q 0)):=by
 refine bG rfl (fun Z=>ad Z 6=.slice 0 0 Q.length r/\ad Z 7=.int .i64 Q.length/\ad Z 8=.int .i64 0/\ad Z 3=.str [48]) (fun _ S =>ad S 3=.str (aB (Bx Q 0))) ?_;rintro Z d ⟨h6,h7,h8,h3⟩;simp[ag,aH,f114] at y;have z:aB 0=[48]:=rfl;have V:au [3,8] (ab b) Z ((3,.str (aB (Bx (Q.take 0) 0)))::(8,.int .i64 ((0:Nat):Int))::Z)=au [3,8] (ab b) Z Z:=by simp[au,h8,h3,Bx,z]
 rw[<-V];refine bW (α:=Nat) (fun n=>⟨au [3,8] (ab b) Z ((3,.str (aB (Bx (Q.take n) 0)))::(8,.int .i64 (n:Int))::Z),[.cells false es (sC (rT Q))],d⟩) (fun n=>Q.length-n) (fun n=>n<=Q.length/\Ii (Q.drop n) (Bx (Q.take n) 0)) (.exit 0) _ d _ (by simp) ?_ K 0 ⟨by omega,by simpa [Bx] using hQ⟩ (by omega);rintro n ⟨hn1,he⟩;clear V;subst y;by_cases W:n<Q.length
 .obtain⟨q,hq⟩:∃s,Q[n]? =some s:=⟨Q[n],GT W⟩
  have O:(sC (rT Q))[n]? =some (.str (aB q)):=by simp[sC,rT,hq]
  have J:Q.drop n=q::Q.drop (n+1):=by rw[N4] at hq;obtain⟨G,D⟩:=hq;rw[<-D];exact N2 G
  have X:Bx (Q.take (n+1)) 0=Bx (Q.take n) 0+q:=by rw[List.take_add_one,hq];simp[Bx]
  rw[J,Ii,<-X] at he;obtain⟨⟨f1,f2⟩,⟨f3,f4⟩,he⟩:=he;have w1:IntKind.i64.wrap ((n:Int)+1)=((n+1:Nat):Int):=by rw[ai];omega
  left;obtain⟨v,C⟩:=xE (n+1);rw[<-C] at w1 he X;obtain⟨s,B⟩:=xE (Bx (Q.take n) 0);rw[<-B] at f1 f2 X |-;refine⟨v,?_⟩;simp[h6,h7,W,af,aq,aI,aw,f1,f2,f3,f4,O,w1,X];exact⟨⟨by omega,by rw[<-X];exact he⟩,by omega⟩
 .right
  have e:Q.take n=Q:=GE (by omega);rw[e];simp[h7,W]
theorem Rm:
  kO prog 114 [.slice 0 0 Q.length r] [.cells false es (sC (rT Q))] (.str (aB (Bx Q 0))) [.cells false es (sC (rT Q))]:=by
 have X:aS prog 114=some f114:=by kernel_rfl
 obtain⟨b,Z⟩:∃b,ag f114=[b]:=⟨_,rfl⟩
 obtain⟨F,W⟩:=Hw (es:=es) (r:=r) (K:=Q.length+1) Q hQ hl (by omega) Z;simp[ag,aH,f114] at Z;subst Z;refine dx (lv:=(fun _=>[3,8])) (K:=(Q.length+1)) cw ?_;simp[aa,X,f114,W]
theorem Rn:
  kO prog 114 [.slice 0 0 Q.length none] [.cells false 1 (sC (rT Q))] (.str (aB (Bx Q 0))) [.cells false 1 (sC (rT Q))]:=Rm Q hQ hl
end
def H6:List (List UInt8)->Option (List Rat)
 | []=>some []
 |k::l=>match eS k,H6 l with
  |some a,some r=>some (a::r)
  |_,_=>none
theorem Gc:∀{L:List (List UInt8)} {Q:List Rat},H6 L=some Q->L=rT Q
 | [],Q,h=>by cases h;rfl
 |k::L,Q,h=>by
  unfold H6 at h;split at h
  .rename_i a r Z h3
   cases h;rw[Gc h3,aA Z];rfl
  .cases h
open Classical in
noncomputable def iD:af3:=fun c Z M=>match c,Z with
 |.fn 32,[x]=>match po M x with
  |some L=>if (∀s∈L,s.length<=1000000000)/\L.length<=1000000000 then some ⟨.int .i64 (uz L),none,[]⟩ else none
  |none=>none
 |.fn 114,[x]=>match po M x with
  |some L=>match H6 L with
   |some Q=>if Ii Q 0/\Q≠[]/\Q.length<=1000000000 then some ⟨.str (aB (Bx Q 0)),none,[]⟩ else none
   |none=>none
  |none=>none
 |c,Z=>af aq c Z M
theorem gC:adM prog iD:=by
 refine cP fun c V M r h=>?_
 unfold iD at h;split at h
 .split at h
  .rename_i L X
   split at h
   .rename_i hc
    cases h;refine aC ?_;rw[List.append_nil];exact X6 (rest:=[]) rfl rfl X (GH L hc.1 hc.2) (fun Z=>by subst Z;exact Au M)
   .cases h
  .cases h
 .split at h
  .rename_i L X
   split at h
   .rename_i Q hQ
    split at h
    .rename_i hc
     cases h;refine aC ?_;rw[List.append_nil];have W:=Gc hQ;subst W;have:=Rn Q hc.1 hc.2.2;have S:(rT Q).length=Q.length:=by simp[rT]
     rw[<-S] at this;exact X6 (rest:=[]) rfl rfl X this (fun Z=>by
      cases Q with
      |nil=>exact absurd rfl hc.2.1
      |cons q Q=>cases Z)
    .cases h
   .cases h
  .cases h
 .exact fK cw h
theorem jK(a b c:List UInt8)(y:a.length<=1000000000)(H:b.length<=1000000000)(hc:c.length<=1000000000)(M:Mem):
  kO prog 14 [.agg [.str a,.str b,.str c]] M (.int .i64 (uz [a,b,c])) M:=by
 have Z:aS prog 14=some f14:=by kernel_rfl
 refine aD gC ?_ M;simp[aa,Z,f14,iD,po,qN,y,H,hc]
theorem oG(a b:List UInt8)(y:a.length<=1000000000)(H:b.length<=1000000000)(M:Mem):
  kO prog 105 [.agg [.str a,.str b]] M (.int .i64 (uz [a,b])) M:=by
 have Z:aS prog 105=some f105:=by kernel_rfl
 refine aD gC ?_ M;simp[aa,Z,f105,iD,po,qN,y,H]
abbrev V3:=Rat×Rat×Rat
def vA(v:V3):AV:=.agg [.str (aB v.1),.str (aB v.2.1),.str (aB v.2.2)]
def vDg(n:Nat)(v:V3):Prop:=dg n n v.1/\dg n n v.2.1/\dg n n v.2.2
def gm(a b:V3):Rat:=a.1*b.1+a.2.1*b.2.1+a.2.2*b.2.2
variable{q:Rat}
theorem dX{d:Nat}(h:dg n d q)(y:0<n)(hd:0<d)(h1:n<=40000)(h2:d<=40000):aga q:=by have:=h.lens y hd;exact⟨by omega,by omega⟩
theorem QW(a b:V3)(ha:vDg 3000 a)(hb:vDg 3000 b)(M:Mem):kO prog 73 [vA a,vA b] M (.str (aB (gm a b))) M:=by
 have hG:aS prog 73=some f73:=by kernel_rfl
 obtain⟨V,S,O⟩:=a;obtain⟨J,G,F⟩:=b;obtain⟨D,C,B⟩:=ha;obtain⟨A,z,u⟩:=hb;simp only at D C B A z u;have j:=Mq D A;have P2:=Mq C z;have Y:=Mq B u;have Z:dg 1 1 0:=⟨by decide,by decide⟩;have R:=P4 Z j (m:=6001) (by omega) (by omega);have Q:=P4 R P2 (m:=12003) (by omega) (by omega);have y:=P4 Q Y (m:=18004) (by omega) (by omega);have hs:Ii [V*J,S*G,O*F] 0:=
  ⟨dX Z (by omega) (by omega) (by omega) (by omega),dX j (by omega) (by omega) (by omega) (by omega),dX R (by omega) (by omega) (by omega) (by omega),dX P2 (by omega) (by omega) (by omega) (by omega),
   dX Q (by omega) (by omega) (by omega) (by omega),dX Y (by omega) (by omega) (by omega) (by omega),dX y (by omega) (by omega) (by omega) (by omega)⟩
 have X:Bx [V*J,S*G,O*F] 0=V*J+S*G+O*F:=by simp[Bx,Rat.zero_add]
 obtain⟨f1,f2⟩:=dX D (by omega) (by omega) (by omega) (by omega);obtain⟨f3,f4⟩:=dX C (by omega) (by omega) (by omega) (by omega);obtain⟨f5,f6⟩:=dX B (by omega) (by omega) (by omega) (by omega);obtain⟨g1,g2⟩:=dX A (by omega) (by omega) (by omega) (by omega);obtain⟨g3,g4⟩:=dX z (by omega) (by omega) (by omega) (by omega);obtain⟨g5,g6⟩:=dX u (by omega) (by omega) (by omega) (by omega);clear j P2 Y R Q y D C B A z u Z;unfold gm;simp only;obtain⟨p,hp⟩:=xE (V*J);obtain⟨q,hq⟩:=xE (S*G);obtain⟨r,hr⟩:=xE (O*F);rw[<-hp,<-hq,<-hr] at hs X |-;refine aD gC ?_ M;obtain⟨W,I⟩:∃W,aN f73=[W]:=⟨_,rfl⟩
 have PP:=jm I (l:=[0,1,0,4,15,0,32,0,128,511,0,1024,0,4096,16383,32767,65535,131071]) (by kernel_rfl);have H:OP [0,1,0,4,15,0,32,0,128,511,0,1024,0,4096,16383,32767,65535,131071] 18 15=true:=by decide
 simp[aN,cj,f73] at I;subst I;simp[aa,hG,f73,-aJ,mU PP,nU,uM,CY,dm,H,vA,iD,po,qN,H6,aw,af,aq,aI,f1,f2,f3,f4,f5,f6,g1,g2,g3,g4,g5,g6,<-hp,<-hq,<-hr,hs,X,Nat.testBit]
theorem M6:aB 0=[48]:=rfl
theorem kW{a b:Rat}(h:aB a=aB b):a=b:=by have:=aw a;rw[h,aw] at this;exact(QQb this).symm
theorem vR(h:dg 200 200 q):xz (aB q)=0:=by unfold xz;rw[aw];exact if_pos (h.lens (by decide) (by decide))
theorem U9(h:dg n n q)(h0:0<n)(h1:n<=40000):(aB q).length<=1000000000:=jZ (dX h h0 h0 h1 h1)
theorem NW(a b c:List UInt8)(M:Mem):kO prog 284 [.agg [.str a,.str b,.str c]] M (.bool (a==[48]&&b==[48]&&c==[48])) M:=by
 have Z:aS prog 284=some f284:=by kernel_rfl
 refine aD (aj _) ?_ M;cases h1:(a==[48])<;>cases h2:(b==[48])<;>cases h3:(c==[48])<;>simp[aa,Z,f284,h1,h2,h3]
noncomputable def so(f:FuncId)(args:List AV):Option AV:=
 match f,args with
 |14,[.agg [.str a,.str b,.str c]]=>if a.length<=1000000000/\b.length<=1000000000/\c.length<=1000000000 then some (.int .i64 (uz [a,b,c])) else none
 |105,[.agg [.str a,.str b]]=>if a.length<=1000000000/\b.length<=1000000000 then some (.int .i64 (uz [a,b])) else none
 |284,[.agg [.str a,.str b,.str c]]=>some (.bool (a==[48]&&b==[48]&&c==[48]))
 |73,[.agg [.str a,.str b,.str c],.agg [.str d,.str e,.str f]]=>match eS a,eS b,eS c,eS d,eS e,eS f with
  |some a,some b,some c,some d,some e,some f=>if (az a.num.natAbs).length<=2999/\(az a.den).length<=2999/\(az b.num.natAbs).length<=2999/\(az b.den).length<=2999/\(az c.num.natAbs).length<=2999/\(az c.den).length<=2999/\
    (az d.num.natAbs).length<=2999/\(az d.den).length<=2999/\(az e.num.natAbs).length<=2999/\(az e.den).length<=2999/\(az f.num.natAbs).length<=2999/\(az f.den).length<=2999 then some (.str (aB (a*d+b*e+c*f))) else none
  |_,_,_,_,_,_=>none
 |_,_=>none
theorem dE(h:(az q.num.natAbs).length<=n/\(az q.den).length<=n):dg n n q:=by have Z:=dC q.num.natAbs;have X:=dC q.den;have h3:10 ^ (az q.num.natAbs).length<=10 ^ n:=P1 (by omega) h.1;have W:10 ^ (az q.den).length<=10 ^ n:=P1 (by omega) h.2;exact⟨by omega,by omega⟩
theorem zD:adM prog (af so):=bX fun f V v h mem=>by
 unfold so at h;split at h
 .split at h
  next hc=>cases h;exact jK _ _ _ hc.1 hc.2.1 hc.2.2 mem
  .cases h
 .split at h
  next hc=>cases h;exact oG _ _ hc.1 hc.2 mem
  .cases h
 .cases h;exact NW _ _ _ mem
 .split at h
  .rename_i a b c d e f S O hc J he G
   split at h
   .rename_i F
    obtain⟨D,C,B,A,z,u,m,j,Y,Z,X,W⟩:=F;cases h;rw[aA S,aA O,aA hc,aA J,aA he,aA G];exact QW (a,b,c) (d,e,f) ⟨(dE ⟨D,C⟩).mono (by omega) (by omega),(dE ⟨B,A⟩).mono (by omega) (by omega),(dE ⟨z,u⟩).mono (by omega) (by omega)⟩
     ⟨(dE ⟨m,j⟩).mono (by omega) (by omega),(dE ⟨Y,Z⟩).mono (by omega) (by omega),(dE ⟨X,W⟩).mono (by omega) (by omega)⟩ mem
   .cases h
  .cases h
 .cases h
noncomputable def LR:af3:=af3.or (af so) iD
theorem LS:adM prog LR:=adM.or zD gC
theorem Ri(q:Rat)(y:(aB q).length<=1000000000)(mem:Mem):kO prog 258 [.str (aB q)] mem (.str (aB (-q))) mem:=by
 have X:aS prog 258=some f258:=by kernel_rfl
 refine aD (aj _) ?_ mem;by_cases Z:q=0
 .subst Z
  simp[aa,X,f258,bK]
 .have J:¬q.num=0:=fun e=>Z (Bv.1 e)
  by_cases S:q.num<0
  .have e:=qj S
   have W:(45::aB (-q)==[48])=false:=by rw[<-e,bK];simpa using Z
   rw[e];have h3:(1:Int)<=((aB (-q)).length:Int)+1:=by omega
   simp[aa,X,f258,W,h3]
  .have e:=tw (q:=q) (by omega)
   obtain⟨c,r,V,hc⟩:=tt (q:=q) (by omega);have W:(c::r==[48])=false:=by rw[<-V,bK];simpa using Z
   have O:=iE hc;rw[e,V];rw[V] at y;simp only[List.length_cons] at y;have h3:1+(r.length+1)<=9223372036854775807:=by omega
   simp[aa,X,f258,W,O,h3,ix]
noncomputable def oO(f:FuncId)(args:List AV):Option AV:=
 match f,args with
 |34,[.int .i64 n,.int .i64 d]=>if 0<d/\n.natAbs<10 ^ 8/\d.toNat<10 ^ 8 then some (.str (aB (mkRat n d.toNat))) else none
 |81,[.str s,.str t]=>match eS s,eS t with
  |some a,some b=>if (aB a).length<=9/\(aB b).length<=9 then some (.str (aB (a+b))) else none
  |_,_=>none
 |214,[.str s,.str t]=>match eS s,eS t with
  |some a,some b=>if (aB a).length<=9/\(aB b).length<=9 then some (.str (aB (a*b))) else none
  |_,_=>none
 |258,[.str s]=>match eS s with
  |some a=>if (aB a).length<=9 then some (.str (aB (-a))) else none
  |none=>none
 |_,_=>none
theorem vO:adM prog (af oO):=bX fun f W v h mem=>by
 unfold oO at h;split at h
 .rename_i n d
  split at h
  .rename_i hc
   cases h;have:=I7 n d.toNat (by omega) hc.2.1 hc.2.2 mem;rw[QQe (by omega)] at this;exact this
  .cases h
 .split at h
  .rename_i m n Z X
   split at h
   next hc=>cases h;rw[aA Z,aA X];exact Fh m n hc.1 hc.2 mem
   .cases h
  .cases h
 .split at h
  .rename_i m n Z X
   split at h
   next hc=>cases h;rw[aA Z,aA X];exact Rh m n hc.1 hc.2 mem
   .cases h
  .cases h
 .split at h
  .rename_i m Z
   split at h
   next hc=>cases h;rw[aA Z];exact Ri m (by omega) mem
   .cases h
  .cases h
 .cases h
theorem Rj(a b:Rat)(y:(aB a).length<=9)(H:(aB b).length<=9)(I:(aB (-b)).length<=9)(mem:Mem):
  kO prog 213 [.str (aB a),.str (aB b)] mem (.str (aB (a-b))) mem:=by
 have Z:aS prog 213=some f213:=by kernel_rfl
 refine aD vO ?_ mem;have e:a+ -b=a-b:=(Rat.sub_eq_add_neg a b).symm;simp[aa,Z,f213,af,oO,aw,y,H,I,e]
def zS(n:Int):List UInt8:=aB (n:Rat)
theorem gG{n:Int}(h:n.natAbs<10 ^ 4):(aB (n:Rat)).length<=9:=by
 have e:aB (n:Rat)=cf n:=by unfold aB;simp
 rw[e];have Z:=dz n;have X:(az n.natAbs).length<=4:=aV (by omega) h;omega
noncomputable def CH(f:FuncId)(args:List AV):Option AV:=
 match f,args with
 |213,[.str s,.str t]=>match eS s,eS t with
  |some a,some b=>if (aB a).length<=9/\(aB b).length<=9/\(aB (-b)).length<=9 then some (.str (aB (a-b))) else none
  |_,_=>none
 |f,args=>oO f args
theorem OH:adM prog (af CH):=bX fun f Z v h mem=>by
 unfold CH at h;split at h
 .split at h
  .rename_i m n X W
   split at h
   next hc=>cases h;rw[aA X,aA W];exact Rj m n hc.1 hc.2.1 hc.2.2 mem
   .cases h
  .cases h
 .have:=vO.fn _ _ mem ⟨v,none,[]⟩ (by unfold af;simp only;rw[h])
  simpa [afA.mem] using this
variable{a:Int}
theorem MR{b:Int}(y:a.natAbs<=30)(H:b.natAbs<=30):(a*b).natAbs<=900:=by rw[QXQ];exact Nat.mul_le_mul y H
theorem NL(a b c d:Int)(H:a.natAbs<=30)(I:b.natAbs<=30)(hc:c.natAbs<=30)(hd:d.natAbs<=30)(mem:Mem):
  kO prog 133 [.str (zS a),.str (zS b),.str (zS c),.str (zS d)] mem (.str (zS (a*d-b*c))) mem:=by
 have V:aS prog 133=some f133:=by kernel_rfl
 have S:=MR H hd;have O:=MR I hc;have Z:(a:Rat)*(d:Rat)=((a*d:Int):Rat):=(Rat.intCast_mul a d).symm;have X:(b:Rat)*(c:Rat)=((b*c:Int):Rat):=(Rat.intCast_mul b c).symm;obtain⟨x,J⟩:=xE (a*d);obtain⟨y,G⟩:=xE (b*c);rw[<-J] at S Z |-;rw[<-G] at O X |-;have W:(x:Rat)-(y:Rat)=((x-y:Int):Rat):=(Rat.intCast_sub x y).symm;obtain⟨z,F⟩:=xE (x-y);rw[<-F] at W |-;have D:=gG (n:=a) (by omega);have C:=gG (n:=b) (by omega);have B:=gG (n:=c) (by omega);have A:=gG (n:=d) (by omega);have u:=gG (n:=x) (by omega);have m:=gG (n:=y) (by omega);have j:(aB (-(y:Rat))).length<=9:=by rw[<-Rat.intCast_neg];exact gG (n:= -y) (by omega)
 refine aD OH ?_ mem;simp[aa,V,f133,af,CH,oO,zS,aw,D,C,B,A,u,m,j,Z,X,W]
abbrev Z3:=Int×Int×Int
def zA(v:Z3):AV:=.agg [.str (zS v.1),.str (zS v.2.1),.str (zS v.2.2)]
def fR(n:Nat)(v:Z3):Prop:=v.1.natAbs<=n/\v.2.1.natAbs<=n/\v.2.2.natAbs<=n
instance (n:Nat) (v:Z3):Decidable (fR n v):=inferInstanceAs (Decidable (v.1.natAbs<=n/\v.2.1.natAbs<=n/\v.2.2.natAbs<=n))
theorem cd{n:Int}(h0: -1000000<=n)(h1:n<=1000000):IntKind.i64.wrap n=n:=by rw[ai]
def lR(a b:Z3):Z3:=(a.2.1*b.2.2-a.2.2*b.2.1,a.2.2*b.1-a.1*b.2.2,a.1*b.2.1-a.2.1*b.1)
theorem ZK{b:Int}(h:zS a=zS b):a=b:=by
 have:=kW h
 exact_mod_cast this
theorem qv(n:Int):(zS n==[48])=decide (n=0):=by
 have Z:zS 0=[48]:=rfl;by_cases h:n=0
 .subst h;rfl
 .rw[decide_eq_false h]
  have:zS n≠[48]:=fun e=>h (ZK (e.trans Z.symm))
  simpa using this
def jt(v:Z3):Bool:=decide (v.1=0)&&decide (v.2.1=0)&&decide (v.2.2=0)
theorem NX(v:Z3)(mem:Mem):kO prog 79 [zA v] mem (.bool (jt v)) mem:=by
 have V:aS prog 79=some f79:=by kernel_rfl
 refine aD (aj _) ?_ mem;obtain⟨a,b,c⟩:=v;have Z:=qv a;have X:=qv b;have W:=qv c;unfold jt zA;simp only;obtain⟨A,S⟩:=xE (zS a);obtain⟨B,O⟩:=xE (zS b);obtain⟨C,J⟩:=xE (zS c);rw[<-S] at Z |-;rw[<-O] at X |-;rw[<-J] at W |-;rw[<-Z,<-X,<-W];cases h1:(A==[48])<;>cases h2:(B==[48])<;>cases h3:(C==[48])<;>simp[aa,V,f79,h1,h2,h3]
noncomputable def xp(f:FuncId)(args:List AV):Option AV:=
 match f,args with
 |133,[.str s,.str t,.str u,.str v]=>match eS s,eS t,eS u,eS v with
  |some a,some b,some c,some d=>if (a.den=1/\b.den=1/\c.den=1/\d.den=1)/\a.num.natAbs<=30/\b.num.natAbs<=30/\c.num.natAbs<=30/\d.num.natAbs<=30 then some (.str (zS (a.num*d.num-b.num*c.num))) else none
  |_,_,_,_=>none
 |_,_=>none
theorem iS(h:q.den=1):q=(q.num:Rat):=Rat.ext rfl h
theorem CF:adM prog (af xp):=bX fun f Z v h mem=>by
 unfold xp at h;split at h
 .split at h
  .rename_i a b c d X W hc V
   split at h
   .rename_i S
    obtain⟨⟨d1,d2,d3,d4⟩,O,J,G,F⟩:=S;cases h;rw[aA X,aA W,aA hc,aA V];have:=NL a.num b.num c.num d.num O J G F mem;unfold zS at this |-;rw[<-iS d1,<-iS d2,<-iS d3,<-iS d4] at this;exact this
   .cases h
  .cases h
 .cases h
theorem IC(a b:Z3)(y:fR 30 a)(hb:fR 30 b)(mem:Mem):kO prog 82 [zA a,zA b] mem (zA (lR a b)) mem:=by
 have hG:aS prog 82=some f82:=by kernel_rfl
 obtain⟨W,V,S⟩:=a;obtain⟨O,J,G⟩:=b;obtain⟨C,B,h3⟩:=y;obtain⟨A,z,u⟩:=hb;simp only at C B h3 A z u;refine aD CF ?_ mem;obtain⟨X,F⟩:∃X,aN f82=[X]:=⟨_,rfl⟩
 obtain⟨PP,D⟩:=jO F (l:=[0,1,0,4,0,16,0,64,255,0,512,0,2048,0,8192,0,32768,131071,0,262144,0,1048576,0,4194304,0,16777216,67108863,134217727,268435455]) (j:=28) (by kernel_rfl) (by decide);simp[aN,cj,f82] at F;subst F;have Z:∀n:Int,eS (zS n)=some (n:Rat):=fun n=>aw _
 unfold zA lR;simp only;obtain⟨A1,m⟩:=xE (zS W);obtain⟨A2,Y⟩:=xE (zS V);obtain⟨A3,R⟩:=xE (zS S);obtain⟨B1,Q⟩:=xE (zS O);obtain⟨B2,I⟩:=xE (zS J);obtain⟨B3,H⟩:=xE (zS G);have p1:eS A1=some (W:Rat):=by rw[m];exact Z _
 have p2:eS A2=some (V:Rat):=by rw[Y];exact Z _
 have p3:eS A3=some (S:Rat):=by rw[R];exact Z _
 have p4:eS B1=some (O:Rat):=by rw[Q];exact Z _
 have p5:eS B2=some (J:Rat):=by rw[I];exact Z _
 have p6:eS B3=some (G:Rat):=by rw[H];exact Z _
 rw[<-m,<-Y,<-R,<-Q,<-I,<-H];obtain⟨C1,f1⟩:=xE (zS (V*G-S*J));obtain⟨C2,f2⟩:=xE (zS (S*O-W*G));obtain⟨C3,f3⟩:=xE (zS (W*J-V*O));rw[<-f1,<-f2,<-f3];simp[aa,hG,f82,-aJ,ak PP,bt,bj,bp,D,af,xp,p1,p2,p3,p4,p5,p6,C,B,h3,A,z,u,<-f1,<-f2,<-f3,bZ,aF,Nat.testBit]
theorem Vg(n:Int):mkRat n 1=(n:Rat):=by have:=Rat.mkRat_self (n:Rat);exact this
theorem IP(n:Int)(y:n.natAbs<10 ^ 8)(mem:Mem):kO prog 44 [.int .i64 n] mem (.str (zS n)) mem:=by
 have Z:aS prog 44=some f44:=by kernel_rfl
 refine aD vO ?_ mem;have h:n.natAbs<100000000:=y;have e:=Vg n;simp[aa,Z,f44,af,oO,h,e,zS]
noncomputable def wY(f:FuncId)(args:List AV):Option AV:=
 match f,args with
 |44,[.int .i64 n]=>if n.natAbs<10 ^ 8 then some (.str (zS n)) else none
 |_,_=>none
theorem Ck:adM prog (af wY):=bX fun f Z v h mem=>by
 unfold wY at h;split at h
 .split at h
  next hc=>cases h;exact IP _ hc mem
  .cases h
 .cases h
theorem BV(v:Z3)(y:fR 10000 v)(mem:Mem):kO prog 25 [.int .i64 v.1,.int .i64 v.2.1,.int .i64 v.2.2] mem (zA v) mem:=by
 have Z:aS prog 25=some f25:=by kernel_rfl
 refine aD Ck ?_ mem;obtain⟨a,b,c⟩:=v;obtain⟨X,W,h3⟩:=y;simp only at X W h3;have V:a.natAbs<100000000:=by omega
 have S:b.natAbs<100000000:=by omega
 have g3:c.natAbs<100000000:=by omega
 simp[aa,Z,f25,af,wY,zA,V,S,g3,bZ,aF]
def uO(v:Z3):Z3:=(v.1.tmod 3,v.2.1.tmod 3,v.2.2.tmod 3)
def bQ(v:Z3):Z3:=if jt (uO v) then (0,0,1) else uO v
def fx(n b:Z3):Z3:=if jt (lR n b) then (if jt (lR n (1,0,0)) then (if jt (lR n (0,1,0)) then (0,0,0) else lR n (0,1,0)) else lR n (1,0,0)) else lR n b
theorem YU(x:Int): -2<=x.tmod 3/\x.tmod 3<=2:=by
 have Z:=Int.tmod_lt_of_pos x (show(0:Int)<3 by decide);have X: -3<x.tmod 3:=by have:=Int.tmod_lt_of_pos (-x) (show(0:Int)<3 by decide);rw[Int.neg_tmod] at this;omega
 omega
theorem iq(v:Z3):fR 2 (uO v):=by obtain⟨a,b,c⟩:=v;have Z:=YU a;have X:=YU b;have h3:=YU c;unfold fR uO;simp only;omega
theorem cL(v:Z3):fR 2 (bQ v):=by
 unfold bQ;split
 .exact⟨by decide,by decide,by decide⟩
 .exact iq v
theorem mj(v:Z3):jt (bQ v)=false:=by
 unfold bQ;split
 .rfl
 next h=>simpa using h
noncomputable def lg(f:FuncId)(args:List AV):Option AV:=
 match f,args with
 |25,[.int .i64 a,.int .i64 b,.int .i64 c]=>if a.natAbs<=10000/\b.natAbs<=10000/\c.natAbs<=10000 then some (zA (a,b,c)) else none
 |79,[.agg [.str s,.str t,.str u]]=>match eS s,eS t,eS u with
  |some a,some b,some c=>if a.den=1/\b.den=1/\c.den=1 then some (.bool (jt (a.num,b.num,c.num))) else none
  |_,_,_=>none
 |82,[.agg [.str s,.str t,.str u],.agg [.str s',.str t',.str u']]=>match eS s,eS t,eS u,eS s',eS t',eS u' with
  |some a,some b,some c,some d,some e,some f=>if (a.den=1/\b.den=1/\c.den=1/\d.den=1/\e.den=1/\f.den=1)/\fR 30 (a.num,b.num,c.num)/\fR 30 (d.num,e.num,f.num) then some (zA (lR (a.num,b.num,c.num) (d.num,e.num,f.num))) else none
  |_,_,_,_,_,_=>none
 |f,args=>wY f args
theorem Cl:adM prog (af lg):=bX fun f V v h mem=>by
 unfold lg at h;split at h
 .split at h
  next hc=>cases h;exact BV (_,_,_) hc mem
  .cases h
 .split at h
  .rename_i a b c Z X hc
   split at h
   .rename_i W
    obtain⟨d1,d2,d3⟩:=W;cases h;rw[aA Z,aA X,aA hc];have:=NX (a.num,b.num,c.num) mem;unfold zA zS at this;simp only at this;rw[<-iS d1,<-iS d2,<-iS d3] at this;exact this
   .cases h
  .cases h
 .split at h
  .rename_i a b c d e f Z X hc S he O
   split at h
   .rename_i W
    obtain⟨⟨d1,d2,d3,d4,d5,d6⟩,J,G⟩:=W;cases h;rw[aA Z,aA X,aA hc,aA S,aA he,aA O];have:=IC (a.num,b.num,c.num) (d.num,e.num,f.num) J G mem;unfold zA at this;simp only at this;have k:∀q:Rat,q.den=1->zS q.num=aB q:=fun q hq=>by unfold zS;rw[<-iS hq]
    rw[k a d1,k b d2,k c d3,k d d4,k e d5,k f d6] at this;exact this
   .cases h
  .cases h
 .have:=Ck.fn _ _ mem ⟨v,none,[]⟩ (by unfold af;simp only;rw[h])
  simpa [afA.mem] using this
theorem jf(n:Int):eS (zS n)=some (n:Rat):=aw _
theorem aao:zS 1=[49]:=rfl
theorem GB(v:Z3)(H:fR 200 v)(mem:Mem):kO prog 46 [.agg [.int .i8 v.1,.int .i8 v.2.1,.int .i8 v.2.2]] mem (zA (bQ v)) mem:=by
 have D:aS prog 46=some f46:=by kernel_rfl
 refine aD Cl ?_ mem;have X:=iq v;unfold bQ;obtain⟨a,b,c⟩:=v;obtain⟨u,m,h3⟩:=H;unfold uO at X |-;simp only at u m h3 X |-;have C:IntKind.i64.wrap a=a:=cd (by omega) (by omega);have B:IntKind.i64.wrap b=b:=cd (by omega) (by omega);have A:IntKind.i64.wrap c=c:=cd (by omega) (by omega);obtain⟨x,W⟩:=xE (a.tmod 3);obtain⟨y,V⟩:=xE (b.tmod 3);obtain⟨z,S⟩:=xE (c.tmod 3);rw[<-W,<-V,<-S] at X |-;obtain⟨j,Y,g3⟩:=X;simp only at j Y g3;have O :x.natAbs<=10000:=by omega
 have J :y.natAbs<=10000:=by omega
 have G :z.natAbs<=10000:=by omega
 have R:=jf x;have Q:=jf y;have I:=jf z;have e0:zS 0=[48]:=rfl;cases hzero:jt (x,y,z) with
 |true=>
  have Z:=hzero;unfold jt at Z;simp only[Es,L0] at Z;obtain⟨⟨rfl,rfl⟩,rfl⟩:=Z;have F:eS [48]=some ((0:Int):Rat):=jf 0;simp[aa,D,f46,af,lg,C,B,A,<-W,<-V,<-S,zA,hzero,e0,aao,F]
 |false=>
  simp[aa,D,f46,af,lg,C,B,A,<-W,<-V,<-S,zA,O,J,G,R,Q,I,hzero]
theorem oW{a b:Z3}(H:fR 2 a)(I:fR 2 b):fR 8 (lR a b):=by
 obtain⟨O,J,G⟩:=a;obtain⟨F,D,C⟩:=b;obtain⟨Z,X,h3⟩:=H;obtain⟨W,V,S⟩:=I;simp only at Z X h3 W V S;have m:∀x y:Int,x.natAbs<=2->y.natAbs<=2->(x*y).natAbs<=4:=fun x y B A=>by rw[QXQ];exact Nat.mul_le_mul B A
 unfold lR fR;simp only;have z:=m J C X S;have u:=m G D h3 V;have j:=m G F h3 W;have Y:=m O C Z S;have R:=m O D Z V;have Q:=m J F X W;omega
theorem GA(n b:Z3)(y:fR 2 n)(H:fR 2 b)(mem:Mem):kO prog 48 [zA n,zA b] mem (zA (fx n b)) mem:=by
 have O:aS prog 48=some f48:=by kernel_rfl
 refine dv Cl (lv:=fun _=>[13]) (K:=9) rfl rfl ?_ mem;have z:fR 2 (1,0,0):=by decide
 have u:fR 2 (0,1,0):=by decide
 have c1:=oW y H;have c2:=oW y z;have c3:=oW y u;have Z:fR 30 n:=⟨by have:=y.1;omega,by have:=y.2.1;omega,by have:=y.2.2;omega⟩;have X:fR 30 b:=⟨by have:=H.1;omega,by have:=H.2.1;omega,by have:=H.2.2;omega⟩;have W:fR 30 (1,0,0):=by decide
 have V:fR 30 (0,1,0):=by decide
 unfold fx;obtain⟨m,S⟩:=xE (lR n b);obtain⟨j,J⟩:=xE (lR n (1,0,0));obtain⟨Y,C⟩:=xE (lR n (0,1,0));rw[<-S,<-J,<-C];obtain⟨n1,n2,n3⟩:=n;obtain⟨b1,b2,b3⟩:=b;obtain⟨R,Q,I⟩:=m;obtain⟨q1,q2,q3⟩:=j;obtain⟨r1,r2,r3⟩:=Y;have G:zS 0=[48]:=rfl;have F:zS 1=[49]:=rfl;have B:eS [48]=some ((0:Int):Rat):=jf 0;have A:eS [49]=some ((1:Int):Rat):=jf 1;have w2' :IntKind.i64.wrap (1+1)=2:=rfl;have w3' :IntKind.i64.wrap (2+1)=3:=rfl;have D:=jf;cases y1:jt (R,Q,I) with
 |false=>
  simp[aa,O,f48,af,lg,zA,D,G,F,Z,X,<-S,y1,aR,fW,Nat.testBit]
 |true=>
  cases y2:jt (q1,q2,q3) with
  |false=>
   simp[aa,O,f48,af,lg,zA,D,B,A,G,F,Z,X,W,<-S,<-J,y1,y2,aR,fW,w1,Nat.testBit]
  |true=>
   cases y3:jt (r1,r2,r3) with
   |false=>
    simp[aa,O,f48,af,lg,zA,D,B,A,G,F,Z,X,W,V,<-S,<-J,<-C,y1,y2,y3,aR,fW,w1,w2,Nat.testBit]
   |true=>
    simp[aa,O,f48,af,lg,zA,D,B,A,G,F,Z,X,W,V,<-S,<-J,<-C,y1,y2,y3,aR,fW,w1,w2,w3,Nat.testBit]
def Iq(a b:Z3):Int:=a.1*b.1+a.2.1*b.2.1+a.2.2*b.2.2
theorem C9(n b:Z3):Iq (lR n b) n=0:=by
 obtain⟨Z,X,W⟩:=n;obtain⟨V,S,O⟩:=b;unfold Iq lR;simp only
 grind
theorem tV(n b:Z3):Iq (fx n b) n=0:=by
 unfold fx;split
 .split
  .split
   .simp[Iq]
   .exact C9 _ _
  .exact C9 _ _
 .exact C9 _ _
theorem mh{n b:Z3}(y:fR 2 n)(H:fR 2 b):fR 8 (fx n b):=by
 unfold fx;split
 .split
  .split
   .decide
   .exact oW y (by decide)
  .exact oW y (by decide)
 .exact oW y H
theorem YD{k:Nat}(h:k<10 ^ 4)(m:Nat)(y:4<=m):(az k).length<=m:=by have:=aV (k:=4) (u:=k) (by omega) h;omega
theorem XI{n:Int}(h:n.natAbs<10 ^ 4):xz (zS n)=0:=by have:dg 4 1 (n:Rat):=Za h;exact vR (this.mono (by omega) (by omega))
theorem XW{v:Z3}(h:fR 1000 v):uz [zS v.1,zS v.2.1,zS v.2.2]=0:=by obtain⟨Z,X,h3⟩:=h;simp[uz,XI (n:=v.1) (by omega),XI (n:=v.2.1) (by omega),XI (n:=v.2.2) (by omega)]
theorem BA(v n:Z3)(y:fR 1000 v)(H:fR 1000 n)(hd:Iq v n=0)(M:Mem):kO prog 255 [zA v,zA n] M (.int .i64 0) M:=by
 have z:aS prog 255=some f255:=by kernel_rfl
 have G:=XW y;obtain⟨Z,X,W⟩:=v;obtain⟨u,j,Y⟩:=n;obtain⟨F,D,h3⟩:=y;obtain⟨C,B,A⟩:=H;simp only at F D h3 C B A G;have k:∀m:Nat,m<=1000->(az m).length<=2999:=fun m hm=>YD (by omega) 2999 (by omega)
 have R:=k 1 (by omega);have Q:=k _ F;have I:=k _ D;have l3:=k _ h3;have l4:=k _ C;have l5:=k _ B;have l6:=k _ A;have s1:=gG (n:=Z) (by omega);have s2:=gG (n:=X) (by omega);have s3:=gG (n:=W) (by omega);have V :(zS Z).length<=1000000000:=by unfold zS;omega
 have S :(zS X).length<=1000000000:=by unfold zS;omega
 have O :(zS W).length<=1000000000:=by unfold zS;omega
 have J:(Z:Rat)*(u:Rat)+(X:Rat)*(j:Rat)+(W:Rat)*(Y:Rat)=0:=by unfold Iq at hd;simp only at hd;rw[<-Rat.intCast_mul,<-Rat.intCast_mul,<-Rat.intCast_mul,<-Rat.intCast_add,<-Rat.intCast_add,hd];rfl
 have hp:=jf;have z0:aB 0=[48]:=rfl;refine aD zD ?_ M;simp[aa,z,f255,af,so,zA,hp,G,R,Q,I,l3,l4,l5,l6,V,S,O,J,z0]
theorem qA(n:Z3)(o:Int)(y:fR 1000 n)(H:jt n=false)(ho:o.natAbs<=1000)(M:Mem):kO prog 254 [.agg [.str (zS n.1),.str (zS n.2.1),.str (zS n.2.2),.str (zS o)]] M (.int .i64 0) M:=by
 have z:aS prog 254=some f254:=by kernel_rfl
 obtain⟨Z,X,W⟩:=n;obtain⟨u,m,j⟩:=y;simp only at u m j;have s1:=gG (n:=Z) (by omega);have s2:=gG (n:=X) (by omega);have s3:=gG (n:=W) (by omega);have s4:=gG (n:=o) (by omega);have V :(zS Z).length<=1000000000:=by unfold zS;omega
 have S :(zS X).length<=1000000000:=by unfold zS;omega
 have O :(zS W).length<=1000000000:=by unfold zS;omega
 have J :(zS o).length<=1000000000:=by unfold zS;omega
 have G:uz [zS Z,zS X,zS W,zS o]=0:=by simp[uz,XI (n:=Z) (by omega),XI (n:=X) (by omega),XI (n:=W) (by omega),XI (n:=o) (by omega)]
 have Y:=qv Z;have R:=qv X;have Q:=qv W;have F:((zS Z==[48]&&zS X==[48])&&zS W==[48])=false:=by rw[Y,R,Q];exact H
 refine aD LS ?_ M;simp only at F |-;obtain⟨A,I⟩:=xE (zS Z);obtain⟨B,hB⟩:=xE (zS X);obtain⟨C,hC⟩:=xE (zS W);obtain⟨D,hD⟩:=xE (zS o);rw[<-I] at V G F |-;rw[<-hB] at S G F |-;rw[<-hC] at O G F |-;rw[<-hD] at J G |-;simp[aa,z,f254,LR,af3.or,af,so,iD,po,qN,G,F,V,S,O,J]
end Go.Proofs
