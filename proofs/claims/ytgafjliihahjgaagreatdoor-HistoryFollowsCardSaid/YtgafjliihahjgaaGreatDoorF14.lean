/- See F54. -/
import Derived.Test.YtgafjliihahjgaaGreatDoorF09
import Derived.Test.YtgafjliihahjgaaGreatDoorF11
import Derived.Test.YtgafjliihahjgaaGreatDoorF05
set_option linter.all false
set_option maxRecDepth 100000
set_option maxHeartbeats 40000000
namespace Go.Proofs
open Go.Eng
open Tryz
variable{M:Mem}{b es:Nat}{cs l:List AV}{o:Bool}
theorem ZO{ks:List Nat}(hc:AV.ae0 cs=true)(h:M[b]? =some (.cells o es l))(A:l.take cs.length=cs):tI ks M b (.cells false es cs):=by
 refine⟨cI hc,o,l,h,fun j v X=>?_⟩;have V:=gL X;have e:l[j]? =cs[j]? :=by rw[←List.getElem?_take_of_lt V,A]
 have W:=ca (ρ:=dL ks M.length) hc;rw[gb] at W;have Z:(cs.map (AV.ren (dL ks M.length)))[j]? =cs[j]? :=by rw[W]
 rw[List.getElem?_map,X] at Z;rw[e,X];exact Z.symm
variable{v:AV}
theorem O6{f:Nat→Option Nat}(h:v.closed=true):v.ren f=v:=by have:=ca (vs:=[v]) (ρ:=f) (by simp[AV.ae0,h]);simpa [AV.ae3] using this
variable{P:Program}{f:FuncId}{n:Nat}{rest:List AV}
theorem af3(hc:AV.ae0 cs=true)(A:AV.ae0 rest=true)(H:v.closed=true)(G:M[b]? =some (.cells o es l))(I:l.take cs.length=cs)(h:kO P f (.slice 0 0 n none::rest) [.cells false es cs] v [.cells false es cs]):kO P f (.slice b 0 n none::rest) M v M:=by
 have X:=gL G;have hu:AV.afa [b].length (.slice 0 0 n none::rest)=true:=by
  show(decide (0<1)&&AV.afa 1 rest)=true
  rw[cI A];rfl
 have:=kO.frame (M:=M) (new:=[]) [b] (m:=[.cells false es cs]) rfl (by simpa using X) hu (fun i s Z=>by
  cases i with
  |zero=>simp at Z;subst Z;exact ZO hc G I
  |succ i=>simp at Z) rfl (by simpa using h)
 simpa [AV.ae3,AV.ren,dL,ca A,O6 H] using this
def sC(L:List (List UInt8)):List AV:=L.map .str
theorem MA(L:List (List UInt8)):(sC L).length=L.length:=by simp[sC]
theorem CG:∀L:List (List UInt8),AV.ae0 (sC L)=true
 | []=>rfl
 |s::L=>by simp[sC,AV.ae0,AV.closed];exact CG L
def nS:List AV→Option (List (List UInt8))
 | []=>some []
 |.str a::l=>match nS l with
  |some r=>some (a::r)
  |none=>none
 |_=>none
theorem uR:∀{cs:List AV}{L:List (List UInt8)},nS cs=some L→cs=sC L
 | [],L,h=>by cases h;rfl
 |v::l,L,h=>by
  unfold nS at h;split at h
  next Z=>cases Z
  ·rename_i Z
   cases Z;split at h
   ·rename_i r X
    cases h;rw[uR X];rfl
   ·cases h
  ·cases h
def nQ(M:Mem):AV→Option (List (List UInt8))
 |.slice b 0 n none=>match M[b]? with
  |some (.cells _ 1 cs)=>if n≤cs.length then nS (cs.take n) else none
  |_=>none
 |.y9=>some []
 |_=>none
variable{L:List (List UInt8)}{x:AV}
theorem Pe(h:nQ M x=some L):(∃b o l,x=.slice b 0 L.length none∧M[b]? =some (.cells o 1 l)∧l.take L.length=sC L)∨(x=.y9∧L=[]):=by
 unfold nQ at h;split at h
 ·rename_i b n
  split at h
  ·rename_i o cs X
   split at h
   ·rename_i V
    have Z:=uR h;have W:n=L.length:=by have:=congrArg List.length Z;rw[MA,List.length_take] at this;omega
    subst W;exact .inl ⟨b,o,cs,rfl,X,Z⟩
   ·cases h
  ·cases h
 ·cases h;exact .inr ⟨rfl,rfl⟩
 ·cases h
theorem XF(A:AV.ae0 rest=true)(G:v.closed=true)(H:nQ M x=some L)(h:kO P f (.slice 0 0 L.length none::rest) [.cells false 1 (sC L)] v [.cells false 1 (sC L)])(h0:L=[]→kO P f (.y9::rest) M v M):kO P f (x::rest) M v M:=by
 rcases Pe H with⟨b,o,l,rfl,Z,X⟩ | ⟨rfl,W⟩
 ·exact af3 (CG L) A G Z (by rw[MA];exact X) h
 ·exact h0 W
theorem ZN{i:Nat}{s:List UInt8}(h:L[i]? =some s):(sC L)[i]? =some (.str s):=by simp[sC,h]
def sw:List (List UInt8)→Int
 | []=>0
 |s::l=>if xv s=0 then sw l else xv s
variable{K:Nat}
theorem xk(L:List (List UInt8))(G:∀s∈L,s.length≤18)(H:L.length≤1000000000)(I:L.length<K){b:Code}(A:ai f32=[b]):
  ∃F:Env→Bool→Env,∀Z d,(ad Z 6=.slice 0 0 L.length none∧ad Z 7=.int .i64 L.length∧ad Z 8=.int .i64 0∧ad Z 2=.int .i64 0)→
   aM (aN prog) (fun _=>[8]) (af aj) K 18 1 true (.loop b) ⟨Z,[.cells false 1 (sC L)],d⟩=some (if sw L=0 then .exit 0 else .ret,⟨F Z d,[.cells false 1 (sC L)],d⟩)∧(sw L≠0→ad (F Z d) 2=.int .i64 (sw L)):=by
 refine cD rfl (fun Z=>ad Z 6=.slice 0 0 L.length none∧ad Z 7=.int .i64 L.length∧ad Z 8=.int .i64 0∧ad Z 2=.int .i64 0) (fun _ C =>sw L≠0→ad C 2=.int .i64 (sw L)) ?_;rintro Z d ⟨h6,h7,h8,S⟩;simp[ai,aG,f32] at A;have O:aD [8] (ab b) Z ((8,.int .i64 ((0:Nat):Int))::Z)=aD [8] (ab b) Z Z:=by simp[aD,h8]
 rw[←O];refine dh (α:=Nat) (fun n=>⟨aD [8] (ab b) Z ((8,.int .i64 (n:Int))::Z),[.cells false 1 (sC L)],d⟩) (fun n=>L.length-n) (fun n=>n≤L.length∧sw L=sw (L.drop n)) (if sw L=0 then .exit 0 else .ret) _ d _ (by split<;>simp) ?_ K 0 ⟨by omega,by rw[List.drop_zero]⟩ (by omega);rintro n ⟨hn1,he⟩;clear O;subst A;by_cases X:n<L.length
 ·obtain⟨s,W⟩:∃s,L[n]? =some s:=⟨L[n],List.getElem?_eq_getElem X⟩
  have J:=ZN W;have D:=G s (List.mem_of_getElem? W);have B:L.drop n=s::L.drop (n+1):=by rw[List.getElem?_eq_some_iff] at W;obtain⟨z,S⟩:=W;rw[←S];exact List.drop_eq_getElem_cons z
  rw[B,sw] at he;have w1:IntKind.i64.wrap ((n:Int)+1)=((n+1:Nat):Int):=by rw[aq];omega
  by_cases V:xv s=0
  ·rw[if_pos V] at he
   left;obtain⟨v,u⟩:=xE (n+1);rw[←u] at w1 he;refine⟨v,?_⟩;simp[h6,h7,X,af,aj,D,V,J,w1];exact⟨⟨by omega,he⟩,by omega⟩
  ·rw[if_neg V] at he
   right;rw[he];simp[h6,h7,X,af,aj,D,V,J]
 ·right
  have e:L.drop n=[]:=List.drop_of_length_le (by omega);rw[e,sw] at he;rw[he];simp[h7,X]
theorem Fk(L:List (List UInt8))(A:∀s∈L,s.length≤18)(G:L.length≤1000000000):
  kO prog 32 [.slice 0 0 L.length none] [.cells false 1 (sC L)] (.int .i64 (sw L)) [.cells false 1 (sC L)]:=by
 have O:aK prog 32=some f32:=by kernel_rfl
 obtain⟨b,W⟩:∃b,ai f32=[b]:=⟨_,rfl⟩
 obtain⟨F,Z⟩:=xk (K:=L.length+1) L A G (by omega) W;simp[ai,aG,f32] at W;subst W;refine cR (lv:=(fun _=>[8])) (K:=(L.length+1)) bj ?_;by_cases hc:sw L=0
 ·rw[if_pos hc] at Z
  have V:=fun X d h=>(Z X d h).1
  clear Z;simp[aa,O,f32,V,hc]
 ·rw[if_neg hc] at Z
  have V:=fun X d h=>(Z X d h).1
  have S:=fun X d h=>(Z X d h).2 hc
  clear Z;simp[aa,O,f32,V,S]
theorem zl(M:Mem):kO prog 32 [.y9] M (.int .i64 0) M:=by
 have Z:aK prog 32=some f32:=by kernel_rfl
 refine cV (al _) (lv:=fun _=>[8]) (K:=1) rfl rfl ?_ M;simp[aa,Z,f32,aQ,er]
def rT(Q:List Rat):List (List UInt8):=Q.map ak
def CO(Q:List Rat)(s:Rat):Rat:=Q.foldl (·+·) s
def MD:List Rat→Rat→Prop
 | [],_=>True
 |q::l,s=>aeZ s∧aeZ q∧MD l (s+q)
section
variable (Q:List Rat)(hQ:MD Q 0)(hl:Q.length≤1000000000)
include Q hQ hl
theorem Gp(G:Q.length<K){b:Code}(A:ai f114=[b]):
  ∃F:Env→Bool→Env,∀Z d,(ad Z 6=.slice 0 0 Q.length none∧ad Z 7=.int .i64 Q.length∧ad Z 8=.int .i64 0∧ad Z 3=.str [48])→
   aM (aN prog) (fun _=>[3,8]) (af aj) K 17 1 true (.loop b) ⟨Z,[.cells false 1 (sC (rT Q))],d⟩=some (.exit 0,⟨F Z d,[.cells false 1 (sC (rT Q))],d⟩)∧ad (F Z d) 3=.str (ak (CO Q 0)):=by
 refine cD rfl (fun Z=>ad Z 6=.slice 0 0 Q.length none∧ad Z 7=.int .i64 Q.length∧ad Z 8=.int .i64 0∧ad Z 3=.str [48]) (fun _ S =>ad S 3=.str (ak (CO Q 0))) ?_;rintro Z d ⟨h6,h7,h8,h3⟩;simp[ai,aG,f114] at A;have z:ak 0=[48]:=rfl;have V:aD [3,8] (ab b) Z ((3,.str (ak (CO (Q.take 0) 0)))::(8,.int .i64 ((0:Nat):Int))::Z)=aD [3,8] (ab b) Z Z:=by simp[aD,h8,h3,CO,z]
 rw[←V];refine dh (α:=Nat) (fun n=>⟨aD [3,8] (ab b) Z ((3,.str (ak (CO (Q.take n) 0)))::(8,.int .i64 (n:Int))::Z),[.cells false 1 (sC (rT Q))],d⟩) (fun n=>Q.length-n) (fun n=>n≤Q.length∧MD (Q.drop n) (CO (Q.take n) 0)) (.exit 0) _ d _ (by simp) ?_ K 0 ⟨by omega,by simpa [CO] using hQ⟩ (by omega);rintro n ⟨hn1,he⟩;clear V;subst A;by_cases W:n<Q.length
 ·obtain⟨q,hq⟩:∃s,Q[n]? =some s:=⟨Q[n],List.getElem?_eq_getElem W⟩
  have O:(sC (rT Q))[n]? =some (.str (ak q)):=by simp[sC,rT,hq]
  have J:Q.drop n=q::Q.drop (n+1):=by rw[List.getElem?_eq_some_iff] at hq;obtain⟨D,C⟩:=hq;rw[←C];exact List.drop_eq_getElem_cons D
  have X:CO (Q.take (n+1)) 0=CO (Q.take n) 0+q:=by rw[List.take_add_one,hq];simp[CO]
  rw[J,MD,←X] at he;obtain⟨⟨f1,f2⟩,⟨f3,f4⟩,he⟩:=he;have w1:IntKind.i64.wrap ((n:Int)+1)=((n+1:Nat):Int):=by rw[aq];omega
  left;obtain⟨v,B⟩:=xE (n+1);rw[←B] at w1 he X;obtain⟨s,u⟩:=xE (CO (Q.take n) 0);rw[←u] at f1 f2 X ⊢;refine⟨v,?_⟩;simp[h6,h7,W,af,aj,az,ao,f1,f2,f3,f4,O,w1,X];exact⟨⟨by omega,by rw[←X];exact he⟩,by omega⟩
 ·right
  have e:Q.take n=Q:=List.take_of_length_le (by omega);rw[e];simp[h7,W]
theorem QO:
  kO prog 114 [.slice 0 0 Q.length none] [.cells false 1 (sC (rT Q))] (.str (ak (CO Q 0))) [.cells false 1 (sC (rT Q))]:=by
 have X:aK prog 114=some f114:=by kernel_rfl
 obtain⟨b,Z⟩:∃b,ai f114=[b]:=⟨_,rfl⟩
 obtain⟨F,W⟩:=Gp (K:=Q.length+1) Q hQ hl (by omega) Z;simp[ai,aG,f114] at Z;subst Z;refine cR (lv:=(fun _=>[3,8])) (K:=(Q.length+1)) bj ?_;simp[aa,X,f114,W]
end
def Ha:List (List UInt8)→Option (List Rat)
 | []=>some []
 |k::l=>match dC k,Ha l with
  |some a,some r=>some (a::r)
  |_,_=>none
theorem EG:∀{L:List (List UInt8)}{Q:List Rat},Ha L=some Q→L=rT Q
 | [],Q,h=>by cases h;rfl
 |k::L,Q,h=>by
  unfold Ha at h;split at h
  ·rename_i a r Z h3
   cases h;rw[EG h3,aw Z];rfl
  ·cases h
open Classical in
noncomputable def gF:aeT:=fun c Z M=>match c,Z with
 |.fn 32,[x]=>match nQ M x with
  |some L=>if (∀s∈L,s.length≤18)∧L.length≤1000000000 then some ⟨.int .i64 (sw L),none,[]⟩ else none
  |none=>none
 |.fn 114,[x]=>match nQ M x with
  |some L=>match Ha L with
   |some Q=>if MD Q 0∧Q≠[]∧Q.length≤1000000000 then some ⟨.str (ak (CO Q 0)),none,[]⟩ else none
   |none=>none
  |none=>none
 |c,Z=>af aj c Z M
theorem fT:HS prog gF:=by
 refine dE fun c V M r h=>?_
 unfold gF at h;split at h
 ·split at h
  ·rename_i L X
   split at h
   ·rename_i hc
    cases h;refine aI ?_;rw[List.append_nil];exact XF (rest:=[]) rfl rfl X (Fk L hc.1 hc.2) (fun Z=>by subst Z;exact zl M)
   ·cases h
  ·cases h
 ·split at h
  ·rename_i L X
   split at h
   ·rename_i Q hQ
    split at h
    ·rename_i hc
     cases h;refine aI ?_;rw[List.append_nil];have W:=EG hQ;subst W;have:=QO Q hc.1 hc.2.2;have S:(rT Q).length=Q.length:=by simp[rT]
     rw[←S] at this;exact XF (rest:=[]) rfl rfl X this (fun Z=>by
      cases Q with
      |nil=>exact absurd rfl hc.2.1
      |cons q Q=>cases Z)
    ·cases h
   ·cases h
  ·cases h
 ·exact jx bj h
theorem lT(a b c:List UInt8)(A:a.length≤18)(G:b.length≤18)(hc:c.length≤18)(M:Mem):
  kO prog 14 [.agg [.str a,.str b,.str c]] M (.int .i64 (sw [a,b,c])) M:=by
 have Z:aK prog 14=some f14:=by kernel_rfl
 refine aA fT ?_ M;simp[aa,Z,f14,gF,nQ,nS,A,G,hc]
theorem gM(a b:List UInt8)(A:a.length≤18)(G:b.length≤18)(M:Mem):
  kO prog 105 [.agg [.str a,.str b]] M (.int .i64 (sw [a,b])) M:=by
 have Z:aK prog 105=some f105:=by kernel_rfl
 refine aA fT ?_ M;simp[aa,Z,f105,gF,nQ,nS,A,G]
abbrev V3:=Rat×Rat×Rat
def vA(v:V3):AV:=.agg [.str (ak v.1),.str (ak v.2.1),.str (ak v.2.2)]
def vDg(n:Nat)(v:V3):Prop:=dg n 1 v.1∧dg n 1 v.2.1∧dg n 1 v.2.2
def da(a b:V3):Rat:=a.1*b.1+a.2.1*b.2.1+a.2.2*b.2.2
variable{d:Nat}{q:Rat}
theorem dI(h:dg n d q)(A:0<n)(G:0<d)(H:n≤9)(I:d≤9):aeZ q:=by have:=h.lens A G;exact⟨by omega,by omega⟩
theorem Qr(a b:V3)(ha:vDg 2 a)(hb:vDg 2 b)(M:Mem):kO prog 73 [vA a,vA b] M (.str (ak (da a b))) M:=by
 have hG:aK prog 73=some f73:=by kernel_rfl
 obtain⟨V,S,O⟩:=a;obtain⟨J,F,D⟩:=b;obtain⟨C,B,z⟩:=ha;obtain⟨u,j,Y⟩:=hb;simp only at C B z u j Y;have R:=LG C u;have P2:=LG B j;have A:=LG z Y;have Z:dg 1 1 0:=⟨by decide,by decide⟩;have I:=Uc Z R (m:=5) (by omega) (by omega);have S2:=Uc I P2 (m:=8) (by omega) (by omega);have hs:MD [V*J,S*F,O*D] 0:=
  ⟨dI Z (by omega) (by omega) (by omega) (by omega),dI R (by omega) (by omega) (by omega) (by omega),dI I (by omega) (by omega) (by omega) (by omega),dI P2 (by omega) (by omega) (by omega) (by omega),
   dI S2 (by omega) (by omega) (by omega) (by omega),dI A (by omega) (by omega) (by omega) (by omega),trivial⟩
 have X:CO [V*J,S*F,O*D] 0=V*J+S*F+O*D:=by simp[CO,Rat.zero_add]
 obtain⟨f1,f2⟩:=dI C (by omega) (by omega) (by omega) (by omega);obtain⟨f3,f4⟩:=dI B (by omega) (by omega) (by omega) (by omega);obtain⟨f5,f6⟩:=dI z (by omega) (by omega) (by omega) (by omega);obtain⟨g1,g2⟩:=dI u (by omega) (by omega) (by omega) (by omega);obtain⟨g3,g4⟩:=dI j (by omega) (by omega) (by omega) (by omega);obtain⟨g5,g6⟩:=dI Y (by omega) (by omega) (by omega) (by omega);clear R P2 A I S2 C B z u j Y Z;unfold da;simp only;obtain⟨p,hp⟩:=xE (V*J);obtain⟨q,hq⟩:=xE (S*F);obtain⟨r,hr⟩:=xE (O*D);rw[←hp,←hq,←hr] at hs X ⊢;refine aA fT ?_ M;obtain⟨W,H⟩:∃W,aC f73=[W]:=⟨_,rfl⟩
 have I':=iY H (l:=[0,1,0,4,15,0,32,0,128,511,0,1024,0,4096,16383,32767,65535,131071]) (by kernel_rfl);have G:Ls [0,1,0,4,15,0,32,0,128,511,0,1024,0,4096,16383,32767,65535,131071] 18 15=true:=by decide
 simp[aC,bn,f73] at H;subst H;simp[aa,hG,f73,-aB,ju I',kx,qR,yo,bR,G,vA,gF,nQ,nS,Ha,ao,af,aj,az,f1,f2,f3,f4,f5,f6,g1,g2,g3,g4,g5,g6,←hp,←hq,←hr,hs,X,Nat.testBit]
theorem Ms:ak 0=[48]:=rfl
theorem eO{a b:Rat}(h:ak a=ak b):a=b:=by have:=ao a;rw[h,ao] at this;exact(Option.some.inj this).symm
theorem qT(h:dg 200 200 q):xv (ak q)=0:=by unfold xv;rw[ao];exact if_pos (h.lens (by decide) (by decide))
theorem PN(h:dg n d q)(h0:0<n)(A:0<d)(G:n+d≤16):(ak q).length≤18:=by
 obtain⟨a,b⟩:=h.lens h0 A;have:=fH q.num;unfold ak;split
 ·omega
 ·simp only[List.length_append,List.length_cons];omega
theorem Nr(a b c:List UInt8)(M:Mem):kO prog 284 [.agg [.str a,.str b,.str c]] M (.bool (a==[48]&&b==[48]&&c==[48])) M:=by
 have Z:aK prog 284=some f284:=by kernel_rfl
 refine aA (al _) ?_ M;cases h1:(a==[48])<;>cases h2:(b==[48])<;>cases h3:(c==[48])<;>simp[aa,Z,f284,h1,h2,h3]
noncomputable def qO(f:FuncId)(args:List AV):Option AV:=
 match f,args with
 |14,[.agg [.str a,.str b,.str c]]=>if a.length≤18∧b.length≤18∧c.length≤18 then some (.int .i64 (sw [a,b,c])) else none
 |105,[.agg [.str a,.str b]]=>if a.length≤18∧b.length≤18 then some (.int .i64 (sw [a,b])) else none
 |284,[.agg [.str a,.str b,.str c]]=>some (.bool (a==[48]&&b==[48]&&c==[48]))
 |73,[.agg [.str a,.str b,.str c],.agg [.str d,.str e,.str f]]=>match dC a,dC b,dC c,dC d,dC e,dC f with
  |some a,some b,some c,some d,some e,some f=>if (aR a.num.natAbs).length≤2∧(aR a.den).length≤1∧(aR b.num.natAbs).length≤2∧(aR b.den).length≤1∧(aR c.num.natAbs).length≤2∧(aR c.den).length≤1∧
    (aR d.num.natAbs).length≤2∧(aR d.den).length≤1∧(aR e.num.natAbs).length≤2∧(aR e.den).length≤1∧(aR f.num.natAbs).length≤2∧(aR f.den).length≤1 then some (.str (ak (a*d+b*e+c*f))) else none
  |_,_,_,_,_,_=>none
 |_,_=>none
theorem di(h:(aR q.num.natAbs).length≤n∧(aR q.den).length≤d):dg n d q:=by have Z:=fh q.num.natAbs;have X:=fh q.den;have h3:10 ^ (aR q.num.natAbs).length≤10 ^ n:=Nat.pow_le_pow_right (by omega) h.1;have W:10 ^ (aR q.den).length≤10 ^ d:=Nat.pow_le_pow_right (by omega) h.2;exact⟨by omega,by omega⟩
theorem yn:HS prog (af qO):=bH fun f V v h mem=>by
 unfold qO at h;split at h
 ·split at h
  next hc=>cases h;exact lT _ _ _ hc.1 hc.2.1 hc.2.2 mem
  ·cases h
 ·split at h
  next hc=>cases h;exact gM _ _ hc.1 hc.2 mem
  ·cases h
 ·cases h;exact Nr _ _ _ mem
 ·split at h
  ·rename_i a b c d e f S O hc J he F
   split at h
   ·rename_i D
    obtain⟨C,B,z,u,m,j,Y,R,I,Z,X,W⟩:=D;cases h;rw[aw S,aw O,aw hc,aw J,aw he,aw F];exact Qr (a,b,c) (d,e,f) ⟨(di ⟨C,B⟩).mono (by omega) (by omega),(di ⟨z,u⟩).mono (by omega) (by omega),(di ⟨m,j⟩).mono (by omega) (by omega)⟩
     ⟨(di ⟨Y,R⟩).mono (by omega) (by omega),(di ⟨I,Z⟩).mono (by omega) (by omega),(di ⟨X,W⟩).mono (by omega) (by omega)⟩ mem
   ·cases h
  ·cases h
 ·cases h
noncomputable def K7:aeT:=aeT.or (af qO) gF
theorem K8:HS prog K7:=HS.or yn fT
end Go.Proofs
