/- See C54. -/
import Derived.Test.YtffdedmakncfmaaGreatDoorC18
import Derived.Test.YtffdedmakncfmaaGreatDoorC05
set_option linter.all false
set_option maxRecDepth 100000
set_option maxHeartbeats 40000000
namespace Go.Proofs
open Go.Eng
open Tryz
variable{M:Mem}{b es:Nat}{cs l:List AV}{o:Bool}
theorem Z4{ks:List Nat}(hc:AV.afT cs=true)(h:M[b]? =some (.cells o es l))(y:l.take cs.length=cs):agx ks M b (.cells false es cs):=by
 refine⟨bl hc,o,l,h,fun j v X=>?_⟩;have U:=gL X;have e:l[j]? =cs[j]? :=by rw[←List.getElem?_take_of_lt U,y]
 have V:=aO (ρ:=fj ks M.length) hc;rw[jf] at V;have Z:(cs.map (AV.ren (fj ks M.length)))[j]? =cs[j]? :=by rw[V]
 rw[List.getElem?_map,X] at Z;rw[e,X];exact Z.symm
theorem Pr{v:AV}{f:Nat→Option Nat}(h:v.closed=true):v.ren f=v:=by have:=aO (vs:=[v]) (ρ:=f) (by simp[AV.afT,h]);simpa [AV.af9] using this
variable{P:Program}{f:FuncId}{n:Nat}{rest:List AV}
theorem ag5{v:AV}(hc:AV.afT cs=true)(hr:AV.afT rest=true)(H:v.closed=true)(y:M[b]? =some (.cells o es l))(I:l.take cs.length=cs)(h:kO P f (.slice 0 0 n none::rest) [.cells false es cs] v [.cells false es cs]):kO P f (.slice b 0 n none::rest) M v M:=by
 have X:=gL y;have V:AV.afX [b].length (.slice 0 0 n none::rest)=true:=by
  show(decide (0<1)&&AV.afX 1 rest)=true
  rw[bl hr];rfl
 have:=kO.frame (M:=M) (new:=[]) [b] (m:=[.cells false es cs]) rfl (by simpa using X) V (fun i s Z=>by
  cases i with
  |zero=>simp at Z;subst Z;exact Z4 hc y I
  |succ i=>simp at Z) rfl (by simpa using h)
 simpa [AV.af9,AV.ren,fj,aO hr,Pr H] using this
def sC(L:List (List UInt8)):List AV:=L.map .str
theorem MP(L:List (List UInt8)):(sC L).length=L.length:=by simp[sC]
theorem MO:∀L:List (List UInt8),AV.afT (sC L)=true
 | []=>rfl
 |s::L=>by simp[sC,AV.afT,AV.closed];exact MO L
def tt:List AV→Option (List (List UInt8))
 | []=>some []
 |.str a::l=>match tt l with
  |some r=>some (a::r)
  |none=>none
 |_=>none
theorem DR:∀{cs:List AV} {L:List (List UInt8)},tt cs=some L→cs=sC L
 | [],L,h=>by cases h;rfl
 |v::l,L,h=>by
  unfold tt at h;split at h
  next Z=>cases Z
  ·rename_i Z
   cases Z;split at h
   ·rename_i r X
    cases h;rw[DR X];rfl
   ·cases h
  ·cases h
def qU(M:Mem):AV→Option (List (List UInt8))
 |.slice b 0 n none=>match M[b]? with
  |some (.cells _ 1 cs)=>if n≤cs.length then tt (cs.take n) else none
  |_=>none
 |.qF=>some []
 |_=>none
variable{L:List (List UInt8)}{x:AV}
theorem PC(h:qU M x=some L):(∃b o l,x=.slice b 0 L.length none∧M[b]? =some (.cells o 1 l)∧l.take L.length=sC L)∨(x=.qF∧L=[]):=by
 unfold qU at h;split at h
 ·rename_i b n
  split at h
  ·rename_i o cs X
   split at h
   ·rename_i U
    have Z:=DR h;have V:n=L.length:=by have:=congrArg List.length Z;rw[MP,List.length_take] at this;omega
    subst V;exact .inl ⟨b,o,cs,rfl,X,Z⟩
   ·cases h
  ·cases h
 ·cases h;exact .inr ⟨rfl,rfl⟩
 ·cases h
theorem Xu{v:AV}(hr:AV.afT rest=true)(y:v.closed=true)(H:qU M x=some L)(h:kO P f (.slice 0 0 L.length none::rest) [.cells false 1 (sC L)] v [.cells false 1 (sC L)])(h0:L=[]→kO P f (.qF::rest) M v M):kO P f (x::rest) M v M:=by
 rcases PC H with⟨b,o,l,rfl,Z,X⟩ | ⟨rfl,V⟩
 ·exact ag5 (MO L) hr y Z (by rw[MP];exact X) h
 ·exact h0 V
theorem ZL{i:Nat}{s:List UInt8}(h:L[i]? =some s):(sC L)[i]? =some (.str s):=by simp[sC,h]
def yX:List (List UInt8)→Int
 | []=>0
 |s::l=>if AW s=0 then yX l else AW s
variable{K:Nat}
theorem yA(L:List (List UInt8))(H:∀s∈L,s.length≤1000000000)(I:L.length≤1000000000)(J:L.length<K){b:Code}(y:ah f151=[b]):
  ∃F:Env→Bool→Env,∀Z d,(ad Z 6=.slice 0 0 L.length none∧ad Z 7=.int .i64 L.length∧ad Z 8=.int .i64 0∧ad Z 2=.int .i64 0)→
   aW (bh prog) (fun _=>[8]) (ag bn) K 18 1 true (.loop b) ⟨Z,[.cells false 1 (sC L)],d⟩=some (if yX L=0 then .exit 0 else .ret,⟨F Z d,[.cells false 1 (sC L)],d⟩)∧(yX L≠0→ad (F Z d) 2=.int .i64 (yX L)):=by
 refine bj rfl (fun Z=>ad Z 6=.slice 0 0 L.length none∧ad Z 7=.int .i64 L.length∧ad Z 8=.int .i64 0∧ad Z 2=.int .i64 0) (fun _ N =>yX L≠0→ad N 2=.int .i64 (yX L)) ?_;rintro Z d ⟨h6,h7,h8,S⟩;simp[ah,aE,f151] at y;have R:aA [8] (ae b) Z ((8,.int .i64 ((0:Nat):Int))::Z)=aA [8] (ae b) Z Z:=by simp[aA,h8]
 rw[←R];refine bz (α:=Nat) (fun n=>⟨aA [8] (ae b) Z ((8,.int .i64 (n:Int))::Z),[.cells false 1 (sC L)],d⟩) (fun n=>L.length-n) (fun n=>n≤L.length∧yX L=yX (L.drop n)) (if yX L=0 then .exit 0 else .ret) _ d _ (by split<;>simp) ?_ K 0 ⟨by omega,by rw[List.drop_zero]⟩ (by omega);rintro n ⟨hn1,he⟩;clear R;subst y;by_cases X:n<L.length
 ·obtain⟨s,V⟩:∃s,L[n]? =some s:=⟨L[n],List.getElem?_eq_getElem X⟩
  have Q:=ZL V;have O:=H s (List.mem_of_getElem? V);have G:L.drop n=s::L.drop (n+1):=by rw[List.getElem?_eq_some_iff] at V;obtain⟨D,S⟩:=V;rw[←S];exact List.drop_eq_getElem_cons D
  rw[G,yX] at he;have w1:IntKind.i64.wrap ((n:Int)+1)=((n+1:Nat):Int):=by rw[af];omega
  by_cases U:AW s=0
  ·rw[if_pos U] at he
   left;obtain⟨v,C⟩:=xE (n+1);rw[←C] at w1 he;refine⟨v,?_⟩;simp[h6,h7,X,ag,bn,O,U,Q,w1];exact⟨⟨by omega,he⟩,by omega⟩
  ·rw[if_neg U] at he
   right;rw[he];simp[h6,h7,X,ag,bn,O,U,Q]
 ·right
  have e:L.drop n=[]:=List.drop_of_length_le (by omega);rw[e,yX] at he;rw[he];simp[h7,X]
theorem Gb(L:List (List UInt8))(y:∀s∈L,s.length≤1000000000)(H:L.length≤1000000000):
  kO prog 151 [.slice 0 0 L.length none] [.cells false 1 (sC L)] (.int .i64 (yX L)) [.cells false 1 (sC L)]:=by
 have Q:aS prog 151=some f151:=by kernel_rfl
 obtain⟨b,S⟩:∃b,ah f151=[b]:=⟨_,rfl⟩
 obtain⟨F,Z⟩:=yA (K:=L.length+1) L y H (by omega) S;simp[ah,aE,f151] at S;subst S;refine cE (lv:=(fun _=>[8])) (K:=(L.length+1)) cP ?_;by_cases U:yX L=0
 ·rw[if_pos U] at Z
  have X:=fun V d h=>(Z V d h).1
  clear Z;simp[aa,Q,f151,X,U]
 ·rw[if_neg U] at Z
  have X:=fun V d h=>(Z V d h).1
  have R:=fun V d h=>(Z V d h).2 U
  clear Z;simp[aa,Q,f151,X,R]
theorem Aj(M:Mem):kO prog 151 [.qF] M (.int .i64 0) M:=by
 have Z:aS prog 151=some f151:=by kernel_rfl
 refine cK (aw _) (lv:=fun _=>[8]) (K:=1) rfl rfl ?_ M;simp[aa,Z,f151,aT,ga]
def rT(Q:List Rat):List (List UInt8):=Q.map ax
def E6(Q:List Rat)(s:Rat):Rat:=Q.foldl (·+·) s
def MT:List Rat→Rat→Prop
 | [],s=>kx s
 |q::l,s=>kx s∧kx q∧MT l (s+q)
section
variable (Q:List Rat)(hQ:MT Q 0)(hl:Q.length≤1000000000)
include Q hQ hl
theorem G4(H:Q.length<K){b:Code}(y:ah f124=[b]):
  ∃F:Env→Bool→Env,∀Z d,(ad Z 6=.slice 0 0 Q.length none∧ad Z 7=.int .i64 Q.length∧ad Z 8=.int .i64 0∧ad Z 3=.str [48])→
   aW (bh prog) (fun _=>[3,8]) (ag bn) K 17 1 true (.loop b) ⟨Z,[.cells false 1 (sC (rT Q))],d⟩=some (.exit 0,⟨F Z d,[.cells false 1 (sC (rT Q))],d⟩)∧ad (F Z d) 3=.str (ax (E6 Q 0)):=by
 refine bj rfl (fun Z=>ad Z 6=.slice 0 0 Q.length none∧ad Z 7=.int .i64 Q.length∧ad Z 8=.int .i64 0∧ad Z 3=.str [48]) (fun _ O =>ad O 3=.str (ax (E6 Q 0))) ?_;rintro Z d ⟨h6,h7,h8,h3⟩;simp[ah,aE,f124] at y;have z:ax 0=[48]:=rfl;have R:aA [3,8] (ae b) Z ((3,.str (ax (E6 (Q.take 0) 0)))::(8,.int .i64 ((0:Nat):Int))::Z)=aA [3,8] (ae b) Z Z:=by simp[aA,h8,h3,E6,z]
 rw[←R];refine bz (α:=Nat) (fun n=>⟨aA [3,8] (ae b) Z ((3,.str (ax (E6 (Q.take n) 0)))::(8,.int .i64 (n:Int))::Z),[.cells false 1 (sC (rT Q))],d⟩) (fun n=>Q.length-n) (fun n=>n≤Q.length∧MT (Q.drop n) (E6 (Q.take n) 0)) (.exit 0) _ d _ (by simp) ?_ K 0 ⟨by omega,by simpa [E6] using hQ⟩ (by omega);rintro n ⟨hn1,X⟩;clear R;subst y;by_cases S:n<Q.length
 ·obtain⟨q,U⟩:∃s,Q[n]? =some s:=⟨Q[n],List.getElem?_eq_getElem S⟩
  have N:(sC (rT Q))[n]? =some (.str (ax q)):=by simp[sC,rT,U]
  have G:Q.drop n=q::Q.drop (n+1):=by rw[List.getElem?_eq_some_iff] at U;obtain⟨D,C⟩:=U;rw[←C];exact List.drop_eq_getElem_cons D
  have V:E6 (Q.take (n+1)) 0=E6 (Q.take n) 0+q:=by rw[List.take_add_one,U];simp[E6]
  rw[G,MT,←V] at X;obtain⟨⟨f1,f2⟩,⟨f3,f4⟩,X⟩:=X;have w1:IntKind.i64.wrap ((n:Int)+1)=((n+1:Nat):Int):=by rw[af];omega
  left;obtain⟨v,B⟩:=xE (n+1);rw[←B] at w1 X V;obtain⟨s,u⟩:=xE (E6 (Q.take n) 0);rw[←u] at f1 f2 V ⊢;refine⟨v,?_⟩;simp[h6,h7,S,ag,bn,bw,ay,f1,f2,f3,f4,N,w1,V];exact⟨⟨by omega,by rw[←V];exact X⟩,by omega⟩
 ·right
  have e:Q.take n=Q:=List.take_of_length_le (by omega);rw[e];simp[h7,S]
theorem Rp:
  kO prog 124 [.slice 0 0 Q.length none] [.cells false 1 (sC (rT Q))] (.str (ax (E6 Q 0))) [.cells false 1 (sC (rT Q))]:=by
 have X:aS prog 124=some f124:=by kernel_rfl
 obtain⟨b,Z⟩:∃b,ah f124=[b]:=⟨_,rfl⟩
 obtain⟨F,V⟩:=G4 (K:=Q.length+1) Q hQ hl (by omega) Z;simp[ah,aE,f124] at Z;subst Z;refine cE (lv:=(fun _=>[3,8])) (K:=(Q.length+1)) cP ?_;simp[aa,X,f124,V]
end
def MF:List (List UInt8)→Option (List Rat)
 | []=>some []
 |k::l=>match dY k,MF l with
  |some a,some r=>some (a::r)
  |_,_=>none
theorem FN:∀{L:List (List UInt8)} {Q:List Rat},MF L=some Q→L=rT Q
 | [],Q,h=>by cases h;rfl
 |k::L,Q,h=>by
  unfold MF at h;split at h
  ·rename_i a r Z h3
   cases h;rw[FN h3,az Z];rfl
  ·cases h
open Classical in
noncomputable def iF:afF:=fun c Z M=>match c,Z with
 |.fn 151,[x]=>match qU M x with
  |some L=>if (∀s∈L,s.length≤1000000000)∧L.length≤1000000000 then some ⟨.int .i64 (yX L),none,[]⟩ else none
  |none=>none
 |.fn 124,[x]=>match qU M x with
  |some L=>match MF L with
   |some Q=>if MT Q 0∧Q≠[]∧Q.length≤1000000000 then some ⟨.str (ax (E6 Q 0)),none,[]⟩ else none
   |none=>none
  |none=>none
 |c,Z=>ag bn c Z M
theorem gT:qS prog iF:=by
 refine cf fun c S M r h=>?_
 unfold iF at h;split at h
 ·split at h
  ·rename_i L V
   split at h
   ·rename_i X
    cases h;refine aC ?_;rw[List.append_nil];exact Xu (rest:=[]) rfl rfl V (Gb L X.1 X.2) (fun Z=>by subst Z;exact Aj M)
   ·cases h
  ·cases h
 ·split at h
  ·rename_i L V
   split at h
   ·rename_i Q hQ
    split at h
    ·rename_i X
     cases h;refine aC ?_;rw[List.append_nil];have U:=FN hQ;subst U;have:=Rp Q X.1 X.2.2;have R:(rT Q).length=Q.length:=by simp[rT]
     rw[←R] at this;exact Xu (rest:=[]) rfl rfl V this (fun Z=>by
      cases Q with
      |nil=>exact absurd rfl X.2.1
      |cons q Q=>cases Z)
    ·cases h
   ·cases h
  ·cases h
 ·exact dN cP h
theorem mN(a b c:List UInt8)(y:a.length≤1000000000)(H:b.length≤1000000000)(hc:c.length≤1000000000)(M:Mem):
  kO prog 100 [.agg [.str a,.str b,.str c]] M (.int .i64 (yX [a,b,c])) M:=by
 have Z:aS prog 100=some f100:=by kernel_rfl
 refine ao gT ?_ M;simp[aa,Z,f100,iF,qU,tt,y,H,hc]
theorem od(a b:List UInt8)(y:a.length≤1000000000)(H:b.length≤1000000000)(M:Mem):
  kO prog 193 [.agg [.str a,.str b]] M (.int .i64 (yX [a,b])) M:=by
 have Z:aS prog 193=some f193:=by kernel_rfl
 refine ao gT ?_ M;simp[aa,Z,f193,iF,qU,tt,y,H]
abbrev V3:=Rat×Rat×Rat
def vA(v:V3):AV:=.agg [.str (ax v.1),.str (ax v.2.1),.str (ax v.2.2)]
def vDg(n:Nat)(v:V3):Prop:=dg n n v.1∧dg n n v.2.1∧dg n n v.2.2
def fI(a b:V3):Rat:=a.1*b.1+a.2.1*b.2.1+a.2.2*b.2.2
variable{q:Rat}
theorem dc{d:Nat}(h:dg n d q)(y:0<n)(hd:0<d)(h1:n≤40000)(h2:d≤40000):kx q:=by have:=h.lens y hd;exact⟨by omega,by omega⟩
theorem QS(a b:V3)(ha:vDg 3000 a)(hb:vDg 3000 b)(M:Mem):kO prog 75 [vA a,vA b] M (.str (ax (fI a b))) M:=by
 have hG:aS prog 75=some f75:=by kernel_rfl
 obtain⟨U,S,R⟩:=a;obtain⟨Q,O,N⟩:=b;obtain⟨G,F,D⟩:=ha;obtain⟨C,B,u⟩:=hb;simp only at G F D C B u;have j:=cV G C;have P2:=cV F B;have Y:=cV D u;have Z:dg 1 1 0:=⟨by decide,by decide⟩;have W:=kV Z j (m:=6001) (by omega) (by omega);have J:=kV W P2 (m:=12003) (by omega) (by omega);have y:=kV J Y (m:=18004) (by omega) (by omega);have hs:MT [U*Q,S*O,R*N] 0:=
  ⟨dc Z (by omega) (by omega) (by omega) (by omega),dc j (by omega) (by omega) (by omega) (by omega),dc W (by omega) (by omega) (by omega) (by omega),dc P2 (by omega) (by omega) (by omega) (by omega),
   dc J (by omega) (by omega) (by omega) (by omega),dc Y (by omega) (by omega) (by omega) (by omega),dc y (by omega) (by omega) (by omega) (by omega)⟩
 have X:E6 [U*Q,S*O,R*N] 0=U*Q+S*O+R*N:=by simp[E6,Rat.zero_add]
 obtain⟨f1,f2⟩:=dc G (by omega) (by omega) (by omega) (by omega);obtain⟨f3,f4⟩:=dc F (by omega) (by omega) (by omega) (by omega);obtain⟨f5,f6⟩:=dc D (by omega) (by omega) (by omega) (by omega);obtain⟨g1,g2⟩:=dc C (by omega) (by omega) (by omega) (by omega);obtain⟨g3,g4⟩:=dc B (by omega) (by omega) (by omega) (by omega);obtain⟨g5,g6⟩:=dc u (by omega) (by omega) (by omega) (by omega);clear j P2 Y W J y G F D C B u Z;unfold fI;simp only;obtain⟨p,hp⟩:=xE (U*Q);obtain⟨q,hq⟩:=xE (S*O);obtain⟨r,hr⟩:=xE (R*N);rw[←hp,←hq,←hr] at hs X ⊢;refine ao gT ?_ M;obtain⟨V,I⟩:∃V,aG f75=[V]:=⟨_,rfl⟩
 have PP:=kJ I (l:=[0,1,0,4,15,0,32,0,128,511,0,1024,0,4096,16383,32767,65535,131071]) (by kernel_rfl);have H:OR [0,1,0,4,15,0,32,0,128,511,0,1024,0,4096,16383,32767,65535,131071] 18 15=true:=by decide
 simp[aG,bQ,f75] at I;subst I;simp[aa,hG,f75,-aH,my PP,nv,uA,CM,dE,H,vA,iF,qU,tt,MF,ay,ag,bn,bw,f1,f2,f3,f4,f5,f6,g1,g2,g3,g4,g5,g6,←hp,←hq,←hr,hs,X,Nat.testBit]
theorem DF:ax 0=[48]:=rfl
theorem ME:ax q=[48]↔q=0:=by
 constructor
 ·intro h
  have:=ay q;rw[h,←DF,ay] at this;exact(Option.some.inj this).symm
 ·rintro rfl;rfl
theorem iS{a b:Rat}(h:ax a=ax b):a=b:=by have:=ay a;rw[h,ay] at this;exact(Option.some.inj this).symm
theorem jy(h:dg 200 200 q):AW (ax q)=0:=by unfold AW;rw[ay];exact if_pos (h.lens (by decide) (by decide))
theorem mh(h:dg n n q)(h0:0<n)(h1:n≤40000):(ax q).length≤1000000000:=eH (dc h h0 h0 h1 h1)
variable{v:V3}
theorem UJ(h:vDg 200 v):yX [ax v.1,ax v.2.1,ax v.2.2]=0:=by simp[yX,jy h.1,jy h.2.1,jy h.2.2]
theorem vDg.mono{m:Nat}(h:vDg n v)(y:n≤m):vDg m v:=⟨h.1.mono y y,h.2.1.mono y y,h.2.2.mono y y⟩
theorem wQ(v:V3)(h:vDg 200 v)(M:Mem):kO prog 100 [vA v] M (.int .i64 0) M:=by have:=mN (ax v.1) (ax v.2.1) (ax v.2.2) (mh h.1 (by decide) (by decide)) (mh h.2.1 (by decide) (by decide)) (mh h.2.2 (by decide) (by decide)) M;rw[UJ h] at this;exact this
theorem NU(a b c:List UInt8)(M:Mem):kO prog 257 [.agg [.str a,.str b,.str c]] M (.bool (a==[48]&&b==[48]&&c==[48])) M:=by
 have Z:aS prog 257=some f257:=by kernel_rfl
 refine ao (aw _) ?_ M;cases h1:(a==[48])<;>cases h2:(b==[48])<;>cases h3:(c==[48])<;>simp[aa,Z,f257,h1,h2,h3]
noncomputable def sw(f:FuncId)(args:List AV):Option AV:=
 match f,args with
 |100,[.agg [.str a,.str b,.str c]]=>if a.length≤1000000000∧b.length≤1000000000∧c.length≤1000000000 then some (.int .i64 (yX [a,b,c])) else none
 |193,[.agg [.str a,.str b]]=>if a.length≤1000000000∧b.length≤1000000000 then some (.int .i64 (yX [a,b])) else none
 |257,[.agg [.str a,.str b,.str c]]=>some (.bool (a==[48]&&b==[48]&&c==[48]))
 |75,[.agg [.str a,.str b,.str c],.agg [.str d,.str e,.str f]]=>match dY a,dY b,dY c,dY d,dY e,dY f with
  |some a,some b,some c,some d,some e,some f=>if (ai a.num.natAbs).length≤2999∧(ai a.den).length≤2999∧(ai b.num.natAbs).length≤2999∧(ai b.den).length≤2999∧(ai c.num.natAbs).length≤2999∧(ai c.den).length≤2999∧
    (ai d.num.natAbs).length≤2999∧(ai d.den).length≤2999∧(ai e.num.natAbs).length≤2999∧(ai e.den).length≤2999∧(ai f.num.natAbs).length≤2999∧(ai f.den).length≤2999 then some (.str (ax (a*d+b*e+c*f))) else none
  |_,_,_,_,_,_=>none
 |_,_=>none
theorem di(h:(ai q.num.natAbs).length≤n∧(ai q.den).length≤n):dg n n q:=by have Z:=bZ q.num.natAbs;have X:=bZ q.den;have h3:10 ^ (ai q.num.natAbs).length≤10 ^ n:=Nat.pow_le_pow_right (by omega) h.1;have V:10 ^ (ai q.den).length≤10 ^ n:=Nat.pow_le_pow_right (by omega) h.2;exact⟨by omega,by omega⟩
theorem zB:qS prog (ag sw):=bF fun f S v h mem=>by
 unfold sw at h;split at h
 ·split at h
  next Z=>cases h;exact mN _ _ _ Z.1 Z.2.1 Z.2.2 mem
  ·cases h
 ·split at h
  next Z=>cases h;exact od _ _ Z.1 Z.2 mem
  ·cases h
 ·cases h;exact NU _ _ _ mem
 ·split at h
  ·rename_i a b c d e f R Q Z O N G
   split at h
   ·rename_i F
    obtain⟨D,C,B,u,m,j,Y,W,J,X,V,U⟩:=F;cases h;rw[az R,az Q,az Z,az O,az N,az G];exact QS (a,b,c) (d,e,f) ⟨(di ⟨D,C⟩).mono (by omega) (by omega),(di ⟨B,u⟩).mono (by omega) (by omega),(di ⟨m,j⟩).mono (by omega) (by omega)⟩
     ⟨(di ⟨Y,W⟩).mono (by omega) (by omega),(di ⟨J,X⟩).mono (by omega) (by omega),(di ⟨V,U⟩).mono (by omega) (by omega)⟩ mem
   ·cases h
  ·cases h
 ·cases h
noncomputable def Lp:afF:=afF.or (ag sw) iF
theorem Lq:qS prog Lp:=qS.or zB gT
def iU(a b:V3):V3:=(a.1+b.1,a.2.1+b.2.1,a.2.2+b.2.2)
def nO(a:V3)(k:Rat):V3:=(a.1*k,a.2.1*k,a.2.2*k)
def HZ(a b:V3):V3:=(a.2.1*b.2.2-a.2.2*b.2.1,a.2.2*b.1-a.1*b.2.2,a.1*b.2.1-a.2.1*b.1)
def vF(a:V3):Prop:=kx a.1∧kx a.2.1∧kx a.2.2
def yS(a b:V3):Prop:=vF a∧vF b∧MT [a.1*b.1,a.2.1*b.2.1,a.2.2*b.2.2] 0
def Wy(a b:V3):Prop:=(vF a∧vF b)∧(kx (a.2.1*b.2.2)∧kx (a.2.2*b.2.1))∧(kx (a.2.2*b.1)∧kx (a.1*b.2.2))∧kx (a.1*b.2.1)∧kx (a.2.1*b.1)
def vC(v:V3):Prop:=yX [ax v.1,ax v.2.1,ax v.2.2]=0∧(ax v.1).length≤1000000000∧(ax v.2.1).length≤1000000000∧(ax v.2.2).length≤1000000000
theorem Ud:kx 0:=⟨by decide,by decide⟩
theorem jA(h:dg n n q)(h0:0<n)(h1:n≤40000):kx q:=dc h h0 h0 h1 h1
theorem E8(h:vDg n v)(h0:0<n)(h1:n≤40000):vF v:=⟨jA h.1 h0 h1,jA h.2.1 h0 h1,jA h.2.2 h0 h1⟩
theorem tz(h:vDg 200 v):vC v:=⟨UJ h,mh h.1 (by decide) (by decide),mh h.2.1 (by decide) (by decide),mh h.2.2 (by decide) (by decide)⟩
theorem qp{a b:V3}(H:vDg n a)(I:vDg n b)(h0:0<n)(h1:n≤4000):yS a b:=by
 obtain⟨X,V,U⟩:=H;obtain⟨S,R,Q⟩:=I;have O:=cV X S;have P2:=cV V R;have N:=cV U Q;have Z:dg 1 1 0:=⟨by decide,by decide⟩;have G:=kV Z O (m:=3*n+3) (by omega) (by omega);have F:=kV G P2 (m:=6*n+6) (by omega) (by omega);have D:=kV F N (m:=9*n+9) (by omega) (by omega);have f:∀{x y:Nat}{q:Rat},dg x y q→0<x→0<y→x≤40000→y≤40000→kx q:=fun h p q r s=>dc h p q r s
 exact⟨E8 ⟨X,V,U⟩ h0 (by omega),E8 ⟨S,R,Q⟩ h0 (by omega),Ud,f O (by omega) (by omega) (by omega) (by omega),f G (by omega) (by omega) (by omega) (by omega),f P2 (by omega) (by omega) (by omega) (by omega),f F (by omega) (by omega) (by omega) (by omega),f N (by omega) (by omega) (by omega) (by omega),f D (by omega) (by omega) (by omega) (by omega)⟩
def v3P(a b c:List UInt8):Option V3:=match dY a,dY b,dY c with
 |some x,some y,some z=>some (x,y,z)
 |_,_,_=>none
theorem Vi(x y z:Rat):v3P (ax x) (ax y) (ax z)=some (x,y,z):=by simp only[v3P,ay]
theorem jL{a b c:List UInt8}(h:v3P a b c=some v):a=ax v.1∧b=ax v.2.1∧c=ax v.2.2:=by
 unfold v3P at h;split at h
 ·rename_i x y z Z X V
  cases h;exact⟨az Z,az X,az V⟩
 ·cases h
theorem QQ(a b:V3)(h:yS a b)(M:Mem):kO prog 75 [vA a,vA b] M (.str (ax (fI a b))) M:=by
 have J:aS prog 75=some f75:=by kernel_rfl
 obtain⟨V,U,S⟩:=a;obtain⟨R,Q,O⟩:=b;obtain⟨⟨⟨f1,f2⟩,⟨f3,f4⟩,f5,f6⟩,⟨⟨D,C⟩,⟨g3,B⟩,u,m⟩,N⟩:=h;simp only at f1 f2 f3 f4 f5 f6 D C g3 B u m N;have Z:E6 [V*R,U*Q,S*O] 0=V*R+U*Q+S*O:=by simp[E6,Rat.zero_add]
 unfold fI;simp only;obtain⟨p,j⟩:=xE (V*R);obtain⟨q,Y⟩:=xE (U*Q);obtain⟨r,W⟩:=xE (S*O);rw[←j,←Y,←W] at N Z ⊢;refine ao gT ?_ M;obtain⟨X,G⟩:∃X,aG f75=[X]:=⟨_,rfl⟩
 have I:=kJ G (l:=[0,1,0,4,15,0,32,0,128,511,0,1024,0,4096,16383,32767,65535,131071]) (by kernel_rfl);have F:OR [0,1,0,4,15,0,32,0,128,511,0,1024,0,4096,16383,32767,65535,131071] 18 15=true:=by decide
 simp[aG,bQ,f75] at G;subst G;simp[aa,J,f75,-aH,my I,nv,uA,CM,dE,F,vA,iF,qU,tt,MF,ay,ag,bn,bw,f1,f2,f3,f4,f5,f6,D,C,g3,B,u,m,←j,←Y,←W,N,Z,Nat.testBit]
theorem QR(a b:V3)(h:yS a b)(M:Mem):kO prog 213 [vA a,vA b] M (.str (ax (fI a b))) M:=by
 have J:aS prog 213=some f213:=by kernel_rfl
 obtain⟨V,U,S⟩:=a;obtain⟨R,Q,O⟩:=b;obtain⟨⟨⟨f1,f2⟩,⟨f3,f4⟩,f5,f6⟩,⟨⟨D,C⟩,⟨g3,B⟩,u,m⟩,N⟩:=h;simp only at f1 f2 f3 f4 f5 f6 D C g3 B u m N;have Z:E6 [V*R,U*Q,S*O] 0=V*R+U*Q+S*O:=by simp[E6,Rat.zero_add]
 unfold fI;simp only;obtain⟨p,j⟩:=xE (V*R);obtain⟨q,Y⟩:=xE (U*Q);obtain⟨r,W⟩:=xE (S*O);rw[←j,←Y,←W] at N Z ⊢;refine ao gT ?_ M;obtain⟨X,G⟩:∃X,aG f213=[X]:=⟨_,rfl⟩
 have I:=kJ G (l:=[0,1,0,4,15,0,32,0,128,511,0,1024,0,4096,16383,32767,65535,131071]) (by kernel_rfl);have F:OR [0,1,0,4,15,0,32,0,128,511,0,1024,0,4096,16383,32767,65535,131071] 18 15=true:=by decide
 simp[aG,bQ,f213] at G;subst G;simp[aa,J,f213,-aH,my I,nv,uA,CM,dE,F,vA,iF,qU,tt,MF,ay,ag,bn,bw,f1,f2,f3,f4,f5,f6,D,C,g3,B,u,m,←j,←Y,←W,N,Z,Nat.testBit]
theorem Fb(a b:V3)(h:yS a b)(M:Mem):kO prog 103 [vA a,vA b] M (.str (ax (fI a b))) M:=by
 have J:aS prog 103=some f103:=by kernel_rfl
 obtain⟨V,U,S⟩:=a;obtain⟨R,Q,O⟩:=b;obtain⟨⟨⟨f1,f2⟩,⟨f3,f4⟩,f5,f6⟩,⟨⟨D,C⟩,⟨g3,B⟩,u,m⟩,N⟩:=h;simp only at f1 f2 f3 f4 f5 f6 D C g3 B u m N;have Z:E6 [V*R,U*Q,S*O] 0=V*R+U*Q+S*O:=by simp[E6,Rat.zero_add]
 unfold fI;simp only;obtain⟨p,j⟩:=xE (V*R);obtain⟨q,Y⟩:=xE (U*Q);obtain⟨r,W⟩:=xE (S*O);rw[←j,←Y,←W] at N Z ⊢;refine ao gT ?_ M;obtain⟨X,G⟩:∃X,aG f103=[X]:=⟨_,rfl⟩
 have I:=kJ G (l:=[0,1,0,4,15,0,32,0,128,511,0,1024,0,4096,16383,32767,65535,131071]) (by kernel_rfl);have F:OR [0,1,0,4,15,0,32,0,128,511,0,1024,0,4096,16383,32767,65535,131071] 18 15=true:=by decide
 simp[aG,bQ,f103] at G;subst G;simp[aa,J,f103,-aH,my I,nv,uA,CM,dE,F,vA,iF,qU,tt,MF,ay,ag,bn,bw,f1,f2,f3,f4,f5,f6,D,C,g3,B,u,m,←j,←Y,←W,N,Z,Nat.testBit]
def uD(p v:V3)(k:Rat):Prop:=(vF p∧vF v∧kx k)∧kx (k*v.1)∧kx (k*v.2.1)∧kx (k*v.2.2)
theorem Xe(p v:V3)(k:Rat):iU p (nO v k)=(p.1+k*v.1,p.2.1+k*v.2.1,p.2.2+k*v.2.2):=by unfold iU nO;simp only[Rat.mul_comm]
theorem BG(p v:V3)(k:Rat)(h:uD p v k)(M:Mem):kO prog 44 [vA p,vA v,.str (ax k)] M (vA (iU p (nO v k))) M:=by
 have W:aS prog 44=some f44:=by kernel_rfl
 rw[Xe];obtain⟨a1,a2,a3⟩:=p;obtain⟨J,I,H⟩:=v;obtain⟨⟨⟨⟨f1,f2⟩,⟨f3,f4⟩,f5,f6⟩,⟨⟨N,G⟩,⟨g3,F⟩,D,C⟩,k1,k2⟩,⟨Z,X⟩,⟨V,U⟩,S,R⟩:=h;simp only at f1 f2 f3 f4 f5 f6 N G g3 F D C Z X V U S R ⊢;obtain⟨x,B⟩:=xE (k*J);obtain⟨y,u⟩:=xE (k*I);obtain⟨z,m⟩:=xE (k*H);rw[←B] at Z X ⊢;rw[←u] at V U ⊢;rw[←m] at S R ⊢;refine ao cP ?_ M;obtain⟨Y,Q⟩:∃Y,aG f44=[Y]:=⟨_,rfl⟩
 obtain⟨O,j1⟩:=cC Q (l:=[0,1,0,0,8,28,63,0,128,0,0,1024,3711,8191,0,16384,0,0,131072,475135,1048575,2097151,4194303]) (j:=22) (by kernel_rfl) (by decide);simp[aG,bQ,f44] at Q;subst Q;simp[aa,W,f44,-aH,ak O,be,aV,aX,j1,vA,bN,aF,ay,ag,bn,bw,f1,f2,f3,f4,f5,f6,N,G,g3,F,D,C,k1,k2,Z,X,V,U,S,R,←B,←u,←m,Nat.testBit]
open Classical in
noncomputable def fa(f:FuncId)(args:List AV):Option AV:=
 match f,args with
 |75,[.agg [.str a,.str b,.str c],.agg [.str d,.str e,.str g]]=>match v3P a b c,v3P d e g with
  |some u,some v=>if yS u v then some (.str (ax (fI u v))) else none
  |_,_=>none
 |213,[.agg [.str a,.str b,.str c],.agg [.str d,.str e,.str g]]=>match v3P a b c,v3P d e g with
  |some u,some v=>if yS u v then some (.str (ax (fI u v))) else none
  |_,_=>none
 |103,[.agg [.str a,.str b,.str c],.agg [.str d,.str e,.str g]]=>match v3P a b c,v3P d e g with
  |some u,some v=>if yS u v then some (.str (ax (fI u v))) else none
  |_,_=>none
 |44,[.agg [.str a,.str b,.str c],.agg [.str d,.str e,.str g],.str k]=>match v3P a b c,v3P d e g,dY k with
  |some u,some v,some x=>if uD u v x then some (vA (iU u (nO v x))) else none
  |_,_,_=>none
 |100,[.agg [.str a,.str b,.str c]]=>if a.length≤1000000000∧b.length≤1000000000∧c.length≤1000000000 then some (.int .i64 (yX [a,b,c])) else none
 |f,args=>bn f args
theorem iW:qS prog (ag fa):=bF fun f U v h mem=>by
 unfold fa at h;split at h
 ·split at h
  ·rename_i u v X V
   split at h
   ·rename_i Z
    cases h;obtain⟨rfl,rfl,rfl⟩:=jL X;obtain⟨rfl,rfl,rfl⟩:=jL V;exact QQ u v Z mem
   ·cases h
  ·cases h
 ·split at h
  ·rename_i u v X V
   split at h
   ·rename_i Z
    cases h;obtain⟨rfl,rfl,rfl⟩:=jL X;obtain⟨rfl,rfl,rfl⟩:=jL V;exact QR u v Z mem
   ·cases h
  ·cases h
 ·split at h
  ·rename_i u v X V
   split at h
   ·rename_i Z
    cases h;obtain⟨rfl,rfl,rfl⟩:=jL X;obtain⟨rfl,rfl,rfl⟩:=jL V;exact Fb u v Z mem
   ·cases h
  ·cases h
 ·split at h
  ·rename_i u v x X V S
   split at h
   ·rename_i Z
    cases h;obtain⟨rfl,rfl,rfl⟩:=jL X;obtain⟨rfl,rfl,rfl⟩:=jL V;rw[az S];exact BG u v x Z mem
   ·cases h
  ·cases h
 ·split at h
  next Z=>cases h;exact mN _ _ _ Z.1 Z.2.1 Z.2.2 mem
  ·cases h
 ·have:=cP.fn _ _ mem ⟨v,none,[]⟩ (by unfold ag;simp only;rw[h])
  simpa [y9.mem] using this
end Go.Proofs
