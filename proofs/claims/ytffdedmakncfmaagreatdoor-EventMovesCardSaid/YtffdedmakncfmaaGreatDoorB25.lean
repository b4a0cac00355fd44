/- See B54. -/
import Derived.Test.YtffdedmakncfmaaGreatDoorB18
import Derived.Test.YtffdedmakncfmaaGreatDoorB05
set_option linter.all false
set_option maxRecDepth 100000
set_option maxHeartbeats 40000000
namespace Go.Proofs
open Go.Eng
open Tryz
variable{M:Mem}{b es:Nat}{cs l:List AV}{o:Bool}
theorem XI{ks:List Nat}(hc:AV.ae8 cs=true)(h:M[b]? =some (.cells o es l))(y:l.take cs.length=cs):afM ks M b (.cells false es cs):=by
 refine⟨aX hc,o,l,h,fun j v Z=>?_⟩;have U:=gL Z;have e:l[j]? =cs[j]? :=by rw[←List.getElem?_take_of_lt U,y]
 have X:=aM (ρ:=eL ks M.length) hc;rw[gE] at X;have V:(cs.map (AV.ren (eL ks M.length)))[j]? =cs[j]? :=by rw[X]
 rw[List.getElem?_map,Z] at V;rw[e,Z];exact V.symm
variable{v:AV}
theorem Oc{f:Nat→Option Nat}(h:v.closed=true):v.ren f=v:=by have:=aM (vs:=[v]) (ρ:=f) (by simp[AV.ae8,h]);simpa [AV.afp] using this
variable{P:Program}{f:FuncId}{n:Nat}{rest:List AV}
theorem agm(hc:AV.ae8 cs=true)(hr:AV.ae8 rest=true)(H:v.closed=true)(y:M[b]? =some (.cells o es l))(I:l.take cs.length=cs)(h:kO P f (.slice 0 0 n none::rest) [.cells false es cs] v [.cells false es cs]):kO P f (.slice b 0 n none::rest) M v M:=by
 have X:=gL y;have V:AV.afd [b].length (.slice 0 0 n none::rest)=true:=by
  show(decide (0<1)&&AV.afd 1 rest)=true
  rw[aX hr];rfl
 have:=kO.frame (M:=M) (new:=[]) [b] (m:=[.cells false es cs]) rfl (by simpa using X) V (fun i s Z=>by
  cases i with
  |zero=>simp at Z;subst Z;exact XI hc y I
  |succ i=>simp at Z) rfl (by simpa using h)
 simpa [AV.afp,AV.ren,eL,aM hr,Oc H] using this
def sC(L:List (List UInt8)):List AV:=L.map .str
theorem LR(L:List (List UInt8)):(sC L).length=L.length:=by simp[sC]
theorem LQ:∀L:List (List UInt8),AV.ae8 (sC L)=true
 | []=>rfl
 |s::L=>by simp[sC,AV.ae8,AV.closed];exact LQ L
def se:List AV→Option (List (List UInt8))
 | []=>some []
 |.str a::l=>match se l with
  |some r=>some (a::r)
  |none=>none
 |_=>none
theorem CZ:∀{cs:List AV} {L:List (List UInt8)},se cs=some L→cs=sC L
 | [],L,h=>by cases h;rfl
 |v::l,L,h=>by
  unfold se at h;split at h
  next Z=>cases Z
  ·rename_i Z
   cases Z;split at h
   ·rename_i r X
    cases h;rw[CZ X];rfl
   ·cases h
  ·cases h
def pY(M:Mem):AV→Option (List (List UInt8))
 |.slice b 0 n none=>match M[b]? with
  |some (.cells _ 1 cs)=>if n≤cs.length then se (cs.take n) else none
  |_=>none
 |.qF=>some []
 |_=>none
variable{L:List (List UInt8)}{x:AV}
theorem On(h:pY M x=some L):(∃b o l,x=.slice b 0 L.length none∧M[b]? =some (.cells o 1 l)∧l.take L.length=sC L)∨(x=.qF∧L=[]):=by
 unfold pY at h;split at h
 ·rename_i b n
  split at h
  ·rename_i o cs X
   split at h
   ·rename_i U
    have Z:=CZ h;have V:n=L.length:=by have:=congrArg List.length Z;rw[LR,List.length_take] at this;omega
    subst V;exact .inl ⟨b,o,cs,rfl,X,Z⟩
   ·cases h
  ·cases h
 ·cases h;exact .inr ⟨rfl,rfl⟩
 ·cases h
theorem VR(hr:AV.ae8 rest=true)(y:v.closed=true)(H:pY M x=some L)(h:kO P f (.slice 0 0 L.length none::rest) [.cells false 1 (sC L)] v [.cells false 1 (sC L)])(h0:L=[]→kO P f (.qF::rest) M v M):kO P f (x::rest) M v M:=by
 rcases On H with⟨b,o,l,rfl,Z,X⟩ | ⟨rfl,V⟩
 ·exact agm (LQ L) hr y Z (by rw[LR];exact X) h
 ·exact h0 V
theorem XH{i:Nat}{s:List UInt8}(h:L[i]? =some s):(sC L)[i]? =some (.str s):=by simp[sC,h]
def yc:List (List UInt8)→Int
 | []=>0
 |s::l=>if Ay s=0 then yc l else Ay s
variable{K:Nat}
theorem xB(L:List (List UInt8))(H:∀s∈L,s.length≤1000000000)(I:L.length≤1000000000)(J:L.length<K){b:Code}(y:ah f151=[b]):
  ∃F:Env→Bool→Env,∀Z d,(ab Z 6=.slice 0 0 L.length none∧ab Z 7=.int .i64 L.length∧ab Z 8=.int .i64 0∧ab Z 2=.int .i64 0)→
   bh (ba prog) (fun _=>[8]) (af be) K 18 1 true (.loop b) ⟨Z,[.cells false 1 (sC L)],d⟩=some (if yc L=0 then .exit 0 else .ret,⟨F Z d,[.cells false 1 (sC L)],d⟩)∧(yc L≠0→ab (F Z d) 2=.int .i64 (yc L)):=by
 refine bj rfl (fun Z=>ab Z 6=.slice 0 0 L.length none∧ab Z 7=.int .i64 L.length∧ab Z 8=.int .i64 0∧ab Z 2=.int .i64 0) (fun _ N =>yc L≠0→ab N 2=.int .i64 (yc L)) ?_;rintro Z d ⟨h6,h7,h8,S⟩;simp[ah,aE,f151] at y;have R:ay [8] (ad b) Z ((8,.int .i64 ((0:Nat):Int))::Z)=ay [8] (ad b) Z Z:=by simp[ay,h8]
 rw[←R];refine bx (α:=Nat) (fun n=>⟨ay [8] (ad b) Z ((8,.int .i64 (n:Int))::Z),[.cells false 1 (sC L)],d⟩) (fun n=>L.length-n) (fun n=>n≤L.length∧yc L=yc (L.drop n)) (if yc L=0 then .exit 0 else .ret) _ d _ (by split<;>simp) ?_ K 0 ⟨by omega,by rw[List.drop_zero]⟩ (by omega);rintro n ⟨Zg,he⟩;clear R;subst y;by_cases X:n<L.length
 ·obtain⟨s,V⟩:∃s,L[n]? =some s:=⟨L[n],List.getElem?_eq_getElem X⟩
  have Q:=XH V;have O:=H s (List.mem_of_getElem? V);have G:L.drop n=s::L.drop (n+1):=by rw[List.getElem?_eq_some_iff] at V;obtain⟨D,S⟩:=V;rw[←S];exact List.drop_eq_getElem_cons D
  rw[G,yc] at he;have w1:IntKind.i64.wrap ((n:Int)+1)=((n+1:Nat):Int):=by rw[ae];omega
  by_cases U:Ay s=0
  ·rw[if_pos U] at he
   left;obtain⟨v,C⟩:=xE (n+1);rw[←C] at w1 he;refine⟨v,?_⟩;simp[h6,h7,X,af,be,O,U,Q,w1];exact⟨⟨by omega,he⟩,by omega⟩
  ·rw[if_neg U] at he
   right;rw[he];simp[h6,h7,X,af,be,O,U,Q]
 ·right
  have e:L.drop n=[]:=List.drop_of_length_le (by omega);rw[e,yc] at he;rw[he];simp[h7,X]
theorem Fm(L:List (List UInt8))(y:∀s∈L,s.length≤1000000000)(H:L.length≤1000000000):
  kO prog 151 [.slice 0 0 L.length none] [.cells false 1 (sC L)] (.int .i64 (yc L)) [.cells false 1 (sC L)]:=by
 have Q:aT prog 151=some f151:=by kernel_rfl
 obtain⟨b,U⟩:∃b,ah f151=[b]:=⟨_,rfl⟩
 obtain⟨F,Z⟩:=xB (K:=L.length+1) L y H (by omega) U;simp[ah,aE,f151] at U;subst U;refine cv (lv:=(fun _=>[8])) (K:=(L.length+1)) cO ?_;by_cases V:yc L=0
 ·rw[if_pos V] at Z
  have S:=fun X d h=>(Z X d h).1
  clear Z;simp[aa,Q,f151,S,V]
 ·rw[if_neg V] at Z
  have S:=fun X d h=>(Z X d h).1
  have R:=fun X d h=>(Z X d h).2 V
  clear Z;simp[aa,Q,f151,S,R]
theorem zv(M:Mem):kO prog 151 [.qF] M (.int .i64 0) M:=by
 have Z:aT prog 151=some f151:=by kernel_rfl
 refine cH (ax _) (lv:=fun _=>[8]) (K:=1) rfl rfl ?_ M;simp[aa,Z,f151,bp,gi]
def rT(Q:List Rat):List (List UInt8):=Q.map aB
def Ej(Q:List Rat)(s:Rat):Rat:=Q.foldl (·+·) s
def LW:List Rat→Rat→Prop
 | [],s=>iK s
 |q::l,s=>iK s∧iK q∧LW l (s+q)
section
variable (Q:List Rat)(hQ:LW Q 0)(hl:Q.length≤1000000000)
include Q hQ hl
theorem Ge(H:Q.length<K){b:Code}(y:ah f124=[b]):
  ∃F:Env→Bool→Env,∀Z d,(ab Z 6=.slice 0 0 Q.length none∧ab Z 7=.int .i64 Q.length∧ab Z 8=.int .i64 0∧ab Z 3=.str [48])→
   bh (ba prog) (fun _=>[3,8]) (af be) K 17 1 true (.loop b) ⟨Z,[.cells false 1 (sC (rT Q))],d⟩=some (.exit 0,⟨F Z d,[.cells false 1 (sC (rT Q))],d⟩)∧ab (F Z d) 3=.str (aB (Ej Q 0)):=by
 refine bj rfl (fun Z=>ab Z 6=.slice 0 0 Q.length none∧ab Z 7=.int .i64 Q.length∧ab Z 8=.int .i64 0∧ab Z 3=.str [48]) (fun _ O =>ab O 3=.str (aB (Ej Q 0))) ?_;rintro Z d ⟨h6,h7,h8,h3⟩;simp[ah,aE,f124] at y;have z:aB 0=[48]:=rfl;have R:ay [3,8] (ad b) Z ((3,.str (aB (Ej (Q.take 0) 0)))::(8,.int .i64 ((0:Nat):Int))::Z)=ay [3,8] (ad b) Z Z:=by simp[ay,h8,h3,Ej,z]
 rw[←R];refine bx (α:=Nat) (fun n=>⟨ay [3,8] (ad b) Z ((3,.str (aB (Ej (Q.take n) 0)))::(8,.int .i64 (n:Int))::Z),[.cells false 1 (sC (rT Q))],d⟩) (fun n=>Q.length-n) (fun n=>n≤Q.length∧LW (Q.drop n) (Ej (Q.take n) 0)) (.exit 0) _ d _ (by simp) ?_ K 0 ⟨by omega,by simpa [Ej] using hQ⟩ (by omega);rintro n ⟨Zg,X⟩;clear R;subst y;by_cases S:n<Q.length
 ·obtain⟨q,U⟩:∃s,Q[n]? =some s:=⟨Q[n],List.getElem?_eq_getElem S⟩
  have N:(sC (rT Q))[n]? =some (.str (aB q)):=by simp[sC,rT,U]
  have G:Q.drop n=q::Q.drop (n+1):=by rw[List.getElem?_eq_some_iff] at U;obtain⟨D,C⟩:=U;rw[←C];exact List.drop_eq_getElem_cons D
  have V:Ej (Q.take (n+1)) 0=Ej (Q.take n) 0+q:=by rw[List.take_add_one,U];simp[Ej]
  rw[G,LW,←V] at X;obtain⟨⟨f1,f2⟩,⟨f3,f4⟩,X⟩:=X;have w1:IntKind.i64.wrap ((n:Int)+1)=((n+1:Nat):Int):=by rw[ae];omega
  left;obtain⟨v,B⟩:=xE (n+1);rw[←B] at w1 X V;obtain⟨s,u⟩:=xE (Ej (Q.take n) 0);rw[←u] at f1 f2 V ⊢;refine⟨v,?_⟩;simp[h6,h7,S,af,be,bd,az,f1,f2,f3,f4,N,w1,V];exact⟨⟨by omega,by rw[←V];exact X⟩,by omega⟩
 ·right
  have e:Q.take n=Q:=List.take_of_length_le (by omega);rw[e];simp[h7,S]
theorem PY:
  kO prog 124 [.slice 0 0 Q.length none] [.cells false 1 (sC (rT Q))] (.str (aB (Ej Q 0))) [.cells false 1 (sC (rT Q))]:=by
 have X:aT prog 124=some f124:=by kernel_rfl
 obtain⟨b,Z⟩:∃b,ah f124=[b]:=⟨_,rfl⟩
 obtain⟨F,V⟩:=Ge (K:=Q.length+1) Q hQ hl (by omega) Z;simp[ah,aE,f124] at Z;subst Z;refine cv (lv:=(fun _=>[3,8])) (K:=(Q.length+1)) cO ?_;simp[aa,X,f124,V]
end
def LG:List (List UInt8)→Option (List Rat)
 | []=>some []
 |k::l=>match ef k,LG l with
  |some a,some r=>some (a::r)
  |_,_=>none
theorem EV:∀{L:List (List UInt8)} {Q:List Rat},LG L=some Q→L=rT Q
 | [],Q,h=>by cases h;rfl
 |k::L,Q,h=>by
  unfold LG at h;split at h
  ·rename_i a r Z h3
   cases h;rw[EV h3,aC Z];rfl
  ·cases h
open Classical in
noncomputable def ie:ae3:=fun c Z M=>match c,Z with
 |.fn 151,[x]=>match pY M x with
  |some L=>if (∀s∈L,s.length≤1000000000)∧L.length≤1000000000 then some ⟨.int .i64 (yc L),none,[]⟩ else none
  |none=>none
 |.fn 124,[x]=>match pY M x with
  |some L=>match LG L with
   |some Q=>if LW Q 0∧Q≠[]∧Q.length≤1000000000 then some ⟨.str (aB (Ej Q 0)),none,[]⟩ else none
   |none=>none
  |none=>none
 |c,Z=>af be c Z M
theorem gy:qS prog ie:=by
 refine bZ fun c S M r h=>?_
 unfold ie at h;split at h
 ·split at h
  ·rename_i L V
   split at h
   ·rename_i X
    cases h;refine aw ?_;rw[List.append_nil];exact VR (rest:=[]) rfl rfl V (Fm L X.1 X.2) (fun Z=>by subst Z;exact zv M)
   ·cases h
  ·cases h
 ·split at h
  ·rename_i L V
   split at h
   ·rename_i Q hQ
    split at h
    ·rename_i X
     cases h;refine aw ?_;rw[List.append_nil];have U:=EV hQ;subst U;have:=PY Q X.1 X.2.2;have R:(rT Q).length=Q.length:=by simp[rT]
     rw[←R] at this;exact VR (rest:=[]) rfl rfl V this (fun Z=>by
      cases Q with
      |nil=>exact absurd rfl X.2.1
      |cons q Q=>cases Z)
    ·cases h
   ·cases h
  ·cases h
 ·exact dr cO h
theorem l8(a b c:List UInt8)(y:a.length≤1000000000)(H:b.length≤1000000000)(hc:c.length≤1000000000)(M:Mem):
  kO prog 100 [.agg [.str a,.str b,.str c]] M (.int .i64 (yc [a,b,c])) M:=by
 have Z:aT prog 100=some f100:=by kernel_rfl
 refine ao gy ?_ M;simp[aa,Z,f100,ie,pY,se,y,H,hc]
theorem mQ(a b:List UInt8)(y:a.length≤1000000000)(H:b.length≤1000000000)(M:Mem):
  kO prog 193 [.agg [.str a,.str b]] M (.int .i64 (yc [a,b])) M:=by
 have Z:aT prog 193=some f193:=by kernel_rfl
 refine ao gy ?_ M;simp[aa,Z,f193,ie,pY,se,y,H]
abbrev V3:=Rat×Rat×Rat
def vA(v:V3):AV:=.agg [.str (aB v.1),.str (aB v.2.1),.str (aB v.2.2)]
def vDg(n:Nat)(v:V3):Prop:=dg n n v.1∧dg n n v.2.1∧dg n n v.2.2
def gG(a b:V3):Rat:=a.1*b.1+a.2.1*b.2.1+a.2.2*b.2.2
variable{q:Rat}
theorem cY{d:Nat}(h:dg n d q)(y:0<n)(hd:0<d)(h1:n≤40000)(h2:d≤40000):iK q:=by have:=h.lens y hd;exact⟨by omega,by omega⟩
theorem Py(a b:V3)(ha:vDg 3000 a)(hb:vDg 3000 b)(M:Mem):kO prog 75 [vA a,vA b] M (.str (aB (gG a b))) M:=by
 have hG:aT prog 75=some f75:=by kernel_rfl
 obtain⟨V,U,S⟩:=a;obtain⟨R,Q,O⟩:=b;obtain⟨N,G,F⟩:=ha;obtain⟨D,C,B⟩:=hb;simp only at N G F D C B;have u:=il N D;have P2:=il G C;have j:=il F B;have Z:dg 1 1 0:=⟨by decide,by decide⟩;have Y:=nd Z u (m:=6001) (by omega) (by omega);have W:=nd Y P2 (m:=12003) (by omega) (by omega);have H:=nd W j (m:=18004) (by omega) (by omega);have y:LW [V*R,U*Q,S*O] 0:=
  ⟨cY Z (by omega) (by omega) (by omega) (by omega),cY u (by omega) (by omega) (by omega) (by omega),cY Y (by omega) (by omega) (by omega) (by omega),cY P2 (by omega) (by omega) (by omega) (by omega),
   cY W (by omega) (by omega) (by omega) (by omega),cY j (by omega) (by omega) (by omega) (by omega),cY H (by omega) (by omega) (by omega) (by omega)⟩
 have Yy:Ej [V*R,U*Q,S*O] 0=V*R+U*Q+S*O:=by simp[Ej,Rat.zero_add]
 obtain⟨f1,f2⟩:=cY N (by omega) (by omega) (by omega) (by omega);obtain⟨f3,f4⟩:=cY G (by omega) (by omega) (by omega) (by omega);obtain⟨f5,f6⟩:=cY F (by omega) (by omega) (by omega) (by omega);obtain⟨g1,g2⟩:=cY D (by omega) (by omega) (by omega) (by omega);obtain⟨g3,g4⟩:=cY C (by omega) (by omega) (by omega) (by omega);obtain⟨g5,g6⟩:=cY B (by omega) (by omega) (by omega) (by omega);clear u P2 j Y W H N G F D C B Z;unfold gG;simp only;obtain⟨p,hp⟩:=xE (V*R);obtain⟨q,hq⟩:=xE (U*Q);obtain⟨r,hr⟩:=xE (S*O);rw[←hp,←hq,←hr] at y Yy ⊢;refine ao gy ?_ M;obtain⟨X,J⟩:∃X,aJ f75=[X]:=⟨_,rfl⟩
 have IR:=nh J (l:=[0,1,0,4,15,0,32,0,128,511,0,1024,0,4096,16383,32767,65535,131071]) (by kernel_rfl);have I:QF [0,1,0,4,15,0,32,0,128,511,0,1024,0,4096,16383,32767,65535,131071] 18 15=true:=by decide
 simp[aJ,bU,f75] at J;subst J;simp[aa,hG,f75,-aK,pz IR,pr,vW,Ev,dT,I,vA,ie,pY,se,LG,az,af,be,bd,f1,f2,f3,f4,f5,f6,g1,g2,g3,g4,g5,g6,←hp,←hq,←hr,y,Yy,Nat.testBit]
theorem CJ:aB 0=[48]:=rfl
theorem LF:aB q=[48]↔q=0:=by
 constructor
 ·intro h
  have:=az q;rw[h,←CJ,az] at this;exact(Option.some.inj this).symm
 ·rintro rfl;rfl
theorem GQ{a b:Rat}(h:aB a=aB b):a=b:=by have:=az a;rw[h,az] at this;exact(Option.some.inj this).symm
theorem jx(h:dg 200 200 q):Ay (aB q)=0:=by unfold Ay;rw[az];exact if_pos (h.lens (by decide) (by decide))
theorem lf(h:dg n n q)(h0:0<n)(h1:n≤40000):(aB q).length≤1000000000:=fJ (cY h h0 h0 h1 h1)
theorem Ti{v:V3}(h:vDg 200 v):yc [aB v.1,aB v.2.1,aB v.2.2]=0:=by simp[yc,jx h.1,jx h.2.1,jx h.2.2]
theorem vDg.mono{m:Nat}{v:V3}(h:vDg n v)(y:n≤m):vDg m v:=⟨h.1.mono y y,h.2.1.mono y y,h.2.2.mono y y⟩
theorem vo(v:V3)(h:vDg 200 v)(M:Mem):kO prog 100 [vA v] M (.int .i64 0) M:=by have:=l8 (aB v.1) (aB v.2.1) (aB v.2.2) (lf h.1 (by decide) (by decide)) (lf h.2.1 (by decide) (by decide)) (lf h.2.2 (by decide) (by decide)) M;rw[Ti h] at this;exact this
theorem MQ(a b c:List UInt8)(M:Mem):kO prog 257 [.agg [.str a,.str b,.str c]] M (.bool (a==[48]&&b==[48]&&c==[48])) M:=by
 have Z:aT prog 257=some f257:=by kernel_rfl
 refine ao (ax _) ?_ M;cases h1:(a==[48])<;>cases h2:(b==[48])<;>cases h3:(c==[48])<;>simp[aa,Z,f257,h1,h2,h3]
noncomputable def rf(f:FuncId)(args:List AV):Option AV:=
 match f,args with
 |100,[.agg [.str a,.str b,.str c]]=>if a.length≤1000000000∧b.length≤1000000000∧c.length≤1000000000 then some (.int .i64 (yc [a,b,c])) else none
 |193,[.agg [.str a,.str b]]=>if a.length≤1000000000∧b.length≤1000000000 then some (.int .i64 (yc [a,b])) else none
 |257,[.agg [.str a,.str b,.str c]]=>some (.bool (a==[48]&&b==[48]&&c==[48]))
 |75,[.agg [.str a,.str b,.str c],.agg [.str d,.str e,.str f]]=>match ef a,ef b,ef c,ef d,ef e,ef f with
  |some a,some b,some c,some d,some e,some f=>if (ai a.num.natAbs).length≤2999∧(ai a.den).length≤2999∧(ai b.num.natAbs).length≤2999∧(ai b.den).length≤2999∧(ai c.num.natAbs).length≤2999∧(ai c.den).length≤2999∧
    (ai d.num.natAbs).length≤2999∧(ai d.den).length≤2999∧(ai e.num.natAbs).length≤2999∧(ai e.den).length≤2999∧(ai f.num.natAbs).length≤2999∧(ai f.den).length≤2999 then some (.str (aB (a*d+b*e+c*f))) else none
  |_,_,_,_,_,_=>none
 |_,_=>none
theorem de(h:(ai q.num.natAbs).length≤n∧(ai q.den).length≤n):dg n n q:=by have Z:=bY q.num.natAbs;have X:=bY q.den;have h3:10 ^ (ai q.num.natAbs).length≤10 ^ n:=Nat.pow_le_pow_right (by omega) h.1;have V:10 ^ (ai q.den).length≤10 ^ n:=Nat.pow_le_pow_right (by omega) h.2;exact⟨by omega,by omega⟩
theorem yJ:qS prog (af rf):=bH fun f S v h mem=>by
 unfold rf at h;split at h
 ·split at h
  next Z=>cases h;exact l8 _ _ _ Z.1 Z.2.1 Z.2.2 mem
  ·cases h
 ·split at h
  next Z=>cases h;exact mQ _ _ Z.1 Z.2 mem
  ·cases h
 ·cases h;exact MQ _ _ _ mem
 ·split at h
  ·rename_i a b c d e f R Q Z O N G
   split at h
   ·rename_i F
    obtain⟨D,C,B,u,m,j,Y,W,J,X,V,U⟩:=F;cases h;rw[aC R,aC Q,aC Z,aC O,aC N,aC G];exact Py (a,b,c) (d,e,f) ⟨(de ⟨D,C⟩).mono (by omega) (by omega),(de ⟨B,u⟩).mono (by omega) (by omega),(de ⟨m,j⟩).mono (by omega) (by omega)⟩
     ⟨(de ⟨Y,W⟩).mono (by omega) (by omega),(de ⟨J,X⟩).mono (by omega) (by omega),(de ⟨V,U⟩).mono (by omega) (by omega)⟩ mem
   ·cases h
  ·cases h
 ·cases h
noncomputable def Kg:ae3:=ae3.or (af rf) ie
theorem Kh:qS prog Kg:=qS.or yJ gy
end Go.Proofs
