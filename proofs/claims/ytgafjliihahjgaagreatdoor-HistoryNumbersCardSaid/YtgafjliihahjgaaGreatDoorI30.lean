/- See I36. -/
import Derived.Test.YtgafjliihahjgaaGreatDoorI29
import Derived.Test.YtgafjliihahjgaaGreatDoorI28
set_option linter.all false
set_option maxRecDepth 100000
set_option maxHeartbeats 40000000
namespace Go.Proofs
open Go.Eng
theorem DY{a:Rat}:0<=oB a↔0<=a:=by
 have h:0<=oB a↔0<=a.num:=by
  unfold oB oz;split
  .omega
  .split<;>omega
 rw[h,Rat.num_nonneg]
theorem Xx{a:Rat}(h:0<oB a):0<a:=by
 have Z:=DY.1 (show 0<=oB a by omega);have X:a≠0:=by rintro rfl;exact absurd h (by decide)
 grind
def D9(A B C q:P2):Rat×Rat×Rat:=(dJ B C q,dJ C A q,dJ A B q)
def inQ(w:Rat×Rat×Rat):Prop:=0<=oB w.1/\0<=oB w.2.1/\0<=oB w.2.2
instance (w:Rat×Rat×Rat):Decidable (inQ w):=inferInstanceAs (Decidable (0<=oB w.1/\0<=oB w.2.1/\0<=oB w.2.2))
def D7(P:List P2)(q:P2)(t:Tr):Rat×Rat×Rat:=D9 (P.getD t.1 (0,0)) (P.getD t.2.1 (0,0)) (P.getD t.2.2 (0,0)) q
def Vb(P:List P2)(q:P2):List Tr->Nat->Option (Nat×(Rat×Rat×Rat))
 | [],_=>none
 |t::l,i=>if inQ (D7 P q t) then some (i,D7 P q t) else Vb P q l (i+1)
theorem xM{P:List P2}{q:P2}:∀{T:List Tr} {k j:Nat} {w:Rat×Rat×Rat},Vb P q T k=some (j,w)->∃i t,j=k+i/\T[i]? =some t/\inQ (D7 P q t)/\w=D7 P q t/\∀(l:Nat) s,l<i->T[l]? =some s->¬inQ (D7 P q s)
 | [],k,j,w,h=>by simp[Vb] at h
 |t::l,k,j,w,h=>by
  rw[Vb] at h;split at h
  .rename_i Z
   simp only[N3,Prod.mk.injEq] at h;exact⟨0,t,by omega,rfl,Z,h.2.symm,fun l s O=>by omega⟩
  .rename_i Z
   obtain⟨i,s,M,W,h3,V,S⟩:=xM h;refine⟨i+1,s,by omega,by simpa using W,h3,V,fun m x K X=>?_⟩;cases m with
   |zero=>simp at X;subst X;exact Z
   |succ m=>exact S m x (by omega) (by simpa using X)
theorem MJ{P:List P2}{q:P2}:∀{T:List Tr} {k:Nat},Vb P q T k=none->∀(l:Nat) s,T[l]? =some s->¬inQ (D7 P q s)
 | [],k,h,l,s,hs=>by simp at hs
 |t::r,k,h,l,s,hs=>by
  rw[Vb] at h;split at h
  .cases h
  .rename_i Z
   cases l with
   |zero=>simp at hs;subst hs;exact Z
   |succ m=>exact MJ h m s (by simpa using hs)
def Yy(w:Rat×Rat×Rat)(a b c:Rat):Rat:=(w.1*a+w.2.1*b+w.2.2*c) / (w.1+w.2.1+w.2.2)
def Nw(z:Rat):List Rat->Nat
 | []=>0
 |h::l=>if h<=z then Nw z l+1 else 0
theorem OZ(z:Rat):∀l,Nw z l<=l.length
 | []=>L9 0
 |h::l=>by
  rw[Nw];split
  .have:=OZ z l;simp;omega
  .omega
theorem Uv{z:Rat}:∀{l:List Rat} {i:Nat} {h:Rat},i<Nw z l->l[i]? =some h->h<=z
 | [],i,h,hi,_=>by simp[Nw] at hi
 |a::l,i,h,hi,hl=>by
  rw[Nw] at hi;split at hi
  .rename_i Z
   cases i with
   |zero=>simp at hl;subst hl;exact Z
   |succ i=>exact Uv (l:=l) (i:=i) (by omega) (by simpa using hl)
  .omega
theorem Uu{z:Rat}:∀{l:List Rat} {h:Rat},l[Nw z l]? =some h->¬h<=z
 | [],h,hl=>by simp at hl
 |a::l,h,hl=>by
  rw[Nw] at hl;split at hl
  .exact Uu (l:=l) (by simpa using hl)
  .rename_i Z
   simp at hl;subst hl;exact Z
def Ir(s:af8)(j:Nat)(w:Rat×Rat×Rat)(Q:List Rat):Rat:=Yy w (Q.getD (s.T.getD j (0,0,0)).1 0) (Q.getD (s.T.getD j (0,0,0)).2.1 0) (Q.getD (s.T.getD j (0,0,0)).2.2 0)
noncomputable def Y9(s:af8)(Z:List Int)(y:List (List Int))(p:Rat×Rat×Rat):Int:=
 match Vb s.P (p.1,p.2.1) s.T 0 with
 |none=> -2
 |some (j,w)=>if p.2.2<Ir s j w (qH Z) then -1 else (Nw p.2.2 (y.map fun Y=>Ir s j w (qH Y)):Int)
theorem WL(A B C q:P2):dJ B C q+dJ C A q+dJ A B q=dJ A B C:=by
 unfold dJ
 grind
theorem MH{x S V:Rat}(y:0<S)(h:x*S<=V*S):x<=V:=by
 rcases (Rat.le_total:x<=V\/V<=x) with h1 | h1
 .exact h1
 .by_cases Z:x=V
  .rw[Z];exact Rat.le_refl
  .have:=Rat.mul_pos (show 0<x-V by grind) y
   grind
def Y6(a b c:P2):Prop:=((aga a.1/\aga a.2)/\(aga b.1/\aga b.2)/\aga c.1/\aga c.2)/\(aga (b.1-a.1)/\aga (c.2-a.2)/\aga (b.2-a.2)/\aga (c.1-a.1))/\aga ((b.1-a.1)*(c.2-a.2))/\aga ((b.2-a.2)*(c.1-a.1))
def XD(A B C q:P2):Prop:=Y6 B C q/\Y6 C A q/\Y6 A B q
structure aix (P:List P2)(T:List Tr)(q:P2):Prop where
 tri:∀(i:Nat) t,T[i]? =some t->∃A B C,P[t.1]? =some A/\P[t.2.1]? =some B/\P[t.2.2]? =some C/\XD A B C q
 hl:P.length<=1000/\T.length<=1000
section
variable {P:List P2}{T:List Tr}{v:V3}
theorem aix.at(H:aix P T (v.1,v.2.1)){i:Nat}{t:Tr}(h:T[i]? =some t):∃A B C,P[t.1]? =some A/\P[t.2.1]? =some B/\P[t.2.2]? =some C/\XD A B C (v.1,v.2.1)/\D7 P (v.1,v.2.1) t=D9 A B C (v.1,v.2.1):=by obtain⟨A,B,C,Z,X,h3,W⟩:=H.tri i t h;exact⟨A,B,C,Z,X,h3,W,by unfold D7;simp[List.getD,Z,X,h3]⟩
end
theorem DZ(s:af8){i:Nat}{t:Tr}(h:s.T[i]? =some t):∃A B C,s.P[t.1]? =some A/\s.P[t.2.1]? =some B/\s.P[t.2.2]? =some C/\0<dJ A B C:=by
 have Z:=QB s;unfold jv at Z;simp only[Es] at Z;have:=List.all_eq_true.1 Z.1.1.2 t (Lo h);split at this
 .rename_i A B C X W h3
  exact⟨A,B,C,X,W,h3,Xx (by simpa using this)⟩
 .cases this
theorem VN(s:af8):s.T.length<=1000:=by
 have:∀k<8,(bL k).length<=1000:=by decide
 exact this _ (Nat.mod_lt _ (by decide))
end Go.Proofs
namespace Go.Proofs
open Go.Eng
open Tryz
def aak(M:Mem)(x:AV)(L:List (List UInt8×List UInt8)):Prop:=∃b o Z,x=.slice b 0 L.length none/\M[b]? =some (.cells o 2 Z)/\Z.take (2*L.length)=kC L
theorem U1(n:Nat):∀L:List (List UInt8×List UInt8),AV.agn n (kC L)=true
 | []=>by simp[kC,AV.agn]
 |k::L=>by simp[kC,AV.agn,AV.under,U1 n L]
theorem W6:∀{L:List (List UInt8×List UInt8)} {i:Nat} {v:AV} (f:Nat->Option Nat),(kC L)[i]? =some v->v.ren f=v:=by
 intro L i v f h;have Z:=XQ f L;rw[gT] at Z;have:((kC L).map (AV.ren f))[i]? =(kC L)[i]? :=by rw[Z]
 rw[QQX,h] at this;simpa using this
variable{L:List (List UInt8×List UInt8)}{M:Mem}
theorem DW{ks:List Nat}{b:Nat}{o:Bool}{cs:List AV}(h:M[b]? =some (.cells o 2 cs))(y:cs.take (2*L.length)=kC L):agH ks M b (.cells false 2 (kC L)):=by
 refine⟨U1 _ _,o,cs,h,fun j v Z=>?_⟩;have X:j<2*L.length:=by have:=gL Z;rw[lE] at this;exact this
 have:cs[j]? =(kC L)[j]? :=by rw[<-y,QQQ X]
 rw[this,Z,W6 _ Z]
theorem ZB{P:Program}{f:FuncId}{x:AV}{rest:List AV}{v:AV}(hr:AV.af9 rest=true)(y:v.closed=true)(h:kO P f (.slice 0 0 L.length none::rest) [.cells false 2 (kC L)] v [.cells false 2 (kC L)])(hx:aak M x L):kO P f (x::rest) M v M:=by
 obtain⟨b,o,O,rfl,W,V⟩:=hx;have S:=gL W;have hu:AV.agn [b].length (.slice 0 0 L.length none::rest)=true:=by
  show(decide (0<1)&&AV.agn 1 rest)=true
  rw[cT hr];rfl
 have:=kO.frame (M:=M) (new:=[]) [b] (m:=[.cells false 2 (kC L)]) rfl (by simpa using S) hu (fun i s Z=>by
  cases i with
  |zero=>simp at Z;subst Z;exact DW W V
  |succ i=>simp at Z) rfl (by simpa using h)
 have X:v.ren (eg [b] M.length)=v:=by have:=ca (vs:=[v]) (ρ:=eg [b] M.length) (by simp[AV.af9,y]);simpa [AV.agd] using this
 simpa [AV.agd,AV.ren,eg,ca hr,X] using this
def ZC(a b:Rat×Rat)(u:Rat):Prop:=(aga (u-a.1)/\aga (b.1-a.1)/\b.1-a.1≠0)/\aga ((u-a.1) / (b.1-a.1))/\aga (b.2-a.2)/\aga ((u-a.1) / (b.1-a.1)*(b.2-a.2))
def Y4(Q:List (Rat×Rat))(u:Rat):Prop:=Yt Q/\aga u/\asc Q/\∀(i:Nat) a b,Q[i]? =some a->Q[i+1]? =some b->a.1<=u->u<b.1->ZC a b u
theorem gR:∀{Q:List (Rat×Rat)} {u:Rat},asc Q->∀(i:Nat) q,Q[i]? =some q->(q.1<=u↔i<cz Q u)
 | [],u,_,i,q,h=>by simp at h
 |a::l,u,ha,i,q,h=>by
  by_cases Z:a.1<=u
  .have e:cz (a::l) u=cz l u+1:=by rw[cz,if_pos Z,QXJ]
   cases i with
   |zero=>simp at h;subst h;exact⟨fun _=>by omega,fun _=>Z⟩
   |succ i=>
    have:=gR (HG ha) i q (by simpa using h) (u:=u);rw[e,this];omega
  .have e:cz (a::l) u=0:=tl ha (by simpa using Rat.not_le.1 Z)
   rw[e];refine⟨fun hq=>absurd ?_ Z,fun h=>by omega⟩;cases i with
   |zero=>simp at h;subst h;exact hq
   |succ i=>
    have X:∀{l:List (Rat×Rat)}{a:Rat×Rat},asc (a::l)->∀(i:Nat) q,l[i]? =some q->a.1<=q.1:=by
     intro l;induction l with
     |nil=>intro a _ i q h;simp at h
     |cons b l ih=>
      intro a h i q hq;have W:=h.1;cases i with
      |zero=>simp at hq;subst hq;grind
      |succ i=>
       have:=ih h.2 i q (by simpa using hq)
       grind
    have:=X ha i q (by simpa using h)
    grind
theorem zo:∀{Q:List (Rat×Rat)} {u:Rat},asc Q->∀(m:Nat) a b,Q[m]? =some a->Q[m+1]? =some b->a.1<=u->u<b.1->gB Q u=a.2+(u-a.1) / (b.1-a.1)*(b.2-a.2)
 | [],u,_,m,a,b,h,_,_,_=>by simp at h
 | [q],u,_,m,a,b,_,h,_,_=>by simp at h
 |q::r::l,u,ha,m,a,b,h1,h2,h3,h4=>by
  cases m with
  |zero=>simp at h1 h2;subst h1 h2;exact Nt ha h3 h4
  |succ m=>
   have Z:r.1<=u:=by have:=(gR (u:=u) ha.2 m a (by simpa using h1)).1 h3;exact(gR ha.2 0 r rfl).2 (by omega)
   rw[PH ha Z];exact zo ha.2 m a b (by simpa using h1) (by simpa using h2) h3 h4
theorem Gt:∀{Q:List (Rat×Rat)} {u:Rat} {m:Nat} {a:Rat×Rat},asc Q->Q.length=m+1->Q[m]? =some a->a.1<=u->gB Q u=a.2:=by
 intro Q u m a X W Z hu;have O:=(gR X m a Z).1 hu;have K:=pf Q u;have e:cz Q u=Q.length:=by omega
 have V:Q≠[]:=by rintro rfl;simp at W
 unfold gB wh;rw[e,if_neg V,if_neg (by omega),if_pos rfl];have S:Q.length-1=m:=by omega
 simp only[S];rw[show Q.getD m (0,0)=a by simp[List.getD,Z],Rat.zero_mul,Rat.add_zero]
theorem Ae{a:Rat×Rat}{l:List (Rat×Rat)}{u:Rat}(y:asc (a::l))(hu:u<a.1):gB (a::l) u=a.2:=by have e:cz (a::l) u=0:=tl y (by simpa using hu);unfold gB wh;rw[e];simp[Rat.zero_mul,Rat.add_zero]
theorem K9{K:Nat}(Q:List (Rat×Rat))(u:Rat)(h:Y4 Q u)(H:Q.length<=1000000000)(I:Q.length<K){b:Code}(y:ag f87=[b]):
  ∃F:Env->Bool->Env,∀Z d,(ad Z 0=.slice 0 0 Q.length none/\ad Z 1=.str (aB u)/\ad Z 6=.int .i64 0)->
   aT (aU prog) (fun _=>[6]) (af aq) K 83 1 true (.loop b) ⟨Z,[.cells false 2 (kC (kT Q))],d⟩=some (.exit 0,⟨F Z d,[.cells false 2 (kC (kT Q))],d⟩)/\
    ad (F Z d) 6=.int .i64 (cz Q u)/\ad (F Z d) 0=.slice 0 0 Q.length none/\ad (F Z d) 1=.str (aB u):=by
 refine bG rfl (fun Z=>ad Z 0=.slice 0 0 Q.length none/\ad Z 1=.str (aB u)/\ad Z 6=.int .i64 0) (fun _ V =>ad V 6=.int .i64 (cz Q u)/\ad V 0=.slice 0 0 Q.length none/\ad V 1=.str (aB u)) ?_;rintro Z d ⟨h0,h1,h6⟩;obtain⟨hQ,⟨S,O⟩,B,_⟩:=h;simp[ag,aH,f87] at y;have J:au [6] (ab b) Z ((6,.int .i64 ((0:Nat):Int))::Z)=au [6] (ab b) Z Z:=by simp[au,h6]
 rw[<-J];have R:(kC (kT Q)).length=2*Q.length:=by rw[lE,ib]
 have hp:=pf Q u;refine bW (α:=Nat) (fun n=>⟨au [6] (ab b) Z ((6,.int .i64 (n:Int))::Z),[.cells false 2 (kC (kT Q))],d⟩) (fun n=>Q.length-n) (fun n=>n<=cz Q u) (.exit 0) _ d _ (by simp) ?_ K 0 (by omega) (by omega);intro n A;clear J;subst y;by_cases W:n<Q.length
 .obtain⟨q,hq⟩:∃q,Q[n]? =some q:=⟨Q[n],GT W⟩
  obtain⟨k1,z,k3⟩:=O9 (U2 hq);obtain⟨⟨f1,f2⟩,_⟩:=hQ q (Lo hq);have G:=gR B n q hq (u:=u);have D:n*2<(kC (kT Q)).length:=by omega
  have C:∀h,(kC (kT Q))[n*2]'h=.str (aB q.1):=gE z
  have w1:IntKind.i64.wrap ((n:Int)+1)=((n+1:Nat):Int):=by rw[ai];omega
  obtain⟨m,j⟩:=xE (n+1);rw[<-j] at w1;by_cases X:q.1<=u
  .left
   have c:=vT.2 X;have Y:=G.1 X;refine⟨m,?_⟩;simp[h0,h1,W,af,aq,aI,aw,f1,f2,S,O,C,D,c,w1];omega
  .right
   have c:¬nL q.1 u<=0:=fun h=>X (vT.1 h)
   have e:cz Q u=n:=by
    have:¬n<cz Q u:=fun h=>X (G.2 h)
    omega
   rw[e];simp[h0,h1,W,af,aq,aI,aw,f1,f2,S,O,C,D,c]
 .right
  have e:cz Q u=n:=by omega
  have X' :¬(n:Int)<Q.length:=by omega
  rw[e];simp[h0,h1,W]
theorem IG(Q:List (Rat×Rat))(u:Rat)(h:Y4 Q u)(hp:0<Q.length)(hl:Q.length<=1000000000):
  kO prog 87 [.slice 0 0 Q.length none,.str (aB u)] [.cells false 2 (kC (kT Q))] (.tuple [.int .i64 (cz Q u),.str (aB (gB Q u))]) [.cells false 2 (kC (kT Q))]:=by
 have hG:aS prog 87=some f87:=by kernel_rfl
 obtain⟨b,hb⟩:∃b,ag f87=[b]:=⟨_,rfl⟩
 obtain⟨F,C⟩:=K9 (K:=Q.length+1) Q u h hl (by omega) hb;obtain⟨os,A'⟩:∃os,aN f87=os:=⟨_,rfl⟩
 have PP:=bP A' (ls:=[[0,1,3,7,0,31],[0,0,0,4,14,30,62,1,255],[0,0,2,7,15,0,0,96,224,0,0,1567,4095],[0,0,2,7,0,16,0,64,255,511,1023,2047,2047,4095,16383],[0,0,2,0,0,16,0,64,240,504,1022,2047,4095]]) (by kernel_rfl);simp only[aN,cj,f87,lA] at A';subst A';simp only[lB] at PP;obtain⟨hb0,hb1,hb2,hb3,hb4⟩:=PP;have j0:be [0,1,3,7,0,31] 5=true:=by decide
 have j1:be [0,0,0,4,14,30,62,1,255] 8=true:=by decide
 have j3:be [0,0,2,7,0,16,0,64,255,511,1023,2047,2047,4095,16383] 14=true:=by decide
 have j4:be [0,0,2,0,0,16,0,64,240,504,1022,2047,4095] 12=true:=by decide
 simp[ag,aH,f87] at hb;subst hb;have S':=fun G d h=>(C G d h).1
 have Z:=fun G d h=>(C G d h).2.1
 have O:=fun G d h=>(C G d h).2.2.1
 have B:=fun G d h=>(C G d h).2.2.2
 clear C;obtain⟨hQ,⟨u1,u2⟩,ha,A⟩:=h;have kl:(kC (kT Q)).length=2*Q.length:=by rw[lE,ib]
 have hle:=pf Q u;have D :¬Q.length=0:=by omega
 have IR:¬Q=[]:=by rintro rfl;simp at hp
 obtain⟨n,hn⟩:=xE (cz Q u);have X:=fun i q hq=>gR (u:=u) ha i q hq
 rw[<-hn] at hle Z |-;simp only[<-hn] at X;have h:aa (aU prog) (fun _=>[6]) (aS prog) (af aq) (Q.length+1) 87 [.slice 0 0 Q.length none,.str (aB u)] [.cells false 2 (kC (kT Q))]=some ⟨.tuple [.int .i64 n,.str (aB (gB Q u))],none,[]⟩:=by
  by_cases h0:n=0
  .obtain⟨q,hq⟩:∃q,Q[0]? =some q:=⟨Q[0],GT hp⟩
   obtain⟨k1,k2,k3⟩:=O9 (U2 hq);have j:gB Q u=q.2:=by
    cases Q with
    |nil=>simp at hp
    |cons a l=>
     simp at hq;subst hq;exact Ae ha (Rat.not_le.1 fun h=>by have:=(X 0 a rfl).1 h;omega)
   rw[j];subst h0;simp at k3;simp[aa,hG,f87,S',Z,O,hp,D,k3,-aJ,ak hb0,bt,bj,bp,j0]
  .by_cases hE:n=Q.length
   .obtain⟨m,hm⟩:∃m,n=m+1:=⟨n-1,by omega⟩
    obtain⟨q,hq⟩:∃q,Q[m]? =some q:=⟨Q[m],GT (by omega)⟩
    obtain⟨k1,k2,k3⟩:=O9 (U2 hq);have j:gB Q u=q.2:=Gt ha (by omega) hq ((X m q hq).2 (by omega));rw[j];have w2:IntKind.i64.wrap ((n:Int)-1)=(m:Int):=by rw[ai];omega
    have J:m<Q.length:=by omega
    rw[<-hE] at D J S' Z O B |-;simp[aa,hG,f87,S',Z,O,h0,J,k3,w2,-aJ,ak hb1,bt,bj,bp,j1]
   .obtain⟨m,hm⟩:∃m,n=m+1:=⟨n-1,by omega⟩
    have hE' :¬(n:Int)=Q.length:=by omega
    obtain⟨a,W⟩:∃q,Q[m]? =some q:=⟨Q[m],GT (by omega)⟩
    obtain⟨b,V⟩:∃q,Q[n]? =some q:=⟨Q[n],GT (by omega)⟩
    obtain⟨a1,a2,a3⟩:=O9 (U2 W);obtain⟨b1,b2,b3⟩:=O9 (U2 V);have Y:=(X m a W).2 (by omega);have R:u<b.1:=Rat.not_le.1 fun h=>by have:=(X n b V).1 h;omega
    have j:=zo ha m a b W (by rw[<-hm];exact V) Y R;obtain⟨⟨⟨x1,x2⟩,⟨x3,x4⟩,I⟩,⟨x5,x6⟩,⟨x7,x8⟩,H,S⟩:=A m a b W (by rw[<-hm];exact V) Y R;obtain⟨⟨f1,f2⟩,f3,f4⟩:=hQ a (Lo W);obtain⟨⟨g1,g2⟩,g3,g4⟩:=hQ b (Lo V);rw[j];have w2:IntKind.i64.wrap ((n:Int)-1)=(m:Int):=by rw[ai];omega
    have J:m<Q.length:=by omega
    have hnl:n<Q.length:=by omega
    have ka:m*2+2<=(kC (kT Q)).length:=by omega
    have kb:n*2+2<=(kC (kT Q)).length:=by omega
    obtain⟨x,hx⟩:=xE (u-a.1);obtain⟨y,hy⟩:=xE (b.1-a.1);obtain⟨z,hz⟩:=xE (b.2-a.2);rw[<-hx] at x1 x2 x5 x6 H S |-;rw[<-hy] at x3 x4 x5 x6 H S I |-;rw[<-hz] at x7 x8 H S |-;obtain⟨k,hk⟩:=xE (x / y);rw[<-hk] at x5 x6 H S |-;simp[aa,hG,f87,S',Z,O,B,h0,D,hE',J,hnl,a1,b1,ka,kb,w2,af,aq,aI,aw,f1,f2,f3,f4,g1,g2,g3,g4,u1,u2,<-hx,<-hy,<-hz,x1,x2,x3,x4,I,<-hk,x5,x6,x7,x8,H,S,-aJ,bN hb2,fC,lO,jn,fA,dm,od,bef,qS,ak hb3,ak hb4,bt,bj,bp,j3,j4,Nat.testBit]
 have:=(ah ae (al _) cw (ao _) h).1;simpa [afA.mem] using this
def zV(n:Z3):V3:=((n.1:Rat),(n.2.1:Rat),(n.2.2:Rat))
def sgB(y:Bool):Rat:=if y then -1 else 1
def MO(n:Z3)(o:Int)(v:Z3)(y:Bool)(p:V3):V3:=if (o:Rat)<=gm (zV n) p then wI p (ng (zV v) (sgB y)) else p
def SI(n:Z3)(K:List P2)(v:Z3)(y:Bool)(p:V3):V3:=wI p (ng (zV v) (sgB y*gB K (gm (zV n) p)))
def SJ(t:Int×Int×Int×Int)(c:Z3)(y:Bool)(p:V3):V3:=wI (Fc (nb t.1 y) (pr t.2.1 t.2.2.1 t.2.2.2) (wI p (ng (zV c) (-1)))) (zV c)
theorem OY{a b:Rat}:0<=nL a b↔b<=a:=by
 have h:=HN (a:=a) (b:=b);constructor
 .intro X
  exact Rat.not_lt.1 fun Z=>by have:=h.2 Z;omega
 .intro X
  have:¬nL a b<0:=fun Z=>absurd (h.1 Z) (Rat.not_lt.2 X)
  omega
open Classical in
noncomputable def dQ(f:FuncId)(args:List AV):Option AV:=
 match f,args with
 |92,[.agg [.int .i64 a,.int .i64 b,.int .i64 c,.int .i64 d],.agg [.str x,.str y,.str z],.bool bck]=>match v3P x y z with
  |some v=>if (dw a/\dw b/\dw c/\dw d)/\ahn (nb a bck) (pr b c d) v then some (vA (Fc (nb a bck) (pr b c d) v)) else none
  |none=>none
 |f,args=>eJ f args
theorem ky:adM prog (af dQ):=bX fun f Z v h mem=>by
 unfold dQ at h;split at h
 .split at h
  .rename_i v X
   split at h
   .rename_i hc
    cases h;obtain⟨rfl,rfl,rfl⟩:=gp X;exact NF _ _ _ _ _ v hc.1.1 hc.1.2.1 hc.1.2.2.1 hc.1.2.2.2 hc.2 mem
   .cases h
  .cases h
 .have:=Cx.fn _ _ mem ⟨v,none,[]⟩ (by unfold af;simp only;rw[h])
  simpa [afA.mem] using this
theorem rX:(aN f52).map (fun o=>fN o.toList)=[[0,1,3,7,0,31,0,64,192,448,1023,2047],[0,0,2,6,0,30,63,127],[0,1,3,0,8,24,0,120,255,511,1023,1023,2047,8191],[0,0,2,6,0,0,48,126,255,511],[0,1,3,0,0,16,56,0,255,0,1023,2047]]:=by kernel_rfl
structure ahD (n:Z3)(o:Int)(v:Z3)(bck:Bool)(p:V3):Prop where
 d:agw (zV n) p
 fd:aga (gm (zV n) p)
 o:aga (o:Rat)
 s:Ie (zV v) (sgB bck)
 a:vF p/\vF (ng (zV v) (sgB bck))
theorem ahh:aS prog 52=some f52:=by kernel_rfl
theorem yx(nm:List UInt8)(n:Z3)(o:Int)(v:Z3)(y:Bool)(p:V3)(h:ahD n o v y p)(M:Mem):
  kO prog 52 [.agg (cO nm n o v),vA p,.bool y] M (vA (MO n o v y p)) M:=by
 refine aD ky ?_ M;obtain⟨d,⟨Z,X⟩,⟨B,A⟩,s,Y,J⟩:=h;obtain⟨R,u⟩:∃R,aN f52=R:=⟨_,rfl⟩
 have Q:=bP u rX;simp only[aN,cj,f52,lA] at u;subst u;simp only[lB] at Q;obtain⟨O,G,hb2,hb3,hb4⟩:=Q;have m:be [0,1,3,7,0,31,0,64,192,448,1023,2047] 11=true:=by decide
 have I:be [0,0,2,6,0,30,63,127] 7=true:=by decide
 have F:eS [49]=some 1:=rfl;have D:eS [45,49]=some (-1):=rfl;unfold MO;obtain⟨N,C⟩:=xE (zV n);obtain⟨S,z⟩:=xE (zV v);rw[<-C] at d Z X |-;rw[<-z] at s J |-;obtain⟨q,hq⟩:=xE (α:=Rat) (o:Rat);obtain⟨k,K⟩:=xE (sgB y);rw[<-hq] at B A |-;rw[<-K] at s J |-;obtain⟨H,W⟩:=xE (gm N p);obtain⟨w,j⟩:=xE (ng S k);rw[<-W] at Z X |-;rw[<-j] at J |-;unfold zV at C z;unfold sgB at K;by_cases V:q<=H
 .have c:=OY.2 V
  rw[if_pos V];cases y with
  |false=>
   rw[if_neg (by decide)] at K;rw[<-K] at F;simp[aa,ahh,f52,af,dQ,eJ,dG,aq,aI,vA,cO,zS,yh,aw,<-C,<-z,<-hq,<-W,<-j,F,d,Z,X,B,A,s,Y,J,c,-aJ,ak O,ak G,bt,bj,bp,m,I,Nat.testBit]
  |true=>
   rw[if_pos rfl] at K;rw[<-K] at D;simp[aa,ahh,f52,af,dQ,eJ,dG,aq,aI,vA,cO,zS,yh,aw,<-C,<-z,<-hq,<-W,<-j,D,d,Z,X,B,A,s,Y,J,c,-aJ,ak O,ak G,bt,bj,bp,m,I,Nat.testBit]
 .have c:¬0<=nL H q:=fun h=>V (OY.1 h)
  rw[if_neg V];cases y<;>simp[aa,ahh,f52,af,dQ,eJ,dG,aq,aI,vA,cO,zS,yh,aw,<-C,<-hq,<-W,d,Z,X,B,A,c,-aJ,ak O,bt,bj,bp,m,Nat.testBit]
theorem oD(c:Evc)(hk:c.k=1\/c.k=4)(b u w H:AV)(I:b.af2=true)(hu:u.af2=true)(hs:w.af2=true)(Q:H.af2=true)(y:Bool)(p:V3)(M:Mem):
  kO prog 52 [.agg (c.cells b u w H),vA p,.bool y] M (vA p) M:=by
 refine fM (aj _) ?_;have Z:∀s,(AV.str s).af2=true:=fun _=>rfl
 have X:∀k n,(AV.int k n).af2=true:=fun _ _=>rfl
 rcases hk with hk | hk<;>cases y<;>simp[-AV.af2,Z,aa,ahh,f52,Evc.cells,vA,hk]
structure ahQ (t:Int×Int×Int×Int)(c:Z3)(bck:Bool)(p:V3):Prop where
 f1:dw t.1=true
 f2:dw t.2.1=true
 f3:dw t.2.2.1=true
 f4:dw t.2.2.2=true
 s:Ie (zV c) (-1)
 a:vF p/\vF (ng (zV c) (-1))
 tk:ahn (nb t.1 bck) (pr t.2.1 t.2.2.1 t.2.2.2) (wI p (ng (zV c) (-1)))
 b:vF (Fc (nb t.1 bck) (pr t.2.1 t.2.2.1 t.2.2.2) (wI p (ng (zV c) (-1))))/\vF (zV c)
theorem Ar(nm:List UInt8)(t:Int×Int×Int×Int)(c:Z3)(y:Bool)(p:V3)(h:ahQ t c y p)(M:Mem):
  kO prog 52 [.agg (eG nm t c),vA p,.bool y] M (vA (SJ t c y p)) M:=by
 refine aD ky ?_ M;obtain⟨f1,f2,f3,f4,s,⟨A,V⟩,X,Z,J⟩:=h;obtain⟨t1,t2,t3,t4⟩:=t;simp only at f1 f2 f3 f4 X Z;obtain⟨G,S⟩:∃G,aN f52=G:=⟨_,rfl⟩
 have F:=bP S rX;simp only[aN,cj,f52,lA] at S;subst S;simp only[lB] at F;obtain⟨z,u,m,j,O⟩:=F;have Y:be [0,1,3,0,0,16,56,0,255,0,1023,2047] 11=true:=by decide
 have W:eS [45,49]=some (-1):=rfl;unfold SJ;simp only;obtain⟨C,K⟩:=xE (zV c);rw[<-K] at s V X Z J |-;obtain⟨k,R⟩:=xE (α:=Rat) (-1);rw[<-R] at s V X Z W |-;obtain⟨w,D⟩:=xE (ng C k);rw[<-D] at V X Z |-;obtain⟨q,hq⟩:=xE (wI p w);rw[<-hq] at X Z |-;obtain⟨r,B⟩:=xE (Fc (nb t1 y) (pr t2 t3 t4) q);rw[<-B] at Z |-;unfold zV at K;cases y<;>simp[aa,ahh,f52,af,dQ,eJ,dG,vA,eG,zS,yh,<-K,<-D,<-hq,<-B,W,f1,f2,f3,f4,s,A,V,X,Z,J,-aJ,ak O,bt,bj,bp,Y,Nat.testBit]
abbrev I4:=Int×Int×Int×Int
def qV(t:I4)(y:Bool):I4:=if y then (t.1,-t.2.1,-t.2.2.1,-t.2.2.2) else t
def Zz(t:I4):List Int:=
 [t.1*t.1+t.2.1*t.2.1-t.2.2.1*t.2.2.1-t.2.2.2*t.2.2.2,2*(t.2.1*t.2.2.1-t.1*t.2.2.2),2*(t.2.1*t.2.2.2+t.1*t.2.2.1),
  2*(t.2.1*t.2.2.1+t.1*t.2.2.2),t.1*t.1-t.2.1*t.2.1+t.2.2.1*t.2.2.1-t.2.2.2*t.2.2.2,2*(t.2.2.1*t.2.2.2-t.1*t.2.1),
  2*(t.2.1*t.2.2.2-t.1*t.2.2.1),2*(t.2.2.1*t.2.2.2+t.1*t.2.1),t.1*t.1-t.2.1*t.2.1-t.2.2.1*t.2.2.1+t.2.2.2*t.2.2.2]
def Be(t:I4):Nat:=(t.1*t.1+t.2.1*t.2.1+t.2.2.1*t.2.2.1+t.2.2.2*t.2.2.2).toNat
def tA(t:I4):AV:=.agg [.int .i64 t.1,.int .i64 t.2.1,.int .i64 t.2.2.1,.int .i64 t.2.2.2]
abbrev M3:=V3×V3×V3
def vL(v:V3):List AV:=[.str (aB v.1),.str (aB v.2.1),.str (aB v.2.2)]
def Tk(r:M3)(v:V3):V3:=(gm r.1 v,gm r.2.1 v,gm r.2.2 v)
def ZJ(a b:V3):V3:=(a.1-b.1,a.2.1-b.2.1,a.2.2-b.2.2)
def Tl(t:I4):M3:=
 ((mkRat (t.1*t.1+t.2.1*t.2.1-t.2.2.1*t.2.2.1-t.2.2.2*t.2.2.2) (Be t),mkRat (2*(t.2.1*t.2.2.1-t.1*t.2.2.2)) (Be t),mkRat (2*(t.2.1*t.2.2.2+t.1*t.2.2.1)) (Be t)),
  (mkRat (2*(t.2.1*t.2.2.1+t.1*t.2.2.2)) (Be t),mkRat (t.1*t.1-t.2.1*t.2.1+t.2.2.1*t.2.2.1-t.2.2.2*t.2.2.2) (Be t),mkRat (2*(t.2.2.1*t.2.2.2-t.1*t.2.1)) (Be t)),
  (mkRat (2*(t.2.1*t.2.2.2-t.1*t.2.2.1)) (Be t),mkRat (2*(t.2.2.1*t.2.2.2+t.1*t.2.1)) (Be t),mkRat (t.1*t.1-t.2.1*t.2.1-t.2.2.1*t.2.2.1+t.2.2.2*t.2.2.2) (Be t)))
def mOk(r:M3)(v:V3):Prop:=agw r.1 v/\agw r.2.1 v/\agw r.2.2 v
theorem jU{v:V3}(h:vC v)(M:Mem):kO prog 14 [vA v] M (.int .i64 0) M:=by have:=jK (aB v.1) (aB v.2.1) (aB v.2.2) h.2.1 h.2.2.1 h.2.2.2 M;rw[h.1] at this;exact this
structure aia (r:M3)(c:V3):Prop where
 ck:vC c
 m:mOk r c
 f:vF c/\vF (Tk r c)
 s:vC (ZJ c (Tk r c))
end Go.Proofs
namespace Go.Proofs
open Go.Eng
end Go.Proofs
namespace Go.Proofs
open Go.Eng
open Tryz
def afC(r:M3)(s:V3):Prop:=vC r.1/\vC r.2.1/\vC r.2.2/\vC s
structure aib (r:M3)(s p:V3):Prop where
 ck:afC r s
 pk:vC p
 mm:mOk r p
 fk:vF (Tk r p)/\vF s
 rk:vC (wI (Tk r p) s)
structure ahE (n:Z3)(L:List P2)(v:Z3)(bck:Bool)(p:V3):Prop where
 d:agw (zV n) p
 fd:aga (gm (zV n) p)
 kn:Y4 L (gm (zV n) p)
 w:aga (gB L (gm (zV n) p))
 k:aga (sgB bck)
 s:Ie (zV v) (sgB bck*gB L (gm (zV n) p))
 a:vF p/\vF (ng (zV v) (sgB bck*gB L (gm (zV n) p)))
theorem wR{M:Mem}{b:Nat}{o:Bool}{L:List P2}{u:Rat}(y:0<L.length)(I:L.length<=1000)(H:M[b]? =some (.cells o 2 (kC (kT L))))(h:Y4 L u):
  kO prog 87 [.slice b 0 L.length none,.str (aB u)] M (.tuple [.int .i64 (cz L u),.str (aB (gB L u))]) M:=by
 have X:=ib L;have e:∀b,AV.slice b 0 L.length none=.slice b 0 (kT L).length none:=fun b=>by rw[X]
 have Z:=IG L u h y (by omega);rw[e 0] at Z;rw[e b];exact ZB rfl rfl Z ⟨b,o,_,rfl,H,GE (by rw[lE];omega)⟩
theorem yy(nm:List UInt8)(n:Z3)(L:List P2)(v:Z3)(H:Bool)(p:V3)(h:ahE n L v H p)(hp:0<L.length)(hl:L.length<=1000):
  kO prog 52 [.agg (cn nm n (.slice 0 0 L.length none) v),vA p,.bool H] [.cells false 2 (kC (kT L))] (vA (SI n L v H p)) [.cells false 2 (kC (kT L))]:=by
 obtain⟨d,⟨O,M⟩,B,⟨w1,w2⟩,⟨A,m⟩,s,I,X⟩:=h;have W:adM prog (af3.or (fU 87 [.slice 0 0 L.length none,.str (aB (gm (zV n) p))] (.tuple [.int .i64 (cz L (gm (zV n) p)),.str (aB (gB L (gm (zV n) p)))]) (fun N=>∃Z,N=af6.cells false 2 (kC (kT L))::Z)) (af dQ)):=
  adM.or (gn fun N ⟨Z,hZ⟩=>by subst hZ;exact wR hp hl (b:=0) (o:=false) rfl B) ky
 obtain⟨os,j⟩:∃os,aN f52=os:=⟨_,rfl⟩
 have PP:=bP j rX;simp only[aN,cj,f52,lA] at j;subst j;simp only[lB] at PP;obtain⟨hb0,hb1,K,J,hb4⟩:=PP;have j2:be [0,1,3,0,8,24,0,120,255,511,1023,1023,2047,8191] 13=true:=by decide
 have j3:be [0,0,2,6,0,0,48,126,255,511] 9=true:=by decide
 have G:eS [49]=some 1:=rfl;have F:eS [45,49]=some (-1):=rfl;unfold SI;obtain⟨N,D⟩:=xE (zV n);obtain⟨S,C⟩:=xE (zV v);rw[<-D] at d O M B w1 w2 s X W |-;rw[<-C] at s X |-;obtain⟨u,hu⟩:=xE (gm N p);rw[<-hu] at O M B w1 w2 s X W |-;obtain⟨x,hx⟩:=xE (gB L u);rw[<-hx] at w1 w2 s X W |-;obtain⟨pn,Y⟩:=xE (cz L u);rw[<-Y] at W;obtain⟨k,V⟩:=xE (sgB H);rw[<-V] at A m s X |-;obtain⟨y,R⟩:=xE (k*x);rw[<-R] at s X |-;obtain⟨z,Q⟩:=xE (ng S y);rw[<-Q] at X |-;unfold zV at D C;unfold sgB at V;have h:aa (aU prog) (fun _=>[]) (aS prog) (af3.or (fU 87 [.slice 0 0 L.length none,.str (aB u)] (.tuple [.int .i64 pn,.str (aB x)]) (fun N=>∃Z,N=af6.cells false 2 (kC (kT L))::Z)) (af dQ)) 1 52 [.agg (cn nm n (.slice 0 0 L.length none) v),vA p,.bool H] [.cells false 2 (kC (kT L))]=some ⟨vA (wI p z),none,[]⟩:=by
  clear W;cases H with
  |false=>
   rw[if_neg (by decide)] at V;rw[<-V] at G;simp[aa,ahh,f52,af3.or,fU,af,dQ,eJ,dG,aq,aI,vA,cn,zS,yh,aw,<-D,<-C,<-hu,<-R,<-Q,G,d,w1,w2,A,m,s,I,X,-aJ,ak K,ak J,bt,bj,bp,j2,j3,Nat.testBit]
  |true=>
   rw[if_pos rfl] at V;rw[<-V] at F;simp[aa,ahh,f52,af3.or,fU,af,dQ,eJ,dG,aq,aI,vA,cn,zS,yh,aw,<-D,<-C,<-hu,<-R,<-Q,F,d,w1,w2,A,m,s,I,X,-aJ,ak K,ak J,bt,bj,bp,j2,j3,Nat.testBit]
 have:=(ah ae (al _) W (ao _) h).1;simpa [afA.mem] using this
theorem Aq(nm:List UInt8)(n:Z3)(L:List P2)(v:Z3)(y:Bool)(p:V3)(h:ahE n L v y p)(I:0<L.length)(Q:L.length<=1000)(M:Mem)(b:Nat)(o:Bool)(H:M[b]? =some (.cells o 2 (kC (kT L)))):
  kO prog 52 [.agg (cn nm n (.slice b 0 L.length none) v),vA p,.bool y] M (vA (SI n L v y p)) M:=by
 have X:=gL H;have:=kO.frame (M:=M) (new:=[]) [b] rfl (by simpa using X) (by rfl) (fun i t Z=>by
  match i with
  |0=>simp at Z;subst Z;exact DW (o:=o) H (GE (by rw[lE];rw[ib];omega))
  |i+1=>simp at Z) rfl (yy nm n L v y p h I Q)
 simpa [cn,vA,AV.agd,AV.ren,eg] using this
def Zp(a b:Rat×Rat):Prop:=(b.1-a.1≠0/\aga (b.2-a.2)/\aga (b.1-a.1))/\aga ((b.2-a.2) / (b.1-a.1))/\aga ((b.2-a.2) / (b.1-a.1)*a.1)
def aah(Q:List (Rat×Rat)):Prop:=Yt Q/\∀(i:Nat) a b,Q[i]? =some a->Q[i+1]? =some b->Zp a b
def X8(Q:List (Rat×Rat))(u:Rat):Prop:=(aah Q/\aga u)/\(aga (wh Q (cz Q u)).1/\aga (wh Q (cz Q u)).2)/\aga ((wh Q (cz Q u)).2*u)
theorem XE(i:Nat):(cK i).1.natAbs<=3/\(cK i).2.1.natAbs<=3/\(cK i).2.2.1.natAbs<=3/\(cK i).2.2.2.natAbs<=3:=by
 match i with
 |0 | 1 | 2 | 3 | 4 | n+5=>simp[cK]
structure aic (n:Z3)(o:Int)(v:Z3)(bck:Bool)(p:V3):Prop where
 pk:vC p
 dk:agw (zV n) p
 fd:aga (gm (zV n) p)
 fo:aga (o:Rat)
 pl:Qt p (zV v) (sgB bck)
 rk:vC (wI p (ng (zV v) (sgB bck)))
structure aid (n:Z3)(L:List P2)(v:Z3)(bck:Bool)(p:V3):Prop where
 pk:vC p
 dk:agw (zV n) p
 vk:X8 L (gm (zV n) p)
 fw:aga (gB L (gm (zV n) p))
 fk:aga (sgB bck)
 pl:Qt p (zV v) (sgB bck*gB L (gm (zV n) p))
 rk:vC (wI p (ng (zV v) (sgB bck*gB L (gm (zV n) p))))
theorem Vj{d:Nat}(h:0<d):(d:Rat)≠0:=fun e=>by rw[Rat.natCast_eq_zero_iff] at e;omega
theorem Vf{n:Int}{d:Nat}(h:0<d):mkRat n d*(d:Rat)=(n:Rat):=by rw[Rat.mkRat_eq_div];exact QXK (Vj h)
theorem Ny{n:Int}{d V:Nat}(h:0<d)(y:n.natAbs<=V*d):Sm d V (mkRat n d):=by
 have e:=Vf (n:=n) h;have X:(0:Rat)<(d:Rat):=by exact_mod_cast h
 have W:(n:Rat)<=(V:Rat)*(d:Rat):=by
  have:n<=((V*d:Nat):Int):=by omega
  have:=Rat.intCast_le_intCast.2 this
  rwa [Rat.intCast_natCast,oh] at this
 have S: -((V:Rat)*(d:Rat))<=(n:Rat):=by
  have: -((V*d:Nat):Int)<=n:=by omega
  have:=Rat.intCast_le_intCast.2 this
  rwa [Rat.intCast_neg,Rat.intCast_natCast,oh] at this
 rw[<-e] at W S;refine⟨h,⟨n,e⟩,?_,?_⟩
 .exact Rat.not_lt.1 fun Z=>by
   have:=Rat.mul_lt_mul_of_pos_right Z X
   grind
 .exact Rat.not_lt.1 fun Z=>by
   have:=Rat.mul_lt_mul_of_pos_right Z X
   grind
theorem PJ{n:Z3}{k:Nat}(h:fR k n):vSm 1 k (zV n):=⟨.int h.1,.int h.2.1,.int h.2.2⟩
theorem X7(y:Bool):Sm 1 1 (sgB y):=by
 unfold sgB;cases y
 .exact Sm.int (n:=1) (by decide)
 .exact Sm.int (n:= -1) (by decide)
def knS(L:List P2):Prop:=(∀q∈L,Sm 1 8 q.1/\Sm 2 2 q.2)/\∀(i:Nat) a b,L[i]? =some a->L[i+1]? =some b->b.1=a.1+2
theorem Pc{d:agf}{c i:Nat}{q:P2}(h:(cJ d c)[i]? =some q):q=vZ d i/\i<c:=by unfold cJ at h;rw[QQX,Pl] at h;obtain⟨j,X,W⟩:=h;obtain⟨h3,Z⟩:=N4.1 X;simp at Z h3;exact⟨by rw[<-W,Z],h3⟩
theorem Dq(d:agf)(c:Nat)(hc:c<=3):knS (cJ d c):=by
 refine⟨fun q hq=>?_,fun i a b Z X=>?_⟩
 .obtain⟨i,W⟩:=QQg hq
  obtain⟨rfl,O⟩:=Pc W;have t: -3<d.N.tmod 3/\d.N.tmod 3<3:=pq d.N 3 (by decide);have M:MW d.K i%4<4:=Nat.mod_lt _ (by decide);have S:d.K.2.2.2%2=0\/d.K.2.2.2%2=1:=by omega
  refine⟨.int (by omega),?_⟩;unfold vZ;simp only;rcases S with h | h<;>rw[h]
  .exact(Ny (V:=2) (by decide) (by omega)).to (by decide) (by decide) (L9 2)
  .exact Ny (by decide) (by omega)
 .obtain⟨rfl,J⟩:=Pc Z
  obtain⟨rfl,G⟩:=Pc X;unfold vZ;simp only;have:(d.N.tmod 3+2*((i+1:Nat):Int):Int)=(d.N.tmod 3+2*(i:Int))+2:=by omega
  rw[this,Rat.intCast_add];rfl
theorem Pb:∀{L:List P2},knS L->asc L
 | [],_=>trivial
 | [_],_=>trivial
 |a::b::l,h=>⟨by have:=h.2 0 a b rfl rfl;grind,Pb ⟨fun q hq=>h.1 q (List.mem_cons_of_mem _ hq),fun i x y Z X=>h.2 (i+1) x y (by simpa using Z) (by simpa using X)⟩⟩
section
variable {L:List P2}{D:Nat}{u:Rat}
theorem Ze:aga (2:Rat):=⟨by decide,by decide⟩
theorem Yw(x:Rat):x / 2=x*(1 / ((2:Nat):Rat)):=by rw[show((2:Nat):Rat)=2 from rfl,Rat.div_def,Rat.div_def,Rat.one_mul]
theorem Gn{D V:Nat}{x:Rat}(h:Sm D V x):Sm (D*2) V (x / 2):=by
 rw[Yw];have:=h.mul (Sm.inv (N:=2) (by decide))
 rwa [Nat.mul_one] at this
theorem Qi(h:knS L):Yt L:=fun q hq=>⟨(h.1 q hq).1.aga,(h.1 q hq).2.aga⟩
theorem U5(h:knS L)(hu:Sm D (6*10 ^ 22) u)(y:D<=(10 ^ 63)):Y4 L u:=by
 have d0:=hu.1;refine⟨Qi h,hu.aga,Pb h,fun i a b Z X _ _=>?_⟩;obtain⟨O,M⟩:=h.1 a (Lo Z);obtain⟨G,K⟩:=h.1 b (Lo X);have e:b.1-a.1=2:=by have:=h.2 i a b Z X;grind
 have W:Sm D (6*10 ^ 22+8) (u-a.1):=hu.sub (O.to (Nat.one_dvd _) d0 (L9 8));have V:=(Gn W);have S:Sm 2 4 (b.2-a.2):=K.sub M;have J:=V.mul S;unfold ZC;rw[e];exact⟨⟨W.aga,Ze,by decide⟩,V.aga,S.aga,J.aga⟩
theorem Sk{a b k V:Rat}(y:0<=k)(H:k<=1)(I: -V<=a/\a<=V)(Q: -V<=b/\b<=V): -V<=a+k*(b-a)/\a+k*(b-a)<=V:=by have Z:=Rat.mul_nonneg y (show 0<=V-b by grind);have X:=Rat.mul_nonneg y (show 0<=V+b by grind);have h3:=Rat.mul_nonneg (show 0<=1-k by grind) (show 0<=V-a by grind);have W:=Rat.mul_nonneg (show 0<=1-k by grind) (show 0<=V+a by grind);constructor<;>grind
theorem U6(h:knS L)(y:0<L.length)(hu:Sm D (6*10 ^ 22) u):Sm (4*D) 2 (gB L u):=by
 have d0:=hu.1;have Z:=Pb h;have F:=pf L u;have up:∀q∈L,Sm (4*D) 2 q.2:=fun q hq=>(h.1 q hq).2.to ⟨2*D,by omega⟩ (by omega) (L9 2)
 by_cases R:cz L u=0
 .cases L with
  |nil=>simp at y
  |cons a l=>
   rw[Ae Z (Rat.not_le.1 fun hq=>by have:=(gR Z 0 a rfl).1 hq;omega)];exact up a (by simp)
 obtain⟨m,Q⟩:∃m,cz L u=m+1:=⟨cz L u-1,by omega⟩
 obtain⟨a,X⟩:∃q,L[m]? =some q:=⟨L[m],GT (by omega)⟩
 have V:=(gR (u:=u) Z m a X).2 (by omega);by_cases C:L.length=m+1
 .rw[Gt Z C X V]
  exact up a (Lo X)
 obtain⟨b,W⟩:∃q,L[m+1]? =some q:=⟨L[m+1],GT (by omega)⟩
 have O:u<b.1:=Rat.not_le.1 fun hq=>by have:=(gR (u:=u) Z (m+1) b W).1 hq;omega
 rw[zo Z m a b X W V O];obtain⟨B,S⟩:=h.1 a (Lo X);obtain⟨I,M⟩:=h.1 b (Lo W);have H:=h.2 m a b X W;have e:b.1-a.1=2:=by grind
 rw[e];have A:Sm D (6*10 ^ 22+8) (u-a.1):=hu.sub (B.to (Nat.one_dvd _) d0 (L9 8));have z:Sm 2 4 (b.2-a.2):=M.sub S;have j:=(Gn A).mul z;have G:=(S.to (E:=D*2*2) ⟨D*2,by omega⟩ (by omega) (L9 2)).add j;have K:0<=(u-a.1) / 2:=by
  have Y:(u-a.1) / 2*2=u-a.1:=QXK (by decide)
  grind
 have J:(u-a.1) / 2<=1:=by
  have Y:(u-a.1) / 2*2=u-a.1:=QXK (by decide)
  grind
 have W:=Sk K J ⟨S.2.2.1,S.2.2.2⟩ ⟨M.2.2.1,M.2.2.2⟩;rw[show 4*D=D*2*2 by omega];exact⟨G.1,G.2.1,W⟩
theorem W8(h:knS L):aah L/\∀n,n<=L.length->Sm 4 40 (wh L n).1/\Sm 4 4 (wh L n).2:=by
 have S:Sm 4 4 0:=(Sm.int (V:=4) (n:=0) (by decide)).to (by decide) (by decide) (L9 4);have up:∀q∈L,Sm 4 40 q.2:=fun q hq=>(h.1 q hq).2.to (by decide) (by decide) (by decide)
 refine⟨⟨Qi h,fun i a b K J=>?_⟩,fun n m=>?_⟩
 .obtain⟨O,W⟩:=h.1 a (Lo K)
  obtain⟨C,M⟩:=h.1 b (Lo J);have e:b.1-a.1=2:=by have:=h.2 i a b K J;grind
  have Z:Sm 2 4 (b.2-a.2):=M.sub W;unfold Zp;rw[e];exact⟨⟨by decide,Z.aga,Ze⟩,(Gn Z).aga,((Gn Z).mul O).aga⟩
 .unfold wh
  split
  .exact⟨(Sm.int (V:=40) (n:=0) (by decide)).to (by decide) (by decide) (L9 40),S⟩
  rename_i B;have A:0<L.length:=List.length_pos_iff.2 B;split
  .exact⟨by rw[show L.getD 0 (0,0)=L[0] by simp[List.getD,A]];exact up _ (List.getElem_mem _),S⟩
  rename_i j;have G:n-1<L.length:=by omega
  have F:L.getD (n-1) (0,0)=L[n-1]:=by simp[List.getD,G]
  split
  .exact⟨by rw[F];exact up _ (List.getElem_mem _),S⟩
  rename_i Y;have X:n<L.length:=by omega
  have z:L.getD n (0,0)=L[n]:=by simp[List.getD,X]
  rw[F,z];obtain⟨O,W⟩:=h.1 L[n-1] (List.getElem_mem _);obtain⟨C,M⟩:=h.1 L[n] (List.getElem_mem _);have R:=h.2 (n-1) L[n-1] L[n] (GT G) (by rw[show n-1+1=n by omega];exact GT X);have e:L[n].1-L[n-1].1=2:=by grind
  have Z:Sm 2 4 (L[n].2-L[n-1].2):=M.sub W;unfold Gm;rw[e];exact⟨((W.to (E:=4) (by decide) (by decide) (L9 2)).sub ((Gn Z).mul O)).mono (by decide),(Gn Z)⟩
theorem YA(h:knS L)(hu:Sm D (6*10 ^ 22) u)(y:D<=(10 ^ 63)):X8 L u:=by obtain⟨X,W⟩:=W8 h;obtain⟨h3,Z⟩:=W (cz L u) (pf L u);exact⟨⟨X,hu.aga⟩,⟨h3.aga,Z.aga⟩,(Z.mul hu).aga⟩
end
section
variable {D V:Nat}{p:V3}{n v:Z3}{o:Int}{L:List P2}
theorem FQ(y:fR 2 n)(H:vSm D (10 ^ 22) p):Sm D (6*10 ^ 22) (gm (zV n) p):=by
 have:=(PJ y).dot H
 rwa [Nat.one_mul] at this
theorem xB(y:fR 2 n)(H:vSm D (10 ^ 22) p)(I:D<=(10 ^ 63)):agw (zV n) p:=
 (PJ y).agw H (by decide) (by decide) (by omega) (by omega) (by omega) (by omega)
theorem QC{k:Rat}{E:Nat}(y:fR 8 v)(hk:Sm E 2 k):vSm E 16 (ng (zV v) k):=by
 have:=(PJ y).scl hk
 rwa [Nat.one_mul] at this
theorem Qd(y:Bool)(I:fR 2 n)(R:o.natAbs<=4)(Q:fR 8 v)(H:vSm D V p)(Y:D<=(10 ^ 63))(hV:V<=(10 ^ 22)):
  ahD n o v y p/\aic n o v y p/\vSm D (2*V+20) (MO n o v y p):=by
 have d0:=H.1.1;have X:=H.mono hV;have G:vF p:=X.vF;have F:vF (zV v):=(PJ Q).vF;have C:=(X7 y).mono (W:=2) (by decide);have B:aga (sgB y):=C.aga;have A:=QC Q C;have S:vSm D 16 (ng (zV v) (sgB y)):=A.to (Nat.one_dvd _) d0 (L9 _);have Z:=H.add S;have z:aga (o:Rat):=(Sm.int (V:=4) R).aga;have u:aga (gm (zV n) p):=(FQ I X).aga;have m:=xB I X Y;have O:=Z.mono (W:=(10 ^ 22+16)) (by omega);have j:=A.vF;refine⟨⟨m,u,z,⟨F,B⟩,G,j⟩,⟨X.vC,m,u,z,⟨⟨G,F,B⟩,?_⟩,O.vC⟩,?_⟩
 .obtain⟨M,K,J⟩:=j
  simp only[ng] at M K J;rw[Rat.mul_comm] at M K J;exact⟨M,K,J⟩
 .unfold MO
  split
  .exact Z.mono (by omega)
  .exact H.mono (by omega)
theorem UL(y:Bool)(R:fR 2 n)(H:knS L)(hl:0<L.length)(Y:fR 8 v)(I:vSm D V p)(Q:D<=(10 ^ 63))(hV:V<=(10 ^ 22)):
  ahE n L v y p/\aid n L v y p/\vSm (4*D) (2*V+20) (SI n L v y p):=by
 have d0:=I.1.1;have S:=I.mono hV;have F:vF p:=S.vF;have C:vF (zV v):=(PJ Y).vF;have B:=X7 y;have A:aga (sgB y):=B.aga;have hu:=FQ R S;have w:=U6 H hl hu;have O:=B.mul w;rw[Nat.one_mul,Nat.one_mul] at O;have z:=QC Y O;have Z:=(I.to (E:=4*D) ⟨4,by omega⟩ (by omega) (L9 _)).add z;have fd:aga (gm (zV n) p):=hu.aga;have u:=xB R S Q;have M:=Z.mono (W:=(10 ^ 22+16)) (by omega);have m:=z.vF;have X:=O.aga;have j:=w.aga;refine⟨⟨u,fd,U5 H hu Q,j,A,⟨C,X⟩,F,m⟩,⟨S.vC,u,YA H hu Q,j,A,⟨⟨F,C,X⟩,?_⟩,M.vC⟩,?_⟩
 .obtain⟨K,J,G⟩:=m
  simp only[ng] at K J G;rw[Rat.mul_comm] at K J G;exact⟨K,J,G⟩
 .unfold SI
  exact Z.mono (by omega)
end
theorem VG(t:I4):((Be t:Nat):Rat)=(t.1:Rat)*t.1+(t.2.1:Rat)*t.2.1+(t.2.2.1:Rat)*t.2.2.1+(t.2.2.2:Rat)*t.2.2.2:=by
 have Z:∀x:Int,0<=x*x:=fun x=>by
  rcases Int.le_total 0 x with h | h
  .exact Int.mul_nonneg h h
  .exact Int.mul_nonneg_of_nonpos_of_nonpos h h
 have X:0<=t.1*t.1+t.2.1*t.2.1+t.2.2.1*t.2.2.1+t.2.2.2*t.2.2.2:=by have a:=Z t.1;have b:=Z t.2.1;have c:=Z t.2.2.1;have d:=Z t.2.2.2;omega
 unfold Be;rw[<-Rat.intCast_natCast,QQe X];simp only[Rat.intCast_add,Rat.intCast_mul]
variable{n:Int}
theorem H3{d:Nat}:mkRat n d=(n:Rat)*(1 / (d:Rat)):=by rw[Rat.mkRat_eq_div,Rat.div_def,Rat.div_def,Rat.one_mul]
theorem VF(t:I4)(y:Bool):Be (qV t y)=Be t:=by
 cases y
 .rfl
 .unfold Be qV
  simp only[if_true,Int.neg_mul_neg]
theorem XF(t:I4)(H:Bool)(v:V3):Fc (nb t.1 H) (pr t.2.1 t.2.2.1 t.2.2.2) v=Tk (Tl (qV t H)) v:=by
 have X:nb t.1 H*nb t.1 H+gm (pr t.2.1 t.2.2.1 t.2.2.2) (pr t.2.1 t.2.2.1 t.2.2.2)=((Be t:Nat):Rat):=by rw[VG];unfold nb pr gm;cases H<;>simp only[if_true,Bool.false_eq_true,if_false]<;>grind
 unfold Fc;rw[X];unfold Tk Tl;rw[VF];simp only[H3];obtain⟨k,W⟩:=xE (α:=Rat) (1 / ((Be t:Nat):Rat));rw[<-W];clear X W;obtain⟨w,x,y,z⟩:=t;obtain⟨V,S,O⟩:=v;unfold nb pr gm ng wI V0 qV;cases H
 .simp only[Bool.false_eq_true,if_false,Rat.intCast_add,Rat.intCast_sub,Rat.intCast_mul,Prod.mk.injEq]
  have Z:((2:Int):Rat)=2:=rfl;rw[Z];refine⟨?_,?_,?_⟩<;>grind
 .simp only[if_true,Rat.intCast_add,Rat.intCast_sub,Rat.intCast_mul,Rat.intCast_neg,Prod.mk.injEq]
  have Z:((2:Int):Rat)=2:=rfl;rw[Z];refine⟨?_,?_,?_⟩<;>grind
theorem Xa(t:I4)(c:Z3)(y:Bool)(p:V3):SJ t c y p=wI (Tk (Tl (qV t y)) p) (ZJ (zV c) (Tk (Tl (qV t y)) (zV c))):=by unfold SJ;rw[XF];obtain⟨r,Z⟩:=xE (Tl (qV t y));obtain⟨s,X⟩:=xE (zV c);rw[<-Z,<-X];unfold Tk gm wI ng ZJ;simp only[Prod.mk.injEq];refine⟨?_,?_,?_⟩<;>grind
def e01(n:Int):Nat:=if n=0 then 0 else 1
def Zy(t:I4):Bool:=decide (0<Be t)&&(Zz t).all (fun n=>decide ((Be t:Int)∣5*n))&&(Zz t).all (fun n=>decide (n.natAbs<=e01 n*Be t))&&match (Zz t).map e01 with
 | [a,b,c,d,e,f,g,h,i]=>decide (a+b+c<=2)&&decide (d+e+f<=2)&&decide (g+h+i<=2)
 |_=>false
theorem Xp:(List.range 6).all (fun i=>Zy (qV (cK i) false)&&Zy (qV (cK i) true))=true:=by decide
variable{i:Nat}
theorem VE(H:i<=5)(y:Bool):Zy (qV (cK i) y)=true:=by
 have h:=List.all_eq_true.1 Xp i (List.mem_range.2 (by omega));rw[Es] at h;cases y
 .exact h.1
 .exact h.2
def aha(N:Nat)(r:V3):Prop:=∃a b c,Sm N a r.1/\Sm N b r.2.1/\Sm N c r.2.2/\a+b+c<=2
variable{N:Nat}{r:V3}
theorem aha.sm(h:aha N r):vSm N 2 r:=by obtain⟨a,b,c,Z,X,h3,W⟩:=h;exact⟨Z.mono (by omega),X.mono (by omega),h3.mono (by omega)⟩
theorem aha.dot{D V:Nat}{p:V3}(h:aha N r)(y:vSm D V p):Sm (N*D) (2*V) (gm r p):=by obtain⟨a,b,c,Z,X,h3,W⟩:=h;have:=((Z.mul y.1).add (X.mul y.2.1)).add (h3.mul y.2.2);rw[<-Nat.add_mul,<-Nat.add_mul] at this;exact this.mono (QQf V W)
theorem mk5{d:Nat}(h0:0<d)(h:(d:Int)∣5*n){V:Nat}(y:n.natAbs<=V*d):Sm 5 V (mkRat n d):=by
 obtain⟨k,X⟩:=h;have e:mkRat n d=mkRat k 5:=(Rat.mkRat_eq_iff (by omega) (by decide)).2 (by rw[Int.mul_comm n,Int.mul_comm k];exact X);rw[e];refine Ny (by decide) ?_;have Z:(5*n).natAbs=d*k.natAbs:=by rw[X,QXQ,Int.natAbs_natCast]
 rw[QXQ] at Z;have W:(5:Int).natAbs=5:=rfl;rw[W] at Z;have:d*k.natAbs<=d*(V*5):=by rw[<-Z,V1 5,<-QQh,V1 d V];exact QQf 5 y
 exact Nat.le_of_mul_le_mul_left this h0
theorem Zx(H:i<=5)(y:Bool):∃N,0<N/\N∣5/\aha N (Tl (qV (cK i) y)).1/\aha N (Tl (qV (cK i) y)).2.1/\aha N (Tl (qV (cK i) y)).2.2:=by have h:=VE H y;obtain⟨t,X⟩:=xE (qV (cK i) y);rw[<-X] at h |-;unfold Zy at h;simp only[Zz,List.map_cons,List.map_nil,QQK,List.all_nil,Bool.and_true,Es,L0] at h;obtain⟨⟨⟨Z,d1,d2,d3,d4,d5,d6,d7,d8,d9⟩,W,V,h3,S,O,M,K,J,G⟩,⟨F,D⟩,C⟩:=h;exact⟨5,by decide,Nat.dvd_refl 5,⟨_,_,_,mk5 Z d1 W,mk5 Z d2 V,mk5 Z d3 h3,F⟩,⟨_,_,_,mk5 Z d4 S,mk5 Z d5 O,mk5 Z d6 M,D⟩,⟨_,_,_,mk5 Z d7 K,mk5 Z d8 J,mk5 Z d9 G,C⟩⟩
variable{W:Nat}
theorem YX{D V:Nat}{a b:V3}(h:vSm D V a)(k:vSm D W b):vSm D (V+W) (ZJ a b):=⟨h.1.sub k.1,h.2.1.sub k.2.1,h.2.2.sub k.2.2⟩
theorem ZY(h:N∣5):N<=5:=Nat.le_of_dvd (by decide) h
theorem SO{E:Nat}{a q:V3}(y:aha N a)(hq:vSm E W q)(H:N<=5)(I:E*W<10 ^ 190)(Q:E<10 ^ 190)(R:N*E*(2*W+2*W)<10 ^ 190)(Y:N*E<10 ^ 190):agw a q:=
 y.sm.agw hq (by omega) (by omega) I Q R Y
variable{c:Z3}
theorem Tb{D V:Nat}{p:V3}(I:i<=5)(y:Bool)(hc:fR 2 c)(H:vSm D V p)(Q:D<=(10 ^ 63))(R:V<=(10 ^ 22)):
  aia (Tl (qV (cK i) y)) (zV c)/\aib (Tl (qV (cK i) y)) (ZJ (zV c) (Tk (Tl (qV (cK i) y)) (zV c))) p/\vSm (5*D) (2*V+20) (SJ (cK i) c y p):=by
 obtain⟨N,m,J,r1,r2,M⟩:=Zx I y;have Z:=ZY J;rw[Xa];obtain⟨r,hr⟩:=xE (Tl (qV (cK i) y));rw[<-hr] at r1 r2 M |-;have d0:=H.1.1;have F:=H.mono R;have S:=PJ hc;have K:N*1*(2*2+2*2)<10 ^ 190:=by omega
 have C:N*D<=(5*10 ^ 63):=by have:=Nat.mul_le_mul Z Q;omega
 have X:N*D*(2*(10 ^ 22)+2*(10 ^ 22))<10 ^ 190:=by omega
 have j:vSm N 4 (Tk r (zV c)):=⟨by have:=r1.dot S;rwa [Nat.mul_one] at this,by have:=r2.dot S;rwa [Nat.mul_one] at this,by have:=M.dot S;rwa [Nat.mul_one] at this⟩;have cN:vSm N 2 (zV c):=S.to (Nat.one_dvd _) m (L9 2);have B:=YX cN j;have Y:vSm (N*D) (2*V) (Tk r p):=⟨r1.dot H,r2.dot H,M.dot H⟩;have A:=B.to (E:=N*D) ⟨D,rfl⟩ (Nat.mul_pos m d0) (L9 _);have G:=Y.add A;have z:=G.mono (W:=(2*10 ^ 22+6)) (by omega);have u:=Y.mono (W:=(2*10 ^ 22)) (by omega);have O:∀{v:V3},vSm N 2 v->vC v:=fun h=>h.vC
 have w1:D*10 ^ 22<10 ^ 190:=by clear C X K;omega
 have w2:D<10 ^ 190:=by clear C X K;omega
 have w3:N*D<10 ^ 190:=by clear X K;omega
 have w4:N*D*(2*10 ^ 22)<10 ^ 190:=Nat.lt_of_le_of_lt (QQf _ C) (by decide);have w5:N*D*(2*10 ^ 22+6)<10 ^ 190:=Nat.lt_of_le_of_lt (QQf _ C) (by decide);refine⟨⟨S.vC,⟨SO r1 S Z (by omega) (by omega) K (by omega),SO r2 S Z (by omega) (by omega) K (by omega),SO M S Z (by omega) (by omega) K (by omega)⟩,⟨S.vF,j.vF⟩,B.vC⟩,
  ⟨⟨O r1.sm,O r2.sm,O M.sm,B.vC⟩,F.vC w1 w2,⟨SO r1 F Z w1 w2 X w3,SO r2 F Z w1 w2 X w3,SO M F Z w1 w2 X w3⟩,⟨u.vF w4 w3,B.vF⟩,z.vC w5 w3⟩,?_⟩
 obtain⟨k,hk⟩:=J;refine G.to ⟨k,?_⟩ (by omega) (by omega);rw[hk,QQh,QQh,V1 k D]
theorem Br(h:n.natAbs<=3):dw n=true:=by unfold dw;simp;omega
theorem VQ{D V:Nat}{p:V3}(hi:i<=5)(y:Bool)(hc:fR 2 c)(hp:vSm D V p)(hD:D<=(10 ^ 63))(hV:V<=(10 ^ 22)):ahQ (cK i) c y p:=by
 obtain⟨M,G,F,C⟩:=XE i;have d0:=hp.1.1;have p4:=hp.mono hV;have B:=PJ hc;have cm:vSm 1 2 (ng (zV c) (-1)):=by have:=B.scl (Sm.int (V:=1) (n:= -1) (by decide));simpa using this
 have Z:vSm D (10 ^ 22+2) (wI p (ng (zV c) (-1))):=p4.add (cm.to (Nat.one_dvd _) d0 (L9 2));have w:Sm 1 3 (nb (cK i).1 y):=by
  unfold nb;cases y
  .exact Sm.int M
  .have:=(Sm.int M).neg
   simpa using this
 have u:vSm 1 3 (pr (cK i).2.1 (cK i).2.2.1 (cK i).2.2.2):=⟨.int G,.int F,.int C⟩;have X:nb (cK i).1 y*nb (cK i).1 y+gm (pr (cK i).2.1 (cK i).2.2.1 (cK i).2.2.2) (pr (cK i).2.1 (cK i).2.2.1 (cK i).2.2.2)=((Be (cK i):Nat):Rat):=by rw[VG];unfold nb pr gm;cases y<;>simp only[if_true,Bool.false_eq_true,if_false]<;>grind
 have A:=VE hi false;unfold Zy at A;simp only[Es,L0] at A;have z:0<Be (cK i):=A.1.1.1;have S:Be (cK i)<=10:=by
  have:∀i<6,Be (cK i)<=10:=by decide
  exact this i (by omega)
 obtain⟨t,ht⟩:=xE (cK i);rw[<-ht] at M G F C w u X z S |-;obtain⟨W,hW⟩:=xE (nb t.1 y);obtain⟨U,hU⟩:=xE (pr t.2.1 t.2.2.1 t.2.2.2);obtain⟨q,hq⟩:=xE (wI p (ng (zV c) (-1)));rw[<-hq] at Z;rw[<-hW] at w X;rw[<-hU] at u X;have K:=w.mul w;have J:=u.dot u;have m:=K.sub J;have j:=u.dot Z;have O:Sm 1 2 2:=Sm.int (V:=2) (n:=2) (by decide);have Y:=O.mul j;have R:=Z.scl m;have Q:=u.scl Y;have I:=u.crs Z;have H:=O.mul w;have v3:=I.scl H;simp only[Nat.one_mul,Nat.mul_one] at K J m j Y R Q I H v3;have v4:=R.add Q;have v5:=v4.add v3;have iv:Sm (Be t) 1 (1 / (W*W+gm U U)):=by rw[X];exact Sm.inv z
 have v6:=v5.scl iv;have nz:W*W+gm U U≠0:=by rw[X];exact Vj z
 have nf:=K.add J;have Dn:D*Be t<=(10 ^ 64):=by have:=Nat.mul_le_mul hD S;omega
 have tk:ahn W U q:=
  ⟨w.aga,u.agw u (by omega) (by omega) (by omega) (by omega) (by omega) (by omega),K.aga,J.aga,⟨Z.vF,m.aga⟩,
   u.agw Z (by omega) (by omega) (by omega) (by omega) (by omega) (by omega),j.aga,⟨u.vF,Y.aga⟩,u.ahp Z (by omega) (by omega) (by omega) (by omega) (by omega) (by omega),⟨I.vF,H.aga⟩,nz,nf.aga,
   ⟨R.vF,Q.vF⟩,⟨v4.vF,v3.vF⟩,⟨v5.vF,iv.aga⟩⟩
 have f6:vF (Fc W U q):=by unfold Fc;exact v6.vF
 rw[hW,hU,hq] at tk f6;exact⟨Br M,Br G,Br F,Br C,⟨B.vF,(Sm.int (V:=1) (n:= -1) (by decide)).aga⟩,⟨p4.vF,cm.vF⟩,tk,⟨f6,B.vF⟩⟩
noncomputable def EvD.mv:EvD->Bool->V3->V3
 |.fault n o v,b,p=>MO n o v b p
 |.fold n d c v,b,p=>SI n (cJ d c) v b p
 |.ahM i c,b,p=>SJ (cK i) c b p
 |.dep ..,_,p=>p
 |.ahG ..,_,p=>p
section
variable {s:af8}{w:EvD}{D V:Nat}{p:V3}
theorem Z5(y:w.Ok s)(H:Bool)(I:vSm D V p)(Q:D<=(10 ^ 63))(R:V<=(10 ^ 22)):∃E,E<=5*D/\vSm E (2*V+20) (w.mv H p):=by
 have d0:=I.1.1;cases w with
 |dep Z us Ys=>exact⟨D,by omega,I.mono (by omega)⟩
 |ahG n o w u=>exact⟨D,by omega,I.mono (by omega)⟩
 |fault n o v=>exact⟨D,by omega,(Qd H y.1 y.2.2.1 y.2.2.2.1 I Q R).2.2⟩
 |fold n d c v=>exact⟨4*D,by omega,(UL H y.1 (Dq d c y.2.2.2.1) (by rw[dK];exact y.2.2.1) y.2.2.2.2.1 I Q R).2.2⟩
 |ahM i c=>exact⟨5*D,L9 _,(Tb y.1 H y.2 I Q R).2.2⟩
theorem II{M:Mem}{Y:List AV}{nm:List UInt8}(h:agO M Y (w.con nm))(H:w.Ok s)(y:Bool)(I:vSm D V p)(Q:D<=(10 ^ 63))(R:V<=(10 ^ 22)):
  kO prog 52 [.agg Y,vA p,.bool y] M (vA (w.mv y p)) M:=by
 obtain⟨b,u,C,A,rfl,S,O,J,X⟩:=h;have F:C.af2=true:=by obtain⟨_,_,h3,_⟩:=J;exact h3.ck
 cases w with
 |dep Z us Ys=>exact oD _ (.inl rfl) _ _ _ _ S.ck O.ck F X.ck y p M
 |ahG n o w u=>exact oD _ (.inr rfl) _ _ _ _ S.ck O.ck F X.ck y p M
 |fault n o v=>
  obtain rfl:=S.agB rfl;obtain rfl:=O.agB rfl;obtain rfl:=J.agB rfl;obtain rfl:=X.agB rfl;exact yx nm n o v y p (Qd y H.1 H.2.2.1 H.2.2.2.1 I Q R).1 M
 |ahM i c=>
  obtain rfl:=S.agB rfl;obtain rfl:=O.agB rfl;obtain rfl:=J.agB rfl;obtain rfl:=X.agB rfl;exact Ar nm (cK i) c y p (VQ H.1 y H.2 I Q R) M
 |fold n d c v=>
  obtain rfl:=S.agB rfl;obtain rfl:=O.agB rfl;obtain rfl:=J.agB rfl;have e:(EvD.con nm (.fold n d c v)).K.length=(cJ d c).length:=ib _;have G:0<(cJ d c).length:=by rw[dK];exact H.2.2.1
  rw[e] at X;obtain⟨b,q,rfl,B⟩:=X.pos G;exact Aq nm n (cJ d c) v y p (UL y H.1 (Dq d c H.2.2.2.1) G H.2.2.2.2.1 I Q R).1 G (by rw[dK];have:=H.2.2.2.1;omega) M b q B
end
end Go.Proofs
