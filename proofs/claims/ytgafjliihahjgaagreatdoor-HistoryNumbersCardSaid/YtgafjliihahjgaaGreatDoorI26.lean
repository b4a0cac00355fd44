/- See I36. -/
import Derived.Test.YtgafjliihahjgaaGreatDoorI25
set_option linter.all false
set_option maxRecDepth 100000
set_option maxHeartbeats 40000000
namespace Go.Proofs
open Go.Eng
def lH(s:af6):Bool:=s.own||match s with | .HS=>true | _=>false
theorem MY(es:Nat)(cs:List AV):lH (.cells true es cs)=true:=rfl
theorem tH(f:Nat->Bool)(o:Bool)(es:Nat)(cs:List AV):af6.afF f (.cells o es cs)=AV.af7 f cs:=rfl
end Go.Proofs
namespace Go.Eng
mutual
theorem AV.agc{f g:Nat->Bool}(h:∀b,f b=true->g b=true):∀v:AV,AV.afF f v=true->AV.afF g v=true
 |.ptr b _,hv=>by simp only[AV.afF] at hv |-;exact h _ hv
 |.slice b _ _ _,hv=>by simp only[AV.afF] at hv |-;exact h _ hv
 |.map b,hv=>by simp only[AV.afF] at hv |-;exact h _ hv
 |.yield b,hv=>by simp only[AV.afF] at hv |-;exact h _ hv
 |.agg Z,hv=>by simp only[AV.afF] at hv |-;exact AV.agt h Z hv
 |.tuple Z,hv=>by simp only[AV.afF] at hv |-;exact AV.agt h Z hv
 |.iface _ v,hv=>by simp only[AV.afF] at hv |-;exact AV.agc h v hv
 |.func _ Z,hv=>by simp only[AV.afF] at hv |-;exact AV.agt h Z hv
 |.undef,_=>rfl
 |.bool _,_=>rfl
 |.int _ _,_=>rfl
 |.str _,_=>rfl
 |.agk,_=>rfl
 |.y9,_=>rfl
 |.agu,_=>rfl
 |.nilFunc,_=>rfl
 |.nilIface,_=>rfl
theorem AV.agt{f g:Nat->Bool}(h:∀b,f b=true->g b=true):∀Z:List AV,AV.af7 f Z=true->AV.af7 g Z=true
 | [],_=>rfl
 |v::Z,hv=>by simp only[AV.af7,Es] at hv |-;exact⟨AV.agc h v hv.1,AV.agt h Z hv.2⟩
end
theorem af6.agc{f g:Nat->Bool}(h:∀b,f b=true->g b=true):∀x:af6,af6.afF f x=true->af6.afF g x=true
 |.HS,_=>rfl
 |.cells _ _ cs,hx=>AV.agt h cs hx
 |.map es,hx=>by simp only[af6.afF,List.all_eq_true,Es] at hx |-;exact fun e he=>⟨AV.agc h _ (hx e he).1,AV.agc h _ (hx e he).2⟩
 |.agC es,hx=>by simp only[af6.afF,List.all_eq_true,Es] at hx |-;exact fun e he=>⟨AV.agc h _ (hx e he).1,AV.agc h _ (hx e he).2⟩
 |.loop r,hx=>by simp only[af6.afF,List.all_eq_true] at hx |-;exact fun e he=>AV.agc h _ (hx e he)
end Go.Eng
namespace Go.Proofs
open Go.Eng
open Tryz
theorem NZ(s:af8)(d:agf)(hd:d.Ok)(i:Nat)(y:i<6)(M:Mem)(p t:Nat)(o o' :Bool)(H:M[p]? =some (.cells o 2 (pC s.P)))(I:M[t]? =some (.cells o' 3 (tC s.T))):
  ∃Z X W V S O,kO prog 28 [shB s p t,.agg d.cells,.int .i64 i] M (.agg Z) (M++[X,W,V,S,O])/\jT s p t (bU d i) M.length [X,W,V,S,O] Z/\iu M.length [X,W,V,S,O] Z (bU d i)/\(Z.length=32/\Z[1]? =some (.str (bR i)))/\
   (∀x∈Z,x.af2=true)/\(∀k,M.length+5<=k->AV.af7 (fun b=>decide (b<k)) Z=true)/\(lH X=true/\lH W=true/\lH V=true/\lH S=true/\lH O=true)/\
   ∀k,M.length+5<=k->X.afF (fun b=>decide (b<k))=true/\W.afF (fun b=>decide (b<k))=true/\V.afF (fun b=>decide (b<k))=true/\S.afF (fun b=>decide (b<k))=true/\O.afF (fun b=>decide (b<k))=true:=by
 obtain⟨Z,X,W,V,S,O,F,D,h3,C,B,A,z⟩:=NY s d hd i y M p t o o' H I;have up:∀k,M.length+5<=k->∀b,decide (b<M.length+5)=true->decide (b<k)=true:=fun k J b u=>by simp only[L0] at u |-;omega
 have K:∀x∈[X,W,V,S,O],lH x=true/\x.afF (fun b=>decide (b<M.length+5))=true:=by intro x G;have:=List.all_eq_true.1 B x G;simp only[Es] at this;exact⟨this.1,this.2⟩
 refine⟨Z,X,W,V,S,O,F,D,h3,C,fun x G=>?_,fun k J=>AV.agt (up k J) Z A,⟨(K X (by simp)).1,(K W (by simp)).1,(K V (by simp)).1,(K S (by simp)).1,(K O (by simp)).1⟩,fun k J=>?_⟩
 .have:=z x G
  cases x<;>first | rfl | exact this
 .exact⟨af6.agc (up k J) _ (K X (by simp)).2,af6.agc (up k J) _ (K W (by simp)).2,af6.agc (up k J) _ (K V (by simp)).2,af6.agc (up k J) _ (K S (by simp)).2,af6.agc (up k J) _ (K O (by simp)).2⟩
def bC:List UInt8:=[98,97,115,101]
def Nl(i:Nat):List (List (List UInt8)):=[[],[ju i],bE i 0,bE i 1,bE i 2]
theorem mr(d:agf)(i:Nat):bU d i∈Nl i:=by
 have h3:=Nat.mod_lt d.K.1 (show 0<3 by decide);unfold bU Nl;split
 .have:d.K.1%3=0\/d.K.1%3=1\/d.K.1%3=2:=by omega
  rcases this with h | h | h<;>rw[h]<;>simp
 .split<;>simp
theorem wH:∀a∈Nl 0,∀b∈Nl 1,∀c∈Nl 2,(bC::(a++(b++c))).Nodup:=by decide
theorem Nq(d e f:agf):(bC::(bU d 0++(bU e 1++bU f 2))).Nodup:=wH _ (mr d 0) _ (mr e 1) _ (mr f 2)
theorem Np(d e:agf):(bC::(bU d 0++bU e 1)).Nodup:=by have:=wH _ (mr d 0) _ (mr e 1) [] (by simp[Nl]);simpa using this
theorem No(d:agf):(bC::bU d 0).Nodup:=by have:=wH _ (mr d 0) [] (by simp[Nl]) [] (by simp[Nl]);simpa using this
def evV(q n:Nat):AV:=if n=0 then .y9 else .slice q 0 n none
def bS(s:af8)(p t q n:Nat):List AV:=[.slice p 0 s.P.length none,.slice t 0 s.T.length none,.str bC,evV q n]
structure Tryz.agS (s:af8)(p t q:Nat)(evs:List (List AV))(us:List (List (List UInt8)))(M:Mem):Prop where
 hp:∃o,M[p]? =some (.cells o 2 (pC s.P))
 ht:∃o,M[t]? =some (.cells o 3 (tC s.T))
 hq:evs≠[]->∃o,M[q]? =some (.cells o 32 evs.flatten)
 len:us.length=evs.length
 small:evs.length<=4
 con:∀(i:Nat) ev U,evs[i]? =some ev->us[i]? =some U->∃c:Evc,agU s c/\unE c=U/\∀X,agO (M++X) ev c
variable{U:List (List UInt8)}{ev:List AV}{i:Nat}
section
variable {s:af8}{p t q:Nat}{evs:List (List AV)}{us:List (List (List UInt8))}{M:Mem}
section
variable (H:agS s p t q evs us M)
include H
theorem Tryz.agS.more(Z:Mem):agS s p t q evs us (M++Z) where
 hp:=by obtain⟨o,h⟩:=H.hp;exact⟨o,gU h _⟩
 ht:=by obtain⟨o,h⟩:=H.ht;exact⟨o,gU h _⟩
 hq:=fun he=>by obtain⟨o,h⟩:=H.hq he;exact⟨o,gU h _⟩
 len:=H.len
 small:=H.small
 con:=fun i ev U W V=>by obtain⟨c,hc,hu,S⟩:=H.con i ev U W V;exact⟨c,hc,hu,fun X=>by rw[SP];exact S _⟩
theorem Tryz.agS.at_mem(h:ev∈evs):∃c:Evc,agU s c/\∀X,agO (M++X) ev c:=by obtain⟨i,Z⟩:=QQg h;have W:=gL Z;obtain⟨c,V,_,S⟩:=H.con i ev _ Z (GT (by rw[H.len];exact W));exact⟨c,V,S⟩
theorem Tryz.agS.l32:∀e∈evs,e.length=32:=fun e he=>by obtain⟨c,_,h⟩:=H.at_mem he;exact(h []).l32
theorem Tryz.agS.cok:∀e∈evs,∀x∈e,x.af2=true:=fun e he=>by obtain⟨c,_,h⟩:=H.at_mem he;exact(h []).cok
theorem Tryz.agS.aiK:∀U∈us,U.length<=3:=fun U X=>by obtain⟨i,Z⟩:=QQg X;have W:=gL Z;obtain⟨c,V,rfl,_⟩:=H.con i _ U (GT (by rw[<-H.len];exact W)) Z;exact V.le
theorem Tryz.agS.nd{j:Nat}{y :List (List UInt8)}(h1:evs[i]? =some ev)(h2:evs[j]? =some ev)(h3:us[i]? =some U)(h4:us[j]? =some y):U=y :=by obtain⟨c,_,rfl,Z⟩:=H.con i ev U h1 h3;obtain⟨d,_,rfl,X⟩:=H.con j ev y h2 h4;exact YV (Z []) (X [])
theorem Tryz.agS.chk:∀ev∈evs,∀X,kO prog 61 [shB s p t,.agg ev] (M++X) (.int .i64 0) (M++X):=fun ev he X=>by obtain⟨c,g,h⟩:=H.at_mem he;obtain⟨o,Z⟩:=(H.more X).hp;obtain⟨W,V⟩:=(H.more X).ht;exact g.chk (M++X) p t o W ev Z V (h X)
theorem Tryz.agS.un:∀(i:Nat) ev U,evs[i]? =some ev->us[i]? =some U->∀X,∃v Z,kO prog 62 [.agg ev] (M++X) v (M++X++Z)/\∀ext,sts (M++X++Z++ext) v=some U:=fun i ev U W V X=>by obtain⟨c,g,rfl,h⟩:=H.con i ev U W V;exact g.un (M++X) ev (h X)
end
end
theorem AM:(A8 (aU prog) ab (aS prog) bD 20 6 (.fn 60) [.str [98,97,115,101]] []).map (fun r=>(r.v,r.mem []))=some (.bool true,[]++[]):=by kernel_rfl
theorem GJ(M:Mem):kO prog 60 [.str bC] M (.bool true) M:=
 kO.lift rfl rfl (eh (new:=[]) ae (al _) (ao _) (aj _) AM) M
def fV(s:af8)(p t:Nat)(evs:List (List AV))(us:List (List (List UInt8)))(M:Mem)(c:Go.Eng.Callee)(a:List AV)(N:Mem)(r:afA):Prop:=match c,a with
 |.fn 61,[x,.agg ev]=>x=shB s p t/\ev∈evs/\(∃X,N=M++X)/\r=⟨.int .i64 0,none,[]⟩
 |.fn 62,[.agg ev]=>∃(i:Nat) (U:List (List UInt8)) (v:AV) (Z:Mem),evs[i]? =some ev/\us[i]? =some U/\kO prog 62 [.agg ev] N v (N++Z)/\(∀ext,sts (N++Z++ext) v=some U)/\r=⟨v,none,Z⟩
 |.fn 18,[w,.str u]=>∃L,sts N w=some L/\L.length<=1000000000/\r=⟨.bool (decide (u∈L)),none,[]⟩
 |.fn 37,[w,.str u]=>∃L,sts N w=some L/\L.length<=1000000000/\r=⟨.int .i64 (Ba u 0 L),none,[]⟩
 |.fn 59,[x]=>x=shB s p t/\(∃X,N=M++X)/\r=⟨.int .i64 0,none,[]⟩
 |.fn 60,[.str u]=>u=bC/\r=⟨.bool true,none,[]⟩
 |_,_=>False
section
variable {s:af8}{p t q:Nat}{evs:List (List AV)}{us:List (List (List UInt8))}{M:Mem}
section
variable (H:agS s p t q evs us M)
include H
theorem QL(c:Go.Eng.Callee)(a:List AV)(N:Mem)(r:afA)(h:fV s p t evs us M c a N r):mu prog c a N r:=by
 unfold fV at h;split at h
 .obtain⟨rfl,Z,⟨X,rfl⟩,rfl⟩:=h
  exact aE (H.chk _ Z X)
 .obtain⟨i,U,v,K,_,_,Z,_,rfl⟩:=h
  exact aC Z
 .obtain⟨L,Z,W,rfl⟩:=h
  exact aE (qY _ W Z)
 .obtain⟨L,Z,W,rfl⟩:=h
  exact aE (zr _ W Z)
 .obtain⟨rfl,⟨X,rfl⟩,rfl⟩:=h
  obtain⟨o,V⟩:=H.hp;obtain⟨S,O⟩:=H.ht;refine aC ?_;have:=ft s (M++X) p t o S (gU V _) (gU O _);simpa [shB] using this
 .obtain⟨rfl,rfl⟩:=h
  exact aE (GJ N)
 .exact h.elim
theorem RB:adM prog (tI (fV s p t evs us M)):=QD (QL H)
end
theorem Hk(h:ev∈evs)(X:Mem):tI (fV s p t evs us M) (.fn 61) [.agg [.slice p 0 s.P.length none,.slice t 0 s.T.length none],.agg ev] (M++X)=some ⟨.int .i64 0,none,[]⟩:=
 kg (S:=fV s p t evs us M) (show fV s p t evs us M _ _ _ _ from⟨rfl,h,⟨X,rfl⟩,rfl⟩) fun Z h=>h.2.2.2
theorem Lf(X:Mem):tI (fV s p t evs us M) (.fn 59) [.agg [.slice p 0 s.P.length none,.slice t 0 s.T.length none]] (M++X)=some ⟨.int .i64 0,none,[]⟩:=
 kg (S:=fV s p t evs us M) (show fV s p t evs us M _ _ _ _ from⟨rfl,⟨X,rfl⟩,rfl⟩) fun Z h=>h.2.2
theorem Lg(N:Mem):tI (fV s p t evs us M) (.fn 60) [.str bC] N=some ⟨.bool true,none,[]⟩:=
 kg (S:=fV s p t evs us M) (show fV s p t evs us M _ _ _ _ from⟨rfl,rfl⟩) fun Z h=>h.2
theorem AI{N:Mem}{w:AV}{L:List (List UInt8)}(u:List UInt8)(h:sts N w=some L)(y:L.length<=1000000000):tI (fV s p t evs us M) (.fn 18) [w,.str u] N=some ⟨.bool (decide (u∈L)),none,[]⟩:=
 kg (S:=fV s p t evs us M) (show fV s p t evs us M _ _ _ _ from⟨L,h,y,rfl⟩) fun V X =>by obtain⟨O,Z,_,W⟩:=X;rw[h] at Z;cases Z;exact W
section
variable (H:agS s p t q evs us M)
include H
theorem xe(h1:evs[i]? =some ev)(h2:us[i]? =some U)(X:Mem):
  ∃v Z,tI (fV s p t evs us M) (.fn 62) [.agg ev] (M++X)=some ⟨v,none,Z⟩/\∀ext,sts (M++(X++(Z++ext))) v=some U:=by
 obtain⟨v,Z,a,b⟩:=H.un i ev U h1 h2 X;obtain⟨r,V,O⟩:=Gp (S:=fV s p t evs us M) (c:=.fn 62) (a:=[.agg ev]) (M:=M++X) ⟨⟨v,none,Z⟩,show fV s p t evs us M _ _ _ _ from⟨i,U,v,Z,h1,h2,a,b,rfl⟩⟩;obtain⟨D,C,K,W,J,G,B,F,rfl⟩:=(show∃(i:Nat) (U:List (List UInt8)) (v:AV) (Z:Mem),evs[i]? =some ev/\us[i]? =some U/\kO prog 62 [.agg ev] (M++X) v ((M++X)++Z)/\(∀ext,sts ((M++X)++Z++ext) v=some U)/\r=⟨v,none,Z⟩ from O);have:=H.nd h1 J h2 G;subst this;exact⟨K,W,V,fun ext=>by have:=F ext;rwa [SP,SP] at this⟩
theorem Tryz.agS.row(h:evs[i]? =some ev):(evs.flatten.drop (i*32)).take 32=ev/\i*32+32<=evs.flatten.length:=by
 have Z:∀(l:List (List AV)) (i:Nat),(∀e∈l,e.length=32)->l[i]? =some ev->(l.flatten.drop (i*32)).take 32=ev/\i*32+32<=l.flatten.length:=by
  intro l;induction l with
  |nil=>intro i _ h;simp at h
  |cons x l ih=>
   intro i X h;have W:=X x (by simp);cases i with
   |zero=>
    simp at h;subst h;simp[W]
   |succ i=>
    obtain⟨a,b⟩:=ih i (fun e he=>X e (by simp[he])) (by simpa using h);refine⟨?_,by rw[List.flatten_cons,Nm];omega⟩;rw[List.flatten_cons,List.drop_append,Mp (by omega),List.nil_append,show(i+1)*32-x.length=i*32 by omega];exact a
 exact Z evs i H.l32 h
end
end
end Go.Proofs
namespace Go.Proofs
open Go.Eng
open Tryz
variable{M:Mem}{O O' :af3}{a:List AV}{c:Go.Eng.Callee}{r:afA}
theorem Vw(h:O c a M=some r):af3.or O O' c a M=some r:=by unfold af3.or;rw[h]
theorem Vv(h:O c a M=none):af3.or O O' c a M=O' c a M:=by unfold af3.or;rw[h]
def gD(ds:List agf):List AV:=ds.flatMap agf.cells
def Y5(ds:List agf)(x:af6)(a:AV):Prop:=(ds=[]/\a=.y9)\/(x=.cells false 12 (gD ds)/\a=.slice 0 0 ds.length none)
def sqP:List AV:=[.str [48],.str [48],.str [52],.str [48],.str [52],.str [52],.str [48],.str [52]]
def sqT:List AV:=[.int .i64 0,.int .i64 1,.int .i64 2,.int .i64 0,.int .i64 2,.int .i64 3]
theorem yB:A8 (aU prog) ab (aS prog) PO 60 10 (.fn 59) [.agg [.slice 0 0 4 none,.slice 1 0 2 none]] [.cells false 2 sqP,.cells false 3 sqT]=some ⟨.int .i64 0,some [.cells false 2 sqP,.cells false 3 sqT],[]⟩:=by kernel_rfl
theorem Eb:kO prog 59 [.agg [.slice 0 0 4 none,.slice 1 0 2 none]] [.cells false 2 sqP,.cells false 3 sqT] (.int .i64 0) [.cells false 2 sqP,.cells false 3 sqT]:=by have:=(pZ ae (al _) (ao _) Oz 10).fn _ _ _ _ yB;simpa [afA.mem] using this
def SZ:List AV->List AV->Bool
 | [],[]=>true
 |.str a::l,.str b::r=>(a==b)&&SZ l r
 |.int .i64 a::l,.int .i64 b::r=>decide (a=b)&&SZ l r
 |_,_=>false
theorem Ic:∀{l r:List AV},SZ l r=true->l=r
 | [],r,h=>by cases r<;>first | rfl | (unfold SZ at h;cases h)
 |v::l,r,h=>by
  unfold SZ at h;split at h
  next Z=>cases Z
  .rename_i Z
   cases Z;simp only[Es,beq_iff_eq] at h;rw[h.1,Ic h.2]
  .rename_i Z
   cases Z;simp only[Es,L0] at h;rw[h.1,Ic h.2]
  .cases h
def SX(M:Mem)(b e:Nat)(cs:List AV):Bool:=match M[b]? with
 |some (.cells _ es l)=>decide (es=e)&&SZ (l.take cs.length) cs
 |_=>false
variable{e:Nat}
theorem Nc{b:Nat}{cs:List AV}{ks:List Nat}(h:SX M b e cs=true)(hu:AV.af9 cs=true):b<M.length/\agH ks M b (.cells false e cs):=by
 unfold SX at h;split at h
 .rename_i o es l V
  simp only[Es,L0] at h;obtain⟨rfl,X⟩:=h;have X:=Ic X;refine⟨(gL V),cT hu,o,l,V,fun j v W=>?_⟩;have K:=gL W;have:l[j]? =cs[j]? :=by rw[<-QQQ K,X]
  have S:=ca (ρ:=eg ks M.length) hu;rw[gT] at S;have Z:(cs.map (AV.ren (eg ks M.length)))[j]? =cs[j]? :=by rw[S]
  rw[QQX,W] at Z;rw[this,W];exact Z.symm
 .cases h
theorem Ea(M:Mem)(b c:Nat)(h1:SX M b 2 sqP=true)(h2:SX M c 3 sqT=true):kO prog 59 [.agg [.slice b 0 4 none,.slice c 0 2 none]] M (.int .i64 0) M:=by
 have X:=Nc (ks:=[b,c]) h1 (by rfl);have W:=Nc (ks:=[b,c]) h2 (by rfl);have:=kO.frame (M:=M) (new:=[]) [b,c] (m:=[.cells false 2 sqP,.cells false 3 sqT]) rfl (by
  intro k V;simp only[lM] at V;rcases V with h | h
  .rw[h];exact X.1
  .rw[h];exact W.1) (by rfl) (fun i s Z=>by
  match i with
  |0=>simp at Z;subst Z;exact X.2
  |1=>simp at Z;subst Z;exact W.2
  |i+2=>simp at Z) rfl Eb
 simpa [AV.agd,AV.ren,eg] using this
def Hv(c:Go.Eng.Callee)(args:List AV)(M:Mem):Option afA:=match c,args with
 |.fn 59,[.agg [.slice b 0 4 none,.slice c 0 2 none]]=>if SX M b 2 sqP&&SX M c 3 sqT then some ⟨.int .i64 0,none,[]⟩ else none
 |_,_=>none
theorem OI:adM prog Hv:=by
 refine cP fun c Z M r h=>?_
 unfold Hv at h;split at h
 .split at h
  .rename_i hc
   simp only[Es] at hc;cases h;refine aC ?_;rw[List.append_nil];exact Ea M _ _ hc.1 hc.2
  .cases h
 .cases h
def Vo(r:afA):Bool:=(match r.v with
 |.bool b=>b
 |_=>false)&&r.new.isEmpty&&(match r.pre with
 |some p=>p.isEmpty
 |none=>true)
theorem Pn(h:Vo r=true):r.v=.bool true/\r.mem []=[]:=by
 obtain⟨v,Z,W⟩:=r;simp only[Vo,Es,List.isEmpty_iff] at h;obtain⟨⟨X,rfl⟩,h3⟩:=h;constructor
 .cases v<;>first | (cases X;done) | skip
  simp only at X;rw[X]
 .cases Z with
  |none=>rfl
  |some p=>simp only[List.isEmpty_iff] at h3;subst h3;rfl
noncomputable def PN:af3:=af3.or Hv (af3.or (af xn) (af xp))
theorem Oy:adM prog PN:=adM.or OI (adM.or CE CF)
def fa(l:List agz):Prop:=∀e∈l,kO prog e.f e.args e.m e.v (e.m++e.new)
noncomputable def PM(l:List agz):af3:=af3.or (Ph l) PN
theorem cM{l:List agz}(h:fa l):adM prog (PM l):=adM.or (Xd h) Oy
def Lt:List agz:=[]
theorem Li:fa Lt:=fun e he=>by cases he
def W7:Mem:=[.cells false 2 [.str [48],.str [48],.str [52],.str [48],.str [52],.str [52],.str [48],.str [52]],.cells false 3 [.int .i64 0,.int .i64 1,.int .i64 2,.int .i64 0,.int .i64 2,.int .i64 3],.cells false 32 [.int .i64 1,.str [98,101,100,115],.slice 3 0 4 none,.slice 4 0 2 none,.slice 5 0 1 none,.str [],.str [],.str [],.str [],.str [],.str [],.str [],.str [],.str [],.str [],.y9,.str [],.str [],.str [],.str [],.str [],.str [],.str [],.str [],.str [],.int .i64 0,.int .i64 0,.int .i64 0,.int .i64 0,.str [],.str [],.str [],.int .i64 2,.str [102,97,117,108,116],.y9,.y9,.y9,.str [49],.str [48],.str [48],.str [50],.str [48],.str [48],.str [49],.str [],.str [],.str [],.y9,.str [],.str [],.str [],.str [],.str [],.str [],.str [],.str [],.str [],.int .i64 0,.int .i64 0,.int .i64 0,.int .i64 0,.str [],.str [],.str []],.cells false 1 [.str [48],.str [48],.str [48],.str [48]],.cells false 1 [.str [97],.str [98]],.cells false 1 [.slice 6 0 4 none],.cells false 1 [.str [50],.str [50],.str [50],.str [50]]]
def ZQ:Mem:=[.cells false 2 [.str [48],.str [48],.str [52],.str [48],.str [52],.str [52],.str [48],.str [52]],.cells false 3 [.int .i64 0,.int .i64 1,.int .i64 2,.int .i64 0,.int .i64 2,.int .i64 3],.cells false 1 [.str [48],.str [48],.str [48],.str [48]],.cells false 1 [.str [97],.str [98]],.cells false 1 [.slice 5 0 4 none],.cells false 1 [.str [50],.str [50],.str [50],.str [50]]]
def VY:List AV:=[.slice 0 0 4 none,.slice 1 0 2 none,.str [103],.slice 2 0 2 none]
def ZR:Mem:=[.cells false 2 [.str [48],.str [48],.str [52],.str [48],.str [52],.str [52],.str [48],.str [52]],.cells false 3 [.int .i64 0,.int .i64 1,.int .i64 2,.int .i64 0,.int .i64 2,.int .i64 3]]
def TL:agz:=⟨24,[],[],.agg VY,[.cells true 2 [.str [48],.str [48],.str [52],.str [48],.str [52],.str [52],.str [48],.str [52]],.cells true 3 [.int .i64 0,.int .i64 1,.int .i64 2,.int .i64 0,.int .i64 2,.int .i64 3],.cells true 32 [.int .i64 1,.str [98,101,100,115],.slice 3 0 4 none,.slice 4 0 2 none,.slice 5 0 1 none,.str [],.str [],.str [],.str [],.str [],.str [],.str [],.str [],.str [],.str [],.y9,.str [],.str [],.str [],.str [],.str [],.str [],.str [],.str [],.str [],.int .i64 0,.int .i64 0,.int .i64 0,.int .i64 0,.str [],.str [],.str [],.int .i64 2,.str [102,97,117,108,116],.y9,.y9,.y9,.str [49],.str [48],.str [48],.str [50],.str [48],.str [48],.str [49],.str [],.str [],.str [],.y9,.str [],.str [],.str [],.str [],.str [],.str [],.str [],.str [],.str [],.int .i64 0,.int .i64 0,.int .i64 0,.int .i64 0,.str [],.str [],.str []],.cells true 1 [.str [48],.str [48],.str [48],.str [48]],.cells true 1 [.str [97],.str [98]],.cells true 1 [.slice 6 0 4 none],.cells true 1 [.str [50],.str [50],.str [50],.str [50]]]⟩
def Lu:List agz:=TL::Lt
theorem Lj:fa Lu:=List.forall_mem_cons.2 ⟨eh (lv:=ab) (K:=60) (n:=30) ae (al _) (ao _) (cM Li) (by as_aux_lemma=>kernel_rfl),Li⟩
def TM:agz:=⟨61,[.agg [.slice 0 0 4 none,.slice 1 0 2 none],.agg [.int .i64 1,.str [98,101,100,115],.slice 2 0 4 none,.slice 3 0 2 none,.slice 4 0 1 none,.str [],.str [],.str [],.str [],.str [],.str [],.str [],.str [],.str [],.str [],.y9,.str [],.str [],.str [],.str [],.str [],.str [],.str [],.str [],.str [],.int .i64 0,.int .i64 0,.int .i64 0,.int .i64 0,.str [],.str [],.str []]],ZQ,.int .i64 0,[]⟩
def Lv:List agz:=TM::Lu
theorem Lk:fa Lv:=List.forall_mem_cons.2 ⟨eh (lv:=ab) (K:=60) (n:=30) ae (al _) (ao _) (cM Lj) (by as_aux_lemma=>kernel_rfl),Lj⟩
def TN:agz:=⟨61,[.agg [.slice 0 0 4 none,.slice 1 0 2 none],.agg [.int .i64 2,.str [102,97,117,108,116],.y9,.y9,.y9,.str [49],.str [48],.str [48],.str [50],.str [48],.str [48],.str [49],.str [],.str [],.str [],.y9,.str [],.str [],.str [],.str [],.str [],.str [],.str [],.str [],.str [],.int .i64 0,.int .i64 0,.int .i64 0,.int .i64 0,.str [],.str [],.str []]],ZR,.int .i64 0,[]⟩
def Lw:List agz:=TN::Lv
theorem Ll:fa Lw:=List.forall_mem_cons.2 ⟨eh (lv:=ab) (K:=60) (n:=30) ae (al _) (ao _) (cM Lk) (by as_aux_lemma=>kernel_rfl),Lk⟩
def TO:agz:=⟨35,[.agg VY],W7,.int .i64 0,[]⟩
def Lx:List agz:=TO::Lw
theorem Lm:fa Lx:=List.forall_mem_cons.2 ⟨eh (lv:=ab) (K:=60) (n:=30) ae (al _) (ao _) (cM Ll) (by as_aux_lemma=>kernel_rfl),Ll⟩
def TP:agz:=⟨134,[.agg [.slice 0 0 4 none,.slice 1 0 2 none],.agg [.str [49],.str [49],.str [50]]],ZR,.tuple [.int .i64 0,.agg [.str [49,50],.str [48],.str [52]],.bool true],[]⟩
def Ly:List agz:=TP::Lx
theorem Ln:fa Ly:=List.forall_mem_cons.2 ⟨eh (lv:=ab) (K:=60) (n:=30) ae (al _) (ao _) (cM Lm) (by as_aux_lemma=>kernel_rfl),Lm⟩
def TQ:agz:=⟨84,[.agg [.slice 0 0 4 none,.slice 1 0 2 none],.agg [.slice 2 0 4 none,.slice 3 0 2 none,.slice 4 0 1 none],.agg [.str [49],.str [49],.str [50]]],ZQ,.int .i64 1,[]⟩
def Lz:List agz:=TQ::Ly
theorem Lp:fa Lz:=List.forall_mem_cons.2 ⟨eh (lv:=ab) (K:=60) (n:=30) ae (al _) (ao _) (cM Ln) (by as_aux_lemma=>kernel_rfl),Ln⟩
def TR:agz:=⟨30,[.agg VY,.agg [.str [49],.str [49],.str [50]]],W7,.agg [.str [98],.slice 7 0 2 none,.int .i64 0,.str [49],.str [49],.str [50]],[.cells true 1 [.int .i64 0,.int .i64 1]]⟩
def LA:List agz:=TR::Lz
theorem Lq:fa LA:=List.forall_mem_cons.2 ⟨eh (lv:=ab) (K:=60) (n:=30) ae (al _) (ao _) (cM Lp) (by as_aux_lemma=>kernel_rfl),Lp⟩
def TT:agz:=⟨10,[.agg VY,.agg [.str [49],.str [49],.str [50]]],W7,.tuple [.str [98],.int .i64 0],[]⟩
def LB:List agz:=TT::LA
theorem Lr:fa LB:=List.forall_mem_cons.2 ⟨eh (lv:=ab) (K:=60) (n:=30) ae (al _) (ao _) (cM Lq) (by as_aux_lemma=>kernel_rfl),Lq⟩
def TU:agz:=⟨134,[.agg [.slice 0 0 4 none,.slice 1 0 2 none],.agg [.str [51],.str [49],.str [49]]],ZR,.tuple [.int .i64 0,.agg [.str [52],.str [56],.str [52]],.bool true],[]⟩
def LC:List agz:=TU::LB
theorem Ls:fa LC:=List.forall_mem_cons.2 ⟨eh (lv:=ab) (K:=60) (n:=30) ae (al _) (ao _) (cM Lr) (by as_aux_lemma=>kernel_rfl),Lr⟩
def TV:agz:=⟨84,[.agg [.slice 0 0 4 none,.slice 1 0 2 none],.agg [.slice 2 0 4 none,.slice 3 0 2 none,.slice 4 0 1 none],.agg [.str [51],.str [49],.str [49]]],ZQ,.int .i64 0,[]⟩
def Fu:List agz:=TV::LC
theorem Fj:fa Fu:=List.forall_mem_cons.2 ⟨eh (lv:=ab) (K:=60) (n:=30) ae (al _) (ao _) (cM Ls) (by as_aux_lemma=>kernel_rfl),Ls⟩
def RG:agz:=⟨30,[.agg VY,.agg [.str [51],.str [49],.str [50]]],W7,.agg [.str [97],.slice 7 0 2 none,.int .i64 0,.str [51],.str [49],.str [49]],[.cells true 1 [.int .i64 1,.int .i64 0]]⟩
def Fv:List agz:=RG::Fu
theorem Fk:fa Fv:=List.forall_mem_cons.2 ⟨eh (lv:=ab) (K:=60) (n:=30) ae (al _) (ao _) (cM Fj) (by as_aux_lemma=>kernel_rfl),Fj⟩
def RH:agz:=⟨10,[.agg VY,.agg [.str [51],.str [49],.str [50]]],W7,.tuple [.str [97],.int .i64 0],[]⟩
def Fw:List agz:=RH::Fv
theorem Fm:fa Fw:=List.forall_mem_cons.2 ⟨eh (lv:=ab) (K:=60) (n:=30) ae (al _) (ao _) (cM Fk) (by as_aux_lemma=>kernel_rfl),Fk⟩
def RI:agz:=⟨134,[.agg [.slice 0 0 4 none,.slice 1 0 2 none],.agg [.str [49],.str [49],.str [45,49]]],ZR,.tuple [.int .i64 0,.agg [.str [49,50],.str [48],.str [52]],.bool true],[]⟩
def Fx:List agz:=RI::Fw
theorem Fo:fa Fx:=List.forall_mem_cons.2 ⟨eh (lv:=ab) (K:=60) (n:=30) ae (al _) (ao _) (cM Fm) (by as_aux_lemma=>kernel_rfl),Fm⟩
def RJ:agz:=⟨84,[.agg [.slice 0 0 4 none,.slice 1 0 2 none],.agg [.slice 2 0 4 none,.slice 3 0 2 none,.slice 4 0 1 none],.agg [.str [49],.str [49],.str [45,49]]],ZQ,.int .i64 (-1),[]⟩
def Fy:List agz:=RJ::Fx
theorem Fp:fa Fy:=List.forall_mem_cons.2 ⟨eh (lv:=ab) (K:=60) (n:=30) ae (al _) (ao _) (cM Fo) (by as_aux_lemma=>kernel_rfl),Fo⟩
def RK:agz:=⟨30,[.agg VY,.agg [.str [49],.str [49],.str [45,49]]],W7,.agg [.str [103],.slice 7 0 2 none,.int .i64 (-1),.str [49],.str [49],.str [45,49]],[.cells true 1 [.int .i64 0,.int .i64 (-1)]]⟩
def Fz:List agz:=RK::Fy
theorem Fq:fa Fz:=List.forall_mem_cons.2 ⟨eh (lv:=ab) (K:=60) (n:=30) ae (al _) (ao _) (cM Fp) (by as_aux_lemma=>kernel_rfl),Fp⟩
def RL:agz:=⟨10,[.agg VY,.agg [.str [49],.str [49],.str [45,49]]],W7,.tuple [.str [103],.int .i64 0],[]⟩
def FA:List agz:=RL::Fz
theorem Fs:fa FA:=List.forall_mem_cons.2 ⟨eh (lv:=ab) (K:=60) (n:=30) ae (al _) (ao _) (cM Fq) (by as_aux_lemma=>kernel_rfl),Fq⟩
def RM:agz:=⟨17,[.agg VY],W7,.tuple [.slice 7 0 3 none,.int .i64 0],[.cells true 1 [.str [103],.str [97],.str [98]]]⟩
def FB:List agz:=RM::FA
theorem Ft:fa FB:=List.forall_mem_cons.2 ⟨eh (lv:=ab) (K:=60) (n:=30) ae (al _) (ao _) (cM Fs) (by as_aux_lemma=>kernel_rfl),Fs⟩
def RN:agz:=⟨12,[.agg VY,.agg [.str [51],.str [49],.str [50]],.int .i64 1],W7,.tuple [.agg [.str [51],.str [49],.str [49]],.int .i64 0],[]⟩
def FC:List agz:=RN::FB
theorem RF:fa FC:=List.forall_mem_cons.2 ⟨eh (lv:=ab) (K:=60) (n:=30) ae (al _) (ao _) (cM Ft) (by as_aux_lemma=>kernel_rfl),Ft⟩
theorem Ox:(A8 (aU prog) ab (aS prog) (PM FC) 60 30 (.fn 7) [] []).map Vo=some true:=by kernel_rfl
theorem wT(M:Mem):kO prog 7 [] M (.bool true) M:=by have h:=Ox;rw[Pl] at h;obtain⟨r,Z,X⟩:=h;have:=(pZ ae (al _) (ao _) (cM RF) 30).fn _ _ _ _ Z;obtain⟨W,V⟩:=Pn X;rw[W,V] at this;exact kO.lift rfl rfl this M
def clV(L n:Nat):AV:=if n=0 then .y9 else .slice (L+1) 0 n none
def clX(es n:Nat)(C:List AV):af6:=if n=0 then .HS else .cells true es C
def agA(N N' :Mem):Prop:=∀(b:Nat) o es C,es=1\/es=2\/es=3->N[b]? =some (.cells o es C)->N'[b]? =some (.cells o es C)
theorem agA.refl(N:Mem):agA N N:=fun _ _ _ _ _ h=>h
theorem agA.trans{A B C:Mem}(h:agA A B)(h' :agA B C):agA A C:=fun b o es D Z X=>h' b o es D Z (h b o es D Z X)
theorem agA.app(N Z:Mem):agA N (N++Z):=fun b o es D _ X=>gU X _
variable{N:Mem}
theorem agA.set{k:Nat}{o:Bool}{D:List AV}(h:N[k]? =some (.cells o e D))(he:e=0\/e=32)(s:af6):agA N (N.set k s):=fun b W es V X Z=>by
 rw[X4]
 .exact Z
 .rintro rfl
  rw[h] at Z;cases Z;omega
variable{N' :Mem}{v:AV}
theorem agi.upd{es n:Nat}{C:List AV}(h:agi N v es n C)(y:es=1\/es=2\/es=3)(hk:agA N N'):agi N' v es n C:=by
 rcases h with h | ⟨b,o,Z,X,h3⟩
 .exact .inl h
 .exact .inr ⟨b,o,Z,X,hk b o es C y h3⟩
theorem ahm.upd{S:List (List (List UInt8))}(h:ahm N v S)(hk:agA N N'):ahm N' v S:=by obtain⟨Z,X,W,h3⟩:=h;exact⟨Z,X,W.upd (.inl rfl) hk,fun i x L a b=>(h3 i x L a b).upd (.inl rfl) hk⟩
theorem agO.upd{y:List AV}{c:Evc}(h:agO N y c)(hk:agA N N'):agO N' y c:=by obtain⟨b,u,s,Z,X,W,h3,V,S⟩:=h;exact⟨b,u,s,Z,X,W.upd (.inl rfl) hk,h3.upd (.inl rfl) hk,V.upd hk,S.upd (.inr (.inl rfl)) hk⟩
end Go.Proofs
namespace Go.Proofs
open Go.Eng
def ZT(N:Mem)(v:AV)(n:Nat)(C:List AV):Prop:=(n=0/\C=[]/\(v=.y9\/∃b,v=.slice b 0 0 none))\/∃b o D,v=.slice b 0 n none/\0<n/\N[b]? =some (.cells o 32 D)/\D.take (n*32)=C
def ZU(N:Mem)(v:AV)(cs:List Evc):Prop:=∃Z:List (List AV),Z.length=cs.length/\ZT N v cs.length Z.flatten/\∀(i:Nat) e c,Z[i]? =some e->cs[i]? =some c->agO N e c
structure CpI (N0:Mem)(kc:Nat)(pv tv:AV)(cs:List Evc)(N:Mem)(i:Nat)(E:AV)(evs:List (List AV)):Prop where
 len:N0.length<=N.length
 same:∀k,k<N0.length->k≠kc->N[k]? =N0[k]?
 cell:N[kc]? =some (.cells true 0 [pv,tv,.str bC,E])
 evl:evs.length=i
 row:(i=0/\E=.y9)\/∃kr,E=.slice kr 0 i none/\0<i/\N0.length<=kr/\N[kr]? =some (.cells true 32 evs.flatten)
 con:∀(k:Nat) e c,evs[k]? =some e->cs[k]? =some c->agO N e c
 agR:agA N0 N
 ok:∀(k:Nat) x,N0.length<=k->N[k]? =some x->lH x=true/\x.afF (fun b=>decide (b<N.length))=true
theorem UI:∀{l:List (List AV)},(∀x∈l,x.length=32)->l.flatten.length=l.length*32
 | [],_=>rfl
 |x::l,h=>by rw[List.flatten_cons,Nm,h x (by simp),UI (fun y Z=>h y (by simp[Z])),List.length_cons,Nat.succ_mul];omega
theorem CpI.step{Y N Z:Mem}{Q i:Nat}{pv tv E:AV}{cs:List Evc}{evs:List (List AV)}{e:List AV}{c:Evc}(H:CpI Y Q pv tv cs N i E evs)(hkc:Q<Y.length)(hc:cs[i]? =some c)(N' :Mem)(I:Nat)(R :(i=0->N' =(N.set Q (.cells true 0 [pv,tv,.str bC,.slice I 0 (i+1) none]))++Z)/\(∀O,E=.slice O 0 i none->N' =((N.set O .HS).set Q (.cells true 0 [pv,tv,.str bC,.slice I 0 (i+1) none]))++Z))(aaC:N.length<=I/\N'[I]? =some (.cells true 32 (evs.flatten++e)))(he:agO N' e c)(afB:Z.all (fun x=>lH x&&x.afF (fun b=>decide (b<N.length+Z.length)))=true):CpI Y Q pv tv cs N' (i+1) (.slice I 0 (i+1) none) (evs++[e]):=by
 have hl:=H.len;have K:=H.cell;have J:∃W:Mem,N' =W.set Q (.cells true 0 [pv,tv,.str bC,.slice I 0 (i+1) none])++Z/\W.length=N.length/\(∀k,k<Y.length->W[k]? =N[k]?)/\agA N W/\∀(k:Nat) x,W[k]? =some x->N[k]? =some x\/x=.HS:=by
  rcases H.row with⟨F,D⟩ | ⟨O,D,F,V,A⟩
  .exact⟨N,R.1 F,rfl,fun k _=>rfl,agA.refl N,fun k x h=>.inl h⟩
  .refine⟨N.set O .HS,R.2 O D,by simp,fun k z=>?_,agA.set A (.inr rfl) _,fun k x h=>?_⟩
   .rw[X4 (by omega)]
   .rw[List.getElem?_set] at h
    split at h
    .split at h
     .cases h;exact .inr rfl
     .cases h
    .exact .inl h
 obtain⟨W,rfl,u,C,h3,m⟩:=J;have B:(W.set Q (.cells true 0 [pv,tv,.str bC,.slice I 0 (i+1) none])).length=N.length:=by rw[X3,u]
 have M:agA N (W.set Q (.cells true 0 [pv,tv,.str bC,.slice I 0 (i+1) none])++Z):=h3.trans ((agA.set (by rw[C Q hkc];exact K) (.inl rfl) _).trans (agA.app _ _));refine⟨by rw[Nm,B];omega,fun k V j=>?_,?_,by rw[Nm,H.evl];rfl,.inr ⟨I,rfl,by omega,by omega,by rw[aaC.2,List.flatten_append];simp⟩,fun k x c' X S =>?_,H.agR.trans M,fun k x V X=>?_⟩
 .rw[Hi (by omega),X4 (by omega),C k V]
  exact H.same k V j
 .rw[Hi (by omega),X1 (by omega)]
 .rw[List.getElem?_append] at X
  split at X
  .exact(H.con k x c' X S).upd M
  .rename_i G
   have V:k=i:=by have:=gL X;rw[H.evl] at G this;simp at this;omega
   subst V;rw[H.evl,Nat.sub_self] at X;simp at X;subst X;rw[hc] at S;cases S;exact he
 .rw[Nm,B]
  rw[List.getElem?_append] at X;split at X
  .rename_i B'
   rw[X4 (by omega)] at X;rcases m k x X with h5 | rfl
   .obtain⟨a,b⟩:=H.ok k x V h5
    exact⟨a,af6.agc (fun y hy=>by simp only[L0] at hy |-;omega) x b⟩
   .exact⟨rfl,rfl⟩
  .have:=List.all_eq_true.1 afB x (Lo X)
   simpa only[Es] using this
theorem wk(k:Nat)(M:Mem)(y n:Nat)(h:k<y):(((bJ (fun b=>decide (b=k)) 0 M).drop y).take n).all qS=true:=
 F8 _ M y n fun b Z _=>by simp;omega
theorem SD(a b:Nat):(!decide (a<=b)|| !decide (b<a))=true:=by
 rcases Nat.lt_or_ge b a with h | h
 .simp[Nat.not_le.2 h]
 .simp[Nat.not_lt.2 h]
theorem fj(y:List Nat)(j:Nat)(acc:List (Nat×Rec))(r:Rec)(rest:List Rec):lO y j acc (r::rest)=(r.v.afF (fun b=>decide (b<r.nx.length))&&(dm r||(jn y j r (j+1) rest&&(r.wr.isEmpty||(od y j r acc&&r.wr.all (fun b=>eP r.tm b&&(match r.nx[b]? with | some s=>s.afF (fun b=>decide (b<r.nx.length)) | none=>true))))&&
   (r.nx.drop r.mem.length).all fun s=>lH s&&s.afF (fun b=>decide (b<r.nx.length))))&&lO y (j+1) ((j,r)::acc) rest):=rfl
theorem MQ(f:Nat->Bool)(s:af6)(new:Mem)(M:Mem)(k:Nat):bm [k] 0 M ((bJ f 0 M).set k s++new)=M.set k s++new:=by
 have Z:∀(i:Nat) (M:Mem) (k:Nat),bm [i+k] i M ((bJ f i M).set k s++new)=M.set k s++new:=by
  intro i M;induction M generalizing i with
  |nil=>intro k;rfl
  |cons x M ih=>
   intro k;cases k with
   |zero=>
    have h:∀(j:Nat) (M:Mem),i<j->bm [i] j M (bJ f j M++new)=M++new:=by
     intro j M X;induction M generalizing j with
     |nil=>rfl
     |cons y M ih=>simp[bJ,bm,ih (j+1) (by omega),show¬j=i by omega]
    simp[bJ,bm,h (i+1) M (by omega)]
   |succ k=>
    have:=ih (i+1) k;rw[show i+1+k=i+(k+1) by omega] at this;simp[bJ,bm,this,show¬i=i+(k+1) by omega]
 have:=Z 0 M k
 rwa [QQZ] at this
theorem vS:((∀a,(AV.str a).known=true)/\(∀k i,(AV.int k i).known=true)/\(∀b o n c,(AV.slice b o n c).known=true)/\AV.y9.known=true/\(∀b o,(AV.ptr b o).known=true)/\(∀Z,(AV.agg Z).known=true))/\
  ((∀a,(AV.str a).cells=[.str a])/\(∀k i,(AV.int k i).cells=[.int k i])/\(∀b o n c,(AV.slice b o n c).cells=[.slice b o n c])/\AV.y9.cells=[.y9]/\(∀b o,(AV.ptr b o).cells=[.ptr b o])/\∀Z,(AV.agg Z).cells=Z)/\
  ((∀b o n c,(AV.slice b o n c).af2=true)/\(∀a,(AV.str a).af2=true)/\(∀k i,(AV.int k i).af2=true)/\(∀b,(AV.bool b).af2=true)/\AV.y9.af2=true/\∀b o,(AV.ptr b o).af2=true):=
 ⟨⟨fun _=>rfl,fun _ _=>rfl,fun _ _ _ _=>rfl,rfl,fun _ _=>rfl,fun _=>rfl⟩,⟨fun _=>rfl,fun _ _=>rfl,fun _ _ _ _=>rfl,rfl,fun _ _=>rfl,fun _=>rfl⟩,⟨fun _ _ _ _=>rfl,fun _=>rfl,fun _ _=>rfl,fun _=>rfl,rfl,fun _ _=>rfl⟩⟩
theorem SW(f:Nat->Bool)(a:List UInt8):(AV.str a).afF f=true:=rfl
theorem rS(f:Nat->Bool):AV.y9.afF f=true/\(∀b o n c,(AV.slice b o n c).afF f=f b)/\(∀b o,(AV.ptr b o).afF f=f b)/\(∀a,(AV.str a).afF f=true)/\(∀k i,(AV.int k i).afF f=true)/\(∀b,(AV.bool b).afF f=true)/\(∀Z,(AV.agg Z).afF f=AV.af7 f Z)/\(∀Z,(AV.tuple Z).afF f=AV.af7 f Z)/\AV.undef.afF f=true/\
  af6.afF f .HS=true/\(∀o es Z,af6.afF f (.cells o es Z)=AV.af7 f Z):=⟨rfl,fun _ _ _ _=>rfl,fun _ _=>rfl,fun _=>rfl,fun _ _=>rfl,fun _=>rfl,fun _=>rfl,fun _=>rfl,rfl,rfl,fun _ _ _=>rfl⟩
theorem mS:((∀(M X:Mem) k,(M++X)[M.length+k]? =X[k]?)/\(∀M X:Mem,(M++X)[M.length]? =X[0]?)/\(∀(M X:Mem) k s,(M++X).set (M.length+k) s=M++X.set k s)/\(∀(M X:Mem) s,(M++X).set M.length s=M++X.set 0 s)/\(∀(M X:Mem) k,(M++X).drop (M.length+k)=X.drop k)/\(∀M X:Mem,(M++X).drop M.length=X))/\
  ((∀(α:Type) (s:α) l,(s::l)[0]? =some s)/\(∀(α:Type) (s:α) l (i:Nat),(s::l)[i+1]? =l[i]?))/\((∀es V,lH (.cells true es V)=true)/\lH .HS=true)/\
  ((∀f i M,bm [] i M (bJ f i M)=M)/\(∀i M,bm [] i M M=M)/\(∀f Z i M,bm [] i M (bJ f i M++Z)=M++Z)/\(∀Z i M,bm [] i M (M++Z)=M++Z)/\(∀f s M k,bm [k] 0 M ((bJ f 0 M).set k s)=M.set k s)/\(∀f s Z M k,bm [k] 0 M ((bJ f 0 M).set k s++Z)=M.set k s++Z)/\(∀wr i M,bm wr i [] M=M)/\(∀i s s' r W,bm [] i (s::r) (s' ::W)=s::bm [] (i+1) r W)/\(∀i N X Y,bm [] i (N++X) (N++Y)=N++bm [] (i+N.length) X Y))/\
  ((∀f i M b,(bJ f i M)[b]? =(M[b]?).map fun s=>if f (i+b) then s else .HS)/\(∀i M,bJ (fun _=>true) i M=M)/\(∀f i M,(bJ f i M).length=M.length)/\(∀M S n,(((bJ (fun _=>false) 0 M).drop S).take n).all qS=true)/\(∀a b:Nat,(a<=b/\b<a)=False)/\(∀a b:Nat,(!decide (a<=b)|| !decide (b<a))=true))/\
  ((∀b o n c,cG (.slice b o n c)=[b])/\cG .y9=[])/\(∀O j acc,lO O j acc []=true):=
 ⟨⟨iG,wo,H2,Xc,Yp,WW⟩,⟨fun _ _ _=>rfl,fun _ _ _ _=>rfl⟩,⟨fun _ _=>rfl,rfl⟩,⟨xR,zT,DD,zR,MP,MQ,fun _ _ _=>rfl,xQ,DE⟩,⟨wm,F9,Ga,Pg,Pe,SD⟩,⟨fun _ _ _ _=>rfl,rfl⟩,fun _ _ _=>rfl⟩
theorem agi.refs{N:Mem}{v:AV}{es n:Nat}{C:List AV}(h:agi N v es n C)(j:Nat):AV.afF (fun a=>decide (a<N.length+j)) v=true:=by
 rcases h with⟨rfl,_,_⟩ | ⟨b,o,rfl,_,Z⟩
 .rfl
 .have:=gL Z
  simp only[AV.afF,L0];omega
theorem Evc.ago(c:Evc){f:Nat->Bool}{b u s y:AV}(H:b.afF f=true)(hu:u.afF f=true)(hs:s.afF f=true)(hk:y.afF f=true):AV.af7 f (c.cells b u s y)=true:=by simp only[Evc.cells,AV.af7,AV.afF,H,hu,hs,hk,Bool.and_self]
theorem agO.refs{N:Mem}{e:List AV}{c:Evc}(h:agO N e c)(j:Nat):AV.af7 (fun a=>decide (a<N.length+j)) e=true:=by obtain⟨b,u,s,V,rfl,Z,X,⟨_,_,h3,_⟩,W⟩:=h;exact c.ago (Z.refs j) (X.refs j) (h3.refs j) (W.refs j)
theorem Ab{f:Nat->Bool}:∀{evs:List (List AV)},(∀e∈evs,AV.af7 f e=true)->AV.af7 f evs.flatten=true
 | [],_=>rfl
 |e::l,h=>by rw[List.flatten_cons,jq,h e (by simp),Ab (fun x Z=>h x (by simp[Z]))];rfl
def aap(N:Mem)(h:List AV)(s:af8)(cs:List Evc):Prop:=∃Z X W,h=[Z,X,.str bC,W]/\agi N Z 2 s.P.length (pC s.P)/\agi N X 3 s.T.length (tC s.T)/\ZU N W cs
section
variable {pv pv' tv tv' ev ev' :AV}{B:Bool}{m:Mem}
end
end Go.Proofs
