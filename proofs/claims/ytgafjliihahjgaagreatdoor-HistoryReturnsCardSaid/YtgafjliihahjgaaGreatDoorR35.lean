/- See R54. -/
import Derived.Test.YtgafjliihahjgaaGreatDoorR34
set_option linter.all false
set_option maxRecDepth 100000
set_option maxHeartbeats 40000000
namespace Go.Proofs
open Go.Eng
def gm(s:aeD):Bool:=s.own||match s with | .kO=>true | _=>false
theorem jI(es:Nat)(cs:List AV):gm (.cells true es cs)=true:=rfl
theorem od:gm .kO=true:=rfl
theorem fg(f:Nat→Bool)(o:Bool)(es:Nat)(cs:List AV):aeD.y9 f (.cells o es cs)=AV.aeB f cs:=rfl
end Go.Proofs
namespace Go.Proofs
open Go.Eng
end Go.Proofs
namespace Go.Proofs
open Go.Eng
end Go.Proofs
namespace Go.Proofs
open Go.Eng
end Go.Proofs
namespace Go.Eng
mutual
theorem AV.aeH{f g:Nat→Bool}(h:∀b,f b=true→g b=true):∀v:AV,AV.y9 f v=true→AV.y9 g v=true
 |.ptr b _,hv=>by simp only[AV.y9] at hv ⊢;exact h _ hv
 |.slice b _ _ _,hv=>by simp only[AV.y9] at hv ⊢;exact h _ hv
 |.map b,hv=>by simp only[AV.y9] at hv ⊢;exact h _ hv
 |.yield b,hv=>by simp only[AV.y9] at hv ⊢;exact h _ hv
 |.agg cs,hv=>by simp only[AV.y9] at hv ⊢;exact AV.aeY h cs hv
 |.tuple cs,hv=>by simp only[AV.y9] at hv ⊢;exact AV.aeY h cs hv
 |.iface _ v,hv=>by simp only[AV.y9] at hv ⊢;exact AV.aeH h v hv
 |.func _ cs,hv=>by simp only[AV.y9] at hv ⊢;exact AV.aeY h cs hv
 |.undef,_=>rfl
 |.bool _,_=>rfl
 |.int _ _,_=>rfl
 |.str _,_=>rfl
 |.aeT,_=>rfl
 |.kK,_=>rfl
 |.ae0,_=>rfl
 |.nilFunc,_=>rfl
 |.nilIface,_=>rfl
theorem AV.aeY{f g:Nat→Bool}(h:∀b,f b=true→g b=true):∀vs:List AV,AV.aeB f vs=true→AV.aeB g vs=true
 | [],_=>rfl
 |v::vs,hv=>by simp only[AV.aeB,Bool.and_eq_true] at hv ⊢;exact⟨AV.aeH h v hv.1,AV.aeY h vs hv.2⟩
end
theorem aeD.aeH{f g:Nat→Bool}(h:∀b,f b=true→g b=true):∀x:aeD,aeD.y9 f x=true→aeD.y9 g x=true
 |.kO,_=>rfl
 |.cells _ _ cs,hx=>AV.aeY h cs hx
 |.map es,hx=>by simp only[aeD.y9,List.all_eq_true,Bool.and_eq_true] at hx ⊢;exact fun e he=>⟨AV.aeH h _ (hx e he).1,AV.aeH h _ (hx e he).2⟩
 |.ae8 es,hx=>by simp only[aeD.y9,List.all_eq_true,Bool.and_eq_true] at hx ⊢;exact fun e he=>⟨AV.aeH h _ (hx e he).1,AV.aeH h _ (hx e he).2⟩
 |.loop r,hx=>by simp only[aeD.y9,List.all_eq_true] at hx ⊢;exact fun e he=>AV.aeH h _ (hx e he)
end Go.Eng
namespace Go.Proofs
open Go.Eng
open Tryz
theorem Ln(s:aeE)(d:aeN)(hd:d.Ok)(i:Nat)(hi:i<6)(M:Mem)(p t:Nat)(o o' :Bool)(hp:M[p]? =some (.cells o 2 (pC s.P)))(ht:M[t]? =some (.cells o' 3 (tC s.T))):
  ∃ev x1 x2 x3 x4 x5,kF prog 28 [shB s p t,.agg d.cells,.int .i64 i] M (.agg ev) (M++[x1,x2,x3,x4,x5])∧iJ s p t (bJ d i) M.length [x1,x2,x3,x4,x5] ev∧gh M.length [x1,x2,x3,x4,x5] ev (bJ d i)∧(ev.length=32∧ev[1]? =some (.str (bH i)))∧
   (∀x∈ev,x.kS=true)∧(∀k,M.length+5≤k→AV.aeB (fun b=>decide (b<k)) ev=true)∧(gm x1=true∧gm x2=true∧gm x3=true∧gm x4=true∧gm x5=true)∧
   ∀k,M.length+5≤k→x1.y9 (fun b=>decide (b<k))=true∧x2.y9 (fun b=>decide (b<k))=true∧x3.y9 (fun b=>decide (b<k))=true∧x4.y9 (fun b=>decide (b<k))=true∧x5.y9 (fun b=>decide (b<k))=true:=by
 obtain⟨ev,x1,x2,x3,x4,x5,h1,h2,h3,h4,h5,h6,h7⟩:=Lm s d hd i hi M p t o o' hp ht;have up:∀k,M.length+5≤k→∀b,decide (b<M.length+5)=true→decide (b<k)=true:=fun k hk b hb=>by simp only[decide_eq_true_eq] at hb ⊢;omega
 have ho:∀x∈[x1,x2,x3,x4,x5],gm x=true∧x.y9 (fun b=>decide (b<M.length+5))=true:=by intro x hx;have:=List.all_eq_true.1 h5 x hx;simp only[Bool.and_eq_true] at this;exact⟨this.1,this.2⟩
 refine⟨ev,x1,x2,x3,x4,x5,h1,h2,h3,h4,fun x hx=>?_,fun k hk=>AV.aeY (up k hk) ev h6,⟨(ho x1 (by simp)).1,(ho x2 (by simp)).1,(ho x3 (by simp)).1,(ho x4 (by simp)).1,(ho x5 (by simp)).1⟩,fun k hk=>?_⟩
 ·have:=h7 x hx
  cases x<;>first | rfl | exact this
 ·exact⟨aeD.aeH (up k hk) _ (ho x1 (by simp)).2,aeD.aeH (up k hk) _ (ho x2 (by simp)).2,aeD.aeH (up k hk) _ (ho x3 (by simp)).2,aeD.aeH (up k hk) _ (ho x4 (by simp)).2,aeD.aeH (up k hk) _ (ho x5 (by simp)).2⟩
def ar:List UInt8:=[98,97,115,101]
def KM(i:Nat):List (List (List UInt8)):=[[],[ig i],bu i 0,bu i 1,bu i 2]
theorem ky(d:aeN)(i:Nat):bJ d i∈KM i:=by
 have h3:=Nat.mod_lt d.K.1 (show 0<3 by decide);unfold bJ KM;split
 ·have:d.K.1%3=0∨d.K.1%3=1∨d.K.1%3=2:=by omega
  rcases this with h | h | h<;>rw[h]<;>simp
 ·split<;>simp
theorem tY:∀a∈KM 0,∀b∈KM 1,∀c∈KM 2,(ar::(a++(b++c))).Nodup:=by decide
theorem KP(d e f:aeN):(ar::(bJ d 0++(bJ e 1++bJ f 2))).Nodup:=tY _ (ky d 0) _ (ky e 1) _ (ky f 2)
theorem KO(d e:aeN):(ar::(bJ d 0++bJ e 1)).Nodup:=by have:=tY _ (ky d 0) _ (ky e 1) [] (by simp[KM]);simpa using this
theorem KN(d:aeN):(ar::bJ d 0).Nodup:=by have:=tY _ (ky d 0) [] (by simp[KM]) [] (by simp[KM]);simpa using this
def evV(q n:Nat):AV:=if n=0 then .kK else .slice q 0 n none
def aP(s:aeE) (p t q n:Nat):List AV:=[.slice p 0 s.P.length none,.slice t 0 s.T.length none,.str ar,evV q n]
structure Tryz.afj (s:aeE) (p t q:Nat) (evs:List (List AV)) (us:List (List (List UInt8))) (M:Mem):Prop where
 hp:∃o,M[p]? =some (.cells o 2 (pC s.P))
 ht:∃o,M[t]? =some (.cells o 3 (tC s.T))
 hq:evs≠[]→∃o,M[q]? =some (.cells o 32 evs.flatten)
 len:us.length=evs.length
 small:evs.length≤4
 con:∀(i:Nat) ev U,evs[i]? =some ev→us[i]? =some U→∃c:Evc,aWg s c∧unE c=U∧∀X,afi (M++X) ev c
variable{U:List (List UInt8)}{ev:List AV}{i:Nat}
section
variable {s:aeE}{p t q:Nat}{evs:List (List AV)}{us:List (List (List UInt8))}{M:Mem}
section
variable (H:afj s p t q evs us M)
include H
theorem Tryz.afj.more(Z:Mem):afj s p t q evs us (M++Z) where
 hp:=by obtain⟨o,h⟩:=H.hp;exact⟨o,by rw[List.getElem?_append_left (gL h)];exact h⟩
 ht:=by obtain⟨o,h⟩:=H.ht;exact⟨o,by rw[List.getElem?_append_left (gL h)];exact h⟩
 hq:=fun he=>by obtain⟨o,h⟩:=H.hq he;exact⟨o,by rw[List.getElem?_append_left (gL h)];exact h⟩
 len:=H.len
 small:=H.small
 con:=fun i ev U h1 h2=>by obtain⟨c,hc,hu,hx⟩:=H.con i ev U h1 h2;exact⟨c,hc,hu,fun X=>by rw[List.append_assoc];exact hx _⟩
theorem Tryz.afj.at_mem(h:ev∈evs):∃c:Evc,aWg s c∧∀X,afi (M++X) ev c:=by obtain⟨i,hi⟩:=List.getElem?_of_mem h;have hl:=(gL hi);obtain⟨c,h1,_,h2⟩:=H.con i ev _ hi (List.getElem?_eq_getElem (by rw[H.len];exact hl));exact⟨c,h1,h2⟩
theorem Tryz.afj.l32:∀e∈evs,e.length=32:=fun e he=>by obtain⟨c,_,h⟩:=H.at_mem he;exact(h []).l32
theorem Tryz.afj.cok:∀e∈evs,∀x∈e,x.kS=true:=fun e he=>by obtain⟨c,_,h⟩:=H.at_mem he;exact(h []).cok
theorem Tryz.afj.agZ:∀U∈us,U.length≤3:=fun U hU=>by obtain⟨i,hi⟩:=List.getElem?_of_mem hU;have hl:=(gL hi);obtain⟨c,h1,rfl,_⟩:=H.con i _ U (List.getElem?_eq_getElem (by rw[←H.len];exact hl)) hi;exact h1.le
theorem Tryz.afj.nd{j:Nat}{U' :List (List UInt8)}(h1:evs[i]? =some ev)(h2:evs[j]? =some ev)(h3:us[i]? =some U)(h4:us[j]? =some U'):U=U' :=by obtain⟨c,_,rfl,k1⟩:=H.con i ev U h1 h3;obtain⟨d,_,rfl,k2⟩:=H.con j ev U' h2 h4;exact Wr (k1 []) (k2 [])
theorem Tryz.afj.chk:∀ev∈evs,∀X,kF prog 61 [shB s p t,.agg ev] (M++X) (.int .i64 0) (M++X):=fun ev he X=>by obtain⟨c,g,h⟩:=H.at_mem he;obtain⟨o,hp⟩:=(H.more X).hp;obtain⟨o',ht⟩:=(H.more X).ht;exact g.chk (M++X) p t o o' ev hp ht (h X)
theorem Tryz.afj.un:∀(i:Nat) ev U,evs[i]? =some ev→us[i]? =some U→∀X,∃v nw,kF prog 62 [.agg ev] (M++X) v (M++X++nw)∧∀ext,sts (M++X++nw++ext) v=some U:=fun i ev U h1 h2 X=>by obtain⟨c,g,rfl,h⟩:=H.con i ev U h1 h2;exact g.un (M++X) ev (h X)
end
end
theorem yr:(uQ (aM prog) aa (aT prog) bq 20 6 (.fn 60) [.str [98,97,115,101]] []).map (fun r=>(r.v,r.mem []))=some (.bool true,[]++[]):=by kernel_rfl
theorem D7(M:Mem):kF prog 60 [.str ar] M (.bool true) M:=
 kF.lift rfl rfl (du (new:=[]) ae (aq _) (au _) (ah _) yr) M
def dO(s:aeE) (p t:Nat) (evs:List (List AV)) (us:List (List (List UInt8))) (M:Mem) (c:Go.Eng.Callee) (a:List AV) (N:Mem) (r:HS):Prop:=match c,a with
 |.fn 61,[x,.agg ev]=>x=shB s p t∧ev∈evs∧(∃X,N=M++X)∧r=⟨.int .i64 0,none,[]⟩
 |.fn 62,[.agg ev]=>∃(i:Nat) (U:List (List UInt8)) (v:AV) (nw:Mem),evs[i]? =some ev∧us[i]? =some U∧kF prog 62 [.agg ev] N v (N++nw)∧(∀ext,sts (N++nw++ext) v=some U)∧r=⟨v,none,nw⟩
 |.fn 18,[w,.str u]=>∃L,sts N w=some L∧L.length≤1000000000∧r=⟨.bool (decide (u∈L)),none,[]⟩
 |.fn 37,[w,.str u]=>∃L,sts N w=some L∧L.length≤1000000000∧r=⟨.int .i64 (yI u 0 L),none,[]⟩
 |.fn 59,[x]=>x=shB s p t∧(∃X,N=M++X)∧r=⟨.int .i64 0,none,[]⟩
 |.fn 60,[.str u]=>u=ar∧r=⟨.bool true,none,[]⟩
 |_,_=>False
section
variable {s:aeE}{p t q:Nat}{evs:List (List AV)}{us:List (List (List UInt8))}{M:Mem}
section
variable (H:afj s p t q evs us M)
include H
theorem NV(c:Go.Eng.Callee)(a:List AV)(N:Mem)(r:HS)(h:dO s p t evs us M c a N r):mC prog c a N r:=by
 unfold dO at h;split at h
 ·obtain⟨rfl,h1,⟨X,rfl⟩,rfl⟩:=h
  exact af (by simpa using H.chk _ h1 X)
 ·obtain⟨i,U,v,nw,_,_,h1,_,rfl⟩:=h
  exact af h1
 ·obtain⟨L,h1,h2,rfl⟩:=h
  exact af (by simpa using kA _ h2 h1)
 ·obtain⟨L,h1,h2,rfl⟩:=h
  exact af (by simpa using w8 _ h2 h1)
 ·obtain⟨rfl,⟨X,rfl⟩,rfl⟩:=h
  obtain⟨o,hp⟩:=H.hp;obtain⟨o',ht⟩:=H.ht;refine af ?_;have:=dR s (M++X) p t o o' (by rw[List.getElem?_append_left (gL hp)];exact hp) (by rw[List.getElem?_append_left (gL ht)];exact ht);simpa [shB] using this
 ·obtain⟨rfl,rfl⟩:=h
  exact af (by simpa using D7 N)
 ·exact h.elim
theorem CG:kP prog (gC (dO s p t evs us M)):=FD (NV H)
end
theorem Ex(h:ev∈evs)(X:Mem):gC (dO s p t evs us M) (.fn 61) [.agg [.slice p 0 s.P.length none,.slice t 0 s.T.length none],.agg ev] (M++X)=some ⟨.int .i64 0,none,[]⟩:=
 fh (S:=dO s p t evs us M) (show dO s p t evs us M _ _ _ _ from⟨rfl,h,⟨X,rfl⟩,rfl⟩) fun r' h=>h.2.2.2
theorem IA(X:Mem):gC (dO s p t evs us M) (.fn 59) [.agg [.slice p 0 s.P.length none,.slice t 0 s.T.length none]] (M++X)=some ⟨.int .i64 0,none,[]⟩:=
 fh (S:=dO s p t evs us M) (show dO s p t evs us M _ _ _ _ from⟨rfl,⟨X,rfl⟩,rfl⟩) fun r' h=>h.2.2
theorem IB(N:Mem):gC (dO s p t evs us M) (.fn 60) [.str ar] N=some ⟨.bool true,none,[]⟩:=
 fh (S:=dO s p t evs us M) (show dO s p t evs us M _ _ _ _ from⟨rfl,rfl⟩) fun r' h=>h.2
theorem yn{N:Mem}{w:AV}{L:List (List UInt8)}(u:List UInt8)(h:sts N w=some L)(hl:L.length≤1000000000):gC (dO s p t evs us M) (.fn 18) [w,.str u] N=some ⟨.bool (decide (u∈L)),none,[]⟩:=
 fh (S:=dO s p t evs us M) (show dO s p t evs us M _ _ _ _ from⟨L,h,hl,rfl⟩) fun r' h' =>by obtain⟨L',h1,_,h2⟩:=h';rw[h] at h1;cases h1;exact h2
section
variable (H:afj s p t q evs us M)
include H
theorem nU(h1:evs[i]? =some ev)(h2:us[i]? =some U)(X:Mem):
  ∃v nw,gC (dO s p t evs us M) (.fn 62) [.agg ev] (M++X)=some ⟨v,none,nw⟩∧∀ext,sts (M++(X++(nw++ext))) v=some U:=by
 obtain⟨v,nw,a,b⟩:=H.un i ev U h1 h2 X;obtain⟨r,g1,g2⟩:=DK (S:=dO s p t evs us M) (c:=.fn 62) (a:=[.agg ev]) (M:=M++X) ⟨⟨v,none,nw⟩,show dO s p t evs us M _ _ _ _ from⟨i,U,v,nw,h1,h2,a,b,rfl⟩⟩;obtain⟨i',U',v',nw',k1,k2,k3,k4,rfl⟩:=(show∃(i:Nat) (U:List (List UInt8)) (v:AV) (nw:Mem),evs[i]? =some ev∧us[i]? =some U∧kF prog 62 [.agg ev] (M++X) v ((M++X)++nw)∧(∀ext,sts ((M++X)++nw++ext) v=some U)∧r=⟨v,none,nw⟩ from g2);have:=H.nd h1 k1 h2 k2;subst this;exact⟨v',nw',g1,fun ext=>by have:=k4 ext;rwa [List.append_assoc,List.append_assoc] at this⟩
theorem Tryz.afj.row(h:evs[i]? =some ev):(evs.flatten.drop (i*32)).take 32=ev∧i*32+32≤evs.flatten.length:=by
 have key:∀(l:List (List AV)) (i:Nat),(∀e∈l,e.length=32)→l[i]? =some ev→(l.flatten.drop (i*32)).take 32=ev∧i*32+32≤l.flatten.length:=by
  intro l;induction l with
  |nil=>intro i _ h;simp at h
  |cons x l ih=>
   intro i hl h;have hx:=hl x (by simp);cases i with
   |zero=>
    simp at h;subst h;simp[hx]
   |succ i=>
    obtain⟨a,b⟩:=ih i (fun e he=>hl e (by simp[he])) (by simpa using h);refine⟨?_,by rw[List.flatten_cons,List.length_append];omega⟩;rw[List.flatten_cons,List.drop_append,List.drop_of_length_le (by omega),List.nil_append,show(i+1)*32-x.length=i*32 by omega];exact a
 exact key evs i H.l32 h
end
end
end Go.Proofs
namespace Go.Proofs
open Go.Eng
variable{M:Mem}{O O' :adM}{a:List AV}{c:Go.Eng.Callee}{r:HS}
theorem MI(h:O c a M=some r):adM.or O O' c a M=some r:=by unfold adM.or;rw[h]
theorem Fq(h:O c a M=none):adM.or O O' c a M=O' c a M:=by unfold adM.or;rw[h]
theorem Nn{f:FuncId}{m:Mem}{L:List (FuncId×List AV×Mem×HS)}:fM ((f,a,m,r)::L) (.fn f) a m=some r:=by rw[fM,if_pos ⟨rfl,rfl,rfl⟩]
def fO(ds:List aeN):List AV:=ds.flatMap aeN.cells
def Wz(ds:List aeN) (x:aeD) (a:AV):Prop:=(ds=[]∧a=.kK)∨(x=.cells false 12 (fO ds)∧a=.slice 0 0 ds.length none)
end Go.Proofs
