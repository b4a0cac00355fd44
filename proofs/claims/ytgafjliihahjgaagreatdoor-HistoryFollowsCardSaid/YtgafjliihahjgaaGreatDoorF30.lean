/- See F54. -/
import Derived.Test.YtgafjliihahjgaaGreatDoorF29
set_option linter.all false
set_option maxRecDepth 100000
set_option maxHeartbeats 40000000
namespace Go.Proofs
open Go.Eng
def iO(s:aeY):Bool:=s.own||match s with | .aeP=>true | _=>false
theorem Mi(es:Nat)(cs:List AV):iO (.cells true es cs)=true:=rfl
theorem rO(f:Nat→Bool)(o:Bool)(es:Nat)(cs:List AV):aeY.aeR f (.cells o es cs)=AV.aeW f cs:=rfl
end Go.Proofs
namespace Go.Eng
mutual
theorem AV.ae2{f g:Nat→Bool}(h:∀b,f b=true→g b=true):∀v:AV,AV.aeR f v=true→AV.aeR g v=true
 |.ptr b _,hv=>by simp only[AV.aeR] at hv ⊢;exact h _ hv
 |.slice b _ _ _,hv=>by simp only[AV.aeR] at hv ⊢;exact h _ hv
 |.map b,hv=>by simp only[AV.aeR] at hv ⊢;exact h _ hv
 |.yield b,hv=>by simp only[AV.aeR] at hv ⊢;exact h _ hv
 |.agg Z,hv=>by simp only[AV.aeR] at hv ⊢;exact AV.afj h Z hv
 |.tuple Z,hv=>by simp only[AV.aeR] at hv ⊢;exact AV.afj h Z hv
 |.iface _ v,hv=>by simp only[AV.aeR] at hv ⊢;exact AV.ae2 h v hv
 |.func _ Z,hv=>by simp only[AV.aeR] at hv ⊢;exact AV.afj h Z hv
 |.undef,_=>rfl
 |.bool _,_=>rfl
 |.int _ _,_=>rfl
 |.str _,_=>rfl
 |.afd,_=>rfl
 |.y9,_=>rfl
 |.afl,_=>rfl
 |.nilFunc,_=>rfl
 |.nilIface,_=>rfl
theorem AV.afj{f g:Nat→Bool}(h:∀b,f b=true→g b=true):∀Z:List AV,AV.aeW f Z=true→AV.aeW g Z=true
 | [],_=>rfl
 |v::Z,hv=>by simp only[AV.aeW,Bool.and_eq_true] at hv ⊢;exact⟨AV.ae2 h v hv.1,AV.afj h Z hv.2⟩
end
theorem aeY.ae2{f g:Nat→Bool}(h:∀b,f b=true→g b=true):∀x:aeY,aeY.aeR f x=true→aeY.aeR g x=true
 |.aeP,_=>rfl
 |.cells _ _ cs,hx=>AV.afj h cs hx
 |.map es,hx=>by simp only[aeY.aeR,List.all_eq_true,Bool.and_eq_true] at hx ⊢;exact fun e he=>⟨AV.ae2 h _ (hx e he).1,AV.ae2 h _ (hx e he).2⟩
 |.afr es,hx=>by simp only[aeY.aeR,List.all_eq_true,Bool.and_eq_true] at hx ⊢;exact fun e he=>⟨AV.ae2 h _ (hx e he).1,AV.ae2 h _ (hx e he).2⟩
 |.loop r,hx=>by simp only[aeY.aeR,List.all_eq_true] at hx ⊢;exact fun e he=>AV.ae2 h _ (hx e he)
end Go.Eng
namespace Go.Proofs
open Go.Eng
open Tryz
theorem Nv(s:aeX)(d:ae6)(A:d.Ok)(i:Nat)(G:i<6)(M:Mem)(p t:Nat)(o o' :Bool)(H:M[p]? =some (.cells o 2 (pC s.P)))(I:M[t]? =some (.cells o' 3 (tC s.T))):
  ∃Z X W V S O,kO prog 28 [shB s p t,.agg d.cells,.int .i64 i] M (.agg Z) (M++[X,W,V,S,O])∧iU s p t (bS d i) M.length [X,W,V,S,O] Z∧gr M.length [X,W,V,S,O] Z (bS d i)∧(Z.length=32∧Z[1]? =some (.str (bO i)))∧
   (∀x∈Z,x.aeS=true)∧(∀k,M.length+5≤k→AV.aeW (fun b=>decide (b<k)) Z=true)∧(iO X=true∧iO W=true∧iO V=true∧iO S=true∧iO O=true)∧
   ∀k,M.length+5≤k→X.aeR (fun b=>decide (b<k))=true∧W.aeR (fun b=>decide (b<k))=true∧V.aeR (fun b=>decide (b<k))=true∧S.aeR (fun b=>decide (b<k))=true∧O.aeR (fun b=>decide (b<k))=true:=by
 obtain⟨Z,X,W,V,S,O,D,C,h3,B,z,u,m⟩:=Nu s d A i G M p t o o' H I;have up:∀k,M.length+5≤k→∀b,decide (b<M.length+5)=true→decide (b<k)=true:=fun k J b j=>by simp only[decide_eq_true_eq] at j ⊢;omega
 have K:∀x∈[X,W,V,S,O],iO x=true∧x.aeR (fun b=>decide (b<M.length+5))=true:=by intro x F;have:=List.all_eq_true.1 z x F;simp only[Bool.and_eq_true] at this;exact⟨this.1,this.2⟩
 refine⟨Z,X,W,V,S,O,D,C,h3,B,fun x F=>?_,fun k J=>AV.afj (up k J) Z u,⟨(K X (by simp)).1,(K W (by simp)).1,(K V (by simp)).1,(K S (by simp)).1,(K O (by simp)).1⟩,fun k J=>?_⟩
 ·have:=m x F
  cases x<;>first | rfl | exact this
 ·exact⟨aeY.ae2 (up k J) _ (K X (by simp)).2,aeY.ae2 (up k J) _ (K W (by simp)).2,aeY.ae2 (up k J) _ (K V (by simp)).2,aeY.ae2 (up k J) _ (K S (by simp)).2,aeY.ae2 (up k J) _ (K O (by simp)).2⟩
def bk:List UInt8:=[98,97,115,101]
def MG(i:Nat):List (List (List UInt8)):=[[],[iw i],bE i 0,bE i 1,bE i 2]
theorem kK(d:ae6)(i:Nat):bS d i∈MG i:=by
 have h3:=Nat.mod_lt d.K.1 (show 0<3 by decide);unfold bS MG;split
 ·have:d.K.1%3=0∨d.K.1%3=1∨d.K.1%3=2:=by omega
  rcases this with h | h | h<;>rw[h]<;>simp
 ·split<;>simp
theorem uU:∀a∈MG 0,∀b∈MG 1,∀c∈MG 2,(bk::(a++(b++c))).Nodup:=by decide
theorem MJ(d e f:ae6):(bk::(bS d 0++(bS e 1++bS f 2))).Nodup:=uU _ (kK d 0) _ (kK e 1) _ (kK f 2)
theorem MI(d e:ae6):(bk::(bS d 0++bS e 1)).Nodup:=by have:=uU _ (kK d 0) _ (kK e 1) [] (by simp[MG]);simpa using this
theorem MH(d:ae6):(bk::bS d 0).Nodup:=by have:=uU _ (kK d 0) [] (by simp[MG]) [] (by simp[MG]);simpa using this
def evV(q n:Nat):AV:=if n=0 then .y9 else .slice q 0 n none
def dv(s:aeX)(p t q n:Nat):List AV:=[.slice p 0 s.P.length none,.slice t 0 s.T.length none,.str bk,evV q n]
structure Tryz.afJ (s:aeX)(p t q:Nat)(evs:List (List AV))(us:List (List (List UInt8)))(M:Mem):Prop where
 hp:∃o,M[p]? =some (.cells o 2 (pC s.P))
 ht:∃o,M[t]? =some (.cells o 3 (tC s.T))
 hq:evs≠[]→∃o,M[q]? =some (.cells o 32 evs.flatten)
 len:us.length=evs.length
 small:evs.length≤4
 con:∀(i:Nat) ev U,evs[i]? =some ev→us[i]? =some U→∃c:Evc,afN s c∧unE c=U∧∀X,afv (M++X) ev c
variable{U:List (List UInt8)}{ev:List AV}{i:Nat}
section
variable {s:aeX}{p t q:Nat}{evs:List (List AV)}{us:List (List (List UInt8))}{M:Mem}
section
variable (H:afJ s p t q evs us M)
include H
theorem Tryz.afJ.more(Z:Mem):afJ s p t q evs us (M++Z) where
 hp:=by obtain⟨o,h⟩:=H.hp;exact⟨o,gU h _⟩
 ht:=by obtain⟨o,h⟩:=H.ht;exact⟨o,gU h _⟩
 hq:=fun he=>by obtain⟨o,h⟩:=H.hq he;exact⟨o,gU h _⟩
 len:=H.len
 small:=H.small
 con:=fun i ev U W V=>by obtain⟨c,hc,hu,S⟩:=H.con i ev U W V;exact⟨c,hc,hu,fun X=>by rw[List.append_assoc];exact S _⟩
theorem Tryz.afJ.at_mem(h:ev∈evs):∃c:Evc,afN s c∧∀X,afv (M++X) ev c:=by obtain⟨i,Z⟩:=List.getElem?_of_mem h;have W:=gL Z;obtain⟨c,V,_,S⟩:=H.con i ev _ Z (List.getElem?_eq_getElem (by rw[H.len];exact W));exact⟨c,V,S⟩
theorem Tryz.afJ.l32:∀e∈evs,e.length=32:=fun e he=>by obtain⟨c,_,h⟩:=H.at_mem he;exact(h []).l32
theorem Tryz.afJ.cok:∀e∈evs,∀x∈e,x.aeS=true:=fun e he=>by obtain⟨c,_,h⟩:=H.at_mem he;exact(h []).cok
theorem Tryz.afJ.ahw:∀U∈us,U.length≤3:=fun U X=>by obtain⟨i,Z⟩:=List.getElem?_of_mem X;have W:=gL Z;obtain⟨c,V,rfl,_⟩:=H.con i _ U (List.getElem?_eq_getElem (by rw[←H.len];exact W)) Z;exact V.le
theorem Tryz.afJ.nd{j:Nat}{A :List (List UInt8)}(G:evs[i]? =some ev)(I:evs[j]? =some ev)(h3:us[i]? =some U)(R:us[j]? =some A):U=A :=by obtain⟨c,_,rfl,Z⟩:=H.con i ev U G h3;obtain⟨d,_,rfl,X⟩:=H.con j ev A I R;exact YD (Z []) (X [])
theorem Tryz.afJ.chk:∀ev∈evs,∀X,kO prog 61 [shB s p t,.agg ev] (M++X) (.int .i64 0) (M++X):=fun ev he X=>by obtain⟨c,g,h⟩:=H.at_mem he;obtain⟨o,Z⟩:=(H.more X).hp;obtain⟨W,V⟩:=(H.more X).ht;exact g.chk (M++X) p t o W ev Z V (h X)
theorem Tryz.afJ.un:∀(i:Nat) ev U,evs[i]? =some ev→us[i]? =some U→∀X,∃v Z,kO prog 62 [.agg ev] (M++X) v (M++X++Z)∧∀ext,sts (M++X++Z++ext) v=some U:=fun i ev U W V X=>by obtain⟨c,g,rfl,h⟩:=H.con i ev U W V;exact g.un (M++X) ev (h X)
end
end
theorem zD:(sN (aN prog) ab (aK prog) bM 20 6 (.fn 60) [.str [98,97,115,101]] []).map (fun r=>(r.v,r.mem []))=some (.bool true,[]++[]):=by kernel_rfl
theorem Fo(M:Mem):kO prog 60 [.str bk] M (.bool true) M:=
 kO.lift rfl rfl (dJ (new:=[]) ae (ar _) (au _) (al _) zD) M
def fy(s:aeX)(p t:Nat)(evs:List (List AV))(us:List (List (List UInt8)))(M:Mem)(c:Go.Eng.Callee)(a:List AV)(N:Mem)(r:aeQ):Prop:=match c,a with
 |.fn 61,[x,.agg ev]=>x=shB s p t∧ev∈evs∧(∃X,N=M++X)∧r=⟨.int .i64 0,none,[]⟩
 |.fn 62,[.agg ev]=>∃(i:Nat) (U:List (List UInt8)) (v:AV) (Z:Mem),evs[i]? =some ev∧us[i]? =some U∧kO prog 62 [.agg ev] N v (N++Z)∧(∀ext,sts (N++Z++ext) v=some U)∧r=⟨v,none,Z⟩
 |.fn 18,[w,.str u]=>∃L,sts N w=some L∧L.length≤1000000000∧r=⟨.bool (decide (u∈L)),none,[]⟩
 |.fn 37,[w,.str u]=>∃L,sts N w=some L∧L.length≤1000000000∧r=⟨.int .i64 (zT u 0 L),none,[]⟩
 |.fn 59,[x]=>x=shB s p t∧(∃X,N=M++X)∧r=⟨.int .i64 0,none,[]⟩
 |.fn 60,[.str u]=>u=bk∧r=⟨.bool true,none,[]⟩
 |_,_=>False
section
variable {s:aeX}{p t q:Nat}{evs:List (List AV)}{us:List (List (List UInt8))}{M:Mem}
section
variable (H:afJ s p t q evs us M)
include H
theorem Qi(c:Go.Eng.Callee)(a:List AV)(N:Mem)(r:aeQ)(h:fy s p t evs us M c a N r):jS prog c a N r:=by
 unfold fy at h;split at h
 ·obtain⟨rfl,Z,⟨X,rfl⟩,rfl⟩:=h
  exact aU (H.chk _ Z X)
 ·obtain⟨i,U,v,K,_,_,Z,_,rfl⟩:=h
  exact aI Z
 ·obtain⟨L,Z,W,rfl⟩:=h
  exact aU (pJ _ W Z)
 ·obtain⟨L,Z,W,rfl⟩:=h
  exact aU (xW _ W Z)
 ·obtain⟨rfl,⟨X,rfl⟩,rfl⟩:=h
  obtain⟨o,V⟩:=H.hp;obtain⟨S,O⟩:=H.ht;refine aI ?_;have:=dP s (M++X) p t o S (gU V _) (gU O _);simpa [shB] using this
 ·obtain⟨rfl,rfl⟩:=h
  exact aU (Fo N)
 ·exact h.elim
theorem QX:HS prog (nb (fy s p t evs us M)):=Aq (Qi H)
end
theorem F9(h:ev∈evs)(X:Mem):nb (fy s p t evs us M) (.fn 61) [.agg [.slice p 0 s.P.length none,.slice t 0 s.T.length none],.agg ev] (M++X)=some ⟨.int .i64 0,none,[]⟩:=
 fm (S:=fy s p t evs us M) (show fy s p t evs us M _ _ _ _ from⟨rfl,h,⟨X,rfl⟩,rfl⟩) fun Z h=>h.2.2.2
theorem Km(X:Mem):nb (fy s p t evs us M) (.fn 59) [.agg [.slice p 0 s.P.length none,.slice t 0 s.T.length none]] (M++X)=some ⟨.int .i64 0,none,[]⟩:=
 fm (S:=fy s p t evs us M) (show fy s p t evs us M _ _ _ _ from⟨rfl,⟨X,rfl⟩,rfl⟩) fun Z h=>h.2.2
theorem Kn(N:Mem):nb (fy s p t evs us M) (.fn 60) [.str bk] N=some ⟨.bool true,none,[]⟩:=
 fm (S:=fy s p t evs us M) (show fy s p t evs us M _ _ _ _ from⟨rfl,rfl⟩) fun Z h=>h.2
theorem zw{N:Mem}{w:AV}{L:List (List UInt8)}(u:List UInt8)(h:sts N w=some L)(A:L.length≤1000000000):nb (fy s p t evs us M) (.fn 18) [w,.str u] N=some ⟨.bool (decide (u∈L)),none,[]⟩:=
 fm (S:=fy s p t evs us M) (show fy s p t evs us M _ _ _ _ from⟨L,h,A,rfl⟩) fun V X =>by obtain⟨O,Z,_,W⟩:=X;rw[h] at Z;cases Z;exact W
section
variable (H:afJ s p t q evs us M)
include H
theorem vo(A:evs[i]? =some ev)(G:us[i]? =some U)(X:Mem):
  ∃v Z,nb (fy s p t evs us M) (.fn 62) [.agg ev] (M++X)=some ⟨v,none,Z⟩∧∀ext,sts (M++(X++(Z++ext))) v=some U:=by
 obtain⟨v,Z,a,b⟩:=H.un i ev U A G X;obtain⟨r,V,O⟩:=ET (S:=fy s p t evs us M) (c:=.fn 62) (a:=[.agg ev]) (M:=M++X) ⟨⟨v,none,Z⟩,show fy s p t evs us M _ _ _ _ from⟨i,U,v,Z,A,G,a,b,rfl⟩⟩;obtain⟨C,B,K,W,J,F,z,D,rfl⟩:=(show∃(i:Nat) (U:List (List UInt8)) (v:AV) (Z:Mem),evs[i]? =some ev∧us[i]? =some U∧kO prog 62 [.agg ev] (M++X) v ((M++X)++Z)∧(∀ext,sts ((M++X)++Z++ext) v=some U)∧r=⟨v,none,Z⟩ from O);have:=H.nd A J G F;subst this;exact⟨K,W,V,fun ext=>by have:=D ext;rwa [List.append_assoc,List.append_assoc] at this⟩
theorem Tryz.afJ.row(h:evs[i]? =some ev):(evs.flatten.drop (i*32)).take 32=ev∧i*32+32≤evs.flatten.length:=by
 have Z:∀(l:List (List AV)) (i:Nat),(∀e∈l,e.length=32)→l[i]? =some ev→(l.flatten.drop (i*32)).take 32=ev∧i*32+32≤l.flatten.length:=by
  intro l;induction l with
  |nil=>intro i _ h;simp at h
  |cons x l ih=>
   intro i X h;have W:=X x (by simp);cases i with
   |zero=>
    simp at h;subst h;simp[W]
   |succ i=>
    obtain⟨a,b⟩:=ih i (fun e he=>X e (by simp[he])) (by simpa using h);refine⟨?_,by rw[List.flatten_cons,List.length_append];omega⟩;rw[List.flatten_cons,List.drop_append,List.drop_of_length_le (by omega),List.nil_append,show(i+1)*32-x.length=i*32 by omega];exact a
 exact Z evs i H.l32 h
end
end
end Go.Proofs
namespace Go.Proofs
open Go.Eng
variable{M:Mem}{O O' :aeT}{a:List AV}{c:Go.Eng.Callee}
theorem U4{r:aeQ}(h:O c a M=some r):aeT.or O O' c a M=some r:=by unfold aeT.or;rw[h]
theorem U3(h:O c a M=none):aeT.or O O' c a M=O' c a M:=by unfold aeT.or;rw[h]
def fU(ds:List ae6):List AV:=ds.flatMap ae6.cells
def YL(ds:List ae6)(x:aeY)(a:AV):Prop:=(ds=[]∧a=.y9)∨(x=.cells false 12 (fU ds)∧a=.slice 0 0 ds.length none)
end Go.Proofs
