/- See F54. -/
import Derived.Test.YtgafjliihahjgaaGreatDoorF32
import Derived.Test.YtgafjliihahjgaaGreatDoorF33
set_option linter.all false
namespace Go.Proofs
open Go.Eng
open Tryz
structure Tryz.afK (s:aeX)(p t q:Nat)(evs:List (List AV))(cs:List Evc)(M:Mem):Prop where
 hp:∃o,M[p]? =some (.cells o 2 (pC s.P))
 ht:∃o,M[t]? =some (.cells o 3 (tC s.T))
 hq:evs≠[]→∃o,M[q]? =some (.cells o 32 evs.flatten)
 len:evs.length=cs.length
 small:cs.length≤4
 ag1:∀c∈cs,afN s c
 con:∀(i:Nat) ev c,evs[i]? =some ev→cs[i]? =some c→afv M ev c
theorem BP{α β:Type}{P:Nat→α→β→Prop}:∀(l:List α),(∀(i:Nat) a,l[i]? =some a→∃b,P i a b)→∃X:List β,X.length=l.length∧∀(i:Nat) a b,l[i]? =some a→X[i]? =some b→P i a b
 | [],_=>⟨[],rfl,fun i a b h=>by simp at h⟩
 |x::l,h=>by
  obtain⟨b,W⟩:=h 0 x rfl;obtain⟨X,V,S⟩:=BP (P:=fun i=>P (i+1)) l fun i a Z=>h (i+1) a (by simpa using Z)
  refine⟨b::X,by simp[V],fun i a c Z hc=>?_⟩;cases i with
  |zero=>simp at Z hc;subst Z hc;exact W
  |succ i=>exact S i a c (by simpa using Z) (by simpa using hc)
section
variable {s:aeX}{p t q:Nat}{evs:List (List AV)}{cs:List Evc}{M:Mem}
section
variable (H:afK s p t q evs cs M)
include H
theorem Tryz.afK.more(Z:Mem):afK s p t q evs cs (M++Z) where
 hp:=by obtain⟨o,h⟩:=H.hp;exact⟨o,gU h _⟩
 ht:=by obtain⟨o,h⟩:=H.ht;exact⟨o,gU h _⟩
 hq:=fun he=>by obtain⟨o,h⟩:=H.hq he;exact⟨o,gU h _⟩
 len:=H.len
 small:=H.small
 ag1:=H.ag1
 con:=fun i ev c X W=>(H.con i ev c X W).more Z
theorem Tryz.afK.at:afJ s p t q evs (cs.map unE) M where
 hp:=H.hp
 ht:=H.ht
 hq:=H.hq
 len:=by rw[List.length_map,H.len]
 small:=by rw[H.len];exact H.small
 con:=fun i ev U W Z=>by rw[List.getElem?_map,Option.map_eq_some_iff] at Z;obtain⟨c,h3,V⟩:=Z;exact⟨c,H.ag1 c (List.mem_of_getElem? h3),V,fun X=>(H.con i ev c W h3).more X⟩
theorem Tryz.afK.l32:∀e∈evs,e.length=32:=H.at.l32
theorem Tryz.afK.cok:∀e∈evs,∀x∈e,x.aeS=true:=H.at.cok
theorem Tryz.afK.flat:evs.flatten.length=cs.length*32:=by rw[Uj H.l32,H.len]
theorem Tryz.afK.ahG:afb M (.slice p 0 s.P.length none) 2 s.P.length (pC s.P):=by obtain⟨o,h⟩:=H.hp;exact .inr ⟨p,o,rfl,(fR s).1,h⟩
end
theorem Vj(s:aeX):0<s.T.length:=by
 have:∀k<8,0<(bJ k).length:=by decide
 exact this _ (Nat.mod_lt _ (by decide))
theorem Tryz.afK.ahH(H:afK s p t q evs cs M):afb M (.slice t 0 s.T.length none) 3 s.T.length (tC s.T):=by obtain⟨o,h⟩:=H.ht;exact .inr ⟨t,o,rfl,Vj s,h⟩
end
theorem R4(L:List P2):∀f,AV.aeW f (pC L)=true:=fun f=>by rw[U6];exact Y5 f _
theorem CQ:∀(f:Nat→Bool) (L:List Tr),AV.aeW f (tC L)=true
 |f,[]=>rfl
 |f,k::l=>by simp[tC,AV.aeW,AV.aeR,CQ f l]
def OkN(T:Nat)(new:Mem):Prop:=∀f:Nat→Bool,(∀b,b<T→f b=true)→new.all (fun x=>iO x&&x.aeR f)=true
variable{T:Nat}
theorem OkN.of{new:Mem}(h:∀x∈new,iO x=true∧x.aeR (fun b=>decide (b<T))=true):OkN T new:=fun f Z=>List.all_eq_true.2 fun x X=>by obtain⟨a,b⟩:=h x X;rw[a,Bool.true_and];exact aeY.ae2 (fun k W=>Z k (of_decide_eq_true W)) x b
def ahb(T:Nat)(vs:List AV):Prop:=∀f:Nat→Bool,(∀b,b<T→f b=true)→AV.aeW f vs=true
theorem ahb.of{vs:List AV}(h:AV.aeW (fun b=>decide (b<T)) vs=true):ahb T vs:=fun f Z=>AV.afj (fun k X=>Z k (of_decide_eq_true X)) vs h
theorem Tryz.afK.refs{s:aeX}{p t q:Nat}{evs:List (List AV)}{cs:List Evc}{M:Mem}(H:afK s p t q evs cs M):ahb M.length (dv s p t q cs.length):=by
 refine .of ?_;have a:=H.ahG.refs 0;have b:=H.ahH.refs 0;have c:(evV q cs.length).aeR (fun b=>decide (b<M.length))=true:=by
  unfold evV;split
  ·rfl
  ·rename_i Z
   obtain⟨o,h⟩:=H.hq (by rintro rfl;have:=H.len;simp at this;omega);have:=gL h;simp only[AV.aeR,decide_eq_true_eq];exact this
 rw[Nat.add_zero] at a b;unfold dv;simp only[AV.aeW,a,b,c,EJ,Bool.and_self]
def qOf:AV→Nat
 |.slice kr _ _ _=>kr
 |_=>0
end Go.Proofs
namespace Go.Proofs
open Go.Eng
open Tryz
section
variable {s:aeX}{p t q:Nat}{evs:List (List AV)}{cs:List Evc}{M:Mem}
end
structure Tryz.ahI (M:Mem)(v:AV)(evs:List (List AV)):Prop where
 s:∀Z,iy (aN prog) (M++Z) 32 38 v=some (evs.length,evs.flatten)
 l:∀N,DB (aN prog) 38 N v=some (.int .i64 evs.length)
theorem YR(q n:Nat):(evV q n).known=true:=by unfold evV;split<;>rfl
section
variable {s:aeX}{p t q:Nat}{evs:List (List AV)}{cs:List Evc}{M:Mem}
theorem Tryz.afK.chk(H:afK s p t q evs cs M):kO prog 35 [.agg (dv s p t q cs.length)] M (.int .i64 (bif LI [bk] (cs.map unE) then 9 else 0)) M:=by
 have:=Fq H.at
 rwa [H.len] at this
end
end Go.Proofs
namespace Go.Proofs
open Go.Eng
theorem LM:∀{evs:List (List AV)} (k:Nat),(∀e∈evs,e.length=32)→evs.flatten.drop (k*32)=(evs.drop k).flatten
 | [],k,_=>by simp
 |e::l,0,_=>by simp
 |e::l,k+1,h=>by have X:=h e (by simp);rw[List.flatten_cons,List.drop_succ_cons,←LM k (fun x Z=>h x (by simp[Z])),List.drop_append,List.drop_of_length_le (by omega),List.nil_append,show(k+1)*32-e.length=k*32 by omega]
section
variable {s:aeX}{p t q:Nat}{evs:List (List AV)}{cs:List Evc}{M:Mem}
end
end Go.Proofs
namespace Go.Proofs
open Go.Eng
open Tryz
def iH(s:aeX)(a:AV):AV:=.agg [.int .u8 s.kind,.int .i8 s.sx,.int .i8 s.sy,.bool s.half,a]
theorem Qv(s:aeX)(a:AV)(n:Nat)(A:a=.y9∧n=0∨a=.slice 0 0 n none)(M:Mem):kO prog 8 [iH s a] M (.bool (decide (n≤3))) M:=by
 have Z:aK prog 8=some f8:=by kernel_rfl
 refine cd (al _) ?_;rcases A with⟨rfl,rfl⟩ | rfl
 ·simp[aa,Z,f8,iH]
 ·simp[aa,Z,f8,iH]
  omega
def CI:Nat→Code→Code
 |0,c=>c
 |n+1,.seq _ c=>CI n c
 |_+1,c=>c
def lI:Nat→Code→Code
 |0,.seq a _=>a
 |n+1,.seq _ c=>lI n c
 |_,c=>c
end Go.Proofs
