/- See P53. -/
import Derived.Test.YtmhkeaphiadacaaGreatDoorP37
import Derived.Test.YtmhkeaphiadacaaGreatDoorP38
set_option linter.all false
namespace Go.Proofs
open Go.Eng
open Tryz
structure Tryz.aaE (s:aaf) (p t q:Nat) (evs:List (List AV)) (cs:List Evc) (M:Mem):Prop where
 hp:∃o,M[p]? =some (.cells o 2 (pC s.P))
 ht:∃o,M[t]? =some (.cells o 3 (tC s.T))
 hq:evs≠[]→∃o,M[q]? =some (.cells o 32 evs.flatten)
 len:evs.length=cs.length
 small:cs.length≤4
 abf:∀c∈cs,Tryz.Good s c
 con:∀(i:Nat) ev c,evs[i]? =some ev→cs[i]? =some c→aaI M ev c
section
variable {s:aaf}{p t q:Nat}{evs:List (List AV)}{cs:List Evc}{M:Mem}
section
variable (H:aaE s p t q evs cs M)
include H
theorem Tryz.aaE.more(Z:Mem):aaE s p t q evs cs (M++Z) where
 hp:=by obtain⟨o,h⟩:=H.hp;exact⟨o,by rw[List.getElem?_append_left (List.getElem?_eq_some_iff.1 h).1];exact h⟩
 ht:=by obtain⟨o,h⟩:=H.ht;exact⟨o,by rw[List.getElem?_append_left (List.getElem?_eq_some_iff.1 h).1];exact h⟩
 hq:=fun he=>by obtain⟨o,h⟩:=H.hq he;exact⟨o,by rw[List.getElem?_append_left (List.getElem?_eq_some_iff.1 h).1];exact h⟩
 len:=H.len
 small:=H.small
 abf:=H.abf
 con:=fun i ev c h1 h2=>(H.con i ev c h1 h2).more Z
theorem Tryz.aaE.at:aba s p t q evs (cs.map unE) M where
 hp:=H.hp
 ht:=H.ht
 hq:=H.hq
 len:=by rw[List.length_map,H.len]
 small:=by rw[H.len];exact H.small
 con:=fun i ev U h1 h2=>by rw[List.getElem?_map,Option.map_eq_some_iff] at h2;obtain⟨c,h3,h4⟩:=h2;exact⟨c,H.abf c (List.mem_of_getElem? h3),h4,fun X=>(H.con i ev c h1 h3).more X⟩
theorem Tryz.aaE.l32:∀e∈evs,e.length=32:=H.at.l32
theorem Tryz.aaE.cok:∀e∈evs,∀x∈e,x.qK=true:=H.at.cok
theorem Tryz.aaE.flat:evs.flatten.length=cs.length*32:=by rw[NP H.l32,H.len]
end
theorem UN{evs:List (List AV)}(h:∀e∈evs,∀x∈e,x.qK=true):evs.flatten.all AV.qK=true:=by rw[List.all_eq_true];intro x hx;obtain⟨e,he,hxe⟩:=List.mem_flatten.1 hx;exact h e he x hxe
theorem Tryz.aaE.acQ(H:aaE s p t q evs cs M):aat M (.slice p 0 s.P.length none) 2 s.P.length (pC s.P):=by obtain⟨o,h⟩:=H.hp;exact .inr ⟨p,o,rfl,(iO s).1,h⟩
theorem Si(s:aaf):0<s.T.length:=by
 have:∀k<8,0<(aI k).length:=by decide
 exact this _ (Nat.mod_lt _ (by decide))
theorem Tryz.aaE.acR(H:aaE s p t q evs cs M):aat M (.slice t 0 s.T.length none) 3 s.T.length (tC s.T):=by obtain⟨o,h⟩:=H.ht;exact .inr ⟨t,o,rfl,Si s,h⟩
end
theorem P8(L:List P2):∀f,AV.aaa f (pC L)=true:=fun f=>by rw[R7];exact VI f _
theorem BB:∀(f:Nat→Bool) (L:List Tr),AV.aaa f (tC L)=true
 |f,[]=>rfl
 |f,k::l=>by simp[tC,AV.aaa,AV.HK,BB f l]
def OkN(T:Nat) (new:Mem):Prop:=∀f:Nat→Bool,(∀b,b<T→f b=true)→new.all (fun x=>fj x&&x.HK f)=true
variable{T:Nat}
theorem OkN.of{new:Mem}(h:∀x∈new,fj x=true∧x.HK (fun b=>decide (b<T))=true):OkN T new:=fun f hf=>List.all_eq_true.2 fun x hx=>by obtain⟨a,b⟩:=h x hx;rw[a,Bool.true_and];exact aae.aak (fun k hk=>hf k (of_decide_eq_true hk)) x b
def aaZ(T:Nat) (vs:List AV):Prop:=∀f:Nat→Bool,(∀b,b<T→f b=true)→AV.aaa f vs=true
theorem aaZ.of{vs:List AV}(h:AV.aaa (fun b=>decide (b<T)) vs=true):aaZ T vs:=fun f hf=>AV.aan (fun k hk=>hf k (of_decide_eq_true hk)) vs h
theorem Tryz.aaE.refs{s:aaf}{p t q:Nat}{evs:List (List AV)}{cs:List Evc}{M:Mem}(H:aaE s p t q evs cs M):aaZ M.length (cI s p t q cs.length):=by
 refine .of ?_;have a:=H.acQ.refs 0;have b:=H.acR.refs 0;have c:(evV q cs.length).HK (fun b=>decide (b<M.length))=true:=by
  unfold evV;split
  ·rfl
  ·rename_i h0
   obtain⟨o,h⟩:=H.hq (by rintro rfl;have:=H.len;simp at this;omega);have:=(List.getElem?_eq_some_iff.1 h).1;simp only[AV.HK,decide_eq_true_eq];exact this
 rw[Nat.add_zero] at a b;unfold cI;simp only[AV.aaa,a,b,c,jV,Bool.and_self]
def qOf:AV→Nat
 |.slice kr _ _ _=>kr
 |_=>0
end Go.Proofs
namespace Go.Proofs
open Go.Eng
open Tryz
section
variable {s:aaf}{p t q:Nat}{evs:List (List AV)}{cs:List Evc}{M:Mem}
end
structure Tryz.adi (M:Mem) (v:AV) (evs:List (List AV)):Prop where
 s:∀Z,il (aC prog) (M++Z) 32 39 v=some (evs.length,evs.flatten)
 l:∀N,dY (aC prog) 39 N v=some (.int .i64 evs.length)
end Go.Proofs
namespace Go.Proofs
open Go.Eng
theorem jE(q n:Nat):(evV q n).known=true:=by unfold evV;split<;>rfl
def Qr:List AV:=[.kO,.kO,.str [],.kO]
section
variable {s:aaf}{p t q:Nat}{evs:List (List AV)}{cs:List Evc}{M:Mem}
end
end Go.Proofs
namespace Go.Proofs
open Go.Eng
end Go.Proofs
namespace Go.Proofs
open Go.Eng
open Tryz
section
variable {s:aaf}{p t q:Nat}{evs:List (List AV)}{cs:List Evc}{M:Mem}
theorem Tryz.aaE.acL(H:aaE s p t q evs cs M)(h:cs.length=0):cs=[]∧evs=[]:=⟨List.eq_nil_of_length_eq_zero h,List.eq_nil_of_length_eq_zero (by rw[H.len];exact h)⟩
end
end Go.Proofs
namespace Go.Proofs
open Go.Eng
open Tryz
variable{M:Mem}
theorem Ut{v:AV}{n:Nat}{C:List AV}(h:aat M v 32 n C)(hl:C.length=n*32)(hn:n≤1000)(G':C.all AV.qK=true):
  mB prog 11 [v] M (clV M.length n) (M++[.qF,clX 32 n C]):=by
 have hG:aO prog 11=some f11:=by kernel_rfl
 rcases h with⟨rfl,rfl,rfl⟩ | ⟨b,o,rfl,hp,hb⟩
 ·have h:aK (aC prog) (fun _=>[]) (aO prog) bt 1 11 [.kO] M=some (.kO,M):=by simp[aK,hG,f11,Qs]
  have:=bn af (aw _) (ah _) (ax _) h;simpa [clV,clX] using ov 2 this
 ·have lb:=(List.getElem?_eq_some_iff.1 hb).1
  have J' :∀Z,(M++Z)[b]? =some (.cells o 32 C):=fun Z=>by rw[List.getElem?_append_left lb];exact hb
  have ht:C.take (n*32)=C:=List.take_of_length_le (by omega);have Xr:n*32≤C.length:=by omega
  have q1:n*504≤140737488355328:=by omega
  have q2:n≤140737488355328:=by omega
  have h:aK (aC prog) (fun _=>[]) (aO prog) bt 1 11 [.slice b 0 n none] M=some (.slice (M.length+1) 0 n none,M++[.qF,.cells true 32 C]):=by simp[-List.all_eq_true,-AV.qK,aK,hG,f11,Qs,J',ht,Xr,q1,q2,G'];done
  have:=bn af (aw _) (ah _) (ax _) h;unfold clV clX;rw[if_neg (by omega),if_neg (by omega)];exact this
def kM(s:aaf) (a:AV):AV:=.agg [.int .u8 s.kind,.int .i8 s.sx,.int .i8 s.sy,.bool s.half,a]
theorem Oq(s:aaf)(a:AV)(n:Nat)(ha:a=.kO∧n=0∨a=.slice 0 0 n none)(M:Mem):mB prog 7 [kM s a] M (.bool (decide (n≤3))) M:=by
 have hG:aO prog 7=some f7:=by kernel_rfl
 refine aY (K:=1) (lv:=fun _=>[]) (ah _) ?_;rcases ha with⟨rfl,rfl⟩ | rfl
 ·simp[ad,hG,f7,kM]
 ·simp[ad,hG,f7,kM]
  omega
def ui:Nat→Code→Code
 |0,c=>c
 |n+1,.seq _ c=>ui n c
 |_+1,c=>c
def cK:Nat→Code→Code
 |0,.seq a _=>a
 |n+1,.seq _ c=>cK n c
 |_,c=>c
theorem Tryz.aaE.adj{s:aaf}{p t q:Nat}{evs:List (List AV)}{cs:List Evc}(H:aaE s p t q evs cs M):aat M (evV q cs.length) 32 cs.length evs.flatten:=by
 by_cases h0:cs.length=0
 ·obtain⟨rfl,rfl⟩:=H.acL h0
  exact .inl ⟨rfl,rfl,rfl⟩
 ·obtain⟨o,h⟩:=H.hq (by rintro rfl;have:=H.len;simp at this;omega)
  exact .inr ⟨q,o,by unfold evV;rw[if_neg h0],by omega,h⟩
end Go.Proofs
