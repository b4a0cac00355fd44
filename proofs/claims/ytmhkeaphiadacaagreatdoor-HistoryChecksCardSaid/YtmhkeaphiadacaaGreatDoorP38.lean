/- See P53. -/
import Derived.Test.YtmhkeaphiadacaaGreatDoorP35
set_option linter.all false
set_option maxRecDepth 100000
set_option maxHeartbeats 40000000
namespace Go.Proofs
open Go.Eng
open Tryz
theorem cB(q n:Nat)(N:Mem):dY (aC prog) 39 N (evV q n)=some (.int .i64 n):=by
 unfold evV;split
 ·rename_i h;subst h;simp
 ·simp
theorem dn(q n:Nat):(evV q n).qK=true:=by unfold evV;split<;>rfl
variable{N:Mem}{U:List (List UInt8)}{v:AV}
theorem xo(h:sts N v=some U)(N' :Mem):dY (aC prog) 45 N' v=some (.int .i64 U.length):=by rcases oP h with⟨b',o,cs,rfl,h,ht⟩ | ⟨rfl,rfl⟩<;>simp
theorem pI{b:Nat}{L:List (List UInt8)}(hb:N[b]? =some (.cells true 1 (stC L)))(hv:sts N v=some U)(hl:L.length+U.length≤1000000):
  gq (aC prog) N 45 45 (.slice b 0 L.length none) v=some (.slice N.length 0 (L.length+U.length) none,N.set b .qF++[.cells true 1 (stC (L++U))]):=by
 have G':(stC U).all AV.qK=true:=by rw[List.all_eq_true];intro x hx;simp only[stC,List.mem_map] at hx;obtain⟨y,_,rfl⟩:=hx;rfl
 have hs:il (aC prog) N 1 45 v=some (U.length,stC U):=by
  rcases oP hv with⟨b',o,cs,rfl,h,ht⟩ | ⟨rfl,rfl⟩
  ·have h2:U.length≤cs.length:=by have:=congrArg List.length ht;rw[List.length_take,dB] at this;omega
   rw[dB] at ht;simp[il,h,h2,ht]
  ·rfl
 have h1:(L.length+U.length)*16≤140737488355328:=by omega
 have h2:L.length+U.length≤140737488355328:=by omega
 have e:(stC L).take L.length++stC U=stC (L++U):=by rw[T6,Qi]
 simp[-il,-List.all_eq_true,-AV.qK,gq,hs,G',hb,dB,h1,h2,e,w9,vx]
def uN(c:Code):List Nat:=if (ab c).contains 32 then [32,32,32,4] else [46,46,46]
variable{K m0:Nat}{O:aac}{b b1:Code}
theorem EI(hK:5<K)(N:Mem)(w v:AV)(U:List (List UInt8))(hv:sts N v=some U)(hU:U.length≤3)(hO:∀u∈U,O (.fn 45) [w,.str u] N=some ⟨.bool false,none,[]⟩)(hb:aj f20=[b1,b]):
  ∃F:Env→Bool→Env,∀y' d,(aa y' 4=w∧aa y' 44=v∧aa y' 45=.int .i64 U.length∧aa y' 46=.int .i64 0)→
   aQ (aC prog) uN O K 59 m0 true (.loop b) ⟨y',N,d⟩=some (.exit 3,⟨F y' d,N,d⟩)∧
    (aa (F y' d) 1=aa y' 1∧aa (F y' d) 4=w∧aa (F y' d) 6=aa y' 6∧aa (F y' d) 30=aa y' 30∧aa (F y' d) 31=aa y' 31∧aa (F y' d) 32=aa y' 32):=by
 simp[aj,aD,f20] at hb;obtain⟨_,hb⟩:=hb;refine bf (L:=[46,46,46]) (by subst hb;rfl) (fun y'=>aa y' 4=w∧aa y' 44=v∧aa y' 45=.int .i64 U.length∧aa y' 46=.int .i64 0) (fun y' z' =>aa z' 1=aa y' 1∧aa z' 4=w∧aa z' 6=aa y' 6∧aa z' 30=aa y' 30∧aa z' 31=aa y' 31∧aa z' 32=aa y' 32) ?_;rintro y' d ⟨h4,h44,h45,h46⟩;have hn:az [46,46,46] (ab b) y' ((46,.int .i64 ((0:Nat):Int))::y')=az [46,46,46] (ab b) y' y':=by simp[az,h46]
 rw[←hn];refine bA (α:=Nat) (fun n=>⟨az [46,46,46] (ab b) y' ((46,.int .i64 (n:Int))::y'),N,d⟩) (fun n=>U.length-n) (fun n=>n≤U.length) _ _ d _ (by simp) ?_ K 0 (by omega) (by omega);rintro n Xi;clear hn;subst hb;by_cases AC:n<U.length
 ·left
  obtain⟨x,hx⟩:∃x,U[n]? =some x:=⟨U[n],List.getElem?_eq_getElem AC⟩
  have hox:=hO x (List.mem_of_getElem? hx);have w1:IntKind.i64.wrap ((n:Int)+1)=((n+1:Nat):Int):=by rw[ai (by omega) (by omega)];omega
  rcases oP hv with⟨b',o,cs,rfl,J',ht⟩ | ⟨rfl,rfl⟩
  ·rw[dB] at ht
   have XJ:cs[n]? =some (.str x):=by have:=sJ hx;rw[←ht,List.getElem?_take_of_lt (by omega)] at this;exact this
   have Xh:=(List.getElem?_eq_some_iff.1 XJ).1;have Zh :∀h,cs[n]'h=.str x:=fun h=>by rw[List.getElem?_eq_getElem h] at XJ;exact Option.some.inj XJ
   refine⟨n+1,?_⟩;refine cC (show n+1≤U.length∧U.length-(n+1)<U.length-n from⟨by omega,by omega⟩) ?_;simp[h4,h44,h45,AC,J',Zh,Xh,hox,w1]
  ·simp at AC
 ·right
  simp[h4,h45,AC]
theorem Cj(hK:5<K)(N:Mem)(w v:AV)(L U:List (List UInt8))(hv:sts N v=some U)(hU:U.length≤3)(hO:∀u∈U,O (.fn 45) [w,.str u] N=some ⟨.bool (decide (u∈L)),none,[]⟩)(hd:∃u∈U,u∈L)(hb:aj f20=[b1,b]):
  ∃F:Env→Bool→Env,∀y' d,(aa y' 4=w∧aa y' 44=v∧aa y' 45=.int .i64 U.length∧aa y' 46=.int .i64 0)→
   aQ (aC prog) uN O K 59 m0 true (.loop b) ⟨y',N,d⟩=some (.ret,⟨F y' d,N,d⟩)∧aa (F y' d) 2=.int .i64 9:=by
 simp[aj,aD,f20] at hb;obtain⟨_,hb⟩:=hb;refine bf (L:=[46,46,46]) (by subst hb;rfl) (fun y'=>aa y' 4=w∧aa y' 44=v∧aa y' 45=.int .i64 U.length∧aa y' 46=.int .i64 0) (fun y' z' =>aa z' 2=.int .i64 9) ?_;rintro y' d ⟨h4,h44,h45,h46⟩;have hn:az [46,46,46] (ab b) y' ((46,.int .i64 ((0:Nat):Int))::y')=az [46,46,46] (ab b) y' y':=by simp[az,h46]
 rw[←hn];refine bA (α:=Nat) (fun n=>⟨az [46,46,46] (ab b) y' ((46,.int .i64 (n:Int))::y'),N,d⟩) (fun n=>U.length-n) (fun n=>∃u∈U.drop n,u∈L) _ _ d _ (by simp) ?_ K 0 (by simpa using hd) (by omega);rintro n ⟨u,hu,huL⟩;clear hn;subst hb;have AC:n<U.length:=by have:=List.length_pos_of_mem hu;rw[List.length_drop] at this;omega
 obtain⟨x,hx⟩:∃x,U[n]? =some x:=⟨U[n],List.getElem?_eq_getElem AC⟩
 have hox:=hO x (List.mem_of_getElem? hx);have w1:IntKind.i64.wrap ((n:Int)+1)=((n+1:Nat):Int):=by rw[ai (by omega) (by omega)];omega
 rcases oP hv with⟨b',o,cs,rfl,J',ht⟩ | ⟨rfl,rfl⟩
 ·rw[dB] at ht
  have XJ:cs[n]? =some (.str x):=by have:=sJ hx;rw[←ht,List.getElem?_take_of_lt (by omega)] at this;exact this
  have Xh:=(List.getElem?_eq_some_iff.1 XJ).1;have Zh :∀h,cs[n]'h=.str x:=fun h=>by rw[List.getElem?_eq_getElem h] at XJ;exact Option.some.inj XJ
  by_cases hxL:x∈L
  ·right
   rw[decide_eq_true hxL] at hox;simp[h4,h44,h45,AC,J',Zh,Xh,hox]
  ·left
   rw[decide_eq_false hxL] at hox;refine⟨n+1,?_⟩;refine cC (show(∃u∈U.drop (n+1),u∈L)∧U.length-(n+1)<U.length-n from⟨⟨u,?_,huL⟩,by omega⟩) ?_
   ·rw[List.drop_eq_getElem_cons AC,List.mem_cons] at hu
    rcases hu with rfl | hu
    ·rw[List.getElem?_eq_getElem AC] at hx
     cases hx;exact absurd huL hxL
    ·exact hu
   simp[h4,h44,h45,AC,J',Zh,Xh,hox,w1]
 ·simp at AC
def uS(c:Code):List Nat:=if (ab c).contains 30 then [30,30,30,4] else [44,44,44]
theorem ET(hK:5<K)(N:Mem)(w v:AV)(U:List (List UInt8))(hv:sts N v=some U)(hU:U.length≤3)(hO:∀u∈U,O (.fn 45) [w,.str u] N=some ⟨.bool false,none,[]⟩)(hb:aj f12=[b1,b]):
  ∃F:Env→Bool→Env,∀y' d,(aa y' 4=w∧aa y' 42=v∧aa y' 43=.int .i64 U.length∧aa y' 44=.int .i64 0)→
   aQ (aC prog) uS O K 57 m0 true (.loop b) ⟨y',N,d⟩=some (.exit 2,⟨F y' d,N,d⟩)∧
    (aa (F y' d) 1=aa y' 1∧aa (F y' d) 4=w∧aa (F y' d) 6=aa y' 6∧aa (F y' d) 28=aa y' 28∧aa (F y' d) 29=aa y' 29∧aa (F y' d) 30=aa y' 30):=by
 simp[aj,aD,f12] at hb;obtain⟨_,hb⟩:=hb;refine bf (L:=[44,44,44]) (by subst hb;rfl) (fun y'=>aa y' 4=w∧aa y' 42=v∧aa y' 43=.int .i64 U.length∧aa y' 44=.int .i64 0) (fun y' z' =>aa z' 1=aa y' 1∧aa z' 4=w∧aa z' 6=aa y' 6∧aa z' 28=aa y' 28∧aa z' 29=aa y' 29∧aa z' 30=aa y' 30) ?_;rintro y' d ⟨h4,h44,h45,h46⟩;have hn:az [44,44,44] (ab b) y' ((44,.int .i64 ((0:Nat):Int))::y')=az [44,44,44] (ab b) y' y':=by simp[az,h46]
 rw[←hn];refine bA (α:=Nat) (fun n=>⟨az [44,44,44] (ab b) y' ((44,.int .i64 (n:Int))::y'),N,d⟩) (fun n=>U.length-n) (fun n=>n≤U.length) _ _ d _ (by simp) ?_ K 0 (by omega) (by omega);rintro n Xi;clear hn;subst hb;by_cases AC:n<U.length
 ·left
  obtain⟨x,hx⟩:∃x,U[n]? =some x:=⟨U[n],List.getElem?_eq_getElem AC⟩
  have hox:=hO x (List.mem_of_getElem? hx);have w1:IntKind.i64.wrap ((n:Int)+1)=((n+1:Nat):Int):=by rw[ai (by omega) (by omega)];omega
  rcases oP hv with⟨b',o,cs,rfl,J',ht⟩ | ⟨rfl,rfl⟩
  ·rw[dB] at ht
   have XJ:cs[n]? =some (.str x):=by have:=sJ hx;rw[←ht,List.getElem?_take_of_lt (by omega)] at this;exact this
   have Xh:=(List.getElem?_eq_some_iff.1 XJ).1;have Zh :∀h,cs[n]'h=.str x:=fun h=>by rw[List.getElem?_eq_getElem h] at XJ;exact Option.some.inj XJ
   refine⟨n+1,?_⟩;refine cC (show n+1≤U.length∧U.length-(n+1)<U.length-n from⟨by omega,by omega⟩) ?_;simp[h4,h44,h45,AC,J',Zh,Xh,hox,w1]
  ·simp at AC
 ·right
  simp[h4,h45,AC]
theorem Ck(hK:5<K)(N:Mem)(w v:AV)(L U:List (List UInt8))(hv:sts N v=some U)(hU:U.length≤3)(hO:∀u∈U,O (.fn 45) [w,.str u] N=some ⟨.bool (decide (u∈L)),none,[]⟩)(hd:∃u∈U,u∈L)(hb:aj f12=[b1,b]):
  ∃F:Env→Bool→Env,∀y' d,(aa y' 4=w∧aa y' 42=v∧aa y' 43=.int .i64 U.length∧aa y' 44=.int .i64 0)→
   aQ (aC prog) uS O K 57 m0 true (.loop b) ⟨y',N,d⟩=some (.ret,⟨F y' d,N,d⟩)∧aa (F y' d) 2=.int .i64 9:=by
 simp[aj,aD,f12] at hb;obtain⟨_,hb⟩:=hb;refine bf (L:=[44,44,44]) (by subst hb;rfl) (fun y'=>aa y' 4=w∧aa y' 42=v∧aa y' 43=.int .i64 U.length∧aa y' 44=.int .i64 0) (fun y' z' =>aa z' 2=.int .i64 9) ?_;rintro y' d ⟨h4,h44,h45,h46⟩;have hn:az [44,44,44] (ab b) y' ((44,.int .i64 ((0:Nat):Int))::y')=az [44,44,44] (ab b) y' y':=by simp[az,h46]
 rw[←hn];refine bA (α:=Nat) (fun n=>⟨az [44,44,44] (ab b) y' ((44,.int .i64 (n:Int))::y'),N,d⟩) (fun n=>U.length-n) (fun n=>∃u∈U.drop n,u∈L) _ _ d _ (by simp) ?_ K 0 (by simpa using hd) (by omega);rintro n ⟨u,hu,huL⟩;clear hn;subst hb;have AC:n<U.length:=by have:=List.length_pos_of_mem hu;rw[List.length_drop] at this;omega
 obtain⟨x,hx⟩:∃x,U[n]? =some x:=⟨U[n],List.getElem?_eq_getElem AC⟩
 have hox:=hO x (List.mem_of_getElem? hx);have w1:IntKind.i64.wrap ((n:Int)+1)=((n+1:Nat):Int):=by rw[ai (by omega) (by omega)];omega
 rcases oP hv with⟨b',o,cs,rfl,J',ht⟩ | ⟨rfl,rfl⟩
 ·rw[dB] at ht
  have XJ:cs[n]? =some (.str x):=by have:=sJ hx;rw[←ht,List.getElem?_take_of_lt (by omega)] at this;exact this
  have Xh:=(List.getElem?_eq_some_iff.1 XJ).1;have Zh :∀h,cs[n]'h=.str x:=fun h=>by rw[List.getElem?_eq_getElem h] at XJ;exact Option.some.inj XJ
  by_cases hxL:x∈L
  ·right
   rw[decide_eq_true hxL] at hox;simp[h4,h44,h45,AC,J',Zh,Xh,hox]
  ·left
   rw[decide_eq_false hxL] at hox;refine⟨n+1,?_⟩;refine cC (show(∃u∈U.drop (n+1),u∈L)∧U.length-(n+1)<U.length-n from⟨⟨u,?_,huL⟩,by omega⟩) ?_
   ·rw[List.drop_eq_getElem_cons AC,List.mem_cons] at hu
    rcases hu with rfl | hu
    ·rw[List.getElem?_eq_getElem AC] at hx
     cases hx;exact absurd huL hxL
    ·exact hu
   simp[h4,h44,h45,AC,J',Zh,Xh,hox,w1]
 ·simp at AC
theorem Rw{l:List (List (List UInt8))}(h:∀U∈l,U.length≤3):l.flatten.length≤3*l.length:=by
 induction l with
 |nil=>simp
 |cons x l ih=>
  have a:=h x (by simp);have b:=ih fun U hU=>h U (by simp[hU])
  rw[List.flatten_cons,List.length_append,List.length_cons];omega
def zm:List (List UInt8)→List (List (List UInt8))→Bool
 |_,[]=>false
 |L,U::r=>U.any (fun u=>decide (u∈L))||zm (L++U) r
theorem wF:∀{us:List (List (List UInt8))}{L:List (List UInt8)},(L++us.flatten).Nodup→zm L us=false
 | [],_,_=>rfl
 |U::r,L,h=>by rw[List.flatten_cons,←List.append_assoc] at h;rw[zm,wF h,Bool.or_false,List.any_eq_false];intro u hu hin;have h1:=(List.nodup_append.1 h).1;exact(List.nodup_append.1 h1).2.2 u (of_decide_eq_true hin) u hu rfl
end Go.Proofs
