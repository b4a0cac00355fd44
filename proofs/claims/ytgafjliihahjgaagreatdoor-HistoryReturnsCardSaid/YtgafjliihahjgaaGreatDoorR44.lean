/- See R54. -/
import Derived.Test.YtgafjliihahjgaaGreatDoorR43
import Derived.Test.YtgafjliihahjgaaGreatDoorR29
set_option linter.all false
namespace Go.Proofs
open Go.Eng
open Tryz
theorem QR:(List.range 8).all (fun k=>aS ((k:Int)+(-35)) 4)=true:=by kernel_rfl
theorem QS:(List.range 8).all (fun k=>aS ((k:Int)+(-27)) 4)=true:=by kernel_rfl
theorem QT:(List.range 8).all (fun k=>aS ((k:Int)+(-19)) 4)=true:=by kernel_rfl
theorem QU:(List.range 8).all (fun k=>aS ((k:Int)+(-11)) 4)=true:=by kernel_rfl
theorem QV:(List.range 4).all (fun k=>aS ((k:Int)+(-3)) 4)=true:=by kernel_rfl
variable{m:Int}
theorem TC(h0: -35≤m)(h1:m≤0):aS m 4=true:=by
 by_cases c0:m< -27
 ·exact bA QR (by omega) (by omega)
 by_cases c1:m< -19
 ·exact bA QS (by omega) (by omega)
 by_cases c2:m< -11
 ·exact bA QT (by omega) (by omega)
 by_cases c3:m< -3
 ·exact bA QU (by omega) (by omega)
 exact bA QV (by omega) (by omega)
theorem QW:(List.range 8).all (fun k=>aS ((k:Int)+1) 4)=true:=by kernel_rfl
theorem QX:(List.range 8).all (fun k=>aS ((k:Int)+9) 4)=true:=by kernel_rfl
theorem QY:(List.range 8).all (fun k=>aS ((k:Int)+17) 4)=true:=by kernel_rfl
theorem QZ:(List.range 8).all (fun k=>aS ((k:Int)+25) 4)=true:=by kernel_rfl
theorem Q0:(List.range 3).all (fun k=>aS ((k:Int)+33) 4)=true:=by kernel_rfl
theorem TD(h0:1≤m)(h1:m≤35):aS m 4=true:=by
 by_cases c0:m<9
 ·exact bA QW (by omega) (by omega)
 by_cases c1:m<17
 ·exact bA QX (by omega) (by omega)
 by_cases c2:m<25
 ·exact bA QY (by omega) (by omega)
 by_cases c3:m<33
 ·exact bA QZ (by omega) (by omega)
 exact bA Q0 (by omega) (by omega)
def Tl(n:Int) (g:Nat):Prop:=(g=2∧n%2=0∧ -142≤n∧n≤142)∨(g=4∧n%4=0∧ -142≤n∧n≤142)∨(g=5∧(n=0∨n=5))∨(g=10∧(n=0∨n=10))
variable{g:Nat}
theorem Ed(h:aS m g=true)(M:Mem):kF prog 171 [.str (cf (m*g)),.str (aQ g)] M (.tuple [.str (cf m),.str [48],.int .i64 0]) M:=by
 unfold aS at h;split at h
 ·rename_i r hr
  obtain⟨e1,e2⟩:=SG h;have:=(jg ae (aq _) (au _) Ai 30).fn _ _ _ _ hr;rw[e1,e2] at this;exact kF.lift rfl rfl this M
 ·cases h
theorem OF(h:(g=2∧ -71≤m∧m≤71)∨(g=4∧ -35≤m∧m≤35)∨(g=5∧0≤m∧m≤1)∨(g=10∧0≤m∧m≤1)):aS m g=true:=by
 rcases h with⟨rfl,h0,h1⟩ | ⟨rfl,h0,h1⟩ | ⟨rfl,h0,h1⟩ | ⟨rfl,h0,h1⟩
 ·by_cases c1:m≤ -24
  ·exact Tx h0 c1
  ·by_cases c2:m≤24
   ·exact Ty (by omega) c2
   ·exact Tz (by omega) h1
 ·by_cases c1:m≤0
  ·exact TC h0 c1
  ·exact TD (by omega) h1
 ·exact TA h0 h1
 ·exact TB h0 h1
theorem Tu{n:Int}(h:Tl n g)(M:Mem):kF prog 171 [.str (cf n),.str (aQ g)] M (.tuple [.str (cf (n / (g:Int))),.str [48],.int .i64 0]) M:=by
 have e:n=n / (g:Int)*g:=by rcases h with⟨rfl,h⟩ | ⟨rfl,h⟩ | ⟨rfl,h⟩ | ⟨rfl,h⟩<;>simp only[Int.cast_ofNat_Int]<;>omega
 have:=Ed (OF (m:=n / (g:Int)) (g:=g) (by
  rcases h with⟨rfl,h⟩ | ⟨rfl,h⟩ | ⟨rfl,h⟩ | ⟨rfl,h⟩
  ·exact .inl ⟨rfl,by simp only[Int.cast_ofNat_Int];omega,by simp only[Int.cast_ofNat_Int];omega⟩
  ·exact .inr (.inl ⟨rfl,by simp only[Int.cast_ofNat_Int];omega,by simp only[Int.cast_ofNat_Int];omega⟩)
  ·exact .inr (.inr (.inl ⟨rfl,by simp only[Int.cast_ofNat_Int];omega,by simp only[Int.cast_ofNat_Int];omega⟩))
  ·exact .inr (.inr (.inr ⟨rfl,by simp only[Int.cast_ofNat_Int];omega,by simp only[Int.cast_ofNat_Int];omega⟩)))) M
 rwa [←e] at this
open Classical in
noncomputable def yO(f:FuncId) (args:List AV):Option AV:=
 match f,args with
 |171,[.str s,.str t]=>match oT s,y8 t with
  |some n,some g=>if Tl n g then some (.tuple [.str (cf (n / (g:Int))),.str [48],.int .i64 0]) else none
  |_,_=>none
 |f,args=>be f args
theorem Lq:kP prog (ag yO):=bK fun f args v h mem=>by
 unfold yO at h;split at h
 ·split at h
  ·rename_i n g hn hg
   split at h
   ·rename_i hc
    cases h;rw[eG hn,jH hg];exact Tu hc mem
   ·cases h
  ·cases h
 ·have:=mi.fn _ _ mem ⟨v,none,[]⟩ (by unfold ag;simp only;rw[h])
  simpa [HS.mem] using this
section
variable (n:Int)(d:Nat)(hd:0<d)(hn:n.natAbs≤1000)(hd2:d≤1000)(h:n.natAbs.gcd d=1∨(Tl n (n.natAbs.gcd d)∧Tl d (n.natAbs.gcd d)))(M:Mem)
include n d hd hn hd2 h M
theorem Gc:
  kF prog 118 [.str (cf n),.str (aQ d)] M (.str (aw (mkRat n d))) M:=by
 have hG:aT prog 118=some f118:=by kernel_rfl
 refine az Lq (lv:=fun _=>[]) (K:=1) rfl rfl ?_ M;have sm:∀n:Int,n.natAbs≤1000→(cf n).length≤5:=fun n hn=>by have h1:=br (k:=4) (u:=n.natAbs) (by omega) (by omega);have h2:=fm n;omega
 have l1:=sm n hn;have l2:(aQ d).length≤4:=br (by omega) (by omega);have l1' :(cf n).length≤18:=by omega
 have l2' :(aQ d).length≤18:=by omega
 have l1x:(cf n).length≤1000000000:=by omega
 have l2x:(aQ d).length≤1000000000:=by omega
 have sg:mw (d:Int)=1:=by unfold mw;rw[if_neg (by omega),if_neg (by omega)]
 rw[wO n (by omega)];obtain⟨g,hg⟩:∃g,g=n.natAbs.gcd d:=⟨_,rfl⟩
 rw[←hg] at h ⊢;by_cases h1:g=1
 ·subst h1
  have e1:aQ 1=[49]:=rfl;have e2:n / ((1:Nat):Int)=n:=by simp
  rw[e2,Nat.div_one];simp[ad,hG,f118,ag,yO,be,da,cI,bY,cL,fX,iG,sg,l1',l2',l1x,l2x,←hg,e1]
 ·obtain⟨k1,k2⟩:Tl n g∧Tl d g:=by
   rcases h with h | h
   ·exact absurd h h1
   ·exact h
  have hb:(aQ g==[49])=false:=by rw[qw];simpa using h1
  have UV :¬aQ g=[49]:=by simpa using hb
  obtain⟨q,hq⟩:∃q,q=n / (g:Int):=⟨_,rfl⟩
  obtain⟨e,he⟩:∃e,e=d / g:=⟨_,rfl⟩
  have YL :(d:Int) / (g:Int)=(e:Int):=by rw[he];exact(Int.natCast_ediv d g).symm
  have hqn:q.natAbs≤1000:=by rw[hq];rcases k1 with⟨rfl,k⟩ | ⟨rfl,k⟩ | ⟨rfl,k⟩ | ⟨rfl,k⟩<;>simp only[Int.cast_ofNat_Int]<;>omega
  have hen:e≤1000:=by rw[he];exact Nat.le_trans (Nat.div_le_self _ _) hd2
  have l3:=sm q hqn;have l4:(aQ e).length≤4:=br (by omega) (by omega);have l3x:(cf q).length≤1000000000:=by omega
  have l4x:(aQ e).length≤1000000000:=by omega
  have ie:cf (e:Int)=aQ e:=rfl;rw[←hq,←he];simp[ad,hG,f118,ag,yO,be,da,cI,bY,cL,fX,iG,sg,l1',l2',←hg,hb,k1,k2,←hq,YL,ie,l3x,l4x]
theorem Qp:
  kF prog 56 [.int .i64 n,.int .i64 d] M (.tuple [.str (aw (mkRat n d)),.int .i64 0]) M:=by
 have sg:mw (d:Int)=1:=by unfold mw;rw[if_neg (by omega),if_neg (by omega)]
 have ie:cf (d:Int)=aQ d:=rfl;have hN:kF prog 97 [.str (cf n),.str (aQ d)] M (.tuple [.str (aw (mkRat n d)),.int .i64 0]) M:=by
  have hG:aT prog 97=some f97:=by kernel_rfl
  have hO:kP prog (adM.or (ag (cK [(118,[.str (cf n),.str (aQ d)],.str (aw (mkRat n d)))])) (ag be)):=kP.or (fa fun e he M=>by simp only[List.mem_cons,List.not_mem_nil,or_false] at he;rw[he];exact Gc n d hd hn hd2 h M) mi
  have h:ad (aM prog) (fun _=>[]) (aT prog) (adM.or (ag (cK [(118,[.str (cf n),.str (aQ d)],.str (aw (mkRat n d)))])) (ag be)) 1 97 [.str (cf n),.str (aQ d)] M=some ⟨.tuple [.str (aw (mkRat n d)),.int .i64 0],none,[]⟩:=by simp[ad,hG,f97,adM.or,ag,cK,be,da,cI,bY,iG,sg]
  have:=(ak ae (aq _) hO (au _) h).1;simpa [HS.mem] using this
 have hG:aT prog 56=some f56:=by kernel_rfl
 have f1:dH n=true:=by unfold dH;simp;omega
 have f2:dH (d:Int)=true:=by unfold dH;simp;omega
 have hO:kP prog (adM.or (gq 97 [.str (cf n),.str (aQ d)] (.tuple [.str (aw (mkRat n d)),.int .i64 0]) (fun N=>N=M)) (ag be)):=kP.or (ic fun N ZR =>by subst ZR;exact hN) mi;refine bB (K:=1) (lv:=fun _=>[]) hO ?_;simp[ad,hG,f56,adM.or,ag,gq,be,da,cI,f1,f2,ie]
end
end Go.Proofs
