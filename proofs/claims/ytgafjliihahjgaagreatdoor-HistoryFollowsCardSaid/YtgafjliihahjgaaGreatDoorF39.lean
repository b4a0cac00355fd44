/- See F54. -/
import Derived.Test.YtgafjliihahjgaaGreatDoorF38
import Derived.Test.YtgafjliihahjgaaGreatDoorF24
set_option linter.all false
namespace Go.Proofs
open Go.Eng
open Tryz
theorem S5:(List.range 8).all (fun k=>aT ((k:Int)+(-35)) 4)=true:=by kernel_rfl
theorem S6:(List.range 8).all (fun k=>aT ((k:Int)+(-27)) 4)=true:=by kernel_rfl
theorem S7:(List.range 8).all (fun k=>aT ((k:Int)+(-19)) 4)=true:=by kernel_rfl
theorem S8:(List.range 8).all (fun k=>aT ((k:Int)+(-11)) 4)=true:=by kernel_rfl
theorem S9:(List.range 4).all (fun k=>aT ((k:Int)+(-3)) 4)=true:=by kernel_rfl
variable{m:Int}
theorem VL(h0: -35≤m)(A:m≤0):aT m 4=true:=by
 by_cases Z:m< -27
 ·exact bF S5 (by omega) (by omega)
 by_cases X:m< -19
 ·exact bF S6 (by omega) (by omega)
 by_cases W:m< -11
 ·exact bF S7 (by omega) (by omega)
 by_cases V:m< -3
 ·exact bF S8 (by omega) (by omega)
 exact bF S9 (by omega) (by omega)
theorem Ta:(List.range 8).all (fun k=>aT ((k:Int)+1) 4)=true:=by kernel_rfl
theorem Tb:(List.range 8).all (fun k=>aT ((k:Int)+9) 4)=true:=by kernel_rfl
theorem Tc:(List.range 8).all (fun k=>aT ((k:Int)+17) 4)=true:=by kernel_rfl
theorem Td:(List.range 8).all (fun k=>aT ((k:Int)+25) 4)=true:=by kernel_rfl
theorem Te:(List.range 3).all (fun k=>aT ((k:Int)+33) 4)=true:=by kernel_rfl
theorem VM(h0:1≤m)(A:m≤35):aT m 4=true:=by
 by_cases Z:m<9
 ·exact bF Ta (by omega) (by omega)
 by_cases X:m<17
 ·exact bF Tb (by omega) (by omega)
 by_cases W:m<25
 ·exact bF Tc (by omega) (by omega)
 by_cases V:m<33
 ·exact bF Td (by omega) (by omega)
 exact bF Te (by omega) (by omega)
def So(n:Int)(g:Nat):Prop:=(g=2∧n%2=0∧ -142≤n∧n≤142)∨(g=4∧n%4=0∧ -142≤n∧n≤142)∨(g=5∧(n=0∨n=5))∨(g=10∧(n=0∨n=10))
variable{g:Nat}
theorem Ft(h:aT m g=true)(M:Mem):kO prog 171 [.str (cC (m*g)),.str (aR g)] M (.tuple [.str (cC m),.str [48],.int .i64 0]) M:=by
 unfold aT at h;split at h
 ·rename_i r Z
  obtain⟨X,W⟩:=UQ h;have:=(gG ae (ar _) (au _) Bt 30).fn _ _ _ _ Z;rw[X,W] at this;exact kO.lift rfl rfl this M
 ·cases h
theorem QR(h:(g=2∧ -71≤m∧m≤71)∨(g=4∧ -35≤m∧m≤35)∨(g=5∧0≤m∧m≤1)∨(g=10∧0≤m∧m≤1)):aT m g=true:=by
 rcases h with⟨rfl,Z,X⟩ | ⟨rfl,Z,X⟩ | ⟨rfl,Z,X⟩ | ⟨rfl,Z,X⟩
 ·by_cases W:m≤ -24
  ·exact VG Z W
  ·by_cases V:m≤24
   ·exact VH (by omega) V
   ·exact VI (by omega) X
 ·by_cases W:m≤0
  ·exact VL Z W
  ·exact VM (by omega) X
 ·exact VJ Z X
 ·exact VK Z X
theorem VF{n:Int}(h:So n g)(M:Mem):kO prog 171 [.str (cC n),.str (aR g)] M (.tuple [.str (cC (n / (g:Int))),.str [48],.int .i64 0]) M:=by
 have e:n=n / (g:Int)*g:=by rcases h with⟨rfl,h⟩ | ⟨rfl,h⟩ | ⟨rfl,h⟩ | ⟨rfl,h⟩<;>simp only[Int.cast_ofNat_Int]<;>omega
 have:=Ft (QR (m:=n / (g:Int)) (g:=g) (by
  rcases h with⟨rfl,h⟩ | ⟨rfl,h⟩ | ⟨rfl,h⟩ | ⟨rfl,h⟩
  ·exact .inl ⟨rfl,by simp only[Int.cast_ofNat_Int];omega,by simp only[Int.cast_ofNat_Int];omega⟩
  ·exact .inr (.inl ⟨rfl,by simp only[Int.cast_ofNat_Int];omega,by simp only[Int.cast_ofNat_Int];omega⟩)
  ·exact .inr (.inr (.inl ⟨rfl,by simp only[Int.cast_ofNat_Int];omega,by simp only[Int.cast_ofNat_Int];omega⟩))
  ·exact .inr (.inr (.inr ⟨rfl,by simp only[Int.cast_ofNat_Int];omega,by simp only[Int.cast_ofNat_Int];omega⟩)))) M
 rwa [←e] at this
open Classical in
noncomputable def z6(f:FuncId)(args:List AV):Option AV:=
 match f,args with
 |171,[.str s,.str t]=>match pD s,An t with
  |some n,some g=>if So n g then some (.tuple [.str (cC (n / (g:Int))),.str [48],.int .i64 0]) else none
  |_,_=>none
 |f,args=>aX f args
theorem Nx:HS prog (af z6):=bH fun f Z v h mem=>by
 unfold z6 at h;split at h
 ·split at h
  ·rename_i n g X W
   split at h
   ·rename_i hc
    cases h;rw[fg X,jN W];exact VF hc mem
   ·cases h
  ·cases h
 ·have:=mB.fn _ _ mem ⟨v,none,[]⟩ (by unfold af;simp only;rw[h])
  simpa [aeQ.mem] using this
section
variable (n:Int)(d:Nat)(hd:0<d)(hn:n.natAbs≤1000)(hd2:d≤1000)(h:n.natAbs.gcd d=1∨(So n (n.natAbs.gcd d)∧So d (n.natAbs.gcd d)))(M:Mem)
include n d hd hn hd2 h M
theorem H5:
  kO prog 118 [.str (cC n),.str (aR d)] M (.str (ak (mkRat n d))) M:=by
 have C:aK prog 118=some f118:=by kernel_rfl
 refine aA Nx ?_ M;have sm:∀n:Int,n.natAbs≤1000→(cC n).length≤5:=fun n hn=>by have W:=bD (k:=4) (u:=n.natAbs) (by omega) (by omega);have A:=fH n;omega
 have l1:=sm n hn;have l2:(aR d).length≤4:=bD (by omega) (by omega);have Z :(cC n).length≤18:=by omega
 have X :(aR d).length≤18:=by omega
 have V:(cC n).length≤1000000000:=by omega
 have S:(aR d).length≤1000000000:=by omega
 have B:mJ (d:Int)=1:=by unfold mJ;rw[if_neg (by omega),if_neg (by omega)]
 rw[xK n (by omega)];obtain⟨g,O⟩:=xE (n.natAbs.gcd d);rw[←O] at h ⊢;by_cases W:g=1
 ·subst W
  have Y:aR 1=[49]:=rfl;have R:n / ((1:Nat):Int)=n:=by simp
  rw[R,Nat.div_one];simp[aa,C,f118,af,z6,aX,dx,cU,cv,cY,gg,iM,B,Z,X,V,S,←O,Y]
 ·obtain⟨z,I⟩:So n g∧So d g:=by
   rcases h with h | h
   ·exact absurd h W
   ·exact h
  have j:(aR g==[49])=false:=by rw[rq];simpa using W
  have Z8 :¬aR g=[49]:=by simpa using j
  obtain⟨q,hq⟩:=xE (n / (g:Int));obtain⟨e,he⟩:=xE (d / g);have K :(d:Int) / (g:Int)=(e:Int):=by rw[he];exact(Int.natCast_ediv d g).symm
  have J:q.natAbs≤1000:=by rw[hq];rcases z with⟨rfl,k⟩ | ⟨rfl,k⟩ | ⟨rfl,k⟩ | ⟨rfl,k⟩<;>simp only[Int.cast_ofNat_Int]<;>omega
  have H:e≤1000:=by rw[he];exact Nat.le_trans (Nat.div_le_self _ _) hd2
  have l3:=sm q J;have l4:(aR e).length≤4:=bD (by omega) (by omega);have F:(cC q).length≤1000000000:=by omega
  have D:(aR e).length≤1000000000:=by omega
  have G:cC (e:Int)=aR e:=rfl;rw[←hq,←he];simp[aa,C,f118,af,z6,aX,dx,cU,cv,cY,gg,iM,B,Z,X,←O,j,z,I,←hq,K,G,F,D]
theorem Ia:
  kO prog 56 [.int .i64 n,.int .i64 d] M (.tuple [.str (ak (mkRat n d)),.int .i64 0]) M:=by
 have V:mJ (d:Int)=1:=by unfold mJ;rw[if_neg (by omega),if_neg (by omega)]
 have S:cC (d:Int)=aR d:=rfl;have O:kO prog 97 [.str (cC n),.str (aR d)] M (.tuple [.str (ak (mkRat n d)),.int .i64 0]) M:=by
  have Z:aK prog 97=some f97:=by kernel_rfl
  have X:HS prog (aeT.or (af (bY [(118,[.str (cC n),.str (aR d)],.str (ak (mkRat n d)))])) (af aX)):=HS.or (du fun e he M=>by simp only[lM] at he;rw[he];exact H5 n d hd hn hd2 h M) mB
  have h:aa (aN prog) (fun _=>[]) (aK prog) (aeT.or (af (bY [(118,[.str (cC n),.str (aR d)],.str (ak (mkRat n d)))])) (af aX)) 1 97 [.str (cC n),.str (aR d)] M=some ⟨.tuple [.str (ak (mkRat n d)),.int .i64 0],none,[]⟩:=by simp[aa,Z,f97,aeT.or,af,bY,aX,dx,cU,cv,iM,V]
  have:=(ah ae (ar _) X (au _) h).1;simpa [aeQ.mem] using this
 have Z:aK prog 56=some f56:=by kernel_rfl
 have f1:dU n=true:=by unfold dU;simp;omega
 have f2:dU (d:Int)=true:=by unfold dU;simp;omega
 have X:HS prog (aeT.or (bT 97 [.str (cC n),.str (aR d)] (.tuple [.str (ak (mkRat n d)),.int .i64 0]) (fun N=>N=M)) (af aX)):=HS.or (cf fun N W =>by subst W;exact O) mB;refine cd X ?_;simp[aa,Z,f56,aeT.or,af,bT,aX,dx,cU,f1,f2,S]
end
end Go.Proofs
