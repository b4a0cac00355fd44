/- See Q54. -/
import Derived.Test.YtgafjliihahjgaaGreatDoorQ43
import Derived.Test.YtgafjliihahjgaaGreatDoorQ29
set_option linter.all false
namespace Go.Proofs
open Go.Eng
theorem N8:(List.range 8).all (fun k=>aK ((k:Int)+(-35)) 4)=true:=by kernel_rfl
theorem N9:(List.range 8).all (fun k=>aK ((k:Int)+(-27)) 4)=true:=by kernel_rfl
theorem Oa:(List.range 8).all (fun k=>aK ((k:Int)+(-19)) 4)=true:=by kernel_rfl
theorem Ob:(List.range 8).all (fun k=>aK ((k:Int)+(-11)) 4)=true:=by kernel_rfl
theorem Oc:(List.range 4).all (fun k=>aK ((k:Int)+(-3)) 4)=true:=by kernel_rfl
theorem Qp{m:Int}(h0: -35≤m) (h1:m≤0):aK m 4=true:=by
 by_cases c0:m< -27
 ·exact bk N8 (by omega) (by omega)
 by_cases c1:m< -19
 ·exact bk N9 (by omega) (by omega)
 by_cases c2:m< -11
 ·exact bk Oa (by omega) (by omega)
 by_cases c3:m< -3
 ·exact bk Ob (by omega) (by omega)
 exact bk Oc (by omega) (by omega)
theorem Od:(List.range 8).all (fun k=>aK ((k:Int)+1) 4)=true:=by kernel_rfl
theorem Oe:(List.range 8).all (fun k=>aK ((k:Int)+9) 4)=true:=by kernel_rfl
theorem Of:(List.range 8).all (fun k=>aK ((k:Int)+17) 4)=true:=by kernel_rfl
theorem Og:(List.range 8).all (fun k=>aK ((k:Int)+25) 4)=true:=by kernel_rfl
theorem Oh:(List.range 3).all (fun k=>aK ((k:Int)+33) 4)=true:=by kernel_rfl
theorem Qq{m:Int}(h0:1≤m) (h1:m≤35):aK m 4=true:=by
 by_cases c0:m<9
 ·exact bk Od (by omega) (by omega)
 by_cases c1:m<17
 ·exact bk Oe (by omega) (by omega)
 by_cases c2:m<25
 ·exact bk Of (by omega) (by omega)
 by_cases c3:m<33
 ·exact bk Og (by omega) (by omega)
 exact bk Oh (by omega) (by omega)
def Nx(n:Int) (g:Nat):Prop:=(g=2∧n%2=0∧ -142≤n∧n≤142)∨(g=4∧n%4=0∧ -142≤n∧n≤142)∨(g=5∧(n=0∨n=5))∨(g=10∧(n=0∨n=10))
theorem B9{m:Int}{g:Nat}(h:aK m g=true) (M:Mem):ACallsTo Tryz.prog 171 [.str (bT (m*g)),.str (aJ g)] M (.tuple [.str (bT m),.str [48],.int .i64 0]) M:=by
 unfold aK at h;split at h
 ·rename_i r hr
  obtain⟨e1,e2⟩:=PA h;have:=(fI ae (aw _) (az _) yn 30).fn _ _ _ _ hr;rw[e1,e2] at this;exact ACallsTo.lift rfl rfl this M
 ·cases h
theorem LQ{m:Int}{g:Nat}(h:(g=2∧ -71≤m∧m≤71)∨(g=4∧ -35≤m∧m≤35)∨(g=5∧0≤m∧m≤1)∨(g=10∧0≤m∧m≤1)):aK m g=true:=by
 rcases h with⟨rfl,h0,h1⟩ | ⟨rfl,h0,h1⟩ | ⟨rfl,h0,h1⟩ | ⟨rfl,h0,h1⟩
 ·by_cases c1:m≤ -24
  ·exact Qk h0 c1
  ·by_cases c2:m≤24
   ·exact Ql (by omega) c2
   ·exact Qm (by omega) h1
 ·by_cases c1:m≤0
  ·exact Qp h0 c1
  ·exact Qq (by omega) h1
 ·exact Qn h0 h1
 ·exact Qo h0 h1
theorem Qj{n:Int}{g:Nat}(h:Nx n g) (M:Mem):ACallsTo Tryz.prog 171 [.str (bT n),.str (aJ g)] M (.tuple [.str (bT (n / (g:Int))),.str [48],.int .i64 0]) M:=by
 have e:n=n / (g:Int)*g:=by rcases h with⟨rfl,h⟩ | ⟨rfl,h⟩ | ⟨rfl,h⟩ | ⟨rfl,h⟩<;>simp only[Int.cast_ofNat_Int]<;>omega
 have:=B9 (LQ (m:=n / (g:Int)) (g:=g) (by
  rcases h with⟨rfl,h⟩ | ⟨rfl,h⟩ | ⟨rfl,h⟩ | ⟨rfl,h⟩
  ·exact .inl ⟨rfl,by simp only[Int.cast_ofNat_Int];omega,by simp only[Int.cast_ofNat_Int];omega⟩
  ·exact .inr (.inl ⟨rfl,by simp only[Int.cast_ofNat_Int];omega,by simp only[Int.cast_ofNat_Int];omega⟩)
  ·exact .inr (.inr (.inl ⟨rfl,by simp only[Int.cast_ofNat_Int];omega,by simp only[Int.cast_ofNat_Int];omega⟩))
  ·exact .inr (.inr (.inr ⟨rfl,by simp only[Int.cast_ofNat_Int];omega,by simp only[Int.cast_ofNat_Int];omega⟩)))) M
 rwa [←e] at this
open Classical in
noncomputable def w6(f:FuncId) (args:List AV):Option AV:=
 match f,args with
 |171,[.str s,.str t]=>match nn s,xk t with
  |some n,some g=>if Nx n g then some (.tuple [.str (bT (n / (g:Int))),.str [48],.int .i64 0]) else none
  |_,_=>none
 |f,args=>be f args
theorem I6:OracleOk Tryz.prog (af w6):=bq fun f args v h mem=>by
 unfold w6 at h;split at h
 ·split at h
  ·rename_i n g hn hg
   split at h
   ·rename_i hc
    cases h;rw[dI hn,iH hg];exact Qj hc mem
   ·cases h
  ·cases h
 ·have:=kA.fn _ _ mem ⟨v,none,[]⟩ (by unfold af;simp only;rw[h])
  simpa [CallRes.mem] using this
theorem Ec(n:Int) (d:Nat) (hd:0<d) (hn:n.natAbs≤1000) (hd2:d≤1000) (h:n.natAbs.gcd d=1∨(Nx n (n.natAbs.gcd d)∧Nx d (n.natAbs.gcd d))) (M:Mem):
  ACallsTo Tryz.prog 118 [.str (bT n),.str (aJ d)] M (.str (ah (mkRat n d))) M:=by
 have hG:aL Tryz.prog 118=some Tryz.f118:=by kernel_rfl
 refine aq I6 (lv:=fun _=>[]) (K:=1) rfl rfl ?_ M;have sm:∀n:Int,n.natAbs≤1000→(bT n).length≤5:=fun n hn=>by have h1:=bf (k:=4) (u:=n.natAbs) (by omega) (by omega);have h2:=ef n;omega
 have l1:=sm n hn;have l2:(aJ d).length≤4:=bf (by omega) (by omega);have l1' :(bT n).length≤18:=by omega
 have l2' :(aJ d).length≤18:=by omega
 have l1x:(bT n).length≤1000000000:=by omega
 have l2x:(aJ d).length≤1000000000:=by omega
 have sg:kW (d:Int)=1:=by unfold kW;rw[if_neg (by omega),if_neg (by omega)]
 rw[uF n (by omega)];obtain⟨g,hg⟩:∃g,g=n.natAbs.gcd d:=⟨_,rfl⟩
 rw[←hg] at h ⊢;by_cases h1:g=1
 ·subst h1
  have e1:aJ 1=[49]:=rfl;have e2:n / ((1:Nat):Int)=n:=by simp
  rw[e2,Nat.div_one];simp[aa,hG,Tryz.f118,af,w6,be,cI,cq,bP,cz,fe,gE,sg,l1',l2',l1x,l2x,←hg,e1]
 ·obtain⟨k1,k2⟩:Nx n g∧Nx d g:=by
   rcases h with h | h
   ·exact absurd h h1
   ·exact h
  have hb:(aJ g==[49])=false:=by rw[oD];simpa using h1
  have hb' :¬aJ g=[49]:=by simpa using hb
  obtain⟨q,hq⟩:∃q,q=n / (g:Int):=⟨_,rfl⟩
  obtain⟨e,he⟩:∃e,e=d / g:=⟨_,rfl⟩
  have he' :(d:Int) / (g:Int)=(e:Int):=by rw[he];exact(Int.natCast_ediv d g).symm
  have hqn:q.natAbs≤1000:=by rw[hq];rcases k1 with⟨rfl,k⟩ | ⟨rfl,k⟩ | ⟨rfl,k⟩ | ⟨rfl,k⟩<;>simp only[Int.cast_ofNat_Int]<;>omega
  have hen:e≤1000:=by rw[he];exact Nat.le_trans (Nat.div_le_self _ _) hd2
  have l3:=sm q hqn;have l4:(aJ e).length≤4:=bf (by omega) (by omega);have l3x:(bT q).length≤1000000000:=by omega
  have l4x:(aJ e).length≤1000000000:=by omega
  have ie:bT (e:Int)=aJ e:=rfl;rw[←hq,←he];simp[aa,hG,Tryz.f118,af,w6,be,cI,cq,bP,cz,fe,gE,sg,l1',l2',←hg,hb,k1,k2,←hq,he',ie,l3x,l4x]
theorem Ef(n:Int) (d:Nat) (hd:0<d) (hn:n.natAbs≤1000) (hd2:d≤1000) (h:n.natAbs.gcd d=1∨(Nx n (n.natAbs.gcd d)∧Nx d (n.natAbs.gcd d))) (M:Mem):
  ACallsTo Tryz.prog 56 [.int .i64 n,.int .i64 d] M (.tuple [.str (ah (mkRat n d)),.int .i64 0]) M:=by
 have sg:kW (d:Int)=1:=by unfold kW;rw[if_neg (by omega),if_neg (by omega)]
 have ie:bT (d:Int)=aJ d:=rfl;have hN:ACallsTo Tryz.prog 97 [.str (bT n),.str (aJ d)] M (.tuple [.str (ah (mkRat n d)),.int .i64 0]) M:=by
  have hG:aL Tryz.prog 97=some Tryz.f97:=by kernel_rfl
  have hO:OracleOk Tryz.prog (Oracle.or (af (bG [(118,[.str (bT n),.str (aJ d)],.str (ah (mkRat n d)))])) (af be)):=OracleOk.or (cF fun e he M=>by simp only[List.mem_cons,List.not_mem_nil,or_false] at he;rw[he];exact Ec n d hd hn hd2 h M) kA
  have h:aa (aM Tryz.prog) (fun _=>[]) (aL Tryz.prog) (Oracle.or (af (bG [(118,[.str (bT n),.str (aJ d)],.str (ah (mkRat n d)))])) (af be)) 1 97 [.str (bT n),.str (aJ d)] M=some ⟨.tuple [.str (ah (mkRat n d)),.int .i64 0],none,[]⟩:=by simp[aa,hG,Tryz.f97,Oracle.or,af,bG,be,cI,cq,bP,gE,sg]
  have:=(al ae (aw _) hO (az _) h).1;simpa [CallRes.mem] using this
 have hG:aL Tryz.prog 56=some Tryz.f56:=by kernel_rfl
 have f1:de n=true:=by unfold de;simp;omega
 have f2:de (d:Int)=true:=by unfold de;simp;omega
 have hO:OracleOk Tryz.prog (Oracle.or (cw 97 [.str (bT n),.str (aJ d)] (.tuple [.str (ah (mkRat n d)),.int .i64 0]) (fun N=>N=M)) (af be)):=OracleOk.or (cS fun N hN' =>by subst hN';exact hN) kA;refine aZ (K:=1) (lv:=fun _=>[]) hO ?_;simp[aa,hG,Tryz.f56,Oracle.or,af,cw,be,cI,cq,f1,f2,ie]
end Go.Proofs
