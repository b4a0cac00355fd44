/- See E54. -/
import Derived.Test.YthpgbelancmpjaaGreatDoorE20
set_option linter.all false
set_option maxRecDepth 100000
set_option maxHeartbeats 40000000
namespace Go.Proofs
open Go.Eng
open Tryz
theorem OS(n:Int)(d:Nat)(hd:d≠0)(I:(au n.natAbs).length≤10000)(H:(au d).length≤10000)(mem:Mem):
  kO prog 142 [.str (bL n),.str (au d)] mem (.tuple [.str (aj (mkRat n d)),.int .i64 0]) mem:=by
 have Z:aT prog 142=some f142:=by kernel_rfl
 refine ak jB ?_ mem;have X:k9 (d:Int)=1:=Oi hd;have V:(au n.natAbs).length≤100000:=by omega
 have h3:(au d).length≤100000:=by omega
 simp[aa,Z,f142,ag,bj,be,bW,aN,aP,dX,dH,aU,X,hd,V,h3]
noncomputable def AT(f:FuncId)(args:List AV):Option AV:=
 match f,args with
 |142,[.str s,.str t]=>match lh s,yL t with
  |some n,some d=>if d≠0∧(au n.natAbs).length≤10000∧(au d).length≤10000 then some (.tuple [.str (aj (mkRat n d)),.int .i64 0]) else none
  |_,_=>none
 |f,args=>aE f args
theorem Mu:qS prog (ag AT):=bM fun f X v h mem=>by
 unfold AT at h;split at h
 ·split at h
  ·rename_i m n V U
   split at h
   next Z=>cases h;rw[cL V,ib U];exact OS m n Z.1 Z.2.1 Z.2.2 mem
   ·cases h
  ·cases h
 ·have:=bK.fn _ _ mem ⟨v,none,[]⟩ (by unfold ag;simp only;rw[h])
  simpa [aee.mem] using this
theorem fX{n:Nat}(h:n<10 ^ 19):(au n).length≤20:=by exact aI (by omega) (by omega)
theorem GR(n:Int)(d:Nat)(hd:d≠0)(H:dG n=true)(I:dG (d:Int)=true)(mem:Mem):
  kO prog 88 [.int .i64 n,.int .i64 d] mem (.tuple [.str (aj (mkRat n d)),.int .i64 0]) mem:=by
 have Z:aT prog 88=some f88:=by kernel_rfl
 refine ak Mu ?_ mem;have X:n.natAbs<10 ^ 19:=by unfold dG at H;simp at H;omega
 have V:d<10 ^ 19:=by unfold dG at I;simp at I;omega
 have U:(au n.natAbs).length≤10000:=by have:=fX X;omega
 have h3:(au d).length≤10000:=by have:=fX V;omega
 have S:bL (d:Int)=au d:=rfl;simp[aa,Z,f88,ag,AT,aE,aH,bj,be,bW,aN,dH,aU,H,I,S,hd,U,h3]
end Go.Proofs
namespace Go.Eng
theorem sJ{a:Int}{b:Nat}(H:0<b)(h:0≤a∨a.natAbs%b=0):a.tdiv b=a / b∧a.tmod b=((a.natAbs%b:Nat):Int):=by
 by_cases S:0≤a
 ·obtain⟨n,rfl⟩:∃n:Nat,a=n:=⟨a.toNat,by omega⟩
  rw[pe,pf,Int.natAbs_natCast,Int.natCast_ediv];exact⟨rfl,rfl⟩
 ·have Z:a.natAbs%b=0:=by rcases h with h | h<;>omega
  have X:a= -((a.natAbs / b*b:Nat):Int):=by have:=Nat.div_add_mod a.natAbs b;rw[Z,Nat.add_zero,Nat.mul_comm] at this;omega
  obtain⟨q,U⟩:=xE (a.natAbs / b);rw[←U] at X;rw[Z,X,Int.natCast_mul,←Int.neg_mul];have V :(b:Int)≠0:=by omega
  exact⟨by rw[Int.mul_tdiv_cancel _ V,Int.mul_ediv_cancel _ V],by rw[Int.mul_tmod_left];rfl⟩
def Sm(D V:Nat)(q:Rat):Prop:=0<D∧(∃n:Int,q*(D:Rat)=(n:Rat))∧ -(V:Rat)≤q∧q≤(V:Rat)
end Go.Eng
namespace Go.Proofs
open Go.Eng
variable{a:Rat}
theorem Gk:0≤ky a↔0≤a:=by
 have h:0≤ky a↔0≤a.num:=by
  unfold ky k9;split
  ·omega
  ·split<;>omega
 rw[h,Rat.num_nonneg]
theorem UX(h:0<ky a):0<a:=by
 have Z:=Gk.1 (show 0≤ky a by omega);have X:a≠0:=by rintro rfl;exact absurd h (by decide)
 grind
def Cp(A B C q:P2):Rat×Rat×Rat:=(cN B C q,cN C A q,cN A B q)
def inQ(w:Rat×Rat×Rat):Prop:=0≤ky w.1∧0≤ky w.2.1∧0≤ky w.2.2
instance (w:Rat×Rat×Rat):Decidable (inQ w):=inferInstanceAs (Decidable (0≤ky w.1∧0≤ky w.2.1∧0≤ky w.2.2))
def Qv(P:List P2)(q:P2)(t:Tr):Rat×Rat×Rat:=Cp (P.getD t.1 (0,0)) (P.getD t.2.1 (0,0)) (P.getD t.2.2 (0,0)) q
def Tj(P:List P2)(q:P2):List Tr→Nat→Option (Nat×(Rat×Rat×Rat))
 | [],_=>none
 |t::l,i=>if inQ (Qv P q t) then some (i,Qv P q t) else Tj P q l (i+1)
theorem BC{P:List P2}{q:P2}:∀{T:List Tr} {k j:Nat} {w:Rat×Rat×Rat},Tj P q T k=some (j,w)→∃i t,j=k+i∧T[i]? =some t∧inQ (Qv P q t)∧w=Qv P q t∧∀(l:Nat) s,l<i→T[l]? =some s→¬inQ (Qv P q s)
 | [],k,j,w,h=>by simp[Tj] at h
 |t::l,k,j,w,h=>by
  rw[Tj] at h;split at h
  ·rename_i Z
   simp only[Option.some.injEq,Prod.mk.injEq] at h;exact⟨0,t,by omega,rfl,Z,h.2.symm,fun l s R=>by omega⟩
  ·rename_i Z
   obtain⟨i,s,O,V,h3,U,S⟩:=BC h;refine⟨i+1,s,by omega,by simpa using V,h3,U,fun m x N X=>?_⟩;cases m with
   |zero=>simp at X;subst X;exact Z
   |succ m=>exact S m x (by omega) (by simpa using X)
def RL(w:Rat×Rat×Rat)(a b c:Rat):Rat:=(w.1*a+w.2.1*b+w.2.2*c) / (w.1+w.2.1+w.2.2)
theorem NH(A B C q:P2):cN B C q+cN C A q+cN A B q=cN A B C:=by
 unfold cN
 grind
def VI(z:Rat):List Rat→Nat
 | []=>0
 |h::l=>(if h≤z then 1 else 0)+VI z l
theorem J0{z h:Rat}(hz:z<h):∀{l:List Rat},(∀x∈l,h≤x)→VI z l=0
 | [],_=>rfl
 |x::l,H=>by rw[VI,if_neg (by have:=H x (by simp);grind),J0 hz fun y Z=>H y (by simp[Z])]
end Go.Proofs
namespace Go.Proofs
open Go.Eng
end Go.Proofs
