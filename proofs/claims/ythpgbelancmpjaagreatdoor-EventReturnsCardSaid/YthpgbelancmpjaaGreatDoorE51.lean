/- See E54. -/
import Derived.Test.YthpgbelancmpjaaGreatDoorE50
set_option linter.all false
namespace Go.Proofs
open Go.Eng
theorem SO:∀k<8,∀p∈dI k,0≤p.1∧p.1≤6∧0≤p.2∧p.2≤6:=by decide
theorem ij(s:aeo){a:P2}(h:a∈s.P):pDg 5 a:=by
 unfold aeo.P at h;rw[List.mem_map] at h;obtain⟨q,Z,rfl⟩:=h;obtain⟨X,V,U,S⟩:=SO _ (Nat.mod_lt _ (by decide)) q Z;have R:=Qu s.sx;have O:=Qu s.sy;have N:((if s.half then 2 else 1)*1:Nat)=1∨((if s.half then 2 else 1)*1:Nat)=2:=by cases s.half<;>simp
 unfold aeo.pt;exact⟨lN (by omega) (by omega) (by omega),lN (by omega) (by omega) (by omega)⟩
theorem Xk{Z:List Int}(h:∀z∈Z,z.natAbs<1000):∀q∈qH Z,dg 4 4 q:=fun q X=>by unfold qH at X;obtain⟨z,V,rfl⟩:=List.mem_map.1 X;exact De (by have:=h z V;omega) (by omega)
section
variable {x:aed}{s:aeo}{M:Mem}{p t:Nat}{o o' :Bool}{ev:List AV}{v:V3}
end
section
variable {x:aed}{s:aeo}{M:Mem}{p t:Nat}{o o' :Bool}{ev:List AV}{v:V3}
theorem UQ(Z:List Int):(qH Z).length=Z.length:=by simp[qH]
noncomputable def XD(s:aeo)(x:aed)(v:V3):Int:=Wh s.P s.T (qH (x.base.l s.P.length)) ((iX x s.P.length (ctN x)).map qH) v
end
end Go.Proofs
namespace Go.Eng
theorem kO.pad{P:Program}{f:FuncId}{args:List AV}{m H:Mem}{v:AV}(h:kO P f args m v H)(k:Nat):kO P f args m v (H++List.replicate k .qK):=by
 refine⟨h.1,fun base μ w Vs hG hH hV=>(h.2 base μ w Vs hG hH hV).mono ?_⟩;rintro e w' ⟨V,v',m',μ',rfl,q1,q2,q3,rfl,rfl⟩;have X:m'.length≤(m' ++List.replicate k aek.qK).length:=by rw[List.length_append];omega
 have U:∀(b:Nat) s,(m' ++List.replicate k aek.qK)[b]? =some s→m'[b]? =some s∨s=.qK:=fun b s Z=>by
  by_cases S:b<m'.length
  ·rw[List.getElem?_append_left S] at Z;exact .inl Z
  ·rw[List.getElem?_append_right (by omega)] at Z
   exact .inr (List.eq_of_mem_replicate (List.mem_of_getElem? Z))
 have R:∀{b:Nat},dQ (m' ++List.replicate k aek.qK) b→dQ m' b:=fun {b} ⟨s,S,h2⟩=>by
  rcases U b s S with h | rfl
  ·exact⟨s,h,h2⟩
  ·cases h2
 refine⟨V,v',_,μ',rfl,q1.mono X (fun _ _=>rfl),⟨q2.aep,fun b s Z=>?_,fun b O N Z L M K=>?_⟩,⟨Nat.le_trans q3.len X,q3.agree,q3.os,q3.tape,q3.output,q3.size,q3.frame,fun b Z=>q3.owner b (R Z),q3.drawn⟩,rfl,rfl⟩
 ·rcases U b s Z with h | rfl
  ·exact(q2.slot b s h).mono X (fun _ _=>rfl) (fun _=>rfl)
  ·trivial
 ·rcases U O N L with h | rfl
  ·exact q2.sep b O N (R Z) h M K
  ·exact absurd rfl M
end Go.Eng
namespace Go.Proofs
open Go.Eng
def lwM(s:aeo)(C:List AV)(H d1 I d2 J d3:Int):Mem:=[.cells true 0 [.int .u8 s.kind,.int .i8 s.sx,.int .i8 s.sy,.bool s.half],.cells true 0 C,.cells true 0 [.int .i16 H,.int .u8 d1,.int .i16 I,.int .u8 d2,.int .i16 J,.int .u8 d3],.cells true 2 (pC s.P),.cells true 3 (tC s.T),.cells true 0 [.slice 3 0 s.P.length none,.slice 4 0 s.T.length none]]
def Wy(X:Nat→aek):Prop:=∀i,jW (X i)=true∧∀k,(X i).aef (fun b=>decide (b<11+k))=true
def vH(X:Nat→aek):Mem:=[X 0,X 1,X 2,X 3,X 4]
theorem VT{x:aed}{n:Nat}:∃X k,Wy X∧Qb 6 x n++List.replicate k .qK=vH X:=by
 have h3:=jH x;have Z:jW aek.qK=true∧∀k:Nat,aek.aef (fun b=>decide (b<11+k)) .qK=true:=⟨rfl,fun _=>rfl⟩
 have row:∀{es:Nat}{C:List AV},AV.aej C=true→jW (.cells true es C)=true∧∀k:Nat,aek.aef (fun b=>decide (b<11+k)) (.cells true es C)=true:=fun h=>⟨rfl,fun k=>gn h _⟩
 have S:∀L:List Int,AV.aej (qC (qH L))=true:=fun L=>by rw[Vk];exact dM _
 have R:∀{b n:Nat},b<11→∀k:Nat,AV.aef (fun b=>decide (b<11+k)) (.slice b 0 n none)=true:=fun h k=>by simp only[AV.aef,decide_eq_true_eq];omega
 have V:∀a b c d e:aek,(jW a=true∧∀k:Nat,a.aef (fun b=>decide (b<11+k))=true)→(jW b=true∧∀k:Nat,b.aef (fun b=>decide (b<11+k))=true)→(jW c=true∧∀k:Nat,c.aef (fun b=>decide (b<11+k))=true)→(jW d=true∧∀k:Nat,d.aef (fun b=>decide (b<11+k))=true)→(jW e=true∧∀k:Nat,e.aef (fun b=>decide (b<11+k))=true)→
   ∃X,Wy X∧[a,b,c,d,e]=vH X:=fun a b c d e N M K G F=>⟨fun i=>[a,b,c,d].getD i e,fun i=>by
  match i with
  |0=>exact N
  |1=>exact M
  |2=>exact K
  |3=>exact G
  |i+4=>exact F,rfl⟩
 have U:∀{O:Mem}(k:Nat) {a b c d e:aek},O++List.replicate k .qK=[a,b,c,d,e]→(∃X,Wy X∧[a,b,c,d,e]=vH X)→∃X k,Wy X∧O++List.replicate k .qK=vH X:=fun k _ _ _ _ _ e ⟨X,h1,h2⟩=>⟨X,k,h1,e.trans h2⟩
 unfold Qb;rcases iL x.kind with h | h | h | h | h
 ·simp only[h,if_true]
  rcases h3 with h3 | h3 | h3
  ·rw[h3]
   exact U 3 rfl (V _ _ _ _ _ (row (S _)) (row (dM _)) Z Z Z)
  ·rw[h3]
   exact U 1 rfl (V _ _ _ _ _ (row (S _)) (row (dM _)) ⟨rfl,fun k=>by simp only[aek.aef,AV.ael,R (b:=9) (by omega) k,Bool.and_true]⟩ (row (S _)) Z)
  ·rw[h3]
   exact U 0 rfl (V _ _ _ _ _ (row (S _)) (row (dM _)) ⟨rfl,fun k=>by simp only[aek.aef,AV.ael,R (b:=9) (by omega) k,R (b:=10) (by omega) k,Bool.and_true]⟩ (row (S _)) (row (S _)))
 ·simp only[h,Nat.one_ne_zero,if_false,show¬(1:Nat)=2 by decide]
  exact U 5 rfl (V _ _ _ _ _ Z Z Z Z Z)
 ·simp only[h,show¬(2:Nat)=0 by decide,if_false,if_true]
  exact U 4 rfl (V _ _ _ _ _ (row (jJ _)) Z Z Z Z)
 ·simp only[h,show¬(3:Nat)=0 by decide,if_false,show¬(3:Nat)=2 by decide]
  exact U 5 rfl (V _ _ _ _ _ Z Z Z Z Z)
 ·simp only[h,show¬(4:Nat)=0 by decide,if_false,show¬(4:Nat)=2 by decide]
  exact U 5 rfl (V _ _ _ _ _ Z Z Z Z Z)
end Go.Proofs
