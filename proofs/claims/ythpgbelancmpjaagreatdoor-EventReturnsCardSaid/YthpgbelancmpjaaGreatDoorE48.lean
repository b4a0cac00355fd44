/- See E54. -/
import Derived.Test.YthpgbelancmpjaaGreatDoorE45
set_option linter.all false
namespace Go.Proofs
open Go.Eng
end Go.Proofs
namespace Go.Proofs
open Go.Eng
open Tryz
abbrev Pl:=(Int×Nat)×(Int×Nat)×(Int×Nat)
def smC(x:Int×Nat):List AV:=[.int .i16 x.1,.int .u8 (x.2:Int)]
def plC(p:Pl):List AV:=smC p.1++(smC p.2.1++smC p.2.2)
def Wo(x:Int×Nat):Prop:= -32768≤x.1∧x.1≤32767∧x.2<256
def Xa(p:Pl):Prop:=Wo p.1∧Wo p.2.1∧Wo p.2.2
def smQ(x:Int×Nat):Rat:=mkRat x.1 (1+x.2)
def plQ(p:Pl):V3:=(smQ p.1,smQ p.2.1,smQ p.2.2)
theorem SV{x:Int×Nat}(h:Wo x):dg 5 5 (smQ x):=lN (by omega) (by have:=h.1;have:=h.2.1;omega) (by have:=h.2.2;omega)
theorem WT{p:Pl}(h:Xa p):vDg 5 (plQ p):=⟨SV h.1,SV h.2.1,SV h.2.2⟩
theorem GX(x:Int×Nat)(h:Wo x)(M:Mem):kO prog 43 [.agg (smC x)] M (.str (aj (smQ x))) M:=by
 have V:aT prog 43=some f43:=by kernel_rfl
 obtain⟨n,d⟩:=x;obtain⟨U,S,h3⟩:=h;simp only at U S h3;have Z:qS prog (ag (dx [(37,[.int .i64 n,.int .i64 (1+(d:Int))],.str (aj (mkRat n (1+d))))])):=eG fun e X M=>by
  rw[List.mem_singleton] at X;have:=Au n (1+d) (by omega) (by omega) (by omega) M;rw[X];have R:((1+d:Nat):Int)=1+(d:Int):=by omega
  rw[R] at this;exact this
 refine ak Z ?_ M;clear Z;have w1:IntKind.i64.wrap n=n:=af;have w2:IntKind.i64.wrap (d:Int)=(d:Int):=af;have w3:IntKind.i64.wrap (1+(d:Int))=1+(d:Int):=af;simp[aa,V,f43,ag,dx,smC,smQ,w1,w2,w3]
noncomputable def Fp(f:FuncId)(args:List AV):Option AV:=
 match f,args with
 |43,[.agg [.int .i16 n,.int .u8 d]]=>if (-32768≤n∧n≤32767)∧0≤d∧d<256 then some (.str (aj (smQ (n,d.toNat)))) else none
 |_,_=>none
theorem MD:qS prog (ag Fp):=bM fun f Z v h mem=>by
 unfold Fp at h;split at h
 ·rename_i n d
  split at h
  ·rename_i X
   cases h;have:=GX (n,d.toNat) ⟨X.1.1,X.1.2,by show d.toNat<256;omega⟩ mem;unfold smC at this;simp only at this;rw[Int.toNat_of_nonneg (by omega)] at this;exact this
  ·cases h
 ·cases h
theorem GV(p:Pl)(h:Xa p)(M:Mem):kO prog 10 [.agg (plC p)] M (vA (plQ p)) M:=by
 have D:aT prog 10=some f10:=by kernel_rfl
 obtain⟨⟨a,b⟩,⟨c,d⟩,e,f⟩:=p;obtain⟨⟨V,U,h3⟩,⟨S,R,C⟩,O,N,B⟩:=h;simp only at V U h3 S R C O N B;have A:(b:Int)<256:=by omega
 have u:(d:Int)<256:=by omega
 have g3:(f:Int)<256:=by omega
 have o:(0:Int)≤(b:Int):=by omega
 have m:(0:Int)≤(d:Int):=by omega
 have Y:(0:Int)≤(f:Int):=by omega
 unfold plQ;simp only;obtain⟨x,L⟩:=xE (smQ (a,b));obtain⟨y,K⟩:=xE (smQ (c,d));obtain⟨z,G⟩:=xE (smQ (e,f));rw[←L,←K,←G];refine ak MD ?_ M;obtain⟨F,Z⟩:∃F,aJ f10=[F]:=⟨_,rfl⟩
 obtain⟨X,W⟩:=de Z (l:=[0,1,3,0,8,31,0,64,255,511,1023]) (j:=10) (by kernel_rfl) (by decide);simp[aJ,bR,f10] at Z;subst Z;simp[aa,D,f10,-aK,ao X,br,bk,bl,W,vA,plC,smC,bJ,aD,ag,Fp,V,U,S,R,O,N,A,u,g3,o,m,Y,←L,←K,←G,Nat.testBit]
theorem VY{a b:Rat}:0≤ky (a-b)↔b≤a:=by
 have h:=Oj (a-b);rw[Sl] at h;constructor
 ·intro Z
  exact Rat.not_lt.1 fun X=>by
   have:a-b<0:=by grind
   have:=h.2 this;omega
 ·intro Z
  have:¬ky (a-b)<0:=fun X=>by
   have:=h.1 X;have h3:a<b:=by grind
   exact absurd Z (Rat.not_le.2 h3)
  omega
section
variable {x y:AV}{M:Mem}
end
end Go.Proofs
namespace Go.Proofs
open Go.Eng
section
variable {O:y9}{m0:Nat}{ops:Array Oper}{env:Env}{mem:Mem}{d:Bool}{w x y z A B C D E F G H I J K1 K2 K3 K4 K5 K6 K7 K8 K9 S1 S4 S5 S6 S7 S8 S9 S10 S11 S12 S13:Int}{r1 r2 r3:V3}
end
end Go.Proofs
