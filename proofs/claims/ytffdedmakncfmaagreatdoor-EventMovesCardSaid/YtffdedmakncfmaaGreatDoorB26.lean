/- See B54. -/
import Derived.Test.YtffdedmakncfmaaGreatDoorB24
import Derived.Test.YtffdedmakncfmaaGreatDoorB25
set_option linter.all false
set_option maxRecDepth 100000
set_option maxHeartbeats 40000000
namespace Go.Proofs
open Go.Eng
open Tryz
theorem PU(q:Rat)(y:(aB q).length≤1000000000)(mem:Mem):kO prog 116 [.str (aB q)] mem (.str (aB (-q))) mem:=by
 have X:aT prog 116=some f116:=by kernel_rfl
 refine ao (ax _) ?_ mem;by_cases Z:q=0
 ·subst Z
  simp[aa,X,f116,aV]
 ·have O:¬q.num=0:=fun e=>Z (mu.1 e)
  by_cases S:q.num<0
  ·have e:=iz S
   have V:(45::aB (-q)==[48])=false:=by rw[←e,aV];simpa using Z
   rw[e];have h3:(1:Int)≤((aB (-q)).length:Int)+1:=by omega
   simp[aa,X,f116,V,h3]
  ·have e:=mz (q:=q) (by omega)
   obtain⟨c,r,U,R⟩:=kc (q:=q) (by omega);have V:(c::r==[48])=false:=by rw[←U,aV];simpa using Z
   have Q:=eG R;rw[e,U];rw[U] at y;simp only[List.length_cons] at y;have h3:1+(r.length+1)≤9223372036854775807:=by omega
   simp[aa,X,f116,V,Q,h3,eR]
noncomputable def eg(f:FuncId)(args:List AV):Option AV:=
 match f,args with
 |27,[.int .i64 n,.int .i64 d]=>if 0<d∧n.natAbs<10 ^ 8∧d.toNat<10 ^ 8 then some (.str (aB (mkRat n d.toNat))) else none
 |68,[.str s,.str t]=>match ef s,ef t with
  |some a,some b=>if (aB a).length≤9∧(aB b).length≤9 then some (.str (aB (a+b))) else none
  |_,_=>none
 |36,[.str s,.str t]=>match ef s,ef t with
  |some a,some b=>if (aB a).length≤9∧(aB b).length≤9 then some (.str (aB (a*b))) else none
  |_,_=>none
 |116,[.str s]=>match ef s with
  |some a=>if (aB a).length≤9 then some (.str (aB (-a))) else none
  |none=>none
 |_,_=>none
theorem gw:qS prog (af eg):=bH fun f U v h mem=>by
 unfold eg at h;split at h
 ·rename_i n d
  split at h
  ·rename_i Z
   cases h;have:=A4 n d.toNat (by omega) Z.2.1 Z.2.2 mem;rw[Int.toNat_of_nonneg (by omega)] at this;exact this
  ·cases h
 ·split at h
  ·rename_i m n X V
   split at h
   next Z=>cases h;rw[aC X,aC V];exact PR m n Z.1 Z.2 mem
   ·cases h
  ·cases h
 ·split at h
  ·rename_i m n X V
   split at h
   next Z=>cases h;rw[aC X,aC V];exact PT m n Z.1 Z.2 mem
   ·cases h
  ·cases h
 ·split at h
  ·rename_i m X
   split at h
   next Z=>cases h;rw[aC X];exact PU m (by omega) mem
   ·cases h
  ·cases h
 ·cases h
theorem PV(a b:Rat)(y:(aB a).length≤9)(H:(aB b).length≤9)(I:(aB (-b)).length≤9)(mem:Mem):
  kO prog 81 [.str (aB a),.str (aB b)] mem (.str (aB (a-b))) mem:=by
 have Z:aT prog 81=some f81:=by kernel_rfl
 refine ao gw ?_ mem;have e:a+ -b=a-b:=(Rat.sub_eq_add_neg a b).symm;simp[aa,Z,f81,af,eg,az,y,H,I,e]
def zS(n:Int):List UInt8:=aB (n:Rat)
variable{n:Int}
theorem tF(h:n.natAbs<10 ^ 4):(aB (n:Rat)).length≤9:=by
 have e:aB (n:Rat)=bB n:=by unfold aB;simp
 rw[e];have Z:=cQ n;have X:(ai n.natAbs).length≤4:=aG (by omega) h;omega
noncomputable def BA(f:FuncId)(args:List AV):Option AV:=
 match f,args with
 |81,[.str s,.str t]=>match ef s,ef t with
  |some a,some b=>if (aB a).length≤9∧(aB b).length≤9∧(aB (-b)).length≤9 then some (.str (aB (a-b))) else none
  |_,_=>none
 |f,args=>eg f args
theorem Nu:qS prog (af BA):=bH fun f X v h mem=>by
 unfold BA at h;split at h
 ·split at h
  ·rename_i m n V U
   split at h
   next Z=>cases h;rw[aC V,aC U];exact PV m n Z.1 Z.2.1 Z.2.2 mem
   ·cases h
  ·cases h
 ·have:=gw.fn _ _ mem ⟨v,none,[]⟩ (by unfold af;simp only;rw[h])
  simpa [y9.mem] using this
theorem Ls{a b:Int}(y:a.natAbs≤30)(H:b.natAbs≤30):(a*b).natAbs≤900:=by rw[Int.natAbs_mul];exact Nat.mul_le_mul y H
abbrev Z3:=Int×Int×Int
def zA(v:Z3):AV:=.agg [.str (zS v.1),.str (zS v.2.1),.str (zS v.2.2)]
def Pk(n:Nat)(v:Z3):Prop:=v.1.natAbs≤n∧v.2.1.natAbs≤n∧v.2.2.natAbs≤n
instance (n:Nat) (v:Z3):Decidable (Pk n v):=inferInstanceAs (Decidable (v.1.natAbs≤n∧v.2.1.natAbs≤n∧v.2.2.natAbs≤n))
theorem ji(h0: -1000000≤n)(h1:n≤1000000):IntKind.i64.wrap n=n:=by rw[ae]
def rn(a b:Z3):Z3:=(a.2.1*b.2.2-a.2.2*b.2.1,a.2.2*b.1-a.1*b.2.2,a.1*b.2.1-a.2.1*b.1)
def VD(v:Z3):Bool:=decide (v.1=0)&&decide (v.2.1=0)&&decide (v.2.2=0)
theorem nr{q:Rat}(h:q.den=1):q=(q.num:Rat):=Rat.ext rfl h
end Go.Proofs
namespace Go.Eng
structure Hts where
 v:List Int
 half:Bool
def i8C(l:List Int):List AV:=l.map fun n=>.int .i8 n
def Hts.cells(h:Hts):List AV:=i8C h.v++[.bool h.half]
structure Hts.Ok (h:Hts):Prop where
 len:h.v.length=6
 ok:∀n∈h.v,AD n
structure ae4 where
 kind:Nat
 base:Hts
 s0:Hts
 s1:Hts
 N:List Int
 T:List Int
def ae4.cells(x:ae4):List AV:=.int .u8 x.kind::(x.base.cells++(x.s0.cells++(x.s1.cells++(i8C x.N++i8C x.T))))
structure ae4.Ok (x:ae4):Prop where
 kind:x.kind<256
 base:x.base.Ok
 s0:x.s0.Ok
 s1:x.s1.Ok
 nl:x.N.length=8
 nk:∀n∈x.N,AD n
 tl:x.T.length=4
 tk:∀n∈x.T,AD n
theorem gP(l:List Int):(i8C l).length=l.length:=by simp[i8C]
theorem np:∀l:List Int,AV.ae8 (i8C l)=true
 | []=>rfl
 |n::l=>by have:=np l;simp only[i8C] at this;simp[i8C,AV.ae8,AV.closed,this]
variable{k:Nat}
section
variable{l:List Int}
theorem VL(h:k<l.length):(i8C l)[k]? =some (.int .i8 (l.getD k 0)):=by simp[i8C,List.getD_eq_getElem?_getD,List.getElem?_eq_getElem h]
theorem sF(h:k<l.length):l.getD k 0∈l:=by rw[List.getD_eq_getElem?_getD,List.getElem?_eq_getElem h];exact List.getElem_mem _
end
def gZ(n:Int):Int:=n.tmod 10
def ps9(n:Int):Int:=1+(n.tmod 9+9).tmod 9
def ct3(n:Int):Int:=1+(n.tmod 3+3).tmod 3
theorem dq(n:Int):(gZ n).natAbs≤9:=by have:=Am n 10 (by decide);unfold gZ;simp only[Int.cast_ofNat_Int] at this;omega
theorem nM(n:Int):1≤ps9 n∧ps9 n≤9:=by have h:=Am n 9 (by decide);have Z:=Am (n.tmod 9+9) 9 (by decide);have h3:=Int.tmod_nonneg 9 (a:=n.tmod 9+9) (by simp only[Int.cast_ofNat_Int] at h;omega);unfold ps9;simp only[Int.cast_ofNat_Int] at h Z;omega
theorem OH(n:Int):1≤ct3 n∧ct3 n≤3:=by have h:=Am n 3 (by decide);have Z:=Am (n.tmod 3+3) 3 (by decide);have h3:=Int.tmod_nonneg 3 (a:=n.tmod 3+3) (by simp only[Int.cast_ofNat_Int] at h;omega);unfold ct3;simp only[Int.cast_ofNat_Int] at h Z;omega
def ae4.n(x:ae4)(i:Nat):Int:=x.N.getD i 0
def ae4.t(x:ae4)(i:Nat):Int:=x.T.getD i 0
def Hts.z(h:Hts)(k:Nat):Int:=(if h.half then 1 else 2)*(h.v.getD (k%6) 0).tmod 20
def Hts.l(h:Hts)(n:Nat):List Int:=(List.range n).map h.z
theorem Hts.afB(h:Hts)(n:Nat):(h.l n).length=n:=by simp[Hts.l]
theorem Hts.ahm(h:Hts)(n:Nat):h.l (n+1)=h.l n++[h.z n]:=by simp[Hts.l,List.range_succ]
theorem Hts.aha(h:Hts)(k:Nat):(h.z k).natAbs≤38:=by have:=Am (h.v.getD (k%6) 0) 20 (by decide);unfold Hts.z;simp only[Int.cast_ofNat_Int] at this;split<;>omega
def upL(h:Hts)(L:List Int)(n:Nat):List Int:=(List.range n).map fun k=>L.getD k 0+(h.z k).natAbs
theorem iJ(h:Hts)(L:List Int)(n:Nat):(upL h L n).length=n:=by simp[upL]
theorem Pg(h:Hts)(L:List Int)(n:Nat):upL h L (n+1)=upL h L n++[L.getD n 0+(h.z n).natAbs]:=by simp[upL,List.range_succ]
def ae4.at(x:ae4):Nat→Int
 |0=>gZ (x.n 6)
 |i+1=>x.at i+ps9 (x.n ((i+3)%8))
def ae4.val(x:ae4)(i:Nat):Int:=gZ (x.n ((i+7)%8))
def ae4.ahH(x:ae4)(i:Nat):Rat×Rat:=((x.at i:Int),hQ (x.val i))
def ae4.afu(x:ae4)(c:Nat):List (Rat×Rat):=(List.range c).map x.ahH
theorem ae4.afG(x:ae4)(c:Nat):(x.afu c).length=c:=by simp[ae4.afu]
theorem ae4.ahn(x:ae4):∀i,(x.at i).natAbs≤9+9*i
 |0=>dq _
 |i+1=>by
  have Z:=x.ahn i;have X:=nM (x.n ((i+3)%8));show(x.at i+ps9 (x.n ((i+3)%8))).natAbs≤_
  omega
theorem ae4.ahF(x:ae4)(i:Nat):x.at i<x.at (i+1):=by
 have Z:=nM (x.n ((i+3)%8));show x.at i<x.at i+ps9 (x.n ((i+3)%8))
 omega
variable{vs:List AV}
theorem cp(h:AV.ae8 vs=true)(n:Nat):AV.afm n vs=[]:=AV.afx (Nat.zero_le n) (aX h)
theorem dc(h:AV.ae8 vs=true)(f:Nat→Bool):AV.afa f vs=true:=AV.afs (k:=0) (fun b Z=>absurd Z (Nat.not_lt_zero b)) (aX h)
theorem xQ{a b:List AV}(y:AV.ae8 a=true)(H:AV.ae8 b=true):AV.ae8 (a++b)=true:=by
 induction a with
 |nil=>exact H
 |cons x a ih=>
  simp only[AV.ae8,Bool.and_eq_true,List.cons_append] at y ⊢;exact⟨y.1,ih y.2⟩
theorem Hts.closed(h:Hts):AV.ae8 h.cells=true:=xQ (np _) rfl
theorem ae4.closed(x:ae4):AV.ae8 x.cells=true:=by
 show AV.ae8 ([.int .u8 x.kind]++(x.base.cells++(x.s0.cells++(x.s1.cells++(i8C x.N++i8C x.T)))))=true
 exact xQ rfl (xQ x.base.closed (xQ x.s0.closed (xQ x.s1.closed (xQ (np _) (np _)))))
variable{h:Hts}
theorem Hts.afc(y:h.Ok):h.cells.length=7:=by unfold Hts.cells;rw[List.length_append,gP,y.len];rfl
section
variable {x:ae4}(hx:x.Ok)
include hx
theorem ae4.afc:x.cells.length=34:=by unfold ae4.cells;simp only[List.length_cons,List.length_append,Hts.afc hx.base,Hts.afc hx.s0,Hts.afc hx.s1,gP,hx.nl,hx.tl]
theorem ae4.afU:x.cells[0]? =some (.int .u8 x.kind):=by rfl
theorem ae4.aff(hk:k<8):x.cells[22+k]? =some (.int .i8 (x.n k)):=by
 show(AV.int .u8 x.kind::(x.base.cells++(x.s0.cells++(x.s1.cells++(i8C x.N++i8C x.T)))))[22+k]? =_
 have e:22+k=(21+k)+1:=by omega
 have X:=Hts.afc hx.base;have V:=Hts.afc hx.s0;have U:=Hts.afc hx.s1;have S:=gP x.N;have R:=hx.nl;rw[e,List.getElem?_cons_succ,List.getElem?_append_right (by omega),List.getElem?_append_right (by omega),List.getElem?_append_right (by omega),List.getElem?_append_left (by omega)];have Z:21+k-x.base.cells.length-x.s0.cells.length-x.s1.cells.length=k:=by omega
 rw[Z];exact VL (by omega)
theorem ae4.agn:x.cells.drop 1=x.base.cells++(x.s0.cells++(x.s1.cells++(i8C x.N++i8C x.T))):=rfl
theorem ae4.afZ:(x.cells.drop 1).take 7=x.base.cells:=by rw[ae4.agn hx,List.take_left' (Hts.afc hx.base)]
theorem ae4.agO:(x.cells.drop 8).take 7=x.s0.cells:=by
 have e:x.cells.drop 8=(x.cells.drop 1).drop 7:=by rw[List.drop_drop]
 rw[e,ae4.agn hx,List.drop_left' (Hts.afc hx.base),List.take_left' (Hts.afc hx.s0)]
theorem ae4.agP:(x.cells.drop 15).take 7=x.s1.cells:=by
 have e:x.cells.drop 15=((x.cells.drop 1).drop 7).drop 7:=by rw[List.drop_drop,List.drop_drop]
 rw[e,ae4.agn hx,List.drop_left' (Hts.afc hx.base),List.drop_left' (Hts.afc hx.s0),List.take_left' (Hts.afc hx.s1)]
theorem ae4.ag1:(x.cells.drop 30).take 4=i8C x.T:=by
 have e:x.cells.drop 30=((((x.cells.drop 1).drop 7).drop 7).drop 7).drop 8:=by rw[List.drop_drop,List.drop_drop,List.drop_drop,List.drop_drop]
 have Z:(i8C x.N).length=8:=by rw[gP,hx.nl]
 have X:(i8C x.T).length=4:=by rw[gP,hx.tl]
 rw[e,ae4.agn hx,List.drop_left' (Hts.afc hx.base),List.drop_left' (Hts.afc hx.s0),List.drop_left' (Hts.afc hx.s1),List.drop_left' Z,List.take_of_length_le (by omega)]
theorem ae4.afK(hk:k<8):AD (x.n k):=hx.nk _ (sF (by rw[hx.nl];exact hk))
end
theorem Hts.ag2(y:h.Ok)(hk:k<6):h.cells[k]? =some (.int .i8 (h.v.getD k 0)):=by unfold Hts.cells;rw[List.getElem?_append_left (by rw[gP,y.len];exact hk)];exact VL (by rw[y.len];exact hk)
theorem Hts.agq(y:h.Ok):h.cells[6]? =some (.bool h.half):=by unfold Hts.cells;rw[List.getElem?_append_right (by rw[gP,y.len];omega),gP,y.len];rfl
theorem Hts.ahN(y:h.Ok)(hk:k<6):AD (h.v.getD k 0):=y.ok _ (sF (by rw[y.len];exact hk))
theorem cE{C:List AV}{i:Nat}{v:AV}(h:C[i]? =some v):∀h,C[i]'h=v:=fun Z=>Option.some.inj ((List.getElem?_eq_getElem Z).symm.trans h)
theorem gD(n:Int):mkRat n 1=(n:Rat):=Rat.mkRat_self (n:Rat)
def Hts.d(h:Hts):Nat:=if h.half then 2 else 1
theorem WY(n:Int):hQ (2*n)=(n:Rat):=by
 rw[mq,Rat.intCast_mul];have:((2:Int):Rat)=2:=rfl;rw[this]
 grind
theorem Hts.ahO(h:Hts)(k:Nat):mkRat ((h.v.getD (k%6) 0).tmod 20) h.d=hQ (h.z k):=by
 unfold Hts.d Hts.z;cases h.half
 ·simp only[Bool.false_eq_true,if_false]
  rw[gD,WY]
 ·simp only[if_true,Int.one_mul]
  rfl
end Go.Eng
namespace Go.Proofs
open Go.Eng
open Tryz
theorem HZ(n:Int)(h:AD n)(M:Mem):kO prog 28 [.int .i8 n] M (.int .i64 (gZ n)) M:=by
 have Z:aT prog 28=some f28:=by kernel_rfl
 refine ao (ax _) ?_ M;unfold AD at h;have w:IntKind.i64.wrap n=n:=ji (by omega) (by omega);simp[aa,Z,f28,w,gZ]
theorem P6(n:Int)(h:AD n)(M:Mem):kO prog 31 [.int .i8 n] M (.int .i64 (ps9 n)) M:=by
 have U:aT prog 31=some f31:=by kernel_rfl
 refine ao (ax _) ?_ M;unfold AD at h;have w:IntKind.i64.wrap n=n:=ji (by omega) (by omega);have q:=Am n 9 (by decide);simp only[Int.cast_ofNat_Int] at q;unfold ps9;obtain⟨a,Z⟩:=xE (n.tmod 9);rw[←Z] at q ⊢;have w1:IntKind.i64.wrap (a+9)=a+9:=ji (by omega) (by omega);have X:=Am (a+9) 9 (by decide);simp only[Int.cast_ofNat_Int] at X;obtain⟨b,V⟩:=xE ((a+9).tmod 9);rw[←V] at X ⊢;have w2:IntKind.i64.wrap (1+b)=1+b:=ji (by omega) (by omega);simp[aa,U,f31,w,←Z,w1,←V,w2]
theorem RD(v:Z3)(y:Pk 10000 v)(M:Mem):kO prog 19 [.int .i64 v.1,.int .i64 v.2.1,.int .i64 v.2.2] M (zA v) M:=by
 have Z:aT prog 19=some f19:=by kernel_rfl
 refine ao gw ?_ M;obtain⟨a,b,c⟩:=v;obtain⟨X,V,h3⟩:=y;simp only at X V h3;have U:a.natAbs<100000000:=by omega
 have S:b.natAbs<100000000:=by omega
 have g3:c.natAbs<100000000:=by omega
 simp[aa,Z,f19,af,eg,zA,zS,gD,U,S,g3,bW,aH]
theorem HY(a b c d:Int)(H:a.natAbs≤30)(I:b.natAbs≤30)(hc:c.natAbs≤30)(hd:d.natAbs≤30)(M:Mem):
  kO prog 123 [.str (zS a),.str (zS b),.str (zS c),.str (zS d)] M (.str (zS (a*b-c*d))) M:=by
 have U:aT prog 123=some f123:=by kernel_rfl
 have S:=Ls H I;have R:=Ls hc hd;have Z:(a:Rat)*(b:Rat)=((a*b:Int):Rat):=(Rat.intCast_mul a b).symm;have X:(c:Rat)*(d:Rat)=((c*d:Int):Rat):=(Rat.intCast_mul c d).symm;obtain⟨x,Q⟩:=xE (a*b);obtain⟨y,O⟩:=xE (c*d);rw[←Q] at S Z ⊢;rw[←O] at R X ⊢;have V:(x:Rat)-(y:Rat)=((x-y:Int):Rat):=(Rat.intCast_sub x y).symm;obtain⟨z,N⟩:=xE (x-y);rw[←N] at V ⊢;have L:=tF (n:=a) (by omega);have K:=tF (n:=b) (by omega);have G:=tF (n:=c) (by omega);have F:=tF (n:=d) (by omega);have D:=tF (n:=x) (by omega);have C:=tF (n:=y) (by omega);have B:(aB (-(y:Rat))).length≤9:=by rw[←Rat.intCast_neg];exact tF (n:= -y) (by omega)
 refine ao Nu ?_ M;simp[aa,U,f123,af,BA,eg,zS,az,L,K,G,F,D,C,B,Z,X,V]
noncomputable def BF(f:FuncId)(args:List AV):Option AV:=
 match f,args with
 |123,[.str s,.str t,.str u,.str v]=>match ef s,ef t,ef u,ef v with
  |some a,some b,some c,some d=>if (a.den=1∧b.den=1∧c.den=1∧d.den=1)∧a.num.natAbs≤30∧b.num.natAbs≤30∧c.num.natAbs≤30∧d.num.natAbs≤30 then some (.str (zS (a.num*b.num-c.num*d.num))) else none
  |_,_,_,_=>none
 |_,_=>none
theorem NB:qS prog (af BF):=bH fun f Z v h mem=>by
 unfold BF at h;split at h
 ·split at h
  ·rename_i a b c d X V U S
   split at h
   ·rename_i R
    obtain⟨⟨d1,d2,d3,d4⟩,Q,O,N,M⟩:=R;cases h;rw[aC X,aC V,aC U,aC S];have:=HY a.num b.num c.num d.num Q O N M mem;unfold zS at this ⊢;rw[←nr d1,←nr d2,←nr d3,←nr d4] at this;exact this
   ·cases h
  ·cases h
 ·cases h
theorem HR(a b:Z3)(y:Pk 30 a)(H:Pk 30 b)(M:Mem):kO prog 72 [zA a,zA b] M (zA (rn a b)) M:=by
 have W:aT prog 72=some f72:=by kernel_rfl
 obtain⟨V,U,S⟩:=a;obtain⟨R,Q,O⟩:=b;obtain⟨L,K,h3⟩:=y;obtain⟨G,F,D⟩:=H;simp only at L K h3 G F D;refine ao NB ?_ M;obtain⟨X,N⟩:∃X,aJ f72=[X]:=⟨_,rfl⟩
 obtain⟨J,I⟩:=cD N (l:=[0,1,0,4,0,16,0,64,255,0,512,0,2048,0,8192,0,32768,131071,0,262144,0,1048576,0,4194304,0,16777216,67108863,134217727,268435455]) (j:=28) (by kernel_rfl) (by decide);simp[aJ,bU,f72] at N;subst N;have Z:∀n:Int,ef (zS n)=some (n:Rat):=fun n=>az _
 unfold zA rn;simp only;obtain⟨A1,C⟩:=xE (zS V);obtain⟨A2,B⟩:=xE (zS U);obtain⟨A3,u⟩:=xE (zS S);obtain⟨B1,o⟩:=xE (zS R);obtain⟨B2,m⟩:=xE (zS Q);obtain⟨B3,Y⟩:=xE (zS O);have p1:ef A1=some (V:Rat):=by rw[C];exact Z _
 have p2:ef A2=some (U:Rat):=by rw[B];exact Z _
 have p3:ef A3=some (S:Rat):=by rw[u];exact Z _
 have p4:ef B1=some (R:Rat):=by rw[o];exact Z _
 have p5:ef B2=some (Q:Rat):=by rw[m];exact Z _
 have p6:ef B3=some (O:Rat):=by rw[Y];exact Z _
 rw[←C,←B,←u,←o,←m,←Y];obtain⟨C1,f1⟩:=xE (zS (U*O-S*Q));obtain⟨C2,f2⟩:=xE (zS (S*R-V*O));obtain⟨C3,f3⟩:=xE (zS (V*Q-U*R));rw[←f1,←f2,←f3];simp[aa,W,f72,-aK,aq J,bm,aZ,bl,I,af,BF,p1,p2,p3,p4,p5,p6,L,K,h3,G,F,D,←f1,←f2,←f3,bW,aH,Nat.testBit]
def zQ(v:Z3):V3:=((v.1:Rat),(v.2.1:Rat),(v.2.2:Rat))
def hV(v:Z3):V3:=(hQ v.1,hQ v.2.1,hQ v.2.2)
def fz(x:ae4):Z3:=if gZ (x.n 0)=0∧gZ (x.n 1)=0∧gZ (x.n 2)=0 then (0,0,1) else (gZ (x.n 0),gZ (x.n 1),gZ (x.n 2))
def Ae(x:ae4):Z3:=rn (fz x) (gZ (x.n 3),gZ (x.n 4),gZ (x.n 5))
theorem sM(x:ae4):Pk 9 (fz x):=by
 unfold fz;split
 ·exact⟨by decide,by decide,by decide⟩
 ·exact⟨dq _,dq _,dq _⟩
theorem Vi(x:ae4):VD (fz x)=false:=by
 unfold fz;split
 ·rfl
 ·rename_i h
  simp only[VD,Bool.and_eq_false_imp,Bool.and_eq_true,decide_eq_true_eq,decide_eq_false_iff_not];exact fun Z X=>h ⟨Z.1,Z.2,X⟩
theorem WM{a b:Int}(y:a.natAbs≤9)(H:b.natAbs≤9):(a*b).natAbs≤81:=by rw[Int.natAbs_mul];exact Nat.mul_le_mul y H
theorem BQ(x:ae4):Pk 162 (Ae x):=by obtain⟨Z,X,h3⟩:=sM x;have V:=dq (x.n 3);have U:=dq (x.n 4);have S:=dq (x.n 5);have R:=WM X S;have Q:=WM h3 U;have O:=WM h3 V;have N:=WM Z S;have M:=WM Z U;have L:=WM X V;unfold Ae rn Pk;simp only;omega
open Classical in
noncomputable def dV(f:FuncId)(args:List AV):Option AV:=
 match f,args with
 |28,[.int .i8 n]=>if -128≤n∧n≤127 then some (.int .i64 (gZ n)) else none
 |31,[.int .i8 n]=>if -128≤n∧n≤127 then some (.int .i64 (ps9 n)) else none
 |19,[.int .i64 a,.int .i64 b,.int .i64 c]=>if a.natAbs≤10000∧b.natAbs≤10000∧c.natAbs≤10000 then some (zA (a,b,c)) else none
 |72,[.agg [.str s,.str t,.str u],.agg [.str s',.str t',.str u']]=>match ef s,ef t,ef u,ef s',ef t',ef u' with
  |some a,some b,some c,some d,some e,some f=>if (a.den=1∧b.den=1∧c.den=1∧d.den=1∧e.den=1∧f.den=1)∧Pk 30 (a.num,b.num,c.num)∧Pk 30 (d.num,e.num,f.num) then some (zA (rn (a.num,b.num,c.num) (d.num,e.num,f.num))) else none
  |_,_,_,_,_,_=>none
 |27,[.int .i64 n,.int .i64 d]=>if 0<d∧n.natAbs<10 ^ 8∧d.toNat<10 ^ 8 then some (.str (aB (mkRat n d.toNat))) else none
 |_,_=>none
theorem ux:qS prog (af dV):=bH fun f X v h mem=>by
 unfold dV at h;split at h
 ·split at h
  next Z=>cases h;exact HZ _ Z mem
  ·cases h
 ·split at h
  next Z=>cases h;exact P6 _ Z mem
  ·cases h
 ·split at h
  next Z=>cases h;exact RD (_,_,_) Z mem
  ·cases h
 ·split at h
  ·rename_i a b c d e f V U Z S R Q
   split at h
   ·rename_i O
    obtain⟨⟨d1,d2,d3,d4,d5,d6⟩,N,M⟩:=O;cases h;rw[aC V,aC U,aC Z,aC S,aC R,aC Q];have:=HR (a.num,b.num,c.num) (d.num,e.num,f.num) N M mem;unfold zA at this;simp only at this;have k:∀q:Rat,q.den=1→zS q.num=aB q:=fun q L=>by unfold zS;rw[←nr L]
    rw[k a d1,k b d2,k c d3,k d d4,k e d5,k f d6] at this;exact this
   ·cases h
  ·cases h
 ·split at h
  ·rename_i Z
   cases h;have:=A4 _ _ (by omega) Z.2.1 Z.2.2 mem;rw[Int.toNat_of_nonneg (by omega)] at this;exact this
  ·cases h
 ·cases h
theorem FD(x:ae4)(y:x.Ok)(M:Mem):kO prog 26 [.agg x.cells] M (zA (fz x)) M:=by
 have Y:aT prog 26=some f26:=by kernel_rfl
 refine cH ux (lv:=fun _=>[]) (K:=1) (by simp[AV.ae8,AV.closed,x.closed]) rfl ?_ M;obtain⟨S,A'⟩:∃S,aJ f26=[S]:=⟨_,rfl⟩
 obtain⟨W,J⟩:=cD A' (l:=[0,1,3,7,0,16,48,127,0,256,768,2047,4095,8191,16383]) (j:=14) (by kernel_rfl) (by decide);simp[aJ,bU,f26] at A';subst A';have R:=ae4.afc y;have r0:=cp x.closed;have o0:=dc x.closed;have I:=ae4.aff y (k:=0) (by decide);have H:=ae4.aff y (k:=1) (by decide);have i2:=ae4.aff y (k:=2) (by decide);simp only[Nat.reduceAdd] at I H i2;have Z:=cE I;have X:=cE H;have V:=cE i2;obtain⟨Q,O⟩:=ae4.afK y (k:=0) (by decide);obtain⟨N,L⟩:=ae4.afK y (k:=1) (by decide);obtain⟨G,F⟩:=ae4.afK y (k:=2) (by decide);have s0:=dq (x.n 0);have s1:=dq (x.n 1);have s2:=dq (x.n 2);unfold fz;obtain⟨C,hC⟩:=xE x.cells;rw[←hC] at R r0 o0 I H i2 Z X V ⊢;obtain⟨p,hp⟩:=xE (x.n 0);obtain⟨q,hq⟩:=xE (x.n 1);obtain⟨r,hr⟩:=xE (x.n 2);rw[←hp] at I Z Q O s0 ⊢;rw[←hq] at H X N L s1 ⊢;rw[←hr] at i2 V G F s2 ⊢;obtain⟨v,D⟩:=xE (gZ q);obtain⟨w,B⟩:=xE (gZ r);obtain⟨u,o⟩:=xE (gZ p);rw[←o] at s0 ⊢;rw[←D] at s1 ⊢;rw[←B] at s2 ⊢;have g0:u.natAbs≤10000:=by omega
 have g1:v.natAbs≤10000:=by omega
 have g2:w.natAbs≤10000:=by omega
 have tk:C.take 34=C:=List.take_of_length_le (by omega);clear hC hp hq hr;by_cases U:u=0
 ·by_cases m:v=0
  ·by_cases k2:w=0
   ·rw[if_pos ⟨U,m,k2⟩]
    subst U m k2;simp[aa,Y,f26,-aK,aq W,bm,aZ,bl,J,af,dV,R,Z,X,V,Q,O,N,L,G,F,←o,←D,←B,Nat.testBit,zA]
   ·rw[if_neg fun h=>k2 h.2.2]
    subst U m;simp[aa,Y,f26,-aK,aq W,bm,aZ,bl,J,af,dV,R,Z,X,V,Q,O,N,L,G,F,←o,←D,←B,Nat.testBit,zA,k2,g2]
  ·rw[if_neg fun h=>m h.2.1]
   subst U;simp[aa,Y,f26,-aK,aq W,bm,aZ,bl,J,af,dV,R,Z,X,V,Q,O,N,L,G,F,←o,←D,←B,Nat.testBit,zA,m,g1,g2]
 ·rw[if_neg fun h=>U h.1]
  simp[aa,Y,f26,-aK,aq W,bm,aZ,bl,J,af,dV,R,Z,X,V,Q,O,N,L,G,F,←o,←D,←B,Nat.testBit,zA,U,g0,g1,g2]
open Classical in
noncomputable def ic(x:ae4)(f:FuncId)(args:List AV):Option AV:=
 match f,args with
 |26,[.agg cs]=>if cs=x.cells then some (zA (fz x)) else none
 |f,args=>dV f args
theorem BE{x:ae4}(y:x.Ok):qS prog (af (ic x)):=bH fun f Z v h mem=>by
 unfold ic at h;split at h
 ·split at h
  next X=>cases h;rw[X];exact FD x y mem
  ·cases h
 ·have:=ux.fn _ _ mem ⟨v,none,[]⟩ (by unfold af;simp only;rw[h])
  simpa [y9.mem] using this
theorem VP(n:Int):ef (zS n)=some (n:Rat):=az _
theorem Fy(x:ae4)(y:x.Ok)(M:Mem):kO prog 30 [.agg x.cells] M (zA (Ae x)) M:=by
 have hG:aT prog 30=some f30:=by kernel_rfl
 refine cH (BE y) (lv:=fun _=>[]) (K:=1) (by simp[AV.ae8,AV.closed,x.closed]) rfl ?_ M;obtain⟨X,Q⟩:∃X,aJ f30=[X]:=⟨_,rfl⟩
 obtain⟨IR,YF⟩:=cD Q (l:=[0,1,0,4,12,31,0,64,192,511,0,1024,3072,8191,16383,32767,65535]) (j:=16) (by kernel_rfl) (by decide);simp[aJ,bU,f30] at Q;subst Q;have o:=ae4.afc y;have r0:=cp x.closed;have m:=dc x.closed;have V:=ae4.aff y (k:=3) (by decide);have U:=ae4.aff y (k:=4) (by decide);have S:=ae4.aff y (k:=5) (by decide);simp only[Nat.reduceAdd] at V U S;have O:=cE V;have N:=cE U;have L:=cE S;obtain⟨Y,W⟩:=ae4.afK y (k:=3) (by decide);obtain⟨J,I⟩:=ae4.afK y (k:=4) (by decide);obtain⟨H,c2⟩:=ae4.afK y (k:=5) (by decide);have s0:=dq (x.n 3);have s1:=dq (x.n 4);have s2:=dq (x.n 5);have R:=sM x;have Z:Ae x=rn (fz x) (gZ (x.n 3),gZ (x.n 4),gZ (x.n 5)):=rfl;obtain⟨C,hC⟩:=xE x.cells;have G :x.cells=C:=hC.symm;rw[←hC] at o r0 m V U S O N L ⊢;obtain⟨p,hp⟩:=xE (x.n 3);obtain⟨q,hq⟩:=xE (x.n 4);obtain⟨r,hr⟩:=xE (x.n 5);rw[←hp] at V O Y W s0 Z;rw[←hq] at U N J I s1 Z;rw[←hr] at S L H c2 s2 Z;obtain⟨v,hv⟩:=xE (gZ q);obtain⟨w,hw⟩:=xE (gZ r);obtain⟨u,hu⟩:=xE (gZ p);rw[←hu] at s0 Z;rw[←hv] at s1 Z;rw[←hw] at s2 Z;have g0:u.natAbs≤10000:=by omega
 have g1:v.natAbs≤10000:=by omega
 have g2:w.natAbs≤10000:=by omega
 have z2:Pk 30 (u,v,w):=⟨by show u.natAbs≤30;omega,by show v.natAbs≤30;omega,by show w.natAbs≤30;omega⟩;have tk:C.take 34=C:=List.take_of_length_le (by omega);obtain⟨⟨F,D,B⟩,hn⟩:∃n,n=fz x:=⟨_,rfl⟩
 rw[←hn] at R Z;have z1:Pk 30 (F,D,B):=⟨by have:=R.1;show F.natAbs≤30;simp only at this;omega,by have:=R.2.1;show D.natAbs≤30;simp only at this;omega,by have:=R.2.2;show B.natAbs≤30;simp only at this;omega⟩;rw[Z];clear Z;obtain⟨⟨cx,cy,cz⟩,hc⟩:∃n,n=rn (F,D,B) (u,v,w):=⟨_,rfl⟩
 rw[←hc];simp[aa,hG,f30,-aK,aq IR,bm,aZ,bl,YF,af,ic,dV,G,o,m,O,N,L,tk,Y,W,J,I,H,c2,←hn,←hu,←hv,←hw,Nat.testBit,zA,g0,g1,g2,VP,z1,z2,←hc]
theorem WU(n:Int):(n:Rat)*hQ 1=hQ n:=by
 rw[mq,mq];have:((1:Int):Rat)=1:=rfl;rw[this]
 grind
theorem Tw:ef [49,47,50]=some (hQ 1):=az (hQ 1)
theorem MM(v:Z3)(y:Pk 162 v)(M:Mem):kO prog 29 [zA v,.str [49,47,50]] M (vA (hV v)) M:=by
 have V:aT prog 29=some f29:=by kernel_rfl
 refine ao gw ?_ M;obtain⟨Z,X⟩:∃Z,aJ f29=[Z]:=⟨_,rfl⟩
 obtain⟨U,S⟩:=cD X (l:=[0,1,0,7,0,16,0,127,0,256,0,2047,4095,8191]) (j:=13) (by kernel_rfl) (by decide);simp[aJ,bU,f29] at X;subst X;obtain⟨a,b,c⟩:=v;obtain⟨R,Q,h3⟩:=y;simp only at R Q h3;have O:=tF (n:=a) (by omega);have N:=tF (n:=b) (by omega);have L:=tF (n:=c) (by omega);have K:(aB (hQ 1)).length≤9:=Ca (by decide);simp[aa,V,f29,-aK,aq U,bm,aZ,bl,S,af,eg,zA,vA,hV,VP,Tw,O,N,L,K,WU,bW,aH,Nat.testBit]
end Go.Proofs
