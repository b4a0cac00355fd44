/- See C54. -/
import Derived.Test.YtffdedmakncfmaaGreatDoorC24
import Derived.Test.YtffdedmakncfmaaGreatDoorC25
set_option linter.all false
set_option maxRecDepth 100000
set_option maxHeartbeats 40000000
namespace Go.Proofs
open Go.Eng
open Tryz
theorem Rj(q:Rat)(y:(ax q).length≤1000000000)(mem:Mem):kO prog 116 [.str (ax q)] mem (.str (ax (-q))) mem:=by
 have X:aS prog 116=some f116:=by kernel_rfl
 refine ao (aw _) ?_ mem;by_cases Z:q=0
 ·subst Z
  simp[aa,X,f116,aY]
 ·have O:¬q.num=0:=fun e=>Z (ni.1 e)
  by_cases S:q.num<0
  ·have e:=jd S
   have V:(45::ax (-q)==[48])=false:=by rw[←e,aY];simpa using Z
   rw[e];have h3:(1:Int)≤((ax (-q)).length:Int)+1:=by omega
   simp[aa,X,f116,V,h3]
  ·have e:=nq (q:=q) (by omega)
   obtain⟨c,r,U,R⟩:=kP (q:=q) (by omega);have V:(c::r==[48])=false:=by rw[←U,aY];simpa using Z
   have Q:=eP R;rw[e,U];rw[U] at y;simp only[List.length_cons] at y;have h3:1+(r.length+1)≤9223372036854775807:=by omega
   simp[aa,X,f116,V,Q,h3,fm]
noncomputable def ek(f:FuncId)(args:List AV):Option AV:=
 match f,args with
 |27,[.int .i64 n,.int .i64 d]=>if 0<d∧n.natAbs<10 ^ 8∧d.toNat<10 ^ 8 then some (.str (ax (mkRat n d.toNat))) else none
 |68,[.str s,.str t]=>match dY s,dY t with
  |some a,some b=>if (ax a).length≤9∧(ax b).length≤9 then some (.str (ax (a+b))) else none
  |_,_=>none
 |36,[.str s,.str t]=>match dY s,dY t with
  |some a,some b=>if (ax a).length≤9∧(ax b).length≤9 then some (.str (ax (a*b))) else none
  |_,_=>none
 |116,[.str s]=>match dY s with
  |some a=>if (ax a).length≤9 then some (.str (ax (-a))) else none
  |none=>none
 |_,_=>none
theorem gR:qS prog (ag ek):=bF fun f U v h mem=>by
 unfold ek at h;split at h
 ·rename_i n d
  split at h
  ·rename_i Z
   cases h;have:=BM n d.toNat (by omega) Z.2.1 Z.2.2 mem;rw[Int.toNat_of_nonneg (by omega)] at this;exact this
  ·cases h
 ·split at h
  ·rename_i m n X V
   split at h
   next Z=>cases h;rw[az X,az V];exact Rh m n Z.1 Z.2 mem
   ·cases h
  ·cases h
 ·split at h
  ·rename_i m n X V
   split at h
   next Z=>cases h;rw[az X,az V];exact Ri m n Z.1 Z.2 mem
   ·cases h
  ·cases h
 ·split at h
  ·rename_i m X
   split at h
   next Z=>cases h;rw[az X];exact Rj m (by omega) mem
   ·cases h
  ·cases h
 ·cases h
theorem Rk(a b:Rat)(y:(ax a).length≤9)(H:(ax b).length≤9)(I:(ax (-b)).length≤9)(mem:Mem):
  kO prog 81 [.str (ax a),.str (ax b)] mem (.str (ax (a-b))) mem:=by
 have Z:aS prog 81=some f81:=by kernel_rfl
 refine ao gR ?_ mem;have e:a+ -b=a-b:=(Rat.sub_eq_add_neg a b).symm;simp[aa,Z,f81,ag,ek,ay,y,H,I,e]
def zS(n:Int):List UInt8:=ax (n:Rat)
variable{n:Int}
theorem uI(h:n.natAbs<10 ^ 4):(ax (n:Rat)).length≤9:=by
 have e:ax (n:Rat)=bB n:=by unfold ax;simp
 rw[e];have Z:=cR n;have X:(ai n.natAbs).length≤4:=aI (by omega) h;omega
noncomputable def Cn(f:FuncId)(args:List AV):Option AV:=
 match f,args with
 |81,[.str s,.str t]=>match dY s,dY t with
  |some a,some b=>if (ax a).length≤9∧(ax b).length≤9∧(ax (-b)).length≤9 then some (.str (ax (a-b))) else none
  |_,_=>none
 |f,args=>ek f args
theorem OE:qS prog (ag Cn):=bF fun f X v h mem=>by
 unfold Cn at h;split at h
 ·split at h
  ·rename_i m n V U
   split at h
   next Z=>cases h;rw[az V,az U];exact Rk m n Z.1 Z.2.1 Z.2.2 mem
   ·cases h
  ·cases h
 ·have:=gR.fn _ _ mem ⟨v,none,[]⟩ (by unfold ag;simp only;rw[h])
  simpa [y9.mem] using this
theorem Mt{a b:Int}(y:a.natAbs≤30)(H:b.natAbs≤30):(a*b).natAbs≤900:=by rw[Int.natAbs_mul];exact Nat.mul_le_mul y H
abbrev Z3:=Int×Int×Int
def zA(v:Z3):AV:=.agg [.str (zS v.1),.str (zS v.2.1),.str (zS v.2.2)]
def QH(n:Nat)(v:Z3):Prop:=v.1.natAbs≤n∧v.2.1.natAbs≤n∧v.2.2.natAbs≤n
instance (n:Nat) (v:Z3):Decidable (QH n v):=inferInstanceAs (Decidable (v.1.natAbs≤n∧v.2.1.natAbs≤n∧v.2.2.natAbs≤n))
theorem jN(h0: -1000000≤n)(h1:n≤1000000):IntKind.i64.wrap n=n:=by rw[af]
def sE(a b:Z3):Z3:=(a.2.1*b.2.2-a.2.2*b.2.1,a.2.2*b.1-a.1*b.2.2,a.1*b.2.1-a.2.1*b.1)
def Xg(v:Z3):Bool:=decide (v.1=0)&&decide (v.2.1=0)&&decide (v.2.2=0)
theorem oM{q:Rat}(h:q.den=1):q=(q.num:Rat):=Rat.ext rfl h
end Go.Proofs
namespace Go.Eng
structure Hts where
 v:List Int
 half:Bool
def i8C(l:List Int):List AV:=l.map fun n=>.int .i8 n
def Hts.cells(h:Hts):List AV:=i8C h.v++[.bool h.half]
structure Hts.Ok (h:Hts):Prop where
 len:h.v.length=6
 ok:∀n∈h.v,Bn n
structure afO where
 kind:Nat
 base:Hts
 s0:Hts
 s1:Hts
 N:List Int
 T:List Int
def afO.cells(x:afO):List AV:=.int .u8 x.kind::(x.base.cells++(x.s0.cells++(x.s1.cells++(i8C x.N++i8C x.T))))
structure afO.Ok (x:afO):Prop where
 kind:x.kind<256
 base:x.base.Ok
 s0:x.s0.Ok
 s1:x.s1.Ok
 nl:x.N.length=8
 nk:∀n∈x.N,Bn n
 tl:x.T.length=4
 tk:∀n∈x.T,Bn n
theorem iu(l:List Int):(i8C l).length=l.length:=by simp[i8C]
theorem oK:∀l:List Int,AV.afT (i8C l)=true
 | []=>rfl
 |n::l=>by have:=oK l;simp only[i8C] at this;simp[i8C,AV.afT,AV.closed,this]
variable{k:Nat}
section
variable{l:List Int}
theorem Xn(h:k<l.length):(i8C l)[k]? =some (.int .i8 (l.getD k 0)):=by simp[i8C,List.getD_eq_getElem?_getD,List.getElem?_eq_getElem h]
theorem qs(h:k<l.length):l.getD k 0∈l:=by rw[List.getD_eq_getElem?_getD,List.getElem?_eq_getElem h];exact List.getElem_mem _
end
def fX(n:Int):Int:=n.tmod 10
def ps9(n:Int):Int:=1+(n.tmod 9+9).tmod 9
def ct3(n:Int):Int:=1+(n.tmod 3+3).tmod 3
theorem dr(n:Int):(fX n).natAbs≤9:=by have:=A9 n 10 (by decide);unfold fX;simp only[Int.cast_ofNat_Int] at this;omega
theorem nn(n:Int):1≤ps9 n∧ps9 n≤9:=by have h:=A9 n 9 (by decide);have Z:=A9 (n.tmod 9+9) 9 (by decide);have h3:=Int.tmod_nonneg 9 (a:=n.tmod 9+9) (by simp only[Int.cast_ofNat_Int] at h;omega);unfold ps9;simp only[Int.cast_ofNat_Int] at h Z;omega
theorem PW(n:Int):1≤ct3 n∧ct3 n≤3:=by have h:=A9 n 3 (by decide);have Z:=A9 (n.tmod 3+3) 3 (by decide);have h3:=Int.tmod_nonneg 3 (a:=n.tmod 3+3) (by simp only[Int.cast_ofNat_Int] at h;omega);unfold ct3;simp only[Int.cast_ofNat_Int] at h Z;omega
def afO.n(x:afO)(i:Nat):Int:=x.N.getD i 0
def afO.t(x:afO)(i:Nat):Int:=x.T.getD i 0
def Hts.z(h:Hts)(k:Nat):Int:=(if h.half then 1 else 2)*(h.v.getD (k%6) 0).tmod 20
def Hts.l(h:Hts)(n:Nat):List Int:=(List.range n).map h.z
theorem Hts.agj(h:Hts)(n:Nat):(h.l n).length=n:=by simp[Hts.l]
theorem Hts.ah2(h:Hts)(n:Nat):h.l (n+1)=h.l n++[h.z n]:=by simp[Hts.l,List.range_succ]
theorem Hts.ahH(h:Hts)(k:Nat):(h.z k).natAbs≤38:=by have:=A9 (h.v.getD (k%6) 0) 20 (by decide);unfold Hts.z;simp only[Int.cast_ofNat_Int] at this;split<;>omega
def upL(h:Hts)(L:List Int)(n:Nat):List Int:=(List.range n).map fun k=>L.getD k 0+(h.z k).natAbs
theorem gF(h:Hts)(L:List Int)(n:Nat):(upL h L n).length=n:=by simp[upL]
theorem QE(h:Hts)(L:List Int)(n:Nat):upL h L (n+1)=upL h L n++[L.getD n 0+(h.z n).natAbs]:=by simp[upL,List.range_succ]
def afO.at(x:afO):Nat→Int
 |0=>fX (x.n 6)
 |i+1=>x.at i+ps9 (x.n ((i+3)%8))
def afO.val(x:afO)(i:Nat):Int:=fX (x.n ((i+7)%8))
def afO.aiq(x:afO)(i:Nat):Rat×Rat:=((x.at i:Int),hQ (x.val i))
def afO.aga(x:afO)(c:Nat):List (Rat×Rat):=(List.range c).map x.aiq
theorem afO.agp(x:afO)(c:Nat):(x.aga c).length=c:=by simp[afO.aga]
theorem afO.ah3(x:afO):∀i,(x.at i).natAbs≤9+9*i
 |0=>dr _
 |i+1=>by
  have Z:=x.ah3 i;have X:=nn (x.n ((i+3)%8));show(x.at i+ps9 (x.n ((i+3)%8))).natAbs≤_
  omega
theorem afO.aim(x:afO)(i:Nat):x.at i<x.at (i+1):=by
 have Z:=nn (x.n ((i+3)%8));show x.at i<x.at i+ps9 (x.n ((i+3)%8))
 omega
variable{vs:List AV}
theorem eG(h:AV.afT vs=true)(n:Nat):AV.af6 n vs=[]:=AV.agi (Nat.zero_le n) (bl h)
theorem gV(h:AV.afT vs=true)(f:Nat→Bool):AV.afV f vs=true:=AV.agd (k:=0) (fun b Z=>absurd Z (Nat.not_lt_zero b)) (bl h)
theorem yN{a b:List AV}(y:AV.afT a=true)(H:AV.afT b=true):AV.afT (a++b)=true:=by
 induction a with
 |nil=>exact H
 |cons x a ih=>
  simp only[AV.afT,Bool.and_eq_true,List.cons_append] at y ⊢;exact⟨y.1,ih y.2⟩
theorem Hts.closed(h:Hts):AV.afT h.cells=true:=yN (oK _) rfl
theorem afO.closed(x:afO):AV.afT x.cells=true:=by
 show AV.afT ([.int .u8 x.kind]++(x.base.cells++(x.s0.cells++(x.s1.cells++(i8C x.N++i8C x.T)))))=true
 exact yN rfl (yN x.base.closed (yN x.s0.closed (yN x.s1.closed (yN (oK _) (oK _)))))
variable{h:Hts}
theorem Hts.afW(y:h.Ok):h.cells.length=7:=by unfold Hts.cells;rw[List.length_append,iu,y.len];rfl
section
variable {x:afO}(hx:x.Ok)
include hx
theorem afO.afW:x.cells.length=34:=by unfold afO.cells;simp only[List.length_cons,List.length_append,Hts.afW hx.base,Hts.afW hx.s0,Hts.afW hx.s1,iu,hx.nl,hx.tl]
theorem afO.agD:x.cells[0]? =some (.int .u8 x.kind):=by rfl
theorem afO.afZ(hk:k<8):x.cells[22+k]? =some (.int .i8 (x.n k)):=by
 show(AV.int .u8 x.kind::(x.base.cells++(x.s0.cells++(x.s1.cells++(i8C x.N++i8C x.T)))))[22+k]? =_
 have e:22+k=(21+k)+1:=by omega
 have X:=Hts.afW hx.base;have V:=Hts.afW hx.s0;have U:=Hts.afW hx.s1;have S:=iu x.N;have R:=hx.nl;rw[e,List.getElem?_cons_succ,List.getElem?_append_right (by omega),List.getElem?_append_right (by omega),List.getElem?_append_right (by omega),List.getElem?_append_left (by omega)];have Z:21+k-x.base.cells.length-x.s0.cells.length-x.s1.cells.length=k:=by omega
 rw[Z];exact Xn (by omega)
theorem afO.ag7:x.cells.drop 1=x.base.cells++(x.s0.cells++(x.s1.cells++(i8C x.N++i8C x.T))):=rfl
theorem afO.agJ:(x.cells.drop 1).take 7=x.base.cells:=by rw[afO.ag7 hx,List.take_left' (Hts.afW hx.base)]
theorem afO.ahu:(x.cells.drop 8).take 7=x.s0.cells:=by
 have e:x.cells.drop 8=(x.cells.drop 1).drop 7:=by rw[List.drop_drop]
 rw[e,afO.ag7 hx,List.drop_left' (Hts.afW hx.base),List.take_left' (Hts.afW hx.s0)]
theorem afO.ahv:(x.cells.drop 15).take 7=x.s1.cells:=by
 have e:x.cells.drop 15=((x.cells.drop 1).drop 7).drop 7:=by rw[List.drop_drop,List.drop_drop]
 rw[e,afO.ag7 hx,List.drop_left' (Hts.afW hx.base),List.drop_left' (Hts.afW hx.s0),List.take_left' (Hts.afW hx.s1)]
theorem afO.ahI:(x.cells.drop 30).take 4=i8C x.T:=by
 have e:x.cells.drop 30=((((x.cells.drop 1).drop 7).drop 7).drop 7).drop 8:=by rw[List.drop_drop,List.drop_drop,List.drop_drop,List.drop_drop]
 have Z:(i8C x.N).length=8:=by rw[iu,hx.nl]
 have X:(i8C x.T).length=4:=by rw[iu,hx.tl]
 rw[e,afO.ag7 hx,List.drop_left' (Hts.afW hx.base),List.drop_left' (Hts.afW hx.s0),List.drop_left' (Hts.afW hx.s1),List.drop_left' Z,List.take_of_length_le (by omega)]
theorem afO.agt(hk:k<8):Bn (x.n k):=hx.nk _ (qs (by rw[hx.nl];exact hk))
end
theorem Hts.ahJ(y:h.Ok)(hk:k<6):h.cells[k]? =some (.int .i8 (h.v.getD k 0)):=by unfold Hts.cells;rw[List.getElem?_append_left (by rw[iu,y.len];exact hk)];exact Xn (by rw[y.len];exact hk)
theorem Hts.aha(y:h.Ok):h.cells[6]? =some (.bool h.half):=by unfold Hts.cells;rw[List.getElem?_append_right (by rw[iu,y.len];omega),iu,y.len];rfl
theorem Hts.aiw(y:h.Ok)(hk:k<6):Bn (h.v.getD k 0):=y.ok _ (qs (by rw[y.len];exact hk))
theorem cH{C:List AV}{i:Nat}{v:AV}(h:C[i]? =some v):∀h,C[i]'h=v:=fun Z=>Option.some.inj ((List.getElem?_eq_getElem Z).symm.trans h)
theorem ic(n:Int):mkRat n 1=(n:Rat):=Rat.mkRat_self (n:Rat)
def Hts.d(h:Hts):Nat:=if h.half then 2 else 1
theorem YT(n:Int):hQ (2*n)=(n:Rat):=by
 rw[nf,Rat.intCast_mul];have:((2:Int):Rat)=2:=rfl;rw[this]
 grind
theorem Hts.aix(h:Hts)(k:Nat):mkRat ((h.v.getD (k%6) 0).tmod 20) h.d=hQ (h.z k):=by
 unfold Hts.d Hts.z;cases h.half
 ·simp only[Bool.false_eq_true,if_false]
  rw[ic,YT]
 ·simp only[if_true,Int.one_mul]
  rfl
end Go.Eng
namespace Go.Proofs
open Go.Eng
open Tryz
theorem I3(n:Int)(h:Bn n)(M:Mem):kO prog 28 [.int .i8 n] M (.int .i64 (fX n)) M:=by
 have Z:aS prog 28=some f28:=by kernel_rfl
 refine ao (aw _) ?_ M;unfold Bn at h;have w:IntKind.i64.wrap n=n:=jN (by omega) (by omega);simp[aa,Z,f28,w,fX]
theorem Rv(n:Int)(h:Bn n)(M:Mem):kO prog 31 [.int .i8 n] M (.int .i64 (ps9 n)) M:=by
 have U:aS prog 31=some f31:=by kernel_rfl
 refine ao (aw _) ?_ M;unfold Bn at h;have w:IntKind.i64.wrap n=n:=jN (by omega) (by omega);have q:=A9 n 9 (by decide);simp only[Int.cast_ofNat_Int] at q;unfold ps9;obtain⟨a,Z⟩:=xE (n.tmod 9);rw[←Z] at q ⊢;have w1:IntKind.i64.wrap (a+9)=a+9:=jN (by omega) (by omega);have X:=A9 (a+9) 9 (by decide);simp only[Int.cast_ofNat_Int] at X;obtain⟨b,V⟩:=xE ((a+9).tmod 9);rw[←V] at X ⊢;have w2:IntKind.i64.wrap (1+b)=1+b:=jN (by omega) (by omega);simp[aa,U,f31,w,←Z,w1,←V,w2]
theorem Ti(v:Z3)(y:QH 10000 v)(M:Mem):kO prog 19 [.int .i64 v.1,.int .i64 v.2.1,.int .i64 v.2.2] M (zA v) M:=by
 have Z:aS prog 19=some f19:=by kernel_rfl
 refine ao gR ?_ M;obtain⟨a,b,c⟩:=v;obtain⟨X,V,h3⟩:=y;simp only at X V h3;have U:a.natAbs<100000000:=by omega
 have S:b.natAbs<100000000:=by omega
 have g3:c.natAbs<100000000:=by omega
 simp[aa,Z,f19,ag,ek,zA,zS,ic,U,S,g3,bN,aF]
theorem IV(a b c d:Int)(H:a.natAbs≤30)(I:b.natAbs≤30)(hc:c.natAbs≤30)(hd:d.natAbs≤30)(M:Mem):
  kO prog 123 [.str (zS a),.str (zS b),.str (zS c),.str (zS d)] M (.str (zS (a*b-c*d))) M:=by
 have U:aS prog 123=some f123:=by kernel_rfl
 have S:=Mt H I;have R:=Mt hc hd;have Z:(a:Rat)*(b:Rat)=((a*b:Int):Rat):=(Rat.intCast_mul a b).symm;have X:(c:Rat)*(d:Rat)=((c*d:Int):Rat):=(Rat.intCast_mul c d).symm;obtain⟨x,Q⟩:=xE (a*b);obtain⟨y,O⟩:=xE (c*d);rw[←Q] at S Z ⊢;rw[←O] at R X ⊢;have V:(x:Rat)-(y:Rat)=((x-y:Int):Rat):=(Rat.intCast_sub x y).symm;obtain⟨z,N⟩:=xE (x-y);rw[←N] at V ⊢;have L:=uI (n:=a) (by omega);have K:=uI (n:=b) (by omega);have G:=uI (n:=c) (by omega);have F:=uI (n:=d) (by omega);have D:=uI (n:=x) (by omega);have C:=uI (n:=y) (by omega);have B:(ax (-(y:Rat))).length≤9:=by rw[←Rat.intCast_neg];exact uI (n:= -y) (by omega)
 refine ao OE ?_ M;simp[aa,U,f123,ag,Cn,ek,zS,ay,L,K,G,F,D,C,B,Z,X,V]
noncomputable def Ct(f:FuncId)(args:List AV):Option AV:=
 match f,args with
 |123,[.str s,.str t,.str u,.str v]=>match dY s,dY t,dY u,dY v with
  |some a,some b,some c,some d=>if (a.den=1∧b.den=1∧c.den=1∧d.den=1)∧a.num.natAbs≤30∧b.num.natAbs≤30∧c.num.natAbs≤30∧d.num.natAbs≤30 then some (.str (zS (a.num*b.num-c.num*d.num))) else none
  |_,_,_,_=>none
 |_,_=>none
theorem OL:qS prog (ag Ct):=bF fun f Z v h mem=>by
 unfold Ct at h;split at h
 ·split at h
  ·rename_i a b c d X V U S
   split at h
   ·rename_i R
    obtain⟨⟨d1,d2,d3,d4⟩,Q,O,N,M⟩:=R;cases h;rw[az X,az V,az U,az S];have:=IV a.num b.num c.num d.num Q O N M mem;unfold zS at this ⊢;rw[←oM d1,←oM d2,←oM d3,←oM d4] at this;exact this
   ·cases h
  ·cases h
 ·cases h
theorem IM(a b:Z3)(y:QH 30 a)(H:QH 30 b)(M:Mem):kO prog 72 [zA a,zA b] M (zA (sE a b)) M:=by
 have J:aS prog 72=some f72:=by kernel_rfl
 obtain⟨V,U,S⟩:=a;obtain⟨R,Q,O⟩:=b;obtain⟨K,G,h3⟩:=y;obtain⟨F,D,C⟩:=H;simp only at K G h3 F D C;refine ao OL ?_ M;obtain⟨X,N⟩:∃X,aG f72=[X]:=⟨_,rfl⟩
 obtain⟨I,L⟩:=cC N (l:=[0,1,0,4,0,16,0,64,255,0,512,0,2048,0,8192,0,32768,131071,0,262144,0,1048576,0,4194304,0,16777216,67108863,134217727,268435455]) (j:=28) (by kernel_rfl) (by decide);simp[aG,bQ,f72] at N;subst N;have Z:∀n:Int,dY (zS n)=some (n:Rat):=fun n=>ay _
 unfold zA sE;simp only;obtain⟨A1,B⟩:=xE (zS V);obtain⟨A2,u⟩:=xE (zS U);obtain⟨A3,o⟩:=xE (zS S);obtain⟨B1,m⟩:=xE (zS R);obtain⟨B2,Y⟩:=xE (zS Q);obtain⟨B3,W⟩:=xE (zS O);have p1:dY A1=some (V:Rat):=by rw[B];exact Z _
 have p2:dY A2=some (U:Rat):=by rw[u];exact Z _
 have p3:dY A3=some (S:Rat):=by rw[o];exact Z _
 have p4:dY B1=some (R:Rat):=by rw[m];exact Z _
 have p5:dY B2=some (Q:Rat):=by rw[Y];exact Z _
 have p6:dY B3=some (O:Rat):=by rw[W];exact Z _
 rw[←B,←u,←o,←m,←Y,←W];obtain⟨C1,f1⟩:=xE (zS (U*O-S*Q));obtain⟨C2,f2⟩:=xE (zS (S*R-V*O));obtain⟨C3,f3⟩:=xE (zS (V*Q-U*R));rw[←f1,←f2,←f3];simp[aa,J,f72,-aH,ak I,be,aV,aX,L,ag,Ct,p1,p2,p3,p4,p5,p6,K,G,h3,F,D,C,←f1,←f2,←f3,bN,aF,Nat.testBit]
def zQ(v:Z3):V3:=((v.1:Rat),(v.2.1:Rat),(v.2.2:Rat))
def hV(v:Z3):V3:=(hQ v.1,hQ v.2.1,hQ v.2.2)
def dx(x:afO):Z3:=if fX (x.n 0)=0∧fX (x.n 1)=0∧fX (x.n 2)=0 then (0,0,1) else (fX (x.n 0),fX (x.n 1),fX (x.n 2))
def uz(x:afO):Z3:=sE (dx x) (fX (x.n 3),fX (x.n 4),fX (x.n 5))
theorem qA(x:afO):QH 9 (dx x):=by
 unfold dx;split
 ·exact⟨by decide,by decide,by decide⟩
 ·exact⟨dr _,dr _,dr _⟩
theorem WV(x:afO):Xg (dx x)=false:=by
 unfold dx;split
 ·rfl
 ·rename_i h
  simp only[Xg,Bool.and_eq_false_imp,Bool.and_eq_true,decide_eq_true_eq,decide_eq_false_iff_not];exact fun Z X=>h ⟨Z.1,Z.2,X⟩
theorem YF{a b:Int}(y:a.natAbs≤9)(H:b.natAbs≤9):(a*b).natAbs≤81:=by rw[Int.natAbs_mul];exact Nat.mul_le_mul y H
theorem CD(x:afO):QH 162 (uz x):=by obtain⟨Z,X,h3⟩:=qA x;have V:=dr (x.n 3);have U:=dr (x.n 4);have S:=dr (x.n 5);have R:=YF X S;have Q:=YF h3 U;have O:=YF h3 V;have N:=YF Z S;have M:=YF Z U;have L:=YF X V;unfold uz sE QH;simp only;omega
open Classical in
noncomputable def ea(f:FuncId)(args:List AV):Option AV:=
 match f,args with
 |28,[.int .i8 n]=>if -128≤n∧n≤127 then some (.int .i64 (fX n)) else none
 |31,[.int .i8 n]=>if -128≤n∧n≤127 then some (.int .i64 (ps9 n)) else none
 |19,[.int .i64 a,.int .i64 b,.int .i64 c]=>if a.natAbs≤10000∧b.natAbs≤10000∧c.natAbs≤10000 then some (zA (a,b,c)) else none
 |72,[.agg [.str s,.str t,.str u],.agg [.str s',.str t',.str u']]=>match dY s,dY t,dY u,dY s',dY t',dY u' with
  |some a,some b,some c,some d,some e,some f=>if (a.den=1∧b.den=1∧c.den=1∧d.den=1∧e.den=1∧f.den=1)∧QH 30 (a.num,b.num,c.num)∧QH 30 (d.num,e.num,f.num) then some (zA (sE (a.num,b.num,c.num) (d.num,e.num,f.num))) else none
  |_,_,_,_,_,_=>none
 |27,[.int .i64 n,.int .i64 d]=>if 0<d∧n.natAbs<10 ^ 8∧d.toNat<10 ^ 8 then some (.str (ax (mkRat n d.toNat))) else none
 |_,_=>none
theorem vJ:qS prog (ag ea):=bF fun f X v h mem=>by
 unfold ea at h;split at h
 ·split at h
  next Z=>cases h;exact I3 _ Z mem
  ·cases h
 ·split at h
  next Z=>cases h;exact Rv _ Z mem
  ·cases h
 ·split at h
  next Z=>cases h;exact Ti (_,_,_) Z mem
  ·cases h
 ·split at h
  ·rename_i a b c d e f V U Z S R Q
   split at h
   ·rename_i O
    obtain⟨⟨d1,d2,d3,d4,d5,d6⟩,N,M⟩:=O;cases h;rw[az V,az U,az Z,az S,az R,az Q];have:=IM (a.num,b.num,c.num) (d.num,e.num,f.num) N M mem;unfold zA at this;simp only at this;have k:∀q:Rat,q.den=1→zS q.num=ax q:=fun q L=>by unfold zS;rw[←oM L]
    rw[k a d1,k b d2,k c d3,k d d4,k e d5,k f d6] at this;exact this
   ·cases h
  ·cases h
 ·split at h
  ·rename_i Z
   cases h;have:=BM _ _ (by omega) Z.2.1 Z.2.2 mem;rw[Int.toNat_of_nonneg (by omega)] at this;exact this
  ·cases h
 ·cases h
theorem Gs(x:afO)(y:x.Ok)(M:Mem):kO prog 26 [.agg x.cells] M (zA (dx x)) M:=by
 have W:aS prog 26=some f26:=by kernel_rfl
 refine cK vJ (lv:=fun _=>[]) (K:=1) (by simp[AV.afT,AV.closed,x.closed]) rfl ?_ M;obtain⟨R,D'⟩:∃R,aG f26=[R]:=⟨_,rfl⟩
 obtain⟨J,Z⟩:=cC D' (l:=[0,1,3,7,0,16,48,127,0,256,768,2047,4095,8191,16383]) (j:=14) (by kernel_rfl) (by decide);simp[aG,bQ,f26] at D';subst D';have Q:=afO.afW y;have r0:=eG x.closed;have o0:=gV x.closed;have I:=afO.afZ y (k:=0) (by decide);have H:=afO.afZ y (k:=1) (by decide);have i2:=afO.afZ y (k:=2) (by decide);simp only[Nat.reduceAdd] at I H i2;have X:=cH I;have V:=cH H;have U:=cH i2;obtain⟨O,N⟩:=afO.agt y (k:=0) (by decide);obtain⟨L,G⟩:=afO.agt y (k:=1) (by decide);obtain⟨F,D⟩:=afO.agt y (k:=2) (by decide);have s0:=dr (x.n 0);have s1:=dr (x.n 1);have s2:=dr (x.n 2);unfold dx;obtain⟨C,hC⟩:=xE x.cells;rw[←hC] at Q r0 o0 I H i2 X V U ⊢;obtain⟨p,hp⟩:=xE (x.n 0);obtain⟨q,hq⟩:=xE (x.n 1);obtain⟨r,hr⟩:=xE (x.n 2);rw[←hp] at I X O N s0 ⊢;rw[←hq] at H V L G s1 ⊢;rw[←hr] at i2 U F D s2 ⊢;obtain⟨v,B⟩:=xE (fX q);obtain⟨w,o⟩:=xE (fX r);obtain⟨u,m⟩:=xE (fX p);rw[←m] at s0 ⊢;rw[←B] at s1 ⊢;rw[←o] at s2 ⊢;have g0:u.natAbs≤10000:=by omega
 have g1:v.natAbs≤10000:=by omega
 have g2:w.natAbs≤10000:=by omega
 have tk:C.take 34=C:=List.take_of_length_le (by omega);clear hC hp hq hr;by_cases S:u=0
 ·by_cases Y:v=0
  ·by_cases k2:w=0
   ·rw[if_pos ⟨S,Y,k2⟩]
    subst S Y k2;simp[aa,W,f26,-aH,ak J,be,aV,aX,Z,ag,ea,Q,X,V,U,O,N,L,G,F,D,←m,←B,←o,Nat.testBit,zA]
   ·rw[if_neg fun h=>k2 h.2.2]
    subst S Y;simp[aa,W,f26,-aH,ak J,be,aV,aX,Z,ag,ea,Q,X,V,U,O,N,L,G,F,D,←m,←B,←o,Nat.testBit,zA,k2,g2]
  ·rw[if_neg fun h=>Y h.2.1]
   subst S;simp[aa,W,f26,-aH,ak J,be,aV,aX,Z,ag,ea,Q,X,V,U,O,N,L,G,F,D,←m,←B,←o,Nat.testBit,zA,Y,g1,g2]
 ·rw[if_neg fun h=>S h.1]
  simp[aa,W,f26,-aH,ak J,be,aV,aX,Z,ag,ea,Q,X,V,U,O,N,L,G,F,D,←m,←B,←o,Nat.testBit,zA,S,g0,g1,g2]
open Classical in
noncomputable def iE(x:afO)(f:FuncId)(args:List AV):Option AV:=
 match f,args with
 |26,[.agg cs]=>if cs=x.cells then some (zA (dx x)) else none
 |f,args=>ea f args
theorem Cr{x:afO}(y:x.Ok):qS prog (ag (iE x)):=bF fun f Z v h mem=>by
 unfold iE at h;split at h
 ·split at h
  next X=>cases h;rw[X];exact Gs x y mem
  ·cases h
 ·have:=vJ.fn _ _ mem ⟨v,none,[]⟩ (by unfold ag;simp only;rw[h])
  simpa [y9.mem] using this
theorem Xt(n:Int):dY (zS n)=some (n:Rat):=ay _
theorem Gm(x:afO)(y:x.Ok)(M:Mem):kO prog 30 [.agg x.cells] M (zA (uz x)) M:=by
 have hG:aS prog 30=some f30:=by kernel_rfl
 refine cK (Cr y) (lv:=fun _=>[]) (K:=1) (by simp[AV.afT,AV.closed,x.closed]) rfl ?_ M;obtain⟨X,Q⟩:∃X,aG f30=[X]:=⟨_,rfl⟩
 obtain⟨PP,O⟩:=cC Q (l:=[0,1,0,4,12,31,0,64,192,511,0,1024,3072,8191,16383,32767,65535]) (j:=16) (by kernel_rfl) (by decide);simp[aG,bQ,f30] at Q;subst Q;have m:=afO.afW y;have r0:=eG x.closed;have Y:=gV x.closed;have V:=afO.afZ y (k:=3) (by decide);have U:=afO.afZ y (k:=4) (by decide);have S:=afO.afZ y (k:=5) (by decide);simp only[Nat.reduceAdd] at V U S;have N:=cH V;have L:=cH U;have G:=cH S;obtain⟨W,J⟩:=afO.agt y (k:=3) (by decide);obtain⟨I,H⟩:=afO.agt y (k:=4) (by decide);obtain⟨b2,c2⟩:=afO.agt y (k:=5) (by decide);have s0:=dr (x.n 3);have s1:=dr (x.n 4);have s2:=dr (x.n 5);have R:=qA x;have Z:uz x=sE (dx x) (fX (x.n 3),fX (x.n 4),fX (x.n 5)):=rfl;obtain⟨C,hC⟩:=xE x.cells;have F :x.cells=C:=hC.symm;rw[←hC] at m r0 Y V U S N L G ⊢;obtain⟨p,hp⟩:=xE (x.n 3);obtain⟨q,hq⟩:=xE (x.n 4);obtain⟨r,hr⟩:=xE (x.n 5);rw[←hp] at V N W J s0 Z;rw[←hq] at U L I H s1 Z;rw[←hr] at S G b2 c2 s2 Z;obtain⟨v,hv⟩:=xE (fX q);obtain⟨w,hw⟩:=xE (fX r);obtain⟨u,hu⟩:=xE (fX p);rw[←hu] at s0 Z;rw[←hv] at s1 Z;rw[←hw] at s2 Z;have g0:u.natAbs≤10000:=by omega
 have g1:v.natAbs≤10000:=by omega
 have g2:w.natAbs≤10000:=by omega
 have z2:QH 30 (u,v,w):=⟨by show u.natAbs≤30;omega,by show v.natAbs≤30;omega,by show w.natAbs≤30;omega⟩;have tk:C.take 34=C:=List.take_of_length_le (by omega);obtain⟨⟨D,B,o⟩,hn⟩:∃n,n=dx x:=⟨_,rfl⟩
 rw[←hn] at R Z;have z1:QH 30 (D,B,o):=⟨by have:=R.1;show D.natAbs≤30;simp only at this;omega,by have:=R.2.1;show B.natAbs≤30;simp only at this;omega,by have:=R.2.2;show o.natAbs≤30;simp only at this;omega⟩;rw[Z];clear Z;obtain⟨⟨cx,cy,cz⟩,hc⟩:∃n,n=sE (D,B,o) (u,v,w):=⟨_,rfl⟩
 rw[←hc];simp[aa,hG,f30,-aH,ak PP,be,aV,aX,O,ag,iE,ea,F,m,Y,N,L,G,tk,W,J,I,H,b2,c2,←hn,←hu,←hv,←hw,Nat.testBit,zA,g0,g1,g2,Xt,z1,z2,←hc]
theorem YP(n:Int):(n:Rat)*hQ 1=hQ n:=by
 rw[nf,nf];have:((1:Int):Rat)=1:=rfl;rw[this]
 grind
theorem UU:dY [49,47,50]=some (hQ 1):=ay (hQ 1)
theorem NQ(v:Z3)(y:QH 162 v)(M:Mem):kO prog 29 [zA v,.str [49,47,50]] M (vA (hV v)) M:=by
 have U:aS prog 29=some f29:=by kernel_rfl
 refine ao gR ?_ M;obtain⟨Z,X⟩:∃Z,aG f29=[Z]:=⟨_,rfl⟩
 obtain⟨S,V⟩:=cC X (l:=[0,1,0,7,0,16,0,127,0,256,0,2047,4095,8191]) (j:=13) (by kernel_rfl) (by decide);simp[aG,bQ,f29] at X;subst X;obtain⟨a,b,c⟩:=v;obtain⟨R,Q,h3⟩:=y;simp only at R Q h3;have O:=uI (n:=a) (by omega);have N:=uI (n:=b) (by omega);have L:=uI (n:=c) (by omega);have K:(ax (hQ 1)).length≤9:=CZ (by decide);simp[aa,U,f29,-aH,ak S,be,aV,aX,V,ag,ek,zA,vA,hV,Xt,UU,O,N,L,K,YP,bN,aF,Nat.testBit]
end Go.Proofs
