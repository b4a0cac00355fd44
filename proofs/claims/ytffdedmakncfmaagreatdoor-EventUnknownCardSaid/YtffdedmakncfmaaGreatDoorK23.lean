/- See K51. -/
import Derived.Test.YtffdedmakncfmaaGreatDoorK21
import Derived.Test.YtffdedmakncfmaaGreatDoorK22
set_option linter.all false
namespace Go.Proofs
open Go.Eng
theorem KS(q:Rat) (hl:(aB q).length≤1000000000) (mem:Mem):ACallsTo Tryz.prog 116 [.str (aB q)] mem (.str (aB (-q))) mem:=by
 have hG:aN Tryz.prog 116=some Tryz.f116:=by kernel_rfl
 refine aq (ak _) (lv:=fun _=>[]) (K:=1) rfl rfl ?_ mem
 by_cases h0:q=0
 ·subst h0
  simp[aa,hG,Tryz.f116,aW]
 ·have hn:¬q.num=0:=fun e=>h0 (pW.1 e)
  by_cases h1:q.num<0
  ·have e:=jx h1
   have hb:(45::aB (-q)==[48])=false:=by rw[←e,aW];simpa using h0
   rw[e]
   have h3:(1:Int)≤((aB (-q)).length:Int)+1:=by omega
   simp[aa,hG,Tryz.f116,hb,h3]
  ·have e:=oV (q:=q) (by omega)
   obtain⟨c,r,e2,hc⟩:=kY (q:=q) (by omega)
   have hb:(c::r==[48])=false:=by rw[←e2,aW];simpa using h0
   have h2:=eh hc
   rw[e,e2]
   rw[e2] at hl
   simp only[List.length_cons] at hl
   have h3:1+(r.length+1)≤9223372036854775807:=by omega
   simp[aa,hG,Tryz.f116,hb,h2,h3,gE]
noncomputable def dC(f:FuncId) (args:List AV):Option AV:=
 match f,args with
 |27,[.int .i64 n,.int .i64 d]=>if 0<d∧n.natAbs<10 ^ 8∧d.toNat<10 ^ 8 then some (.str (aB (mkRat n d.toNat))) else none
 |68,[.str s,.str t]=>match dU s,dU t with
  |some a,some b=>if (aB a).length≤9∧(aB b).length≤9 then some (.str (aB (a+b))) else none
  |_,_=>none
 |36,[.str s,.str t]=>match dU s,dU t with
  |some a,some b=>if (aB a).length≤9∧(aB b).length≤9 then some (.str (aB (a*b))) else none
  |_,_=>none
 |116,[.str s]=>match dU s with
  |some a=>if (aB a).length≤9 then some (.str (aB (-a))) else none
  |none=>none
 |_,_=>none
theorem fP:OracleOk Tryz.prog (ai dC):=bM fun f args v h mem=>by
 unfold dC at h
 split at h
 ·rename_i n d
  split at h
  ·rename_i hc
   cases h
   have:=DC n d.toNat (by omega) hc.2.1 hc.2.2 mem
   rw[Int.toNat_of_nonneg (by omega)] at this
   exact this
  ·cases h
 ·split at h
  ·rename_i m n hm hn
   split at h
   ·rename_i hc;cases h;rw[aD hm,aD hn];exact KP m n hc.1 hc.2 mem
   ·cases h
  ·cases h
 ·split at h
  ·rename_i m n hm hn
   split at h
   ·rename_i hc;cases h;rw[aD hm,aD hn];exact KR m n hc.1 hc.2 mem
   ·cases h
  ·cases h
 ·split at h
  ·rename_i m hm
   split at h
   ·rename_i hc;cases h;rw[aD hm];exact KS m (by omega) mem
   ·cases h
  ·cases h
 ·cases h
theorem KT(a b:Rat) (qa:(aB a).length≤9) (qb:(aB b).length≤9) (qn:(aB (-b)).length≤9) (mem:Mem):
  ACallsTo Tryz.prog 81 [.str (aB a),.str (aB b)] mem (.str (aB (a-b))) mem:=by
 have hG:aN Tryz.prog 81=some Tryz.f81:=by kernel_rfl
 refine aq fP (lv:=fun _=>[]) (K:=1) rfl rfl ?_ mem
 have e:a+ -b=a-b:=(Rat.sub_eq_add_neg a b).symm
 simp[aa,hG,Tryz.f81,ai,dC,aC,qa,qb,qn,e]
def zS(n:Int):List UInt8:=aB (n:Rat)
theorem qw{n:Int}(h:n.natAbs<10 ^ 4):(aB (n:Rat)).length≤9:=by
 have e:aB (n:Rat)=bE n:=by
  unfold aB
  simp
 rw[e]
 have h1:=cm n
 have h2:(au n.natAbs).length≤4:=aK (by omega) h
 omega
noncomputable def yy(f:FuncId) (args:List AV):Option AV:=
 match f,args with
 |81,[.str s,.str t]=>match dU s,dU t with
  |some a,some b=>if (aB a).length≤9∧(aB b).length≤9∧(aB (-b)).length≤9 then some (.str (aB (a-b))) else none
  |_,_=>none
 |f,args=>dC f args
theorem IJ:OracleOk Tryz.prog (ai yy):=bM fun f args v h mem=>by
 unfold yy at h
 split at h
 ·split at h
  ·rename_i m n hm hn
   split at h
   ·rename_i hc;cases h;rw[aD hm,aD hn];exact KT m n hc.1 hc.2.1 hc.2.2 mem
   ·cases h
  ·cases h
 ·have:=fP.fn _ _ mem ⟨v,none,[]⟩ (by unfold ai;simp only;rw[h])
  simpa [CallRes.mem] using this
theorem G9{a b:Int}(ha:a.natAbs≤30) (hb:b.natAbs≤30):(a*b).natAbs≤900:=by
 rw[Int.natAbs_mul]
 exact Nat.mul_le_mul ha hb
abbrev Z3:=Int×Int×Int
def zA(v:Z3):AV:=.agg [.str (zS v.1),.str (zS v.2.1),.str (zS v.2.2)]
def Kt(n:Nat) (v:Z3):Prop:=v.1.natAbs≤n∧v.2.1.natAbs≤n∧v.2.2.natAbs≤n
instance (n:Nat) (v:Z3):Decidable (Kt n v):=inferInstanceAs (Decidable (v.1.natAbs≤n∧v.2.1.natAbs≤n∧v.2.2.natAbs≤n))
theorem ia{n:Int}(h0: -1000000≤n) (h1:n≤1000000):IntKind.i64.wrap n=n:=by rw[ag (by omega) (by omega)]
def oo(a b:Z3):Z3:=(a.2.1*b.2.2-a.2.2*b.2.1,a.2.2*b.1-a.1*b.2.2,a.1*b.2.1-a.2.1*b.1)
def Qs(v:Z3):Bool:=decide (v.1=0)&&decide (v.2.1=0)&&decide (v.2.2=0)
theorem kR{q:Rat}(h:q.den=1):q=(q.num:Rat):=Rat.ext rfl h
end Go.Proofs
namespace Go.Eng
structure Hts where
 v:List Int
 half:Bool
def i8C(l:List Int):List AV:=l.map fun n=>.int .i8 n
def Hts.cells(h:Hts):List AV:=i8C h.v++[.bool h.half]
structure Hts.Ok (h:Hts):Prop where
 len:h.v.length=6
 ok:∀n∈h.v,xE n
structure Sketch where
 kind:Nat
 base:Hts
 s0:Hts
 s1:Hts
 N:List Int
 T:List Int
def Sketch.cells(x:Sketch):List AV:=.int .u8 x.kind::(x.base.cells++(x.s0.cells++(x.s1.cells++(i8C x.N++i8C x.T))))
structure Sketch.Ok (x:Sketch):Prop where
 kind:x.kind<256
 base:x.base.Ok
 s0:x.s0.Ok
 s1:x.s1.Ok
 nl:x.N.length=8
 nk:∀n∈x.N,xE n
 tl:x.T.length=4
 tk:∀n∈x.T,xE n
theorem fv(l:List Int):(i8C l).length=l.length:=by simp[i8C]
theorem kP:∀l:List Int,AV.closeds (i8C l)=true
 | []=>rfl
 |n::l=>by
  have:=kP l
  simp only[i8C] at this
  simp[i8C,AV.closeds,AV.closed,this]
theorem Qz{l:List Int}{k:Nat}(h:k<l.length):(i8C l)[k]? =some (.int .i8 (l.getD k 0)):=by
 simp[i8C,List.getD_eq_getElem?_getD,List.getElem?_eq_getElem h]
theorem pN{l:List Int}{k:Nat}(h:k<l.length):l.getD k 0∈l:=by
 rw[List.getD_eq_getElem?_getD,List.getElem?_eq_getElem h]
 exact List.getElem_mem _
def fD(n:Int):Int:=n.tmod 10
def ps9(n:Int):Int:=1+(n.tmod 9+9).tmod 9
def ct3(n:Int):Int:=1+(n.tmod 3+3).tmod 3
theorem cC(n:Int):(fD n).natAbs≤9:=by
 have:=xp n 10 (by decide)
 unfold fD
 simp only[Int.cast_ofNat_Int] at this
 omega
theorem kX(n:Int):1≤ps9 n∧ps9 n≤9:=by
 have h:=xp n 9 (by decide)
 have h2:=xp (n.tmod 9+9) 9 (by decide)
 have h3:=Int.tmod_nonneg 9 (a:=n.tmod 9+9) (by simp only[Int.cast_ofNat_Int] at h;omega)
 unfold ps9
 simp only[Int.cast_ofNat_Int] at h h2
 omega
theorem JS(n:Int):1≤ct3 n∧ct3 n≤3:=by
 have h:=xp n 3 (by decide)
 have h2:=xp (n.tmod 3+3) 3 (by decide)
 have h3:=Int.tmod_nonneg 3 (a:=n.tmod 3+3) (by simp only[Int.cast_ofNat_Int] at h;omega)
 unfold ct3
 simp only[Int.cast_ofNat_Int] at h h2
 omega
def Sketch.n(x:Sketch) (i:Nat):Int:=x.N.getD i 0
def Sketch.t(x:Sketch) (i:Nat):Int:=x.T.getD i 0
def Hts.z(h:Hts) (k:Nat):Int:=(if h.half then 1 else 2)*(h.v.getD (k%6) 0).tmod 20
def Hts.l(h:Hts) (n:Nat):List Int:=(List.range n).map h.z
theorem Hts.l_length(h:Hts) (n:Nat):(h.l n).length=n:=by simp[Hts.l]
theorem Hts.l_succ(h:Hts) (n:Nat):h.l (n+1)=h.l n++[h.z n]:=by simp[Hts.l,List.range_succ]
theorem Hts.z_le(h:Hts) (k:Nat):(h.z k).natAbs≤38:=by
 have:=xp (h.v.getD (k%6) 0) 20 (by decide)
 unfold Hts.z
 simp only[Int.cast_ofNat_Int] at this
 split<;>omega
def upL(h:Hts) (L:List Int) (n:Nat):List Int:=(List.range n).map fun k=>L.getD k 0+(h.z k).natAbs
theorem gj(h:Hts) (L:List Int) (n:Nat):(upL h L n).length=n:=by simp[upL]
theorem Kr(h:Hts) (L:List Int) (n:Nat):upL h L (n+1)=upL h L n++[L.getD n 0+(h.z n).natAbs]:=by simp[upL,List.range_succ]
def Sketch.at(x:Sketch):Nat→Int
 |0=>fD (x.n 6)
 |i+1=>x.at i+ps9 (x.n ((i+3)%8))
def Sketch.val(x:Sketch) (i:Nat):Int:=fD (x.n ((i+7)%8))
def Sketch.knot(x:Sketch) (i:Nat):Rat×Rat:=((x.at i:Int),hQ (x.val i))
def Sketch.knots(x:Sketch) (c:Nat):List (Rat×Rat):=(List.range c).map x.knot
theorem Sketch.knots_length(x:Sketch) (c:Nat):(x.knots c).length=c:=by simp[Sketch.knots]
theorem Sketch.at_le(x:Sketch):∀i,(x.at i).natAbs≤9+9*i
 |0=>cC _
 |i+1=>by
  have h1:=x.at_le i
  have h2:=kX (x.n ((i+3)%8))
  show(x.at i+ps9 (x.n ((i+3)%8))).natAbs≤_
  omega
theorem Sketch.at_lt(x:Sketch) (i:Nat):x.at i<x.at (i+1):=by
 have h2:=kX (x.n ((i+3)%8))
 show x.at i<x.at i+ps9 (x.n ((i+3)%8))
 omega
theorem cD{vs:List AV}(h:AV.closeds vs=true) (n:Nat):AV.refsL n vs=[]:=AV.refsL_unders (Nat.zero_le n) (aR h)
theorem eU{vs:List AV}(h:AV.closeds vs=true) (f:Nat→Bool):AV.refsOkL f vs=true:=AV.refsOkL_unders (k:=0) (fun b hb=>absurd hb (Nat.not_lt_zero b)) (aR h)
theorem uH{a b:List AV}(ha:AV.closeds a=true) (hb:AV.closeds b=true):AV.closeds (a++b)=true:=by
 induction a with
 |nil=>exact hb
 |cons x a ih=>
  simp only[AV.closeds,Bool.and_eq_true,List.cons_append] at ha ⊢
  exact⟨ha.1,ih ha.2⟩
theorem Hts.closed(h:Hts):AV.closeds h.cells=true:=uH (kP _) rfl
theorem Sketch.closed(x:Sketch):AV.closeds x.cells=true:=by
 show AV.closeds ([.int .u8 x.kind]++(x.base.cells++(x.s0.cells++(x.s1.cells++(i8C x.N++i8C x.T)))))=true
 exact uH rfl (uH x.base.closed (uH x.s0.closed (uH x.s1.closed (uH (kP _) (kP _)))))
theorem Hts.cells_len{h:Hts}(hh:h.Ok):h.cells.length=7:=by
 unfold Hts.cells
 rw[List.length_append,fv,hh.len]
 rfl
section
variable {x:Sketch}(hx:x.Ok)
include hx
theorem Sketch.cells_len:x.cells.length=34:=by
 unfold Sketch.cells
 simp only[List.length_cons,List.length_append,Hts.cells_len hx.base,Hts.cells_len hx.s0,Hts.cells_len hx.s1,fv,hx.nl,hx.tl]
theorem Sketch.cells_0:x.cells[0]? =some (.int .u8 x.kind):=by rfl
theorem Sketch.cells_n{k:Nat}(hk:k<8):x.cells[22+k]? =some (.int .i8 (x.n k)):=by
 show(AV.int .u8 x.kind::(x.base.cells++(x.s0.cells++(x.s1.cells++(i8C x.N++i8C x.T)))))[22+k]? =_
 have e:22+k=(21+k)+1:=by omega
 have l1:=Hts.cells_len hx.base
 have l2:=Hts.cells_len hx.s0
 have l3:=Hts.cells_len hx.s1
 have l4:=fv x.N
 have l5:=hx.nl
 rw[e,List.getElem?_cons_succ,List.getElem?_append_right (by omega),List.getElem?_append_right (by omega),List.getElem?_append_right (by omega),List.getElem?_append_left (by omega)]
 have e2:21+k-x.base.cells.length-x.s0.cells.length-x.s1.cells.length=k:=by omega
 rw[e2]
 exact Qz (by omega)
theorem Sketch.drop_b:x.cells.drop 1=x.base.cells++(x.s0.cells++(x.s1.cells++(i8C x.N++i8C x.T))):=rfl
theorem Sketch.cells_base:(x.cells.drop 1).take 7=x.base.cells:=by
 rw[Sketch.drop_b hx,List.take_left' (Hts.cells_len hx.base)]
theorem Sketch.cells_s0:(x.cells.drop 8).take 7=x.s0.cells:=by
 have e:x.cells.drop 8=(x.cells.drop 1).drop 7:=by rw[List.drop_drop]
 rw[e,Sketch.drop_b hx,List.drop_left' (Hts.cells_len hx.base),List.take_left' (Hts.cells_len hx.s0)]
theorem Sketch.cells_s1:(x.cells.drop 15).take 7=x.s1.cells:=by
 have e:x.cells.drop 15=((x.cells.drop 1).drop 7).drop 7:=by rw[List.drop_drop,List.drop_drop]
 rw[e,Sketch.drop_b hx,List.drop_left' (Hts.cells_len hx.base),List.drop_left' (Hts.cells_len hx.s0),List.take_left' (Hts.cells_len hx.s1)]
theorem Sketch.cells_T:(x.cells.drop 30).take 4=i8C x.T:=by
 have e:x.cells.drop 30=((((x.cells.drop 1).drop 7).drop 7).drop 7).drop 8:=by rw[List.drop_drop,List.drop_drop,List.drop_drop,List.drop_drop]
 have l5:(i8C x.N).length=8:=by rw[fv,hx.nl]
 have l6:(i8C x.T).length=4:=by rw[fv,hx.tl]
 rw[e,Sketch.drop_b hx,List.drop_left' (Hts.cells_len hx.base),List.drop_left' (Hts.cells_len hx.s0),List.drop_left' (Hts.cells_len hx.s1),List.drop_left' l5,List.take_of_length_le (by omega)]
theorem Sketch.n_ok{k:Nat}(hk:k<8):xE (x.n k):=hx.nk _ (pN (by rw[hx.nl];exact hk))
end
theorem Hts.cells_v{h:Hts}(hh:h.Ok) {k:Nat}(hk:k<6):h.cells[k]? =some (.int .i8 (h.v.getD k 0)):=by
 unfold Hts.cells
 rw[List.getElem?_append_left (by rw[fv,hh.len];exact hk)]
 exact Qz (by rw[hh.len];exact hk)
theorem Hts.cells_half{h:Hts}(hh:h.Ok):h.cells[6]? =some (.bool h.half):=by
 unfold Hts.cells
 rw[List.getElem?_append_right (by rw[fv,hh.len];omega),fv,hh.len]
 rfl
theorem Hts.v_ok{h:Hts}(hh:h.Ok) {k:Nat}(hk:k<6):xE (h.v.getD k 0):=hh.ok _ (pN (by rw[hh.len];exact hk))
theorem bS{C:List AV}{i:Nat}{v:AV}(h:C[i]? =some v):∀h,C[i]'h=v:=fun hi=>Option.some.inj ((List.getElem?_eq_getElem hi).symm.trans h)
theorem fg(n:Int):mkRat n 1=(n:Rat):=Rat.mkRat_self (n:Rat)
def Hts.d(h:Hts):Nat:=if h.half then 2 else 1
theorem RG(n:Int):hQ (2*n)=(n:Rat):=by
 rw[jU,Rat.intCast_mul]
 have:((2:Int):Rat)=2:=rfl
 rw[this]
 grind
theorem Hts.z_mk(h:Hts) (k:Nat):mkRat ((h.v.getD (k%6) 0).tmod 20) h.d=hQ (h.z k):=by
 unfold Hts.d Hts.z
 cases h.half
 ·simp only[Bool.false_eq_true,if_false]
  rw[fg,RG]
 ·simp only[if_true,Int.one_mul]
  rfl
end Go.Eng
namespace Go.Proofs
open Go.Eng
theorem DV(n:Int) (h:xE n) (M:Mem):ACallsTo Tryz.prog 28 [.int .i8 n] M (.int .i64 (fD n)) M:=by
 have hG:aN Tryz.prog 28=some Tryz.f28:=by kernel_rfl
 refine aq (ak _) (lv:=fun _=>[]) (K:=1) rfl rfl ?_ M
 unfold xE at h
 have w:IntKind.i64.wrap n=n:=ia (by omega) (by omega)
 simp[aa,hG,Tryz.f28,w,fD]
theorem La(n:Int) (h:xE n) (M:Mem):ACallsTo Tryz.prog 31 [.int .i8 n] M (.int .i64 (ps9 n)) M:=by
 have hG:aN Tryz.prog 31=some Tryz.f31:=by kernel_rfl
 refine aq (ak _) (lv:=fun _=>[]) (K:=1) rfl rfl ?_ M
 unfold xE at h
 have w:IntKind.i64.wrap n=n:=ia (by omega) (by omega)
 have q:=xp n 9 (by decide)
 simp only[Int.cast_ofNat_Int] at q
 unfold ps9
 obtain⟨a,ha⟩:∃a,a=n.tmod 9:=⟨_,rfl⟩
 rw[←ha] at q ⊢
 have w1:IntKind.i64.wrap (a+9)=a+9:=ia (by omega) (by omega)
 have q2:=xp (a+9) 9 (by decide)
 simp only[Int.cast_ofNat_Int] at q2
 obtain⟨b,hb⟩:∃b,b=(a+9).tmod 9:=⟨_,rfl⟩
 rw[←hb] at q2 ⊢
 have w2:IntKind.i64.wrap (1+b)=1+b:=ia (by omega) (by omega)
 simp[aa,hG,Tryz.f31,w,←ha,w1,←hb,w2]
theorem MR(v:Z3) (hv:Kt 10000 v) (M:Mem):ACallsTo Tryz.prog 19 [.int .i64 v.1,.int .i64 v.2.1,.int .i64 v.2.2] M (zA v) M:=by
 have hG:aN Tryz.prog 19=some Tryz.f19:=by kernel_rfl
 refine aq fP (lv:=fun _=>[]) (K:=1) rfl rfl ?_ M
 obtain⟨a,b,c⟩:=v
 obtain⟨h1,h2,h3⟩:=hv
 simp only at h1 h2 h3
 have g1:a.natAbs<100000000:=by omega
 have g2:b.natAbs<100000000:=by omega
 have g3:c.natAbs<100000000:=by omega
 simp[aa,hG,Tryz.f19,ai,dC,zA,zS,fg,g1,g2,g3,bx,aG]
theorem DP(a b c d:Int) (ha:a.natAbs≤30) (hb:b.natAbs≤30) (hc:c.natAbs≤30) (hd:d.natAbs≤30) (M:Mem):
  ACallsTo Tryz.prog 123 [.str (zS a),.str (zS b),.str (zS c),.str (zS d)] M (.str (zS (a*b-c*d))) M:=by
 have hG:aN Tryz.prog 123=some Tryz.f123:=by kernel_rfl
 have p1:=G9 ha hb
 have p2:=G9 hc hd
 have e1:(a:Rat)*(b:Rat)=((a*b:Int):Rat):=(Rat.intCast_mul a b).symm
 have e2:(c:Rat)*(d:Rat)=((c*d:Int):Rat):=(Rat.intCast_mul c d).symm
 obtain⟨x,hx⟩:∃x,x=a*b:=⟨_,rfl⟩
 obtain⟨y,hy⟩:∃x,x=c*d:=⟨_,rfl⟩
 rw[←hx] at p1 e1 ⊢
 rw[←hy] at p2 e2 ⊢
 have e3:(x:Rat)-(y:Rat)=((x-y:Int):Rat):=(Rat.intCast_sub x y).symm
 obtain⟨z,hz⟩:∃z,z=x-y:=⟨_,rfl⟩
 rw[←hz] at e3 ⊢
 have l1:=qw (n:=a) (by omega)
 have l2:=qw (n:=b) (by omega)
 have l3:=qw (n:=c) (by omega)
 have l4:=qw (n:=d) (by omega)
 have l5:=qw (n:=x) (by omega)
 have l6:=qw (n:=y) (by omega)
 have l7:(aB (-(y:Rat))).length≤9:=by
  rw[←Rat.intCast_neg]
  exact qw (n:= -y) (by omega)
 refine aq IJ (lv:=fun _=>[]) (K:=1) rfl rfl ?_ M
 simp[aa,hG,Tryz.f123,ai,yy,dC,zS,aC,l1,l2,l3,l4,l5,l6,l7,e1,e2,e3]
noncomputable def yB(f:FuncId) (args:List AV):Option AV:=
 match f,args with
 |123,[.str s,.str t,.str u,.str v]=>match dU s,dU t,dU u,dU v with
  |some a,some b,some c,some d=>if (a.den=1∧b.den=1∧c.den=1∧d.den=1)∧a.num.natAbs≤30∧b.num.natAbs≤30∧c.num.natAbs≤30∧d.num.natAbs≤30 then some (.str (zS (a.num*b.num-c.num*d.num))) else none
  |_,_,_,_=>none
 |_,_=>none
theorem IQ:OracleOk Tryz.prog (ai yB):=bM fun f args v h mem=>by
 unfold yB at h
 split at h
 ·split at h
  ·rename_i a b c d ha hb hc hd
   split at h
   ·rename_i hcond
    obtain⟨⟨d1,d2,d3,d4⟩,c1,c2,c3,c4⟩:=hcond
    cases h
    rw[aD ha,aD hb,aD hc,aD hd]
    have:=DP a.num b.num c.num d.num c1 c2 c3 c4 mem
    unfold zS at this ⊢
    rw[←kR d1,←kR d2,←kR d3,←kR d4] at this
    exact this
   ·cases h
  ·cases h
 ·cases h
set_option maxRecDepth 8192 in
set_option maxHeartbeats 3200000 in
theorem DI(a b:Z3) (ha:Kt 30 a) (hb:Kt 30 b) (M:Mem):ACallsTo Tryz.prog 72 [zA a,zA b] M (zA (oo a b)) M:=by
 have hG:aN Tryz.prog 72=some Tryz.f72:=by kernel_rfl
 obtain⟨a1,a2,a3⟩:=a
 obtain⟨b1,b2,b3⟩:=b
 obtain⟨h1,h2,h3⟩:=ha
 obtain⟨h4,h5,h6⟩:=hb
 simp only at h1 h2 h3 h4 h5 h6
 refine aq IQ (lv:=fun _=>[]) (K:=1) rfl rfl ?_ M
 obtain⟨ops,hops⟩:∃ops,aV Tryz.f72=[ops]:=⟨_,rfl⟩
 have hbs:=di hops (l:=[0,1,0,4,0,16,0,64,255,0,512,0,2048,0,8192,0,32768,131071,0,262144,0,1048576,0,4194304,0,16777216,67108863,134217727,268435455]) (by kernel_rfl)
 have hab:cU [0,1,0,4,0,16,0,64,255,0,512,0,2048,0,8192,0,32768,131071,0,262144,0,1048576,0,4194304,0,16777216,67108863,134217727,268435455] 28=true:=by decide
 simp[aV,cc,Tryz.f72] at hops
 subst hops
 have hp:∀n:Int,dU (zS n)=some (n:Rat):=fun n=>aC _
 unfold zA oo
 simp only
 obtain⟨A1,e1⟩:∃x,x=zS a1:=⟨_,rfl⟩
 obtain⟨A2,e2⟩:∃x,x=zS a2:=⟨_,rfl⟩
 obtain⟨A3,e3⟩:∃x,x=zS a3:=⟨_,rfl⟩
 obtain⟨B1,e4⟩:∃x,x=zS b1:=⟨_,rfl⟩
 obtain⟨B2,e5⟩:∃x,x=zS b2:=⟨_,rfl⟩
 obtain⟨B3,e6⟩:∃x,x=zS b3:=⟨_,rfl⟩
 have p1:dU A1=some (a1:Rat):=by rw[e1];exact hp _
 have p2:dU A2=some (a2:Rat):=by rw[e2];exact hp _
 have p3:dU A3=some (a3:Rat):=by rw[e3];exact hp _
 have p4:dU B1=some (b1:Rat):=by rw[e4];exact hp _
 have p5:dU B2=some (b2:Rat):=by rw[e5];exact hp _
 have p6:dU B3=some (b3:Rat):=by rw[e6];exact hp _
 rw[←e1,←e2,←e3,←e4,←e5,←e6]
 obtain⟨C1,f1⟩:∃x,x=zS (a2*b3-a3*b2):=⟨_,rfl⟩
 obtain⟨C2,f2⟩:∃x,x=zS (a3*b1-a1*b3):=⟨_,rfl⟩
 obtain⟨C3,f3⟩:∃x,x=zS (a1*b2-a2*b1):=⟨_,rfl⟩
 rw[←f1,←f2,←f3]
 simp[aa,hG,Tryz.f72,-aQ,aA hbs,bN,bF,bL,hab,ai,yB,p1,p2,p3,p4,p5,p6,h1,h2,h3,h4,h5,h6,←f1,←f2,←f3,bx,aG,Nat.testBit]
def zQ(v:Z3):V3:=((v.1:Rat),(v.2.1:Rat),(v.2.2:Rat))
def hV(v:Z3):V3:=(hQ v.1,hQ v.2.1,hQ v.2.2)
def dQ(x:Sketch):Z3:=if fD (x.n 0)=0∧fD (x.n 1)=0∧fD (x.n 2)=0 then (0,0,1) else (fD (x.n 0),fD (x.n 1),fD (x.n 2))
def tQ(x:Sketch):Z3:=oo (dQ x) (fD (x.n 3),fD (x.n 4),fD (x.n 5))
theorem tx(x:Sketch):Kt 9 (dQ x):=by
 unfold dQ
 split
 ·exact⟨by decide,by decide,by decide⟩
 ·exact⟨cC _,cC _,cC _⟩
theorem P6(x:Sketch):Qs (dQ x)=false:=by
 unfold dQ
 split
 ·rfl
 ·rename_i h
  simp only[Qs,Bool.and_eq_false_imp,Bool.and_eq_true,decide_eq_true_eq,decide_eq_false_iff_not]
  exact fun h1 h2=>h ⟨h1.1,h1.2,h2⟩
theorem Rw{a b:Int}(ha:a.natAbs≤9) (hb:b.natAbs≤9):(a*b).natAbs≤81:=by
 rw[Int.natAbs_mul]
 exact Nat.mul_le_mul ha hb
theorem yK(x:Sketch):Kt 162 (tQ x):=by
 obtain⟨h1,h2,h3⟩:=tx x
 have k3:=cC (x.n 3)
 have k4:=cC (x.n 4)
 have k5:=cC (x.n 5)
 have a1:=Rw h2 k5
 have a2:=Rw h3 k4
 have a3:=Rw h3 k3
 have a4:=Rw h1 k5
 have a5:=Rw h1 k4
 have a6:=Rw h2 k3
 unfold tQ oo Kt
 simp only
 omega
open Classical in
noncomputable def cQ(f:FuncId) (args:List AV):Option AV:=
 match f,args with
 |28,[.int .i8 n]=>if -128≤n∧n≤127 then some (.int .i64 (fD n)) else none
 |31,[.int .i8 n]=>if -128≤n∧n≤127 then some (.int .i64 (ps9 n)) else none
 |19,[.int .i64 a,.int .i64 b,.int .i64 c]=>if a.natAbs≤10000∧b.natAbs≤10000∧c.natAbs≤10000 then some (zA (a,b,c)) else none
 |72,[.agg [.str s,.str t,.str u],.agg [.str s',.str t',.str u']]=>match dU s,dU t,dU u,dU s',dU t',dU u' with
  |some a,some b,some c,some d,some e,some f=>if (a.den=1∧b.den=1∧c.den=1∧d.den=1∧e.den=1∧f.den=1)∧Kt 30 (a.num,b.num,c.num)∧Kt 30 (d.num,e.num,f.num) then some (zA (oo (a.num,b.num,c.num) (d.num,e.num,f.num))) else none
  |_,_,_,_,_,_=>none
 |27,[.int .i64 n,.int .i64 d]=>if 0<d∧n.natAbs<10 ^ 8∧d.toNat<10 ^ 8 then some (.str (aB (mkRat n d.toNat))) else none
 |_,_=>none
theorem rz:OracleOk Tryz.prog (ai cQ):=bM fun f args v h mem=>by
 unfold cQ at h
 split at h
 ·split at h
  ·rename_i hc;cases h;exact DV _ hc mem
  ·cases h
 ·split at h
  ·rename_i hc;cases h;exact La _ hc mem
  ·cases h
 ·split at h
  ·rename_i hc;cases h;exact MR (_,_,_) hc mem
  ·cases h
 ·split at h
  ·rename_i a b c d e f ha hb hc hd he hf
   split at h
   ·rename_i hcond
    obtain⟨⟨d1,d2,d3,d4,d5,d6⟩,c1,c2⟩:=hcond
    cases h
    rw[aD ha,aD hb,aD hc,aD hd,aD he,aD hf]
    have:=DI (a.num,b.num,c.num) (d.num,e.num,f.num) c1 c2 mem
    unfold zA at this
    simp only at this
    have k:∀q:Rat,q.den=1→zS q.num=aB q:=fun q hq=>by unfold zS;rw[←kR hq]
    rw[k a d1,k b d2,k c d3,k d d4,k e d5,k f d6] at this
    exact this
   ·cases h
  ·cases h
 ·split at h
  ·rename_i hc
   cases h
   have:=DC _ _ (by omega) hc.2.1 hc.2.2 mem
   rw[Int.toNat_of_nonneg (by omega)] at this
   exact this
  ·cases h
 ·cases h
set_option maxRecDepth 8192 in
set_option maxHeartbeats 3200000 in
theorem BP(x:Sketch) (hx:x.Ok) (M:Mem):ACallsTo Tryz.prog 26 [.agg x.cells] M (zA (dQ x)) M:=by
 have hG:aN Tryz.prog 26=some Tryz.f26:=by kernel_rfl
 refine aq rz (lv:=fun _=>[]) (K:=1) (by simp[AV.closeds,AV.closed,x.closed]) rfl ?_ M
 obtain⟨ops,hops⟩:∃ops,aV Tryz.f26=[ops]:=⟨_,rfl⟩
 have hbs:=di hops (l:=[0,1,3,7,0,16,48,127,0,256,768,2047,4095,8191,16383]) (by kernel_rfl)
 have hab:cU [0,1,3,7,0,16,48,127,0,256,768,2047,4095,8191,16383] 14=true:=by decide
 simp[aV,cc,Tryz.f26] at hops
 subst hops
 have l0:=Sketch.cells_len hx
 have r0:=cD x.closed
 have o0:=eU x.closed
 have i0:=Sketch.cells_n hx (k:=0) (by decide)
 have i1:=Sketch.cells_n hx (k:=1) (by decide)
 have i2:=Sketch.cells_n hx (k:=2) (by decide)
 simp only[Nat.reduceAdd] at i0 i1 i2
 have j0:=bS i0
 have j1:=bS i1
 have j2:=bS i2
 obtain⟨b0,c0⟩:=Sketch.n_ok hx (k:=0) (by decide)
 obtain⟨b1,c1⟩:=Sketch.n_ok hx (k:=1) (by decide)
 obtain⟨b2,c2⟩:=Sketch.n_ok hx (k:=2) (by decide)
 have s0:=cC (x.n 0)
 have s1:=cC (x.n 1)
 have s2:=cC (x.n 2)
 unfold dQ
 obtain⟨C,hC⟩:∃C,C=x.cells:=⟨_,rfl⟩
 rw[←hC] at l0 r0 o0 i0 i1 i2 j0 j1 j2 ⊢
 obtain⟨p,hp⟩:∃p,p=x.n 0:=⟨_,rfl⟩
 obtain⟨q,hq⟩:∃p,p=x.n 1:=⟨_,rfl⟩
 obtain⟨r,hr⟩:∃p,p=x.n 2:=⟨_,rfl⟩
 rw[←hp] at i0 j0 b0 c0 s0 ⊢
 rw[←hq] at i1 j1 b1 c1 s1 ⊢
 rw[←hr] at i2 j2 b2 c2 s2 ⊢
 obtain⟨v,hv⟩:∃v,v=fD q:=⟨_,rfl⟩
 obtain⟨w,hw⟩:∃v,v=fD r:=⟨_,rfl⟩
 obtain⟨u,hu⟩:∃v,v=fD p:=⟨_,rfl⟩
 rw[←hu] at s0 ⊢
 rw[←hv] at s1 ⊢
 rw[←hw] at s2 ⊢
 have g0:u.natAbs≤10000:=by omega
 have g1:v.natAbs≤10000:=by omega
 have g2:w.natAbs≤10000:=by omega
 have tk:C.take 34=C:=List.take_of_length_le (by omega)
 clear hC hp hq hr
 by_cases k0:u=0
 ·by_cases k1:v=0
  ·by_cases k2:w=0
   ·rw[if_pos ⟨k0,k1,k2⟩]
    subst k0 k1 k2
    simp[aa,hG,Tryz.f26,-aQ,aA hbs,bN,bF,bL,hab,ai,cQ,l0,j0,j1,j2,b0,c0,b1,c1,b2,c2,←hu,←hv,←hw,Nat.testBit,zA]
   ·rw[if_neg fun h=>k2 h.2.2]
    subst k0 k1
    simp[aa,hG,Tryz.f26,-aQ,aA hbs,bN,bF,bL,hab,ai,cQ,l0,j0,j1,j2,b0,c0,b1,c1,b2,c2,←hu,←hv,←hw,Nat.testBit,zA,k2,g2]
  ·rw[if_neg fun h=>k1 h.2.1]
   subst k0
   simp[aa,hG,Tryz.f26,-aQ,aA hbs,bN,bF,bL,hab,ai,cQ,l0,j0,j1,j2,b0,c0,b1,c1,b2,c2,←hu,←hv,←hw,Nat.testBit,zA,k1,g1,g2]
 ·rw[if_neg fun h=>k0 h.1]
  simp[aa,hG,Tryz.f26,-aQ,aA hbs,bN,bF,bL,hab,ai,cQ,l0,j0,j1,j2,b0,c0,b1,c1,b2,c2,←hu,←hv,←hw,Nat.testBit,zA,k0,g0,g1,g2]
open Classical in
noncomputable def fF(x:Sketch) (f:FuncId) (args:List AV):Option AV:=
 match f,args with
 |26,[.agg cs]=>if cs=x.cells then some (zA (dQ x)) else none
 |f,args=>cQ f args
theorem yA{x:Sketch}(hx:x.Ok):OracleOk Tryz.prog (ai (fF x)):=bM fun f args v h mem=>by
 unfold fF at h
 split at h
 ·split at h
  ·rename_i hc;cases h;rw[hc];exact BP x hx mem
  ·cases h
 ·have:=rz.fn _ _ mem ⟨v,none,[]⟩ (by unfold ai;simp only;rw[h])
  simpa [CallRes.mem] using this
theorem QC(n:Int):dU (zS n)=some (n:Rat):=aC _
set_option maxRecDepth 8192 in
set_option maxHeartbeats 3200000 in
theorem BK(x:Sketch) (hx:x.Ok) (M:Mem):ACallsTo Tryz.prog 30 [.agg x.cells] M (zA (tQ x)) M:=by
 have hG:aN Tryz.prog 30=some Tryz.f30:=by kernel_rfl
 refine aq (yA hx) (lv:=fun _=>[]) (K:=1) (by simp[AV.closeds,AV.closed,x.closed]) rfl ?_ M
 obtain⟨ops,hops⟩:∃ops,aV Tryz.f30=[ops]:=⟨_,rfl⟩
 have hbs:=di hops (l:=[0,1,0,4,12,31,0,64,192,511,0,1024,3072,8191,16383,32767,65535]) (by kernel_rfl)
 have hab:cU [0,1,0,4,12,31,0,64,192,511,0,1024,3072,8191,16383,32767,65535] 16=true:=by decide
 simp[aV,cc,Tryz.f30] at hops
 subst hops
 have l0:=Sketch.cells_len hx
 have r0:=cD x.closed
 have o0:=eU x.closed
 have i0:=Sketch.cells_n hx (k:=3) (by decide)
 have i1:=Sketch.cells_n hx (k:=4) (by decide)
 have i2:=Sketch.cells_n hx (k:=5) (by decide)
 simp only[Nat.reduceAdd] at i0 i1 i2
 have j0:=bS i0
 have j1:=bS i1
 have j2:=bS i2
 obtain⟨b0,c0⟩:=Sketch.n_ok hx (k:=3) (by decide)
 obtain⟨b1,c1⟩:=Sketch.n_ok hx (k:=4) (by decide)
 obtain⟨b2,c2⟩:=Sketch.n_ok hx (k:=5) (by decide)
 have s0:=cC (x.n 3)
 have s1:=cC (x.n 4)
 have s2:=cC (x.n 5)
 have nl:=tx x
 have hcr:tQ x=oo (dQ x) (fD (x.n 3),fD (x.n 4),fD (x.n 5)):=rfl
 obtain⟨C,hC⟩:∃C,C=x.cells:=⟨_,rfl⟩
 have hC' :x.cells=C:=hC.symm
 rw[←hC] at l0 r0 o0 i0 i1 i2 j0 j1 j2 ⊢
 obtain⟨p,hp⟩:∃p,p=x.n 3:=⟨_,rfl⟩
 obtain⟨q,hq⟩:∃p,p=x.n 4:=⟨_,rfl⟩
 obtain⟨r,hr⟩:∃p,p=x.n 5:=⟨_,rfl⟩
 rw[←hp] at i0 j0 b0 c0 s0 hcr
 rw[←hq] at i1 j1 b1 c1 s1 hcr
 rw[←hr] at i2 j2 b2 c2 s2 hcr
 obtain⟨v,hv⟩:∃v,v=fD q:=⟨_,rfl⟩
 obtain⟨w,hw⟩:∃v,v=fD r:=⟨_,rfl⟩
 obtain⟨u,hu⟩:∃v,v=fD p:=⟨_,rfl⟩
 rw[←hu] at s0 hcr
 rw[←hv] at s1 hcr
 rw[←hw] at s2 hcr
 have g0:u.natAbs≤10000:=by omega
 have g1:v.natAbs≤10000:=by omega
 have g2:w.natAbs≤10000:=by omega
 have z2:Kt 30 (u,v,w):=⟨by show u.natAbs≤30;omega,by show v.natAbs≤30;omega,by show w.natAbs≤30;omega⟩
 have tk:C.take 34=C:=List.take_of_length_le (by omega)
 obtain⟨⟨nx,ny,nz⟩,hn⟩:∃n,n=dQ x:=⟨_,rfl⟩
 rw[←hn] at nl hcr
 have z1:Kt 30 (nx,ny,nz):=⟨by have:=nl.1;show nx.natAbs≤30;simp only at this;omega,by have:=nl.2.1;show ny.natAbs≤30;simp only at this;omega,by have:=nl.2.2;show nz.natAbs≤30;simp only at this;omega⟩
 rw[hcr]
 clear hcr
 obtain⟨⟨cx,cy,cz⟩,hc⟩:∃n,n=oo (nx,ny,nz) (u,v,w):=⟨_,rfl⟩
 rw[←hc]
 simp[aa,hG,Tryz.f30,-aQ,aA hbs,bN,bF,bL,hab,ai,fF,cQ,hC',l0,o0,j0,j1,j2,tk,b0,c0,b1,c1,b2,c2,←hn,←hu,←hv,←hw,Nat.testBit,zA,g0,g1,g2,QC,z1,z2,←hc]
theorem RC(n:Int):(n:Rat)*hQ 1=hQ n:=by
 rw[jU,jU]
 have:((1:Int):Rat)=1:=rfl
 rw[this]
 grind
theorem Ol:dU [49,47,50]=some (hQ 1):=aC (hQ 1)
set_option maxRecDepth 8192 in
set_option maxHeartbeats 3200000 in
theorem H5(v:Z3) (hv:Kt 162 v) (M:Mem):ACallsTo Tryz.prog 29 [zA v,.str [49,47,50]] M (vA (hV v)) M:=by
 have hG:aN Tryz.prog 29=some Tryz.f29:=by kernel_rfl
 refine aq fP (lv:=fun _=>[]) (K:=1) rfl rfl ?_ M
 obtain⟨ops,hops⟩:∃ops,aV Tryz.f29=[ops]:=⟨_,rfl⟩
 have hbs:=di hops (l:=[0,1,0,7,0,16,0,127,0,256,0,2047,4095,8191]) (by kernel_rfl)
 have hab:cU [0,1,0,7,0,16,0,127,0,256,0,2047,4095,8191] 13=true:=by decide
 simp[aV,cc,Tryz.f29] at hops
 subst hops
 obtain⟨a,b,c⟩:=v
 obtain⟨h1,h2,h3⟩:=hv
 simp only at h1 h2 h3
 have l1:=qw (n:=a) (by omega)
 have l2:=qw (n:=b) (by omega)
 have l3:=qw (n:=c) (by omega)
 have l4:(aB (hQ 1)).length≤9:=y7 (by decide)
 simp[aa,hG,Tryz.f29,-aQ,aA hbs,bN,bF,bL,hab,ai,dC,zA,vA,hV,QC,Ol,l1,l2,l3,l4,RC,bx,aG,Nat.testBit]
end Go.Proofs
