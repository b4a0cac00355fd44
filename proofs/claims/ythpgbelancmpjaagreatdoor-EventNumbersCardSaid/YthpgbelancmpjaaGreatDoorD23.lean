/- See D38. -/
import Derived.Test.YthpgbelancmpjaaGreatDoorD22
set_option linter.all false
set_option maxRecDepth 100000
set_option maxHeartbeats 40000000
namespace Go.Proofs
open Go.Eng
def WK(a b c:P2):Prop:=((ek a.1/\ek a.2)/\(ek b.1/\ek b.2)/\ek c.1/\ek c.2)/\(ek (b.1-a.1)/\ek (c.2-a.2)/\ek (b.2-a.2)/\ek (c.1-a.1))/\ek ((b.1-a.1)*(c.2-a.2))/\ek ((b.2-a.2)*(c.1-a.1))
def Ug(A B C q:P2):Prop:=WK B C q/\WK C A q/\WK A B q
structure ahQ (P:List P2)(T:List Tr)(q:P2):Prop where
 tri:∀(i:Nat) t,T[i]? =some t->∃A B C,P[t.1]? =some A/\P[t.2.1]? =some B/\P[t.2.2]? =some C/\Ug A B C q
 hl:P.length<=1000/\T.length<=1000
section
variable {P:List P2}{T:List Tr}{v:V3}
end
end Go.Proofs
namespace Go.Proofs
open Go.Eng
open Tryz
def slX(A B C:P2)(f g h:Rat):P2:=(1 / cf A B C*((g-f)*(C.2-A.2)-(B.2-A.2)*(h-f)),1 / cf A B C*((B.1-A.1)*(h-f)-(g-f)*(C.1-A.1)))
def VP(A B C:P2)(f g h:Rat):V3:=(-(slX A B C f g h).1,-(slX A B C f g h).2,1)
theorem W3{A B C q:P2}{f g h z:Rat}(hS:cf A B C≠0):gw (VP A B C f g h) (q.1,q.2,z)-gw (VP A B C f g h) (A.1,A.2,f)=z-DV (qi A B C q) f g h:=by
 have X:=Gw A B C q;unfold VP slX gw DV qi;simp only;rw[X];obtain⟨S,Z⟩:=xE (cf A B C);have e:S=(B.1-A.1)*(C.2-A.2)-(B.2-A.2)*(C.1-A.1):=Z;rw[<-Z] at hS |-;have U:=Rat.div_mul_cancel (a:=1) hS;obtain⟨w,V⟩:=xE (1 / S);rw[<-V] at U |-;have R:∀x:Rat,x / S=x*w:=fun x=>by rw[V,Rat.div_def,Rat.div_def,Rat.one_mul]
 rw[R];unfold cf
 grind
def GZ(A B C:P2)(t:Tr)(Q:List Rat):V3×Rat:=(VP A B C (Q.getD t.1 0) (Q.getD t.2.1 0) (Q.getD t.2.2 0),gw (VP A B C (Q.getD t.1 0) (Q.getD t.2.1 0) (Q.getD t.2.2 0)) (A.1,A.2,Q.getD t.1 0))
def Uq(p:V3):List (V3×Rat)->Nat
 | []=>0
 |w::l=>(if w.2<=gw w.1 p then 1 else 0)+Uq p l
theorem Wg{A B C:P2}{t:Tr}{p:V3}(hS:cf A B C≠0):∀L:List (List Rat),Uq p (L.map (GZ A B C t))=RS p.2.2 (L.map fun Q=>DV (qi A B C (p.1,p.2.1)) (Q.getD t.1 0) (Q.getD t.2.1 0) (Q.getD t.2.2 0))
 | []=>rfl
 |Q::L=>by
  rw[List.map_cons,List.map_cons,Uq,RS,Wg hS L];have:=W3 (f:=Q.getD t.1 0) (g:=Q.getD t.2.1 0) (h:=Q.getD t.2.2 0) (q:=(p.1,p.2.1)) (z:=p.2.2) hS;have e:(GZ A B C t Q).2<=gw (GZ A B C t Q).1 p↔DV (qi A B C (p.1,p.2.1)) (Q.getD t.1 0) (Q.getD t.2.1 0) (Q.getD t.2.2 0)<=p.2.2:=by unfold GZ;simp only at this |-;constructor<;>intro h<;>grind
  by_cases c:(GZ A B C t Q).2<=gw (GZ A B C t Q).1 p
  .rw[if_pos c,if_pos (e.1 c)]
  .rw[if_neg c,if_neg fun h=>c (e.2 h)]
theorem Tx{x S V:Rat}(hS:0<S)(h:x*S<=V*S):x<=V:=by
 rcases (Rat.le_total:x<=V\/V<=x) with h1 | h1
 .exact h1
 .by_cases Z:x=V
  .rw[Z];exact Rat.le_refl
  .have:=Rat.mul_pos (show 0<x-V by grind) hS
   grind
theorem Tb{w:V3}{a b c H I c' :Rat}(h1:0<=w.1)(h2:0<=w.2.1)(h3:0<=w.2.2)(hs:0<w.1+w.2.1+w.2.2)(J:a<=H)(W:b<=I)(hc:c<=c'):DV w a b c<=DV w H I c' :=by
 unfold DV;obtain⟨S,hS⟩:=xE (w.1+w.2.1+w.2.2);rw[<-hS] at hs |-;have Z:S≠0:=by grind
 have X:=Rat.mul_nonneg h1 (show 0<=H -a by grind);have V:=Rat.mul_nonneg h2 (show 0<=I -b by grind);have U:=Rat.mul_nonneg h3 (show 0<=c' -c by grind);refine Tx hs ?_;rw[Rat.div_mul_cancel Z,Rat.div_mul_cancel Z]
 grind
theorem W5{Y H :List Int}(h:∀(i:Nat) z y,Y[i]? =some z->H[i]? =some y->z<=y)(I:Y.length=H.length)(i:Nat):(qH Y).getD i 0<=(qH H).getD i 0:=by
 unfold qH;by_cases U:i<Y.length
 .obtain⟨z,Z⟩:∃z,Y[i]? =some z:=⟨_,GT U⟩
  obtain⟨y,X⟩:∃z,H[i]? =some z:=⟨_,GT (by omega)⟩
  have:=h i z y Z X;simp only[List.getD,Zo,Z,X,Option.map_some,Option.getD_some];unfold hQ;have V:∀n:Int,mkRat n 2=(n:Rat)*mkRat 1 2:=fun n=>by rw[Rat.mkRat_eq_div,Rat.mkRat_eq_div,Rat.div_def,Rat.div_def];show _=_*(1*_);rw[Rat.one_mul]
  rw[V z,V y];have e:=Rat.intCast_le_intCast.2 this;have k:(0:Rat)<=mkRat 1 2:=by decide
  have:=Rat.mul_nonneg (show 0<=(y:Rat)-(z:Rat) by grind) k
  grind
 .simp only[List.getD,Zo,List.getElem?_eq_none (show Y.length<=i by omega),List.getElem?_eq_none (show H.length<=i by omega),Option.map_none,Option.getD_none]
  exact Rat.le_refl
theorem Qh(q:Rat)(H:(ao q).length<=1000000000)(mem:Mem):kO prog 107 [.str (ao q)] mem (.str (ao (-q))) mem:=by
 have X:aX prog 107=some f107:=by kernel_rfl
 refine aA (az _) ?_ mem;by_cases Z:q=0
 .subst Z
  simp[aa,X,f107,be]
 .have N:¬q.num=0:=fun e=>Z (mQ.1 e)
  by_cases S:q.num<0
  .have e:=jq S
   have V:(45::ao (-q)==[48])=false:=by rw[<-e,be];simpa using Z
   rw[e];have h3:(1:Int)<=((ao (-q)).length:Int)+1:=by omega
   simp[aa,X,f107,V,h3]
  .have e:=mW (q:=q) (by omega)
   obtain⟨c,r,U,R⟩:=kU (q:=q) (by omega);have V:(c::r==[48])=false:=by rw[<-U,be];simpa using Z
   have O:=fy R;rw[e,U];rw[U] at H;simp only[List.length_cons] at H;have h3:1+(r.length+1)<=9223372036854775807:=by omega
   simp[aa,X,f107,V,O,h3,fM]
noncomputable def fG(f:FuncId)(args:List AV):Option AV:=
 match f,args with
 |37,[.int .i64 n,.int .i64 d]=>if 0<d/\n.natAbs<10 ^ 8/\d.toNat<10 ^ 8 then some (.str (ao (mkRat n d.toNat))) else none
 |90,[.str s,.str t]=>match dY s,dY t with
  |some a,some b=>if (ao a).length<=9/\(ao b).length<=9 then some (.str (ao (a+b))) else none
  |_,_=>none
 |94,[.str s,.str t]=>match dY s,dY t with
  |some a,some b=>if (ao a).length<=9/\(ao b).length<=9 then some (.str (ao (a*b))) else none
  |_,_=>none
 |107,[.str s]=>match dY s with
  |some a=>if (ao a).length<=9 then some (.str (ao (-a))) else none
  |none=>none
 |_,_=>none
theorem jh:qS prog (ag fG):=bP fun f U v h mem=>by
 unfold fG at h;split at h
 .rename_i n d
  split at h
  .rename_i Z
   cases h;have:=AZ n d.toNat (by omega) Z.2.1 Z.2.2 mem;rw[QQd (by omega)] at this;exact this
  .cases h
 .split at h
  .rename_i m n X V
   split at h
   next Z=>cases h;rw[au X,au V];exact Qf m n Z.1 Z.2 mem
   .cases h
  .cases h
 .split at h
  .rename_i m n X V
   split at h
   next Z=>cases h;rw[au X,au V];exact Qg m n Z.1 Z.2 mem
   .cases h
  .cases h
 .split at h
  .rename_i m X
   split at h
   next Z=>cases h;rw[au X];exact Qh m (by omega) mem
   .cases h
  .cases h
 .cases h
theorem Qi(a b:Rat)(H:(ao a).length<=9)(I:(ao b).length<=9)(J:(ao (-b)).length<=9)(mem:Mem):
  kO prog 53 [.str (ao a),.str (ao b)] mem (.str (ao (a-b))) mem:=by
 have Z:aX prog 53=some f53:=by kernel_rfl
 refine aA jh ?_ mem;have e:a+ -b=a-b:=(Rat.sub_eq_add_neg a b).symm;simp[aa,Z,f53,ag,fG,aB,H,I,J,e]
def zS(n:Int):List UInt8:=ao (n:Rat)
variable{n:Int}
theorem tV(h:n.natAbs<10 ^ 4):(ao (n:Rat)).length<=9:=by
 have e:ao (n:Rat)=bL n:=by unfold ao;simp
 rw[e];have Z:=dn n;have X:(ai n.natAbs).length<=4:=aN (by omega) h;omega
noncomputable def BD(f:FuncId)(args:List AV):Option AV:=
 match f,args with
 |53,[.str s,.str t]=>match dY s,dY t with
  |some a,some b=>if (ao a).length<=9/\(ao b).length<=9/\(ao (-b)).length<=9 then some (.str (ao (a-b))) else none
  |_,_=>none
 |f,args=>fG f args
theorem NO:qS prog (ag BD):=bP fun f X v h mem=>by
 unfold BD at h;split at h
 .split at h
  .rename_i m n V U
   split at h
   next Z=>cases h;rw[au V,au U];exact Qi m n Z.1 Z.2.1 Z.2.2 mem
   .cases h
  .cases h
 .have:=jh.fn _ _ mem ⟨v,none,[]⟩ (by unfold ag;simp only;rw[h])
  simpa [afh.mem] using this
theorem LK{a b:Int}(H:a.natAbs<=30)(I:b.natAbs<=30):(a*b).natAbs<=900:=by rw[QQg];exact Nat.mul_le_mul H I
abbrev Z3:=Int×Int×Int
def zA(v:Z3):AV:=.agg [.str (zS v.1),.str (zS v.2.1),.str (zS v.2.2)]
def PD(n:Nat)(v:Z3):Prop:=v.1.natAbs<=n/\v.2.1.natAbs<=n/\v.2.2.natAbs<=n
instance (n:Nat) (v:Z3):Decidable (PD n v):=inferInstanceAs (Decidable (v.1.natAbs<=n/\v.2.1.natAbs<=n/\v.2.2.natAbs<=n))
theorem kY(h0: -1000000<=n)(h1:n<=1000000):IntKind.i64.wrap n=n:=by rw[af]
def rM(a b:Z3):Z3:=(a.2.1*b.2.2-a.2.2*b.2.1,a.2.2*b.1-a.1*b.2.2,a.1*b.2.1-a.2.1*b.1)
def We(v:Z3):Bool:=decide (v.1=0)&&decide (v.2.1=0)&&decide (v.2.2=0)
theorem nZ{q:Rat}(h:q.den=1):q=(q.num:Rat):=Rat.ext rfl h
end Go.Proofs
namespace Go.Eng
structure Hts where
 v:List Int
 half:Bool
def i8C(l:List Int):List AV:=l.map fun n=>.int .i8 n
def Hts.cells(h:Hts):List AV:=i8C h.v++[.bool h.half]
structure Hts.Ok (h:Hts):Prop where
 len:h.v.length=6
 ok:∀n∈h.v,AD n
structure afg where
 kind:Nat
 base:Hts
 s0:Hts
 s1:Hts
 N:List Int
 T:List Int
def afg.cells(x:afg):List AV:=.int .u8 x.kind::(x.base.cells++(x.s0.cells++(x.s1.cells++(i8C x.N++i8C x.T))))
structure afg.Ok (x:afg):Prop where
 kind:x.kind<256
 base:x.base.Ok
 s0:x.s0.Ok
 s1:x.s1.Ok
 nl:x.N.length=8
 nk:∀n∈x.N,AD n
 tl:x.T.length=4
 tk:∀n∈x.T,AD n
theorem iG(l:List Int):(i8C l).length=l.length:=by simp[i8C]
theorem nX:∀l:List Int,AV.afm (i8C l)=true
 | []=>rfl
 |n::l=>by have:=nX l;simp only[i8C] at this;simp[i8C,AV.afm,AV.closed,this]
section
variable{k:Nat}{l:List Int}
theorem Wl(h:k<l.length):(i8C l)[k]? =some (.int .i8 (l.getD k 0)):=by simp[i8C,List.getD_eq_getElem?_getD,GT h]
theorem mN(h:k<l.length):l.getD k 0∈l:=by rw[List.getD_eq_getElem?_getD,GT h];exact List.getElem_mem _
end
def ie(n:Int):Int:=n.tmod 10
def ps9(n:Int):Int:=1+(n.tmod 9+9).tmod 9
def ct3(n:Int):Int:=1+(n.tmod 3+3).tmod 3
theorem dG(n:Int):(ie n).natAbs<=9:=by have:=Ao n 10 (by decide);unfold ie;simp only[Int.cast_ofNat_Int] at this;omega
theorem mT(n:Int):1<=ps9 n/\ps9 n<=9:=by have h:=Ao n 9 (by decide);have Z:=Ao (n.tmod 9+9) 9 (by decide);have h3:=Int.tmod_nonneg 9 (a:=n.tmod 9+9) (by simp only[Int.cast_ofNat_Int] at h;omega);unfold ps9;simp only[Int.cast_ofNat_Int] at h Z;omega
theorem OZ(n:Int):1<=ct3 n/\ct3 n<=3:=by have h:=Ao n 3 (by decide);have Z:=Ao (n.tmod 3+3) 3 (by decide);have h3:=Int.tmod_nonneg 3 (a:=n.tmod 3+3) (by simp only[Int.cast_ofNat_Int] at h;omega);unfold ct3;simp only[Int.cast_ofNat_Int] at h Z;omega
def afg.n(x:afg)(i:Nat):Int:=x.N.getD i 0
def afg.t(x:afg)(i:Nat):Int:=x.T.getD i 0
def Hts.z(h:Hts)(k:Nat):Int:=(if h.half then 1 else 2)*(h.v.getD (k%6) 0).tmod 20
def Hts.l(h:Hts)(n:Nat):List Int:=(List.range n).map h.z
variable{k:Nat}{l:List Int}
theorem Hts.afJ(h:Hts)(n:Nat):(h.l n).length=n:=by simp[Hts.l]
theorem Hts.ahu(h:Hts)(n:Nat):h.l (n+1)=h.l n++[h.z n]:=by simp[Hts.l,List.range_succ]
theorem Hts.ag0(h:Hts)(k:Nat):(h.z k).natAbs<=38:=by have:=Ao (h.v.getD (k%6) 0) 20 (by decide);unfold Hts.z;simp only[Int.cast_ofNat_Int] at this;split<;>omega
def upL(h:Hts)(L:List Int)(n:Nat):List Int:=(List.range n).map fun k=>L.getD k 0+(h.z k).natAbs
theorem fE(h:Hts)(L:List Int)(n:Nat):(upL h L n).length=n:=by simp[upL]
theorem PA(h:Hts)(L:List Int)(n:Nat):upL h L (n+1)=upL h L n++[L.getD n 0+(h.z n).natAbs]:=by simp[upL,List.range_succ]
def afg.at(x:afg):Nat->Int
 |0=>ie (x.n 6)
 |i+1=>x.at i+ps9 (x.n ((i+3)%8))
def afg.val(x:afg)(i:Nat):Int:=ie (x.n ((i+7)%8))
def afg.ahY(x:afg)(i:Nat):Rat×Rat:=((x.at i:Int),hQ (x.val i))
def afg.afI(x:afg)(c:Nat):List (Rat×Rat):=(List.range c).map x.ahY
theorem afg.afR(x:afg)(c:Nat):(x.afI c).length=c:=by simp[afg.afI]
theorem afg.ahv(x:afg):∀i,(x.at i).natAbs<=9+9*i
 |0=>dG _
 |i+1=>by
  have Z:=x.ahv i;have X:=mT (x.n ((i+3)%8));show(x.at i+ps9 (x.n ((i+3)%8))).natAbs<=_
  omega
theorem afg.ahR(x:afg)(i:Nat):x.at i<x.at (i+1):=by
 have Z:=mT (x.n ((i+3)%8));show x.at i<x.at i+ps9 (x.n ((i+3)%8))
 omega
variable{vs:List AV}
theorem fq(h:AV.afm vs=true)(n:Nat):AV.afy n vs=[]:=AV.afL (Nat.zero_le n) (bj h)
theorem ib(h:AV.afm vs=true)(f:Nat->Bool):AV.afn f vs=true:=AV.afF (k:=0) (fun b Z=>absurd Z (Nat.not_lt_zero b)) (bj h)
theorem xP{a b:List AV}(H:AV.afm a=true)(I:AV.afm b=true):AV.afm (a++b)=true:=by
 induction a with
 |nil=>exact I
 |cons x a ih=>
  simp only[AV.afm,C0,List.cons_append] at H |-;exact⟨H.1,ih H.2⟩
theorem Hts.closed(h:Hts):AV.afm h.cells=true:=xP (nX _) rfl
theorem afg.closed(x:afg):AV.afm x.cells=true:=by
 show AV.afm ([.int .u8 x.kind]++(x.base.cells++(x.s0.cells++(x.s1.cells++(i8C x.N++i8C x.T)))))=true
 exact xP rfl (xP x.base.closed (xP x.s0.closed (xP x.s1.closed (xP (nX _) (nX _)))))
variable{h:Hts}
theorem Hts.afo(H:h.Ok):h.cells.length=7:=by unfold Hts.cells;rw[SP,iG,H.len];rfl
section
variable {x:afg}(hx:x.Ok)
include hx
theorem afg.afo:x.cells.length=34:=by unfold afg.cells;simp only[List.length_cons,SP,Hts.afo hx.base,Hts.afo hx.s0,Hts.afo hx.s1,iG,hx.nl,hx.tl]
theorem afg.af5:x.cells[0]? =some (.int .u8 x.kind):=by rfl
theorem afg.afs(H:k<8):x.cells[22+k]? =some (.int .i8 (x.n k)):=by
 show(AV.int .u8 x.kind::(x.base.cells++(x.s0.cells++(x.s1.cells++(i8C x.N++i8C x.T)))))[22+k]? =_
 have e:22+k=(21+k)+1:=by omega
 have X:=Hts.afo hx.base;have V:=Hts.afo hx.s0;have U:=Hts.afo hx.s1;have S:=iG x.N;have R:=hx.nl;rw[e,List.getElem?_cons_succ,V1 (by omega),V1 (by omega),V1 (by omega),GE (by omega)];have Z:21+k-x.base.cells.length-x.s0.cells.length-x.s1.cells.length=k:=by omega
 rw[Z];exact Wl (by omega)
theorem afg.agz:x.cells.drop 1=x.base.cells++(x.s0.cells++(x.s1.cells++(i8C x.N++i8C x.T))):=rfl
theorem afg.agb:(x.cells.drop 1).take 7=x.base.cells:=by rw[afg.agz hx,List.take_left' (Hts.afo hx.base)]
theorem afg.agW:(x.cells.drop 8).take 7=x.s0.cells:=by
 have e:x.cells.drop 8=(x.cells.drop 1).drop 7:=by rw[QQk]
 rw[e,afg.agz hx,List.drop_left' (Hts.afo hx.base),List.take_left' (Hts.afo hx.s0)]
theorem afg.agX:(x.cells.drop 15).take 7=x.s1.cells:=by
 have e:x.cells.drop 15=((x.cells.drop 1).drop 7).drop 7:=by rw[QQk,QQk]
 rw[e,afg.agz hx,List.drop_left' (Hts.afo hx.base),List.drop_left' (Hts.afo hx.s0),List.take_left' (Hts.afo hx.s1)]
theorem afg.ahc:(x.cells.drop 30).take 4=i8C x.T:=by
 have e:x.cells.drop 30=((((x.cells.drop 1).drop 7).drop 7).drop 7).drop 8:=by rw[QQk,QQk,QQk,QQk]
 have Z:(i8C x.N).length=8:=by rw[iG,hx.nl]
 have X:(i8C x.T).length=4:=by rw[iG,hx.tl]
 rw[e,afg.agz hx,List.drop_left' (Hts.afo hx.base),List.drop_left' (Hts.afo hx.s0),List.drop_left' (Hts.afo hx.s1),List.drop_left' Z,B5 (by omega)]
theorem afg.afV(H:k<8):AD (x.n k):=hx.nk _ (mN (by rw[hx.nl];exact H))
end
theorem Hts.ahd(H:h.Ok)(I:k<6):h.cells[k]? =some (.int .i8 (h.v.getD k 0)):=by unfold Hts.cells;rw[GE (by rw[iG,H.len];exact I)];exact Wl (by rw[H.len];exact I)
theorem Hts.agD(H:h.Ok):h.cells[6]? =some (.bool h.half):=by unfold Hts.cells;rw[V1 (by rw[iG,H.len];omega),iG,H.len];rfl
theorem Hts.ah4(H:h.Ok)(I:k<6):AD (h.v.getD k 0):=H.ok _ (mN (by rw[H.len];exact I))
theorem cV{C:List AV}{i:Nat}{v:AV}(h:C[i]? =some v):∀h,C[i]'h=v:=fun Z=>ZQ ((GT Z).symm.trans h)
theorem iw(n:Int):mkRat n 1=(n:Rat):=Rat.mkRat_self (n:Rat)
def Hts.d(h:Hts):Nat:=if h.half then 2 else 1
theorem XF(n:Int):hQ (2*n)=(n:Rat):=by
 rw[mO,Rat.intCast_mul];have:((2:Int):Rat)=2:=rfl;rw[this]
 grind
theorem Hts.ah5(h:Hts)(k:Nat):mkRat ((h.v.getD (k%6) 0).tmod 20) h.d=hQ (h.z k):=by
 unfold Hts.d Hts.z;cases h.half
 .simp only[Bool.false_eq_true,if_false]
  rw[iw,XF]
 .simp only[if_true,Int.one_mul]
  rfl
end Go.Eng
namespace Go.Proofs
open Go.Eng
open Tryz
theorem If(n:Int)(h:AD n)(M:Mem):kO prog 38 [.int .i8 n] M (.int .i64 (ie n)) M:=by
 have Z:aX prog 38=some f38:=by kernel_rfl
 refine aA (az _) ?_ M;unfold AD at h;have w:IntKind.i64.wrap n=n:=kY (by omega) (by omega);simp[aa,Z,f38,w,ie]
theorem Qt(n:Int)(h:AD n)(M:Mem):kO prog 41 [.int .i8 n] M (.int .i64 (ps9 n)) M:=by
 have U:aX prog 41=some f41:=by kernel_rfl
 refine aA (az _) ?_ M;unfold AD at h;have w:IntKind.i64.wrap n=n:=kY (by omega) (by omega);have q:=Ao n 9 (by decide);simp only[Int.cast_ofNat_Int] at q;unfold ps9;obtain⟨a,Z⟩:=xE (n.tmod 9);rw[<-Z] at q |-;have w1:IntKind.i64.wrap (a+9)=a+9:=kY (by omega) (by omega);have X:=Ao (a+9) 9 (by decide);simp only[Int.cast_ofNat_Int] at X;obtain⟨b,V⟩:=xE ((a+9).tmod 9);rw[<-V] at X |-;have w2:IntKind.i64.wrap (1+b)=1+b:=kY (by omega) (by omega);simp[aa,U,f41,w,<-Z,w1,<-V,w2]
theorem RZ(v:Z3)(H:PD 10000 v)(M:Mem):kO prog 30 [.int .i64 v.1,.int .i64 v.2.1,.int .i64 v.2.2] M (zA v) M:=by
 have Z:aX prog 30=some f30:=by kernel_rfl
 refine aA jh ?_ M;obtain⟨a,b,c⟩:=v;obtain⟨X,V,h3⟩:=H;simp only at X V h3;have U:a.natAbs<100000000:=by omega
 have S:b.natAbs<100000000:=by omega
 have g3:c.natAbs<100000000:=by omega
 simp[aa,Z,f30,ag,fG,zA,zS,iw,U,S,g3,cv,aH]
theorem H8(a b c d:Int)(H:a.natAbs<=30)(I:b.natAbs<=30)(hc:c.natAbs<=30)(hd:d.natAbs<=30)(M:Mem):
  kO prog 153 [.str (zS a),.str (zS b),.str (zS c),.str (zS d)] M (.str (zS (a*b-c*d))) M:=by
 have U:aX prog 153=some f153:=by kernel_rfl
 have S:=LK H I;have R:=LK hc hd;have Z:(a:Rat)*(b:Rat)=((a*b:Int):Rat):=(Rat.intCast_mul a b).symm;have X:(c:Rat)*(d:Rat)=((c*d:Int):Rat):=(Rat.intCast_mul c d).symm;obtain⟨x,O⟩:=xE (a*b);obtain⟨y,N⟩:=xE (c*d);rw[<-O] at S Z |-;rw[<-N] at R X |-;have V:(x:Rat)-(y:Rat)=((x-y:Int):Rat):=(Rat.intCast_sub x y).symm;obtain⟨z,L⟩:=xE (x-y);rw[<-L] at V |-;have K:=tV (n:=a) (by omega);have G:=tV (n:=b) (by omega);have F:=tV (n:=c) (by omega);have D:=tV (n:=d) (by omega);have C:=tV (n:=x) (by omega);have B:=tV (n:=y) (by omega);have u:(ao (-(y:Rat))).length<=9:=by rw[<-Rat.intCast_neg];exact tV (n:= -y) (by omega)
 refine aA NO ?_ M;simp[aa,U,f153,ag,BD,fG,zS,aB,K,G,F,D,C,B,u,Z,X,V]
noncomputable def BI(f:FuncId)(args:List AV):Option AV:=
 match f,args with
 |153,[.str s,.str t,.str u,.str v]=>match dY s,dY t,dY u,dY v with
  |some a,some b,some c,some d=>if (a.den=1/\b.den=1/\c.den=1/\d.den=1)/\a.num.natAbs<=30/\b.num.natAbs<=30/\c.num.natAbs<=30/\d.num.natAbs<=30 then some (.str (zS (a.num*b.num-c.num*d.num))) else none
  |_,_,_,_=>none
 |_,_=>none
theorem NS:qS prog (ag BI):=bP fun f Z v h mem=>by
 unfold BI at h;split at h
 .split at h
  .rename_i a b c d X V U S
   split at h
   .rename_i R
    obtain⟨⟨d1,d2,d3,d4⟩,O,N,M,L⟩:=R;cases h;rw[au X,au V,au U,au S];have:=H8 a.num b.num c.num d.num O N M L mem;unfold zS at this |-;rw[<-nZ d1,<-nZ d2,<-nZ d3,<-nZ d4] at this;exact this
   .cases h
  .cases h
 .cases h
theorem HY(a b:Z3)(H:PD 30 a)(I:PD 30 b)(M:Mem):kO prog 95 [zA a,zA b] M (zA (rM a b)) M:=by
 have J:aX prog 95=some f95:=by kernel_rfl
 obtain⟨V,U,S⟩:=a;obtain⟨R,O,N⟩:=b;obtain⟨K,G,h3⟩:=H;obtain⟨F,D,C⟩:=I;simp only at K G h3 F D C;refine aA NS ?_ M;obtain⟨X,L⟩:∃X,aI f95=[X]:=⟨_,rfl⟩
 obtain⟨UV,ZD⟩:=dx L (l:=[0,1,0,4,0,16,0,64,255,0,512,0,2048,0,8192,0,32768,131071,0,262144,0,1048576,0,4194304,0,16777216,67108863,134217727,268435455]) (j:=28) (by kernel_rfl) (by decide);simp[aI,ca,f95] at L;subst L;have Z:∀n:Int,dY (zS n)=some (n:Rat):=fun n=>aB _
 unfold zA rM;simp only;obtain⟨A1,B⟩:=xE (zS V);obtain⟨A2,u⟩:=xE (zS U);obtain⟨A3,o⟩:=xE (zS S);obtain⟨B1,m⟩:=xE (zS R);obtain⟨B2,Y⟩:=xE (zS O);obtain⟨B3,W⟩:=xE (zS N);have p1:dY A1=some (V:Rat):=by rw[B];exact Z _
 have p2:dY A2=some (U:Rat):=by rw[u];exact Z _
 have p3:dY A3=some (S:Rat):=by rw[o];exact Z _
 have p4:dY B1=some (R:Rat):=by rw[m];exact Z _
 have p5:dY B2=some (O:Rat):=by rw[Y];exact Z _
 have p6:dY B3=some (N:Rat):=by rw[W];exact Z _
 rw[<-B,<-u,<-o,<-m,<-Y,<-W];obtain⟨C1,f1⟩:=xE (zS (U*N-S*O));obtain⟨C2,f2⟩:=xE (zS (S*R-V*N));obtain⟨C3,f3⟩:=xE (zS (V*O-U*R));rw[<-f1,<-f2,<-f3];simp[aa,J,f95,-aG,an UV,bD,bt,bB,ZD,ag,BI,p1,p2,p3,p4,p5,p6,K,G,h3,F,D,C,<-f1,<-f2,<-f3,cv,aH,Nat.testBit]
def zQ(v:Z3):V3:=((v.1:Rat),(v.2.1:Rat),(v.2.2:Rat))
def hV(v:Z3):V3:=(hQ v.1,hQ v.2.1,hQ v.2.2)
def fJ(x:afg):Z3:=if ie (x.n 0)=0/\ie (x.n 1)=0/\ie (x.n 2)=0 then (0,0,1) else (ie (x.n 0),ie (x.n 1),ie (x.n 2))
def Ae(x:afg):Z3:=rM (fJ x) (ie (x.n 3),ie (x.n 4),ie (x.n 5))
theorem sX(x:afg):PD 9 (fJ x):=by
 unfold fJ;split
 .exact⟨by decide,by decide,by decide⟩
 .exact⟨dG _,dG _,dG _⟩
theorem VO(x:afg):We (fJ x)=false:=by
 unfold fJ;split
 .rfl
 .rename_i h
  simp only[We,Bool.and_eq_false_imp,C0,Es,decide_eq_false_iff_not];exact fun Z X=>h ⟨Z.1,Z.2,X⟩
theorem Xr{a b:Int}(H:a.natAbs<=9)(I:b.natAbs<=9):(a*b).natAbs<=81:=by rw[QQg];exact Nat.mul_le_mul H I
theorem NW(x:afg):PD 162 (Ae x):=by obtain⟨Z,X,h3⟩:=sX x;have V:=dG (x.n 3);have U:=dG (x.n 4);have S:=dG (x.n 5);have R:=Xr X S;have O:=Xr h3 U;have N:=Xr h3 V;have M:=Xr Z S;have L:=Xr Z U;have K:=Xr X V;unfold Ae rM PD;simp only;omega
open Classical in
noncomputable def eU(f:FuncId)(args:List AV):Option AV:=
 match f,args with
 |38,[.int .i8 n]=>if -128<=n/\n<=127 then some (.int .i64 (ie n)) else none
 |41,[.int .i8 n]=>if -128<=n/\n<=127 then some (.int .i64 (ps9 n)) else none
 |30,[.int .i64 a,.int .i64 b,.int .i64 c]=>if a.natAbs<=10000/\b.natAbs<=10000/\c.natAbs<=10000 then some (zA (a,b,c)) else none
 |95,[.agg [.str s,.str t,.str u],.agg [.str s',.str t',.str u']]=>match dY s,dY t,dY u,dY s',dY t',dY u' with
  |some a,some b,some c,some d,some e,some f=>if (a.den=1/\b.den=1/\c.den=1/\d.den=1/\e.den=1/\f.den=1)/\PD 30 (a.num,b.num,c.num)/\PD 30 (d.num,e.num,f.num) then some (zA (rM (a.num,b.num,c.num) (d.num,e.num,f.num))) else none
  |_,_,_,_,_,_=>none
 |37,[.int .i64 n,.int .i64 d]=>if 0<d/\n.natAbs<10 ^ 8/\d.toNat<10 ^ 8 then some (.str (ao (mkRat n d.toNat))) else none
 |_,_=>none
theorem uN:qS prog (ag eU):=bP fun f X v h mem=>by
 unfold eU at h;split at h
 .split at h
  next Z=>cases h;exact If _ Z mem
  .cases h
 .split at h
  next Z=>cases h;exact Qt _ Z mem
  .cases h
 .split at h
  next Z=>cases h;exact RZ (_,_,_) Z mem
  .cases h
 .split at h
  .rename_i a b c d e f V U Z S R O
   split at h
   .rename_i N
    obtain⟨⟨d1,d2,d3,d4,d5,d6⟩,M,L⟩:=N;cases h;rw[au V,au U,au Z,au S,au R,au O];have:=HY (a.num,b.num,c.num) (d.num,e.num,f.num) M L mem;unfold zA at this;simp only at this;have k:∀q:Rat,q.den=1->zS q.num=ao q:=fun q K=>by unfold zS;rw[<-nZ K]
    rw[k a d1,k b d2,k c d3,k d d4,k e d5,k f d6] at this;exact this
   .cases h
  .cases h
 .split at h
  .rename_i Z
   cases h;have:=AZ _ _ (by omega) Z.2.1 Z.2.2 mem;rw[QQd (by omega)] at this;exact this
  .cases h
 .cases h
theorem FD(x:afg)(H:x.Ok)(M:Mem):kO prog 36 [.agg x.cells] M (zA (fJ x)) M:=by
 have W:aX prog 36=some f36:=by kernel_rfl
 refine de uN (lv:=fun _=>[]) (K:=1) (by simp[AV.afm,AV.closed,x.closed]) rfl ?_ M;obtain⟨S,D'⟩:∃S,aI f36=[S]:=⟨_,rfl⟩
 obtain⟨J,I⟩:=dx D' (l:=[0,1,3,7,0,16,48,127,0,256,768,2047,4095,8191,16383]) (j:=14) (by kernel_rfl) (by decide);simp[aI,ca,f36] at D';subst D';have R:=afg.afo H;have r0:=fq x.closed;have o0:=ib x.closed;have i0:=afg.afs H (k:=0) (by decide);have i1:=afg.afs H (k:=1) (by decide);have i2:=afg.afs H (k:=2) (by decide);simp only[Nat.reduceAdd] at i0 i1 i2;have Z:=cV i0;have X:=cV i1;have V:=cV i2;obtain⟨O,N⟩:=afg.afV H (k:=0) (by decide);obtain⟨L,G⟩:=afg.afV H (k:=1) (by decide);obtain⟨F,D⟩:=afg.afV H (k:=2) (by decide);have s0:=dG (x.n 0);have s1:=dG (x.n 1);have s2:=dG (x.n 2);unfold fJ;obtain⟨C,hC⟩:=xE x.cells;rw[<-hC] at R r0 o0 i0 i1 i2 Z X V |-;obtain⟨p,hp⟩:=xE (x.n 0);obtain⟨q,hq⟩:=xE (x.n 1);obtain⟨r,hr⟩:=xE (x.n 2);rw[<-hp] at i0 Z O N s0 |-;rw[<-hq] at i1 X L G s1 |-;rw[<-hr] at i2 V F D s2 |-;obtain⟨v,B⟩:=xE (ie q);obtain⟨w,o⟩:=xE (ie r);obtain⟨u,m⟩:=xE (ie p);rw[<-m] at s0 |-;rw[<-B] at s1 |-;rw[<-o] at s2 |-;have g0:u.natAbs<=10000:=by omega
 have g1:v.natAbs<=10000:=by omega
 have g2:w.natAbs<=10000:=by omega
 have tk:C.take 34=C:=B5 (by omega);clear hC hp hq hr;by_cases U:u=0
 .by_cases Y:v=0
  .by_cases k2:w=0
   .rw[if_pos ⟨U,Y,k2⟩]
    subst U Y k2;simp[aa,W,f36,-aG,an J,bD,bt,bB,I,ag,eU,R,Z,X,V,O,N,L,G,F,D,<-m,<-B,<-o,Nat.testBit,zA]
   .rw[if_neg fun h=>k2 h.2.2]
    subst U Y;simp[aa,W,f36,-aG,an J,bD,bt,bB,I,ag,eU,R,Z,X,V,O,N,L,G,F,D,<-m,<-B,<-o,Nat.testBit,zA,k2,g2]
  .rw[if_neg fun h=>Y h.2.1]
   subst U;simp[aa,W,f36,-aG,an J,bD,bt,bB,I,ag,eU,R,Z,X,V,O,N,L,G,F,D,<-m,<-B,<-o,Nat.testBit,zA,Y,g1,g2]
 .rw[if_neg fun h=>U h.1]
  simp[aa,W,f36,-aG,an J,bD,bt,bB,I,ag,eU,R,Z,X,V,O,N,L,G,F,D,<-m,<-B,<-o,Nat.testBit,zA,U,g0,g1,g2]
open Classical in
noncomputable def iU(x:afg)(f:FuncId)(args:List AV):Option AV:=
 match f,args with
 |36,[.agg cs]=>if cs=x.cells then some (zA (fJ x)) else none
 |f,args=>eU f args
theorem BH{x:afg}(H:x.Ok):qS prog (ag (iU x)):=bP fun f Z v h mem=>by
 unfold iU at h;split at h
 .split at h
  next X=>cases h;rw[X];exact FD x H mem
  .cases h
 .have:=uN.fn _ _ mem ⟨v,none,[]⟩ (by unfold ag;simp only;rw[h])
  simpa [afh.mem] using this
theorem Wv(n:Int):dY (zS n)=some (n:Rat):=aB _
theorem Fy(x:afg)(H:x.Ok)(M:Mem):kO prog 40 [.agg x.cells] M (zA (Ae x)) M:=by
 have hG:aX prog 40=some f40:=by kernel_rfl
 refine de (BH H) (lv:=fun _=>[]) (K:=1) (by simp[AV.afm,AV.closed,x.closed]) rfl ?_ M;obtain⟨X,O⟩:∃X,aI f40=[X]:=⟨_,rfl⟩
 obtain⟨UV,ZD⟩:=dx O (l:=[0,1,0,4,12,31,0,64,192,511,0,1024,3072,8191,16383,32767,65535]) (j:=16) (by kernel_rfl) (by decide);simp[aI,ca,f40] at O;subst O;have m:=afg.afo H;have r0:=fq x.closed;have Y:=ib x.closed;have V:=afg.afs H (k:=3) (by decide);have U:=afg.afs H (k:=4) (by decide);have S:=afg.afs H (k:=5) (by decide);simp only[Nat.reduceAdd] at V U S;have N:=cV V;have L:=cV U;have G:=cV S;obtain⟨W,J⟩:=afg.afV H (k:=3) (by decide);obtain⟨I,c1⟩:=afg.afV H (k:=4) (by decide);obtain⟨b2,c2⟩:=afg.afV H (k:=5) (by decide);have s0:=dG (x.n 3);have s1:=dG (x.n 4);have s2:=dG (x.n 5);have R:=sX x;have Z:Ae x=rM (fJ x) (ie (x.n 3),ie (x.n 4),ie (x.n 5)):=rfl;obtain⟨C,hC⟩:=xE x.cells;have F :x.cells=C:=hC.symm;rw[<-hC] at m r0 Y V U S N L G |-;obtain⟨p,hp⟩:=xE (x.n 3);obtain⟨q,hq⟩:=xE (x.n 4);obtain⟨r,hr⟩:=xE (x.n 5);rw[<-hp] at V N W J s0 Z;rw[<-hq] at U L I c1 s1 Z;rw[<-hr] at S G b2 c2 s2 Z;obtain⟨v,hv⟩:=xE (ie q);obtain⟨w,hw⟩:=xE (ie r);obtain⟨u,hu⟩:=xE (ie p);rw[<-hu] at s0 Z;rw[<-hv] at s1 Z;rw[<-hw] at s2 Z;have g0:u.natAbs<=10000:=by omega
 have g1:v.natAbs<=10000:=by omega
 have g2:w.natAbs<=10000:=by omega
 have z2:PD 30 (u,v,w):=⟨by show u.natAbs<=30;omega,by show v.natAbs<=30;omega,by show w.natAbs<=30;omega⟩;have tk:C.take 34=C:=B5 (by omega);obtain⟨⟨D,B,o⟩,hn⟩:∃n,n=fJ x:=⟨_,rfl⟩
 rw[<-hn] at R Z;have z1:PD 30 (D,B,o):=⟨by have:=R.1;show D.natAbs<=30;simp only at this;omega,by have:=R.2.1;show B.natAbs<=30;simp only at this;omega,by have:=R.2.2;show o.natAbs<=30;simp only at this;omega⟩;rw[Z];clear Z;obtain⟨⟨cx,cy,cz⟩,hc⟩:∃n,n=rM (D,B,o) (u,v,w):=⟨_,rfl⟩
 rw[<-hc];simp[aa,hG,f40,-aG,an UV,bD,bt,bB,ZD,ag,iU,eU,F,m,Y,N,L,G,tk,W,J,I,c1,b2,c2,<-hn,<-hu,<-hv,<-hw,Nat.testBit,zA,g0,g1,g2,Wv,z1,z2,<-hc]
theorem XB(n:Int):(n:Rat)*hQ 1=hQ n:=by
 rw[mO,mO];have:((1:Int):Rat)=1:=rfl;rw[this]
 grind
theorem TX:dY [49,47,50]=some (hQ 1):=aB (hQ 1)
theorem M5(v:Z3)(H:PD 162 v)(M:Mem):kO prog 39 [zA v,.str [49,47,50]] M (vA (hV v)) M:=by
 have V:aX prog 39=some f39:=by kernel_rfl
 refine aA jh ?_ M;obtain⟨Z,X⟩:∃Z,aI f39=[Z]:=⟨_,rfl⟩
 obtain⟨U,S⟩:=dx X (l:=[0,1,0,7,0,16,0,127,0,256,0,2047,4095,8191]) (j:=13) (by kernel_rfl) (by decide);simp[aI,ca,f39] at X;subst X;obtain⟨a,b,c⟩:=v;obtain⟨R,O,h3⟩:=H;simp only at R O h3;have N:=tV (n:=a) (by omega);have L:=tV (n:=b) (by omega);have K:=tV (n:=c) (by omega);have G:(ao (hQ 1)).length<=9:=Cc (by decide);simp[aa,V,f39,-aG,an U,bD,bt,bB,S,ag,fG,zA,vA,hV,Wv,TX,N,L,K,G,XB,cv,aH,Nat.testBit]
end Go.Proofs
