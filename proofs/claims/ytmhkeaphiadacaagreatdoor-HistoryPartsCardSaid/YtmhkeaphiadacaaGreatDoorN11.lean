/- See N58. -/
import Derived.Test.YtmhkeaphiadacaaGreatDoorN08
import Derived.Test.YtmhkeaphiadacaaGreatDoorN10
set_option linter.all false
namespace Go.Eng
def stC(l:List (List UInt8)):List AV:=l.map .str
theorem br(l:List (List UInt8)):(stC l).length=l.length:=by simp[stC]
theorem Md(l r:List (List UInt8)):stC (l++r)=stC l++stC r:=by simp[stC]
theorem eV:∀l:List (List UInt8),AV.closeds (stC l)=true
 | []=>rfl
 |x::l=>by
  have:=eV l
  simp only[stC] at this
  simp[stC,AV.closeds,AV.closed,this]
theorem vd{l:List (List UInt8)}{i:Nat}{s:List UInt8}(h:l[i]? =some s):(stC l)[i]? =some (.str s):=by simp[stC,h]
theorem PJ(l:List (List UInt8)):(stC l).take l.length=stC l:=List.take_of_length_le (by rw[br];omega)
def stP:List AV→Option (List (List UInt8))
 | []=>some []
 |.str a::l=>match stP l with
  |some r=>some (a::r)
  |none=>none
 |_=>none
theorem zc:∀L:List (List UInt8),stP (stC L)=some L
 | []=>rfl
 |k::L=>by
  have:=zc L
  simp only[stC] at this
  simp[stC,stP,this]
theorem Kg:∀{cs:List AV}{L:List (List UInt8)},stP cs=some L→cs=stC L
 | [],L,h=>by cases h;rfl
 |v::l,L,h=>by
  unfold stP at h
  split at h
  ·rename_i h1;cases h1
  ·rename_i a l' h1
   cases h1
   split at h
   ·rename_i r hr
    cases h
    have:=Kg hr
    simp only[stC] at this ⊢
    rw[this];rfl
   ·cases h
  ·cases h
def sts(M:Mem) (x:AV):Option (List (List UInt8)):=match GI 1 M x with
 |some cs=>stP cs
 |none=>none
theorem sN{M:Mem}{x:AV}{L:List (List UInt8)}(h:sts M x=some L):PO 1 M x L.length (stC L)∨(x=.nilslice∧L=[]):=by
 unfold sts at h
 split at h
 ·rename_i cs hcs
  have hc:=Kg h
  subst hc
  rcases I8 hcs with⟨n,hn,hr⟩ | ⟨rfl,hn⟩
  ·have:n=L.length:=by rw[br] at hn;omega
   subst this;exact .inl hr
  ·refine .inr ⟨rfl,?_⟩
   cases L with
   |nil=>rfl
   |cons a l=>simp[stC] at hn
 ·cases h
abbrev P2:=Rat×Rat
def pA(p:P2):AV:=.agg [.str (aN p.1),.str (aN p.2)]
def pDg(n:Nat) (p:P2):Prop:=dg n 1 p.1∧dg n 1 p.2
theorem pDg.mono{n m:Nat}{p:P2}(h:pDg n p) (hm:n≤m):pDg m p:=⟨h.1.mono hm (Nat.le_refl 1),h.2.mono hm (Nat.le_refl 1)⟩
def vY(a b c:P2):Rat:=(b.1-a.1)*(c.2-a.2)-(b.2-a.2)*(c.1-a.1)
def pC:List P2→List AV
 | []=>[]
 |p::l=>.str (aN p.1)::.str (aN p.2)::pC l
theorem sJ:∀l:List P2,(pC l).length=l.length*2
 | []=>rfl
 |_::l=>by simp only[pC,List.length_cons,sJ l];omega
theorem dB:∀l:List P2,AV.closeds (pC l)=true
 | []=>rfl
 |p::l=>by simp[pC,AV.closeds,AV.closed,dB l]
theorem cC(n:Nat):∀l:List P2,AV.refsL n (pC l)=[]
 | []=>rfl
 |p::l=>by simp[pC,AV.refsL,AV.refs,cC n l]
theorem eg(f:Nat→Option Nat) (l:List P2):AV.rens f (pC l)=pC l:=bu (dB l)
theorem Q3:pC []=[]:=rfl
theorem oZ(f:Nat→Bool):∀l:List P2,AV.refsOkL f (pC l)=true
 | []=>rfl
 |p::l=>by simp[pC,AV.refsOkL,AV.refsOk,oZ f l]
theorem yS:∀l r:List P2,pC (l++r)=pC l++pC r
 | [],_=>rfl
 |p::l,r=>by simp[pC,yS l r]
theorem NQ:∀(l:List P2) (i:Nat),(pC l).drop (i*2)=pC (l.drop i)
 |l,0=>by simp
 | [],i+1=>by simp[pC]
 |p::l,i+1=>by
  have:(i+1)*2=i*2+1+1:=by omega
  rw[this]
  simp only[pC,List.drop_succ_cons]
  exact NQ l i
theorem NP{l:List P2}{i:Nat}{p:P2}(h:l[i]? =some p):
  ((pC l).drop (i*2)).take 2=[.str (aN p.1),.str (aN p.2)]∧(pC l)[i*2]? =some (.str (aN p.1))∧(pC l)[i*2+1]? =some (.str (aN p.2))∧i*2+2≤(pC l).length:=by
 have hlt:=(List.getElem?_eq_some_iff.1 h).1
 have hd:l.drop i=p::l.drop (i+1):=by
  rw[List.getElem?_eq_some_iff] at h
  obtain⟨h1,h2⟩:=h
  rw[←h2];exact List.drop_eq_getElem_cons h1
 have e:=NQ l i
 rw[hd] at e
 refine⟨by rw[e];rfl,?_,?_,by rw[sJ];omega⟩
 ·have:(pC l)[i*2]? =((pC l).drop (i*2))[0]? :=by rw[List.getElem?_drop];rfl
  rw[this,e];rfl
 ·have:(pC l)[i*2+1]? =((pC l).drop (i*2))[1]? :=by rw[List.getElem?_drop]
  rw[this,e];rfl
abbrev Tr:=Nat×Nat×Nat
def tC:List Tr→List AV
 | []=>[]
 |t::l=>.int .i64 (t.1:Int)::.int .i64 (t.2.1:Int)::.int .i64 (t.2.2:Int)::tC l
theorem sO:∀l:List Tr,(tC l).length=l.length*3
 | []=>rfl
 |_::l=>by simp only[tC,List.length_cons,sO l];omega
theorem dL:∀l:List Tr,AV.closeds (tC l)=true
 | []=>rfl
 |p::l=>by simp[tC,AV.closeds,AV.closed,dL l]
theorem cP(n:Nat):∀l:List Tr,AV.refsL n (tC l)=[]
 | []=>rfl
 |p::l=>by simp[tC,AV.refsL,AV.refs,cP n l]
theorem gw(f:Nat→Option Nat) (l:List Tr):AV.rens f (tC l)=tC l:=bu (dL l)
theorem pW(f:Nat→Bool):∀l:List Tr,AV.refsOkL f (tC l)=true
 | []=>rfl
 |p::l=>by simp[tC,AV.refsOkL,AV.refsOk,pW f l]
theorem N5:∀(l:List Tr) (i:Nat),(tC l).drop (i*3)=tC (l.drop i)
 |l,0=>by simp
 | [],i+1=>by simp[tC]
 |p::l,i+1=>by
  have:(i+1)*3=i*3+1+1+1:=by omega
  rw[this]
  simp only[tC,List.drop_succ_cons]
  exact N5 l i
theorem QL{l:List Tr}{i:Nat}{t:Tr}(h:l[i]? =some t):
  ((tC l).drop (i*3)).take 3=[.int .i64 (t.1:Int),.int .i64 (t.2.1:Int),.int .i64 (t.2.2:Int)]∧i*3+3≤(tC l).length:=by
 have hlt:=(List.getElem?_eq_some_iff.1 h).1
 have hd:l.drop i=t::l.drop (i+1):=by
  rw[List.getElem?_eq_some_iff] at h
  obtain⟨h1,h2⟩:=h
  rw[←h2];exact List.drop_eq_getElem_cons h1
 have e:=N5 l i
 rw[hd] at e
 exact⟨by rw[e];rfl,by rw[sO];omega⟩
def pmE(p:P2):AV×AV:=(pA p,.bool true)
theorem wJ(n:Nat):∀l:List P2,(l.map pmE).flatMap (fun e=>e.1.refs n++e.2.refs n)=[]
 | []=>rfl
 |p::l=>by simp[pmE,pA,AV.refs,AV.refsL,wJ n l]
def sqI:List (Int×Int):=[(0,0),(4,0),(4,4),(0,4)]
def cQ:Nat→List (Int×Int)
 |0=>sqI
 |1=>sqI
 |2=>[(0,0),(4,0),(4,4),(0,4),(2,1)]
 |3=>[(0,0),(6,0),(0,4)]
 |4=>[(0,0),(2,0),(4,0),(0,2),(2,2),(4,2)]
 |5=>[(1,4),(5,3),(4,0),(0,0)]
 |6=>[(0,0),(4,0),(4,4),(0,4),(2,0)]
 |_=>[(0,0),(6,0),(0,6),(2,2)]
def ba:Nat→List Tr
 |0=>[(0,1,2),(0,2,3)]
 |1=>[(0,1,3),(1,2,3)]
 |2=>[(0,1,4),(1,2,4),(2,3,4),(3,0,4)]
 |3=>[(2,0,1)]
 |4=>[(0,1,4),(0,4,3),(1,2,5),(1,5,4)]
 |5=>[(3,2,1),(3,1,0)]
 |6=>[(0,4,3),(4,2,3),(4,1,2)]
 |_=>[(0,1,3),(1,2,3),(2,0,3)]
def jy:Nat→List Nat
 |2=>[0,1,2,3]
 |3=>[0,1,2]
 |4=>[0,1,2,5,4,3]
 |5=>[0,3,2,1]
 |6=>[0,4,1,2,3]
 |7=>[0,1,2]
 |_=>[0,1,2,3]
def iP:List (Int×Int)→List AV
 | []=>[]
 |p::l=>.int .i64 p.1::.int .i64 p.2::iP l
theorem G1:∀l:List (Int×Int),(iP l).length=l.length*2
 | []=>rfl
 |_::l=>by simp only[iP,List.length_cons,G1 l];omega
theorem Ct(n:Nat):∀l:List (Int×Int),AV.refsL n (iP l)=[]
 | []=>rfl
 |p::l=>by simp[iP,AV.refsL,AV.refs,Ct n l]
theorem G0:∀l:List (Int×Int),AV.closeds (iP l)=true
 | []=>rfl
 |p::l=>by simp[iP,AV.closeds,AV.closed,G0 l]
theorem J0(f:Nat→Option Nat) (l:List (Int×Int)):AV.rens f (iP l)=iP l:=bu (G0 l)
theorem Nm:∀(l:List (Int×Int)) (i:Nat),(iP l).drop (i*2)=iP (l.drop i)
 |l,0=>by simp
 | [],i+1=>by simp[iP]
 |p::l,i+1=>by
  have:(i+1)*2=i*2+1+1:=by omega
  rw[this]
  simp only[iP,List.drop_succ_cons]
  exact Nm l i
theorem Rm{l:List (Int×Int)}{i:Nat}{p:Int×Int}(h:l[i]? =some p):
  (iP l)[i*2]? =some (.int .i64 p.1)∧(iP l)[i*2+1]? =some (.int .i64 p.2)∧i*2+2≤(iP l).length:=by
 have hlt:=(List.getElem?_eq_some_iff.1 h).1
 have hd:l.drop i=p::l.drop (i+1):=by
  rw[List.getElem?_eq_some_iff] at h
  obtain⟨h1,h2⟩:=h
  rw[←h2];exact List.drop_eq_getElem_cons h1
 have e:=Nm l i
 rw[hd] at e
 refine⟨?_,?_,by rw[G1];omega⟩
 ·have:(iP l)[i*2]? =((iP l).drop (i*2))[0]? :=by rw[List.getElem?_drop];rfl
  rw[this,e];rfl
 ·have:(iP l)[i*2+1]? =((iP l).drop (i*2))[1]? :=by rw[List.getElem?_drop]
  rw[this,e];rfl
structure Sheet where
 kind:Nat
 sx:Int
 sy:Int
 half:Bool
structure Sheet.Ok (s:Sheet):Prop where
 kind:s.kind<256
 x0: -128≤s.sx
 x1:s.sx≤127
 y0: -128≤s.sy
 y1:s.sy≤127
def Sheet.av(s:Sheet):AV:=.agg [.int .u8 s.kind,.int .i8 s.sx,.int .i8 s.sy,.bool s.half]
def Sheet.pt(s:Sheet) (k:Nat) (x y:Int):P2:=
 (mkRat (x+s.sx.tmod 8*k) ((if s.half then 2 else 1)*k),mkRat (y+s.sy.tmod 8*k) ((if s.half then 2 else 1)*k))
def Sheet.P(s:Sheet):List P2:=(cQ (s.kind%8)).map fun p=>s.pt 1 p.1 p.2
def Sheet.T(s:Sheet):List Tr:=ba (s.kind%8)
theorem N8{n:Int}(h0: -128≤n) (h1:n≤127):IntKind.i8.wrap n=n:=by
 simp only[IntKind.wrap,IntKind.bits,IntKind.signed,Bool.true_and]
 split<;>simp_all<;>omega
theorem PL(x:Int): -7≤x.tmod 8∧x.tmod 8≤7:=by
 have h1:=Int.tmod_lt_of_pos x (show(0:Int)<8 by decide)
 have h2: -8<x.tmod 8:=by
  have:=Int.tmod_lt_of_pos (-x) (show(0:Int)<8 by decide)
  rw[Int.neg_tmod] at this
  omega
 omega
def qC(Q:List Rat):List AV:=Q.map fun q=>.str (aN q)
theorem Hk(Q:List Rat):(qC Q).length=Q.length:=by simp[qC]
theorem iE:∀Q:List Rat,AV.closeds (qC Q)=true
 | []=>rfl
 |q::Q=>by
  have:=iE Q
  simp only[qC] at this
  simp[qC,AV.closeds,AV.closed,this]
theorem fa(n:Nat):∀Q:List Rat,AV.refsL n (qC Q)=[]
 | []=>rfl
 |q::Q=>by
  have:=fa n Q
  simp only[qC] at this
  simp[qC,AV.refsL,AV.refs,this]
theorem qX(f:Nat→Bool):∀Q:List Rat,AV.refsOkL f (qC Q)=true
 | []=>rfl
 |q::Q=>by
  have:=qX f Q
  simp only[qC] at this
  simp[qC,AV.refsOkL,AV.refsOk,this]
theorem di(f:Nat→Option Nat) (Q:List Rat):AV.rens f (qC Q)=qC Q:=bu (iE Q)
theorem Q4{Q:List Rat}{i:Nat}{q:Rat}(h:Q[i]? =some q):(qC Q)[i]? =some (.str (aN q)):=by simp[qC,h]
structure Deed where
 kind:Nat
 A:Int×Int×Int
 B:Int×Int×Int
 N:Int
 K:Nat×Nat×Nat×Nat
def Deed.cells(d:Deed):List AV:=[.int .u8 d.kind,.int .i8 d.A.1,.int .i8 d.A.2.1,.int .i8 d.A.2.2,.int .i8 d.B.1,.int .i8 d.B.2.1,.int .i8 d.B.2.2,.int .i8 d.N,.int .u8 d.K.1,.int .u8 d.K.2.1,.int .u8 d.K.2.2.1,.int .u8 d.K.2.2.2]
def HI(n:Int):Prop:= -128≤n∧n≤127
def Pn(v:Int×Int×Int):Prop:=HI v.1∧HI v.2.1∧HI v.2.2
def Q9(v:Nat×Nat×Nat×Nat):Prop:=v.1<256∧v.2.1<256∧v.2.2.1<256∧v.2.2.2<256
structure Deed.Ok (d:Deed):Prop where
 kind:d.kind<256
 A:Pn d.A
 B:Pn d.B
 N:HI d.N
 K:Q9 d.K
def PW(v:Int×Int×Int) (k:Nat):Int:=if k=0 then v.1 else if k=1 then v.2.1 else v.2.2
def HJ(v:Nat×Nat×Nat×Nat) (k:Nat):Nat:=if k=0 then v.1 else if k=1 then v.2.1 else if k=2 then v.2.2.1 else v.2.2.2
def hQ(z:Int):Rat:=mkRat z 2
theorem uP(z:Int):hQ z=(z:Rat) / 2:=by
 unfold hQ
 rw[Rat.mkRat_eq_div]
 rfl
theorem QV(n a:Int):(n:Rat)+hQ a=hQ (2*n+a):=by
 rw[uP,uP,Rat.intCast_add,Rat.intCast_mul]
 have:((2:Int):Rat)=2:=rfl
 rw[this]
 grind
theorem PR(a b:Int):hQ a+hQ b=hQ (a+b):=by
 rw[uP,uP,uP,Rat.intCast_add]
 grind
theorem Rl{a b:Int}(h:a≤b):hQ a≤hQ b:=by
 rw[uP,uP]
 have:(a:Rat)≤(b:Rat):=by exact_mod_cast h
 grind
theorem Nj{z:Int}(h:z.natAbs<1000):dg 3 1 (hQ z):=si (by decide) h (by decide)
theorem yz{z:Int}(h:z.natAbs<1000):(aN (hQ z)).length≤9:=by
 have h1:=Nj h
 have h2:big 3 (hQ z):=⟨h1.1,by have:=h1.2;omega⟩
 have:=Az (by decide) h2
 omega
def I5(d:Deed) (k:Nat):Int:=2*d.N.tmod 4+(PW d.A (k%3)).tmod 3
def bd(d:Deed) (n:Nat):List Int:=(List.range n).map (I5 d)
theorem LB(d:Deed) (n:Nat):bd d (n+1)=bd d n++[I5 d n]:=by simp[bd,List.range_succ]
theorem cF(d:Deed) (n:Nat):(bd d n).length=n:=by simp[bd]
def Hw(d:Deed) (j k:Nat):Int:=((HJ d.K ((j+k)%4)%4:Nat):Int)
def bL(d:Deed) (j:Nat) (L:List Int) (n:Nat):List Int:=(List.range n).map fun k=>L.getD k 0+Hw d j k
theorem Bf(d:Deed) (j:Nat) (L:List Int) (n:Nat):bL d j L (n+1)=bL d j L n++[L.getD n 0+Hw d j n]:=by simp[bL,List.range_succ]
theorem cH(d:Deed) (j:Nat) (L:List Int) (n:Nat):(bL d j L n).length=n:=by simp[bL]
def qH(Z:List Int):List Rat:=Z.map hQ
theorem pj(x:Int) (k:Nat) (hk:0<k): -(k:Int)<x.tmod k∧x.tmod k<k:=by
 have h1:=Int.tmod_lt_of_pos x (show(0:Int)<(k:Int) by omega)
 have h2:=Int.tmod_lt_of_pos (-x) (show(0:Int)<(k:Int) by omega)
 rw[Int.neg_tmod] at h2
 omega
end Go.Eng
