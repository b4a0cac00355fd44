/- See P53. -/
import Derived.Test.YtmhkeaphiadacaaGreatDoorP25
set_option linter.all false
set_option maxRecDepth 100000
set_option maxHeartbeats 40000000
namespace Go.Eng
def d2(q:Rat):Bool:=decide (q.num.natAbs<100)&&decide (q.den<10)
def p2B(p:P2):Bool:=d2 p.1&&d2 p.2
def fB(q:Rat):Bool:=decide (q.num.natAbs<1000000000)&&decide (q.den<1000000000)
def VU(a b:P2) (k:Rat):P2:=(a.1+k*(b.1-a.1),a.2+k*(b.2-a.2))
def V8(a b:P2) (k:Rat):Bool:=fB k&&fB a.1&&fB a.2&&fB b.1&&fB b.2&&fB (b.1-a.1)&&fB (b.2-a.2)&&fB (k*(b.1-a.1))&&fB (k*(b.2-a.2))
def Vw(p q x y:P2):List P2:=
 (if 0≤nq (gr p q x) then [x] else [])++(if nq (gr p q x)*nq (gr p q y)<0 then [VU x y (gr p q x / (gr p q x-gr p q y))] else [])
def Wd(p q x y:P2):Bool:=
 p2B x&&fB (gr p q x)&&fB (gr p q y)&&(if nq (gr p q x)*nq (gr p q y)<0 then decide (gr p q x-gr p q y≠0)&&fB (gr p q x-gr p q y)&&V8 x y (gr p q x / (gr p q x-gr p q y)) else true)
def ptC(L:List P2) (i:Nat):P2:=L.getD (i%L.length) (0,0)
def wW(p q:P2) (L:List P2):Nat→List P2
 |0=>[]
 |n+1=>wW p q L n++Vw p q (ptC L n) (ptC L (n+1))
def kZ(p q:P2) (L:List P2):List P2:=wW p q L L.length
def Nj(p q:P2) (L:List P2):Bool:=p2B p&&p2B q&&(List.range L.length).all fun i=>Wd p q (ptC L i) (ptC L (i+1))
abbrev T2:=P2×P2×P2
def tL(a:T2):List P2:=[a.1,a.2.1,a.2.2]
def sk(a b:T2):List P2:=kZ b.2.2 b.1 (kZ b.2.1 b.2.2 (kZ b.1 b.2.1 (tL a)))
def Ft(a b:T2):Bool:=Nj b.1 b.2.1 (tL a)&&(Nj b.2.1 b.2.2 (kZ b.1 b.2.1 (tL a))&&(Nj b.2.2 b.1 (kZ b.2.1 b.2.2 (kZ b.1 b.2.1 (tL a)))&&decide ((sk a b).length≤100)))
def uo(L:List P2) (p:P2):Bool:=L.any fun q=>decide (q.1=p.1)&&decide (q.2=p.2)
def jk(a b:T2):List P2:=(tL a).filter (uo (tL b))
def NK(a b:T2):Bool:=decide ((jk a b).length=3)||(sk a b).any fun p=> !uo (jk a b) p
def lf(PS:List P2) (TS:List Tr) (i:Nat):T2:=(PS.getD (TS.getD i (0,0,0)).1 (0,0),PS.getD (TS.getD i (0,0,0)).2.1 (0,0),PS.getD (TS.getD i (0,0,0)).2.2 (0,0))
def M9(PS:List P2) (TS:List Tr):Bool:=(List.range TS.length).all fun i=>(List.range i).all fun j=>Ft (lf PS TS i) (lf PS TS j)&& !NK (lf PS TS i) (lf PS TS j)
theorem FK(p q:P2) (L:List P2):∀n,(wW p q L n).length≤2*n
 |0=>Nat.le_refl _
 |n+1=>by
  have:=FK p q L n;rw[wW,List.length_append];have:(Vw p q (ptC L n) (ptC L (n+1))).length≤2:=by unfold Vw;rw[List.length_append];split<;>split<;>simp
  omega
end Go.Eng
