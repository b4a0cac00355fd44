/- See I36. -/
import Derived.Test.YtgafjliihahjgaaGreatDoorI02
set_option linter.all false
namespace Go.Eng
mutual
def AV.afF(ok:Nat->Bool):AV->Bool
 |.ptr b _=>ok b
 |.slice b _ _ _=>ok b
 |.map b=>ok b
 |.yield b=>ok b
 |.func _ Z=>AV.af7 ok Z
 |.iface _ v=>v.afF ok
 |.agg Z=>AV.af7 ok Z
 |.tuple Z=>AV.af7 ok Z
 |_=>true
def AV.af7(ok:Nat->Bool):List AV->Bool
 | []=>true
 |v::vs=>v.afF ok&&AV.af7 ok vs
end
def af6.afF(ok:Nat->Bool):af6->Bool
 |.HS=>true
 |.cells _ _ cs=>AV.af7 ok cs
 |.map es=>es.all fun e=>e.1.afF ok&&e.2.afF ok
 |.agC es=>es.all fun e=>e.1.afF ok&&e.2.afF ok
 |.loop r=>r.env.all fun e=>e.2.afF ok
theorem DQ{ok:Nat->Bool}:∀{env:Env},(env.all fun e=>e.2.afF ok)=true->∀t,(ad env t).afF ok=true
 | [],_,_=>rfl
 |(k,v)::r,h,t=>by
  simp only[QQK,Es] at h;simp only[ad];split
  .exact h.1
  .exact DQ h.2 t
mutual
theorem af4.change{μ μ' :Nat->Place}{n:Nat}{ok:Nat->Bool}(hμ:∀b,b<n->ok b=true->μ' b=μ b):
  ∀{v V},v.afF ok=true->af4 μ n v V->af4 μ' n v V
 |.undef,_,_,_=>by simp[af4]
 |.bool _,_,_,h=>by simpa [af4] using h
 |.int _ _,_,_,h=>by simpa [af4] using h
 |.str _,_,_,h=>by simpa [af4] using h
 |.ptr b o,V,hk,h=>by simp only[af4] at h |-;simp only[AV.afF] at hk;exact⟨h.1,by rw[hμ b h.1 hk];exact h.2⟩
 |.agk,_,_,h=>by simpa [af4] using h
 |.slice b o l c,V,hk,h=>by simp only[af4] at h |-;simp only[AV.afF] at hk;exact⟨h.1,by rw[hμ b h.1 hk];exact h.2⟩
 |.y9,_,_,h=>by simpa [af4] using h
 |.map b,V,hk,h=>by simp only[af4] at h |-;simp only[AV.afF] at hk;exact⟨h.1,by rw[hμ b h.1 hk];exact h.2⟩
 |.yield b,V,hk,h=>by simp only[af4] at h |-;simp only[AV.afF] at hk;exact⟨h.1,by rw[hμ b h.1 hk];exact h.2⟩
 |.agu,_,_,h=>by simpa [af4] using h
 |.func f X,V,hk,h=>by simp only[af4] at h |-;simp only[AV.afF] at hk;obtain⟨Z,e,h⟩:=h;exact⟨Z,e,af5.change hμ hk h⟩
 |.nilFunc,_,_,h=>by simpa [af4] using h
 |.iface t v,V,hk,h=>by simp only[af4] at h |-;simp only[AV.afF] at hk;obtain⟨U,e,h⟩:=h;exact⟨U,e,af4.change hμ hk h⟩
 |.nilIface,_,_,h=>by simpa [af4] using h
 |.agg X,V,hk,h=>by simp only[af4] at h |-;simp only[AV.afF] at hk;obtain⟨Z,e,h⟩:=h;exact⟨Z,e,af5.change hμ hk h⟩
 |.tuple X,V,hk,h=>by simp only[af4] at h |-;simp only[AV.afF] at hk;obtain⟨Z,e,h⟩:=h;exact⟨Z,e,af5.change hμ hk h⟩
theorem af5.change{μ μ' :Nat->Place}{n:Nat}{ok:Nat->Bool}(hμ:∀b,b<n->ok b=true->μ' b=μ b):
  ∀{vs Us},AV.af7 ok vs=true->af5 μ n vs Us->af5 μ' n vs Us
 | [],_,_,h=>by simpa [af5] using h
 |v::vs,Us,hk,h=>by simp only[af5] at h |-;simp only[AV.af7,Es] at hk;obtain⟨U,Z,e,X,W⟩:=h;exact⟨U,Z,e,af4.change hμ hk.1 X,af5.change hμ hk.2 W⟩
end
variable{s:af6}
theorem agj.change{μ μ' :Nat->Place}{n base:Nat}{w:World}{p:Place}{ok:Nat->Bool}(hμ:∀b,b<n->ok b=true->μ' b=μ b)(hk:s.afF ok=true)(h:agj μ n base w p s):agj μ' n base w p s:=by
 cases s with
 |HS=>trivial
 |cells own es cs=>
  simp only[agj] at h |-;simp only[af6.afF] at hk;obtain⟨K,e,D,Z,X,h3,M,C⟩:=h;refine⟨K,e,D,Z,X,h3,fun j v O=>?_,C⟩;obtain⟨V,B,A⟩:=M j v O;refine⟨V,B,A.change hμ ?_⟩;have:∀(l:List AV),AV.af7 ok l=true->∀v∈l,v.afF ok=true:=by
   intro l;induction l with
   |nil=>intro _ v O;cases O
   |cons x xs ih=>
    intro hl v O;simp only[AV.af7,Es] at hl;cases O with
    |head=>exact hl.1
    |tail _ hm=>exact ih hl.2 v hm
  exact this cs hk v (Lo O)
 |map es=>
  simp only[agj] at h |-;simp only[af6.afF,List.all_eq_true,Es] at hk;obtain⟨J,G,Z,X,h3,M⟩:=h;refine⟨J,G,Z,X,h3,fun j e he=>?_⟩;obtain⟨E,F,W,S⟩:=M j e he;have:=hk e (Lo he);exact⟨E,F,W.change hμ this.1,S.change hμ this.2⟩
 |agC es=>
  simp only[agj] at h |-;simp only[af6.afF,List.all_eq_true,Es] at hk;obtain⟨J,G,Z,X,h3,M⟩:=h;refine⟨J,G,Z,X,h3,fun j e he=>?_⟩;obtain⟨E,F,W,S⟩:=M j e he;have:=hk e (Lo he);exact⟨E,F,W.change hμ this.1,S.change hμ this.2⟩
 |loop r=>
  simp only[agj] at h |-;obtain⟨L,Z,X,h3⟩:=h;exact⟨L,Z,X,{ h3 with tmps:=fun t=>(h3.tmps t).change hμ (DQ hk t) }⟩
structure agD where
 E:Nat->Env
 En:Nat->Env
 M:Nat->Mem
 Tm:Nat->Mem
 M' :Nat->Mem
 v:Nat->AV
 wb:Nat->Bool
 agM:Nat->Nat->Bool
 ok:Nat->Nat->Bool
 cl:Nat->Nat->Bool
def jy(mem:Mem)(b:Nat):Prop:=∃s,mem[b]? =some s/\s≠ .HS
structure aij (P:Program)(T:TypeId->Option TyI)(N:Nat)(ops:Array Oper)(d:agD)(j:Nat)(o:Oper):Prop where
 wanted:tJ ops (d.En j) o=some (d.wb j)
 dst:E2 N o=true
 step:d.wb j=true->yl P T (d.En j) (d.Tm j) o (d.v j) (d.M' j)
 skip:d.wb j=false->d.v j=.tuple []/\d.M' j=d.Tm j
 env:d.E (j+1)=agW (d.E j) o.dst (d.v j)
 named:∀t,ad (d.En j) t=.undef\/(ad (d.En j) t=ad (d.E j) t/\∀(i:Nat) oi,ops[i]? =some oi->i≠j->oi.dst=some t->d.cl i j=true\/d.cl j i=true)
 aiP:∀(i:Nat) oi t,ops[i]? =some oi->i≠j->o.dst=some t->oi.dst=some t->d.cl i j=true\/d.cl j i=true
 ahT:(d.Tm j).length=(d.M j).length
 ahU:∀b:Nat,(d.Tm j)[b]? =(d.M j)[b]? \/(d.Tm j)[b]? =some .HS
 ais:(d.M (j+1)).length=(d.M' j).length
 ahV:(d.M j).length<=(d.M (j+1)).length
 ait:∀b:Nat,d.agM j b=true->(d.M (j+1))[b]? =(d.M' j)[b]?
 aiz:∀b:Nat,b<(d.M j).length->d.agM j b=false->(d.M (j+1))[b]? =(d.M j)[b]?
 aiA:∀b:Nat,b<(d.M j).length->d.agM j b=false->jy (d.Tm j) b->(d.M' j)[b]? =(d.M j)[b]?
 aiB:∀b:Nat,(d.M j).length<=b->d.agM j b=true
 aik:∀b:Nat,d.agM j b=true->b<(d.M j).length->jy (d.Tm j) b
 sep:∀(i:Nat) oi (b:Nat),ops[i]? =some oi->i≠j->b<(d.M (i+1)).length->d.agM i b=true->(b<(d.M (j+1)).length/\d.agM j b=true)\/jy (d.Tm j) b->d.cl i j=true\/d.cl j i=true
 okc:∀(i:Nat) (b:Nat) oi,ops[i]? =some oi->d.ok j b=true->(d.M i).length<=b->b<(d.M (i+1)).length->i=j\/d.cl i j=true
 ahW:(d.v j).afF (d.ok j)=true
 aiC:∀(b:Nat) s,d.agM j b=true->(d.M (j+1))[b]? =some s->s.afF (d.ok j)=true
 ail:∀(b:Nat) s,(d.M j).length<=b->(d.M (j+1))[b]? =some s->s≠ .HS->fJ (d.M (j+1)) b
 aiu:∀e∈o.after,Region.binds .any e=true->e.on<j
 aim:∀i,d.cl i j=true->∃e∈o.after,Region.binds .any e=true/\(e.on=i\/d.cl i e.on=true)
variable{b t:Nat}
section
variable {P:Program}{T:TypeId->Option TyI}{N:Nat}{ops:Array Oper}{d:agD}
def uk(P:Program)(T:TypeId->Option TyI)(N:Nat)(ops:Array Oper)(d:agD):Prop:=∀(j:Nat) o,ops[j]? =some o->aij P T N ops d j o
def Tch(d:agD)(i b:Nat):Prop:=d.agM i b=true/\b<(d.M (i+1)).length
theorem Bd{j:Nat}(h:j<ops.size):∃o,ops[j]? =some o:=⟨ops[j],by simp[h]⟩
theorem ML{env:Env}{y:Option Tmp}{v:AV}(h:y≠some t):ad (agW env y v) t=ad env t:=by
 cases y with
 |none=>rfl
 |some x=>
  have:¬x=t:=fun e=>h (by rw[e])
  simp[agW,ad,this]
section
variable (hA:uk P T N ops d)
include hA
theorem FT(t:Nat)(j:Nat):∀k,j<=k->k<=ops.size->(∀(i:Nat) W,j<=i->i<k->ops[i]? =some W->W.dst≠some t)->ad (d.E k) t=ad (d.E j) t:=by
 intro k Z;induction Z with
 |refl=>intro _ _;rfl
 | @step k Z ih=>
  intro O X;obtain⟨o,V⟩:=Bd (ops:=ops) (j:=k) (by omega);rw[(hA k o V).env,ML (X k o Z (Nat.lt_succ_self k) V)];exact ih (by omega) fun i W S M h3=>X i W S (by omega) h3
theorem Bt(j:Nat):∀k,j<=k->k<=ops.size->(d.M j).length<=(d.M k).length:=by
 intro k Z;induction Z with
 |refl=>intro _;exact L9 _
 | @step k Z ih=>
  intro W;obtain⟨o,X⟩:=Bd (ops:=ops) (j:=k) (by omega);exact QQJ (ih (by omega)) (hA k o X).ahV
theorem Gb(b:Nat)(j:Nat):∀k,j<=k->k<=ops.size->(∀i,j<=i->i<k->¬Tch d i b)->(d.M k)[b]? =(d.M j)[b]? :=by
 intro k Z;induction Z with
 |refl=>intro _ _;rfl
 | @step k Z ih=>
  intro J X;obtain⟨o,W⟩:=Bd (ops:=ops) (j:=k) (by omega);have V:=ih (by omega) fun i V G=>X i V (by omega)
  have K:=X k Z (Nat.lt_succ_self k);rw[<-V];by_cases S:b<(d.M k).length
  .have:d.agM k b=false:=by
    cases O:d.agM k b with
    |false=>rfl
    |true=>exact absurd ⟨O,QQl S (hA k o W).ahV⟩ K
   exact(hA k o W).aiz b S this
  .have O:=(hA k o W).aiB b (by omega)
   have:¬b<(d.M (k+1)).length:=fun h=>K ⟨O,h⟩
   exact(List.getElem?_eq_none (Nat.le_of_not_lt this)).trans (List.getElem?_eq_none (Nat.le_of_not_lt S)).symm
end
structure ahO (d:agD)(ops:Array Oper)(base:Nat) (μ0:Nat->Place)(w0:World)(S:Nat->Prop) (μ:Nat->Place)(kb kt:Nat->Nat)(tmps:Array Value)(w:World):Prop where
 agb:base<=w.heap.size
 ahu:∀b,kb b<=ops.size
 ag6:∀b i,i<ops.size->Tch d i b->(S i↔i<kb b)
 ahv:∀b,kb b=0\/Tch d (kb b-1) b
 slot:∀(b:Nat) s,(d.M (kb b))[b]? =some s->agj μ (d.M (kb b)).length base w (μ b) s
 sep:∀b b' s',fJ (d.M (kb b)) b->(d.M (kb b'))[b']? =some s' ->s' ≠ .HS->b≠b' ->(μ b).blk≠(μ b').blk
 ahX:∀t,kt t<=ops.size
 ag7:∀(t i:Nat) oi,ops[i]? =some oi->oi.dst=some t->(S i↔i<kt t)
 ahw:∀t,kt t=0\/∃oi,ops[kt t-1]? =some oi/\oi.dst=some t
 tmp:∀t,af4 μ (d.M (kt t)).length (ad (d.E (kt t)) t) (tmps.getD t undef)
 agree:∀b,b<(d.M 0).length->μ b=μ0 b
 os:w.os=w0.os
 tape:w.tape=w0.tape
 drawn:w0.drawn<=w.drawn
 output:w.output=w0.output
 size:w0.heap.size<=w.heap.size
 frame:∀k,k<w0.heap.size->(∀b,fJ (d.M 0) b->(μ0 b).blk≠k)->w.heap[k]? =w0.heap[k]?
 owner:∀b,fJ (d.M (kb b)) b->(μ b).blk<w0.heap.size->∃b0,fJ (d.M 0) b0/\(μ0 b0).blk=(μ b).blk
theorem Y8(y:uk P T N ops d):∀(j i:Nat),j<ops.size->d.cl i j=true->i<j:=by
 intro j;induction j using Nat.strongRecOn with
 |_ j ih=>
  intro i W h;obtain⟨o,X⟩:=Bd W;obtain⟨e,he,V,hc⟩:=(y j o X).aim i h;have Z:=(y j o X).aiu e he V;rcases hc with rfl | hc
  .exact Z
  .exact Nat.lt_trans (ih e.on Z i (by omega) hc) Z
def wL(ops:Array Oper)(S:Nat->Prop):Prop:=∀(j:Nat) o,ops[j]? =some o->S j->∀e∈o.after,Region.binds .any e=true->S e.on
section
variable (hA:uk P T N ops d){S:Nat->Prop}(hS:wL ops S)
include hA S hS
theorem Ut:∀(j:Nat) o,ops[j]? =some o->(∀e∈o.after,Region.binds .any e=true->S e.on)->∀i,d.cl i j=true->S i:=by
 intro j;induction j using Nat.strongRecOn with
 |_ j ih=>
  intro o W M i h;have K:j<ops.size:=(Ns.1 W).1;obtain⟨e,he,V,hc⟩:=(hA j o W).aim i h;have J:=(hA j o W).aiu e he V;have Z:=M e he V;rcases hc with rfl | hc
  .exact Z
  .obtain⟨O,X⟩:=Bd (ops:=ops) (j:=e.on) (by omega)
   exact ih e.on J O X (hS e.on O X Z) i hc
theorem oU{j:Nat}{o:Oper}(y:ops[j]? =some o)(hr:∀e∈o.after,Region.binds .any e=true->S e.on)(I:¬S j){i:Nat}(H:i<ops.size)(h:d.cl i j=true\/d.cl j i=true):S i↔i<j:=by
 have X:j<ops.size:=(Ns.1 y).1;obtain⟨V,Z⟩:=Bd H;rcases h with h | h
 .exact⟨fun _=>Y8 hA j i X h,fun _=>Ut hA hS j o y hr i h⟩
 .have O:=Y8 hA i j H h
  constructor
  .intro W
   exact absurd (Ut hA hS i V Z (hS i V Z W) j h) I
  .intro;omega
end
section step
variable {base:Nat}{μ0:Nat->Place}{w0:World}{S:Nat->Prop}{μ:Nat->Place}{kb kt:Nat->Nat}{a:Act}{w:World}{j:Nat}{o:Oper}
section
variable (hA:uk P T N ops d)(hI:ahO d ops base μ0 w0 S μ kb kt a.tmps w)(hS:wL ops S)(ho:ops[j]? =some o)(hr:∀e∈o.after,Region.binds .any e=true->S e.on)(hj:¬S j)
include hA hI hS ho hr hj
theorem W9(y:∀(i:Nat) Z,ops[i]? =some Z->i≠j->Z.dst=some t->d.cl i j=true\/d.cl j i=true):
  kt t<=j/\ad (d.E j) t=ad (d.E (kt t)) t:=by
 have K:j<ops.size:=(Ns.1 ho).1;have X:kt t<=j:=by
  rcases hI.ahw t with J | ⟨Z,V,O⟩
  .omega
  .have G:=(hI.ag7 t (kt t-1) Z V O)
   by_cases J:kt t=0
   .omega
   .have W:S (kt t-1):=G.2 (by omega)
    have F:kt t-1≠j:=fun e=>hj (e▸W)
    have D:kt t-1<ops.size:=(Ns.1 V).1;have:=(oU hA hS ho hr hj D (y _ Z V F O)).1 W;omega
 refine⟨X,FT hA t (kt t) j X (by omega) fun i Z V O h3 M=>?_⟩;have:=(oU hA hS ho hr hj (by omega) (y i Z h3 (by omega) M)).2 O;have:=(hI.ag7 t i Z h3 M).1 this;omega
theorem zf(y:jy (d.Tm j) b):kb b<=j/\(d.M j)[b]? =(d.M (kb b))[b]? :=by
 have D:j<ops.size:=(Ns.1 ho).1;have Z:∀i,i<ops.size->i≠j->Tch d i b->(S i↔i<j):=by intro i J V G;obtain⟨C,O⟩:=Bd J;exact oU hA hS ho hr hj J ((hA j o ho).sep i C b O V G.2 G.1 (.inr y))
 have X:kb b<=j:=by
  rcases hI.ahv b with B | K
  .omega
  .by_cases B:kb b=0
   .omega
   .have F:kb b-1<ops.size:=by have:=hI.ahu b;omega
    have W:S (kb b-1):=(hI.ag6 b _ F K).2 (by omega);have V:kb b-1≠j:=fun e=>hj (e▸W)
    have:=(Z _ F V K).1 W;omega
 refine⟨X,Gb hA b (kb b) j X (by omega) fun i K A h3=>?_⟩;have:=(Z i (by omega) (by omega) h3).2 A;have:=(hI.ag6 b i (by omega) h3).1 this;omega
end
theorem sw(y:uk P T N ops d)(H:ops[j]? =some o)(h:(d.Tm j)[b]? =some s)(hs:s≠ .HS):(d.M j)[b]? =some s:=by
 rcases (y j o H).ahU b with e | e
 .rw[<-e];exact h
 .rw[h] at e;cases e;exact absurd rfl hs
theorem mO{mem:Mem}(h:fJ mem b):jy mem b:=by obtain⟨s,h,Z⟩:=h;exact⟨s,h,af6.agE Z⟩
theorem mP{m y :Mem}(h:m[b]? =y[b]?):fJ m b↔fJ y b:=by simp[fJ,h]
section
variable (hA:uk P T N ops d)(hI:ahO d ops base μ0 w0 S μ kb kt a.tmps w)(hS:wL ops S)(ho:ops[j]? =some o)(hr:∀e∈o.after,Region.binds .any e=true->S e.on)(hj:¬S j)
include hA hI hS ho hr hj
theorem VJ:agh base μ (d.Tm j) w:=by
 have B:j<ops.size:=(Ns.1 ho).1;refine⟨hI.agb,fun b s K=>?_,fun b A J G F X W=>?_⟩
 .by_cases V:s=.HS
  .subst V;trivial
  .have O:jy (d.Tm j) b:=⟨s,K,V⟩
   obtain⟨D,M⟩:=zf hA hI hS ho hr hj O;have C:=sw hA ho K V;rw[M] at C;rw[(hA j o ho).ahT];exact(hI.slot b s C).mono (Bt hA _ j D (by omega)) (fun _ _=>rfl) fun _=>rfl
 .obtain⟨D,M⟩:=zf hA hI hS ho hr hj (mO G)
  obtain⟨u,z⟩:=zf hA hI hS ho hr hj ⟨J,F,X⟩;refine hI.sep b A J ?_ ?_ X W
  .refine(mP M).1 ?_
   obtain⟨s,h,Z⟩:=G;exact⟨s,sw hA ho h (af6.agE Z),Z⟩
  .rw[<-z];exact sw hA ho F X
theorem VK:agy μ (d.Tm j).length (d.En j) a.tmps:=by
 have Z:j<ops.size:=(Ns.1 ho).1;intro t;rcases (hA j o ho).named t with h | ⟨h,X⟩
 .rw[h];simp[af4]
 .obtain⟨W,V⟩:=W9 hA hI hS ho hr hj X
  rw[h,V,(hA j o ho).ahT];exact(hI.tmp t).mono (Bt hA _ j W (by omega)) fun _ _=>rfl
end
end step
end
end Go.Eng
namespace Go.Eng
section
variable {P:Program}{T:TypeId->Option TyI}{N:Nat}{ops:Array Oper}{d:agD}
variable {base:Nat}{μ0:Nat->Place}{w0:World}{S:Nat->Prop}{μ μ' :Nat->Place}{kb kt:Nat->Nat}{a:Act}{w w' :World}{j:Nat}{o:Oper}{V:Value}
open Classical in
theorem W5(I:uk P T N ops d)(y:ahO d ops base μ0 w0 S μ kb kt a.tmps w)(hS:wL ops S)(Q:ops[j]? =some o)(hr:∀e∈o.after,Region.binds .any e=true->S e.on)(hj:¬S j)(hN:a.tmps.size=N)(hV:af4 μ' (d.M' j).length (d.v j) V)(hH:agh base μ' (d.M' j) w')(H:Step (d.Tm j).length μ (d.Tm j) w μ' (d.M' j) w'):
  ∃μ2 kb2 kt2,ahO d ops base μ0 w0 (fun i=>S i\/i=j) μ2 kb2 kt2 (a.put o.dst V).tmps w' :=by
 have hjs:j<ops.size:=(Ns.1 Q).1;have D:=I j o Q;have hlj:∀k,k<=j->(d.M k).length<=(d.M j).length:=fun k hk=>Bt I k j hk (by omega)
 have hl1:=D.ahV;have h0j:=hlj 0 (Nat.zero_le _);have hag:∀b,b<(d.M j).length->μ' b=μ b:=fun b X=>H.agree b (by rw[D.ahT];exact X)
 let μ2:Nat->Place:=fun b=>if b<(d.M (j+1)).length then μ' b else μ b
 have C:∀b,b<(d.M j).length->μ2 b=μ b:=by
  intro b X;show(if b<(d.M (j+1)).length then μ' b else μ b)=μ b
  rw[if_pos (by omega),hag b X]
 have abB:∀b,b<(d.M (j+1)).length->μ2 b=μ' b:=by
  intro b X;show(if b<(d.M (j+1)).length then μ' b else μ b)=μ' b
  rw[if_pos X]
 have acC:∀b,¬b<(d.M (j+1)).length->μ2 b=μ b:=by
  intro b X;show(if b<(d.M (j+1)).length then μ' b else μ b)=μ b
  rw[if_neg X]
 have adW:∀k,0<k->S (k-1)->k-1<ops.size->∀b,d.ok (k-1) b=true->μ2 b=μ b:=by
  intro k hk hSk hks b X;by_cases h1:b<(d.M j).length
  .exact C b h1
  .by_cases F:b<(d.M (j+1)).length
   .obtain⟨ok,hok⟩:=Bd hks
    rcases (I _ ok hok).okc j b o Q X (by omega) F with e | e
    .exact absurd (e▸hSk) hj
    .exact absurd (Ut I hS _ ok hok (hS _ ok hok hSk) j e) hj
   .exact acC b F
 let kb2:Nat->Nat:=fun b=>if Tch d j b then j+1 else kb b
 let kt2:Nat->Nat:=fun t=>if o.dst=some t then j+1 else kt t
 have acj:∀b,Tch d j b->kb2 b=j+1:=fun b X=>if_pos X
 have ack:∀b,¬Tch d j b->kb2 b=kb b:=fun b X=>if_neg X
 have kbS:∀b,kb b=0\/(0<kb b/\S (kb b-1)/\kb b-1<ops.size/\Tch d (kb b-1) b):=by
  intro b;rcases QQY (kb b) with h0 | h0
  .exact .inl h0
  .rcases y.ahv b with h1 | h1
   .exact .inl h1
   .have G:kb b-1<ops.size:=by have:=y.ahu b;omega
    exact .inr ⟨h0,(y.ag6 b _ G h1).2 (by omega),G,h1⟩
 have adG:∀b,¬Tch d j b->b<(d.M j).length\/¬b<(d.M (j+1)).length:=by
  intro b X;by_cases h1:b<(d.M j).length
  .exact .inl h1
  .refine .inr fun F=>X ⟨D.aiB b (by omega),F⟩
 have adX:∀b,¬Tch d j b->μ2 b=μ b:=by
  intro b X;rcases adG b X with h | h
  .exact C b h
  .exact acC b h
 have acD:∀b,jy (d.Tm j) b->¬Tch d j b->kb b<=j/\b<(d.M j).length/\(d.M' j)[b]? =(d.M (kb b))[b]? /\(d.M (kb b))[b]? =(d.M j)[b]? :=by
  intro b X hnt;obtain⟨Y,u⟩:=zf I y hS Q hr hj X;obtain⟨s,K,m⟩:=X;have G:b<(d.M j).length:=by have:=gL K;rw[D.ahT] at this;exact this
  have hf:d.agM j b=false:=by
   cases Z:d.agM j b with
   |false=>rfl
   |true=>exact absurd ⟨Z,by omega⟩ hnt
  exact⟨Y,G,(D.aiA b G hf ⟨s,K,m⟩).trans u,u.symm⟩
 have adY:∀b s,(d.M (kb2 b))[b]? =some s->s≠ .HS->((d.M' j)[b]? =some s/\μ2 b=μ' b/\b<(d.M (j+1)).length/\(Tch d j b\/jy (d.Tm j) b))\/
   ((d.M (kb b))[b]? =some s/\¬jy (d.Tm j) b/\¬Tch d j b/\μ2 b=μ b):=by
  intro b s K m;by_cases Z:Tch d j b
  .rw[acj b Z] at K
   exact .inl ⟨by rw[<-D.ait b Z.1];exact K,abB b Z.2,Z.2,.inl Z⟩
  .rw[ack b Z] at K
   by_cases X:jy (d.Tm j) b
   .obtain⟨Y,u,k3,k4⟩:=acD b X Z
    exact .inl ⟨by rw[k3];exact K,by rw[C b u,hag b u],by omega,.inr X⟩
   .exact .inr ⟨K,X,Z,adX b Z⟩
 have abk:∀b,fJ (d.M (kb2 b)) b->(fJ (d.M' j) b/\μ2 b=μ' b/\b<(d.M (j+1)).length/\(Tch d j b\/jy (d.Tm j) b))\/
   (fJ (d.M (kb b)) b/\¬jy (d.Tm j) b/\¬Tch d j b/\μ2 b=μ b):=by
  intro b X;obtain⟨s,h,W⟩:=X;rcases adY b _ h (af6.agE W) with⟨B,g2⟩ | ⟨B,g2⟩
  .exact .inl ⟨⟨s,B,W⟩,g2⟩
  .exact .inr ⟨⟨s,B,W⟩,g2⟩
 have aaB:∀b,fJ (d.Tm j) b->fJ (d.M (kb b)) b:=by intro b X;obtain⟨Y,u⟩:=zf I y hS Q hr hj (mO X);refine(mP u).1 ?_;obtain⟨s,h,W⟩:=X;exact⟨s,sw I Q h (af6.agE W),W⟩
 have acE:∀b s,(d.M (kb b))[b]? =some s->s≠ .HS->(μ b).blk<w.heap.size:=fun b s K m=>(y.slot b s K).agN m
 refine⟨μ2,kb2,kt2,⟨QQJ y.agb H.size,?_,?_,?_,?_,?_,?_,?_,?_,?_,?_,H.os.trans y.os,H.tape.trans y.tape,QQJ y.drawn H.drawn,H.output.trans y.output,QQJ y.size H.size,?_,?_⟩⟩
 .
  intro b;by_cases Z:Tch d j b
  .rw[acj b Z];omega
  .rw[ack b Z];exact y.ahu b
 .
  intro b i hi hti;obtain⟨oi,A⟩:=Bd hi;by_cases Z:Tch d j b
  .rw[acj b Z]
   by_cases O:i=j
   .subst O;simp
   .have:=oU I hS Q hr hj hi (D.sep i oi b A O hti.2 hti.1 (.inl ⟨Z.2,Z.1⟩))
    constructor
    .rintro (h | h)
     .have:=this.1 h;omega
     .omega
    .intro h;exact .inl (this.2 (by omega))
  .rw[ack b Z]
   have O:i≠j:=fun e=>Z (e▸hti)
   rw[<-y.ag6 b i hi hti];constructor
   .rintro (h | h)
    .exact h
    .exact absurd h O
   .exact .inl
 .
  intro b;by_cases Z:Tch d j b
  .rw[acj b Z];exact .inr Z
  .rw[ack b Z];exact y.ahv b
 .
  intro b s K;by_cases h0:s=.HS
  .subst h0;trivial
  by_cases Z:Tch d j b
  .rw[acj b Z] at K |-
   have h1:=hH.slot b s (by rw[<-D.ait b Z.1];exact K);rw[abB b Z.2,D.ais];exact h1.mono (L9 _) (fun x R=>abB x (by rw[D.ais];exact R)) fun _=>rfl
  .rw[ack b Z] at K |-
   have z:=y.slot b s K;rw[adX b Z];by_cases X:jy (d.Tm j) b
   .obtain⟨Y,u,k3,k4⟩:=acD b X Z
    have h1:=hH.slot b s (by rw[k3];exact K);rw[hag b u] at h1;have hlk:=hlj (kb b) Y;have F:=z.lower (fun x R=>hag x (by omega)) h1;exact F.mono (L9 _) (fun x R=>C x (by omega)) fun _=>rfl
   .have adH:w'.heap[(μ b).blk]? =w.heap[(μ b).blk]? :=by
     refine H.frame _ (z.agN h0) fun b1 hb1=>?_
     refine y.sep b1 b s (aaB b1 hb1) K h0 ?_;rintro rfl;exact X (mO hb1)
    have F:agj μ (d.M (kb b)).length base w' (μ b) s:=z.mono (L9 _) (fun _ _=>rfl) fun _=>adH
    rcases kbS b with h3 | ⟨h3,h4,h5,h6⟩
    .refine F.mono (L9 _) (fun x R=>C x ?_) fun _=>rfl
     rw[h3] at R;omega
    .obtain⟨ok,hok⟩:=Bd h5
     have hk1:kb b-1+1=kb b:=by omega
     refine F.change (ok:=d.ok (kb b-1)) (fun x _ R=>adW (kb b) h3 h4 h5 x R) ?_;exact(I _ ok hok).aiC b s h6.1 (by rw[hk1];exact K)
 .
  intro b J s' X Y' m hbb;rcases abk b X with⟨B,g2,_,_⟩ | ⟨B,g2,g3,g4⟩<;>rcases adY J s' Y' m with⟨Y,u,k3,k4⟩ | ⟨Y,u,k3,k4⟩
  .rw[g2,u];exact hH.sep b J s' B Y m hbb
  .rw[g2,k4]
   have G:=acE J s' Y m;by_cases abr:(μ' b).blk<w.heap.size
   .obtain⟨b0,h0,h1⟩:=H.owner b B abr
    rw[<-h1];refine y.sep b0 J s' (aaB b0 h0) Y m ?_;rintro rfl;exact u (mO h0)
   .omega
  .rw[g4,u]
   by_cases G:J <(d.M j).length
   .have hbd:jy (d.Tm j) J :=by
     rcases k4 with Z | hb1
     .exact D.aik J Z.1 G
     .exact hb1
    obtain⟨q1,q2⟩:=zf I y hS Q hr hj hbd;obtain⟨s0,hs0,adZ⟩:=hbd;rw[hag J G];exact y.sep b J s0 B (by rw[<-q2];exact sw I Q hs0 adZ) adZ hbb
   .have ht' :=D.aiB J (by omega)
    have hM1:(d.M (j+1))[J]? =some s' :=by rw[D.ait J ht'];exact Y
    have aaW:=D.ail J s' (by omega) hM1 m;have acB :fJ (d.M' j) J :=(mP (D.ait J ht')).1 aaW;have hbl:(μ b).blk<w.heap.size:=by obtain⟨s,h,W⟩:=B;exact acE b _ h (af6.agE W)
    by_cases abr:(μ' J).blk<w.heap.size
    .obtain⟨b0,h0,h1⟩:=H.owner J acB abr
     rw[<-h1];have hob:=aaB b0 h0;have aeA:b≠b0:=by rintro rfl;exact g2 (mO h0)
     obtain⟨s,h,W⟩:=hob;exact y.sep b b0 _ B h (af6.agE W) aeA
    .omega
  .rw[g4,k4];exact y.sep b J s' B Y m hbb
 .
  intro t;show(if o.dst=some t then j+1 else kt t)<=ops.size
  split
  .omega
  .exact y.ahX t
 .
  intro t i oi A hd;show(S i\/i=j)↔i<(if o.dst=some t then j+1 else kt t)
  have hi:i<ops.size:=(Ns.1 A).1;by_cases Z:o.dst=some t
  .rw[if_pos Z]
   by_cases O:i=j
   .subst O;simp
   .have:=oU I hS Q hr hj hi (D.aiP i oi t A O Z hd)
    constructor
    .rintro (h | h)
     .have:=this.1 h;omega
     .omega
    .intro h;exact .inl (this.2 (by omega))
  .rw[if_neg Z]
   have O:i≠j:=by rintro rfl;rw[Q] at A;cases A;exact Z hd
   rw[<-y.ag7 t i oi A hd];constructor
   .rintro (h | h)
    .exact h
    .exact absurd h O
   .exact .inl
 .
  intro t;show(if o.dst=some t then j+1 else kt t)=0\/∃oi,ops[(if o.dst=some t then j+1 else kt t)-1]? =some oi/\oi.dst=some t
  by_cases Z:o.dst=some t
  .rw[if_pos Z];exact .inr ⟨o,by simpa using Q,Z⟩
  .rw[if_neg Z];exact y.ahw t
 .
  intro t;show af4 μ2 (d.M (if o.dst=some t then j+1 else kt t)).length (ad (d.E (if o.dst=some t then j+1 else kt t)) t) ((a.put o.dst V).tmps.getD t undef)
  by_cases Z:o.dst=some t
  .rw[if_pos Z,D.env,Z]
   have G:t<a.tmps.size:=by have:=D.dst;unfold E2 at this;rw[Z] at this;simp only[L0] at this;rw[hN];exact this
   have e1:ad (agW (d.E j) (some t) (d.v j)) t=d.v j:=by simp[agW,ad]
   have e2:(a.put (some t) V).tmps.getD t undef=V:=by simp[Act.put,G]
   rw[e1,e2,D.ais];exact hV.mono (L9 _) fun x R=>abB x (by rw[D.ais];exact R)
  .rw[if_neg Z]
   have e2:(a.put o.dst V).tmps.getD t undef=a.tmps.getD t undef:=by
    cases hd:o.dst with
    |none=>rfl
    |some x=>
     have m:x≠t:=by rintro rfl;exact Z hd
     simp[Act.put,X2 m]
   rw[e2];have z:=y.tmp t;rcases QQY (kt t) with h0 | h0
   .rw[h0] at z |-
    exact z.mono (L9 _) fun x R=>C x (by omega)
   .rcases y.ahw t with h1 | ⟨oi,h1,F⟩
    .omega
    .have hSk:S (kt t-1):=(y.ag7 t _ oi h1 F).2 (by omega)
     have hks:kt t-1<ops.size:=(Ns.1 h1).1;refine z.change (ok:=d.ok (kt t-1)) (fun x _ R=>adW (kt t) h0 hSk hks x R) ?_;have he:=(I _ oi h1).env;have hk1:kt t-1+1=kt t:=by omega
     rw[hk1,F] at he;rw[he];simp only[agW,ad,if_true];exact(I _ oi h1).ahW
 .
  intro b X;rw[C b (by omega)];exact y.agree b X
 .
  intro k hk hf;rw[H.frame k (QQl hk y.size) ?_,y.frame k hk hf];intro b X he;obtain⟨b0,h1,F⟩:=y.owner b (aaB b X) (by rw[he];exact hk);exact hf b0 h1 (F.trans he)
 .
  intro b X G;rcases abk b X with⟨B,g2,_,_⟩ | ⟨B,g2,g3,g4⟩
  .rw[g2] at G |-
   obtain⟨b0,h0,h1⟩:=H.owner b B (QQl G y.size);obtain⟨b1,F,h3⟩:=y.owner b0 (aaB b0 h0) (by rw[h1];exact G);exact⟨b1,F,h3.trans h1⟩
  .rw[g4] at G |-
   exact y.owner b B G
end
variable{listed:Array Bool}
section
variable {P:Program}{T:TypeId->Option TyI}{tp:Bool}{N m0:Nat}{ops:Array Oper}{d:agD}
def left(ops:Array Oper)(listed:Array Bool):Nat:=((List.range ops.size).filter fun i=> !listed.getD i true).length
def uS(listed:Array Bool)(i:Nat):Prop:=listed.getD i false=true
theorem A9{l:List Nat}{p q:Nat->Bool}(h:∀i∈l,q i=true->p i=true){j:Nat}(H:j∈l)(h1:p j=true)(h2:q j=false):(l.filter q).length<(l.filter p).length:=by
 induction l with
 |nil=>cases H
 |cons x xs ih=>
  have X:∀(l:List Nat),(∀i∈l,q i=true->p i=true)->(l.filter q).length<=(l.filter p).length:=by
   intro l W;induction l with
   |nil=>simp
   |cons y ys ih2=>
    have:=ih2 (fun i Z=>W i (by simp[Z]));have S:=W y (by simp);simp only[List.filter_cons];cases hq:q y<;>cases hp:p y<;>simp_all<;>omega
  have V:=X xs (fun i Z=>h i (by simp[Z]));have O:=h x (by simp);simp only[List.filter_cons];cases H with
  |head=>rw[h1,h2];simp;omega
  |tail _ hm=>
   have:=ih (fun i Z=>h i (by simp[Z])) hm;cases hq:q x<;>cases hp:p x<;>simp_all<;>omega
theorem VL{i:Nat}(y:i<listed.size):uS (listed.setIfInBounds i true)=fun k=>uS listed k\/k=i:=by
 funext k;apply propext;unfold uS;by_cases Z:i=k
 .subst Z;simp[y]
 .rw[getD_set_ne false Z]
  constructor
  .exact .inl
  .rintro (h | h)
   .exact h
   .exact absurd h.symm Z
theorem Sa(y:uk P T N ops d)(H:listed.size=ops.size)(h:Region.ready .any ops listed=[]):∀i,i<ops.size->uS listed i:=by
 intro i;induction i using Nat.strongRecOn with
 |_ i ih=>
  intro W;obtain⟨o,Z⟩:=Bd W;cases hl:listed.getD i true with
  |true=>
   unfold uS;simp only[Array.getD_eq_getD_getElem?] at hl |-;rw[Array.getElem?_eq_getElem (by omega)] at hl |-;exact hl
  |false=>
   exfalso;have:i∈Region.ready .any ops listed:=mem_ready.2 ⟨hl,o,Z,fun e he X=>ih e.on ((y i o Z).aiu e he X) (by have:=(y i o Z).aiu e he X;omega)⟩;rw[h] at this;cases this
theorem WV(I:uk P T N ops d){H:Nat}{μ0 μ:Nat->Place}{w0 w:World}{S:Nat->Prop}{Q R:Nat->Nat}{tmps:Array Value}(hm0:m0<=(d.M 0).length)(y:ahO d ops H μ0 w0 S μ Q R tmps w)(Y:∀i,i<ops.size->S i):
  agh H μ (d.M ops.size) w/\agy μ (d.M ops.size).length (d.E ops.size) tmps/\m0<=(d.M ops.size).length/\Step m0 μ0 (d.M 0) w0 μ (d.M ops.size) w:=by
 have X:∀b,(d.M ops.size)[b]? =(d.M (Q b))[b]? :=fun b=>Gb I b (Q b) _ (y.ahu b) (L9 _) fun i J W h3=>by have:=(y.ag6 b i W h3).1 (Y i W);omega
 have V:∀k,k<=ops.size->(d.M k).length<=(d.M ops.size).length:=fun k G=>Bt I k _ G (L9 _)
 have m:=V 0 (Nat.zero_le _);refine⟨⟨y.agb,fun b s F=>?_,fun b D C Z O B K=>?_⟩,fun t=>?_,by omega,⟨by omega,fun b Z=>y.agree b (by omega),y.os,y.tape,y.output,y.size,y.frame,fun b Z A=>?_,y.drawn⟩⟩
 .exact(y.slot b s (by rw[<-X];exact F)).mono (V _ (y.ahu b)) (fun _ _=>rfl) fun _=>rfl
 .exact y.sep b D C ((mP (X b)).1 Z) (by rw[<-X];exact O) B K
 .have he:=FT I t (R t) ops.size (y.ahX t) (L9 _) fun i z J W h3 u=>by have:=(y.ag7 t i z h3 u).1 (Y i W);omega
  rw[he];exact(y.tmp t).mono (V _ (y.ahX t)) fun _ _=>rfl
 .exact y.owner b ((mP (X b)).1 Z) A
theorem CW(hm:P.follows .mixedOrders=true)(hT:dW P T){id:Nat}{st y :St}{Q:Exit->St->Prop}(I:uk P T N ops d)(hE:d.E 0=st.env)(R:d.M 0=st.mem)(H :y =⟨d.E ops.size,d.M ops.size⟩)(hq:Q .normal y):
  AWP P tp N m0 (.region id ops true) st Q:=by
 intro ro h0 base μ0 w0 a0 hro hH hR hN hdf hm0;refine wpIn_region_any hm ?_;have B:∀(listed:Array Bool) (a:Act) (w:World) μ kb kt,listed.size=ops.size->a.tmps.size=N->a.defers=a0.defers->
   ahO d ops base μ0 w0 (uS listed) μ kb kt a.tmps w->Region.ready .any ops listed=[]->
   ∃y μ',agh base μ' y.mem w/\agy μ' y.mem.length y.env a.tmps/\a.tmps.size=N/\MOk P base h0 w a.defers/\m0<=y.mem.length/\Step m0 μ0 st.mem w0 μ' y.mem w/\Q .normal y :=by
  intro listed a w μ kb kt hsz ha hd hI hr;obtain⟨X,h2,h3,h4⟩:=WV (m0:=m0) I (by rw[R];exact hm0) hI (Sa I hsz hr);rw[R] at h4;exact⟨y,μ,by rw[H];exact X,by rw[H];exact h2,ha,by rw[hd];exact hdf.step hH h4,by rw[H];exact h3,by rw[H];exact h4,hq⟩
 have key:∀(Z:Nat) (listed:Array Bool) (a:Act) (w:World) μ kb kt,listed.size=ops.size->left ops listed<=Z->a.tmps.size=N->a.defers=a0.defers->
   wL ops (uS listed)->ahO d ops base μ0 w0 (uS listed) μ kb kt a.tmps w->
   wpAnyIn (Fr ro) 0 P .any ops (fun e O w' =>∃y μ',agh base μ' y.mem w' /\agy μ' y.mem.length y.env O.tmps/\O.tmps.size=N/\MOk P base h0 w' O.defers/\m0<=y.mem.length/\
    Step m0 μ0 st.mem w0 μ' y.mem w' /\Q e y) Z listed a w:=by
  intro Z;induction Z with
  |zero=>
   intro listed a w μ kb kt hsz hl ha hd hC hI;have hr:Region.ready .any ops listed=[]:=by
    apply List.eq_nil_iff_forall_not_mem.2;intro i hi;obtain⟨X,o,W,_⟩:=mem_ready.1 hi;have A:i<ops.size:=(Ns.1 W).1;have:i∈(List.range ops.size).filter fun i=> !listed.getD i true:=by rw[List.mem_filter];exact⟨by simpa using A,by rw[X];rfl⟩
    have h0:((List.range ops.size).filter fun i=> !listed.getD i true)=[]:=M0 (Nat.le_zero.1 hl);rw[h0] at this;cases this
   exact⟨hr,B listed a w μ kb kt hsz ha hd hI hr⟩
  |succ Z ih=>
   intro listed a w μ kb kt hsz hl ha hd hC hI;refine⟨B listed a w μ kb kt hsz ha hd hI,fun i hi=>?_⟩;obtain⟨X,o,W,S⟩:=mem_ready.1 hi;have A:i<ops.size:=(Ns.1 W).1;have K:¬uS listed i:=by unfold uS;simp only[Array.getD_eq_getD_getElem?] at X |-;rw[Array.getElem?_eq_getElem (by omega)] at X |-;simp only[Option.getD_some] at X |-;rw[X];simp
   have z:=VL (listed:=listed) (i:=i) (by omega);have hC' :wL ops (uS (listed.setIfInBounds i true)):=by
    rw[z];intro j oj J G e he F;rcases G with G | rfl
    .exact .inl (hC j oj J G e he F)
    .rw[W] at J;cases J;exact .inl (S e he F)
   have adI:left ops (listed.setIfInBounds i true)<=Z:=by
    have:left ops (listed.setIfInBounds i true)<left ops listed:=by
     unfold left;refine A9 (fun k _ hk=>?_) (j:=i) (by simpa using A) (by rw[X];rfl) (by simp[hsz,A]);by_cases u:i=k
     .subst u;simp[hsz,A] at hk
     .rw[getD_set_ne true u] at hk;exact hk
    omega
   have D:=I i o W;have m:=VJ I hI hC W S K;have hGw:GOk P base w:=by
    refine⟨hdf.ahe.below,?_⟩;have:=hdf.ahe.tab;unfold Lib.TabIs at this |-;rw[<-this];refine QH fun k hk=>hI.frame k ?_ fun b F=>?_
    .have:=hdf.ahe.below;have:=hH.agb;omega
    .rw[R] at F
     have:=Qq hH F;have:=hdf.ahe.below;omega
   have Y:=VK I hI hC W S K;have next:∀V w' μ',af4 μ' (d.M' i).length (d.v i) V->agh base μ' (d.M' i) w' ->Step (d.Tm i).length μ (d.Tm i) w μ' (d.M' i) w' ->
     wpAnyIn (Fr ro) 0 P .any ops (fun e O w' =>∃y μ',agh base μ' y.mem w' /\agy μ' y.mem.length y.env O.tmps/\O.tmps.size=N/\MOk P base h0 w' O.defers/\m0<=y.mem.length/\
      Step m0 μ0 st.mem w0 μ' y.mem w' /\Q e y) Z (listed.setIfInBounds i true) (a.put o.dst V) w' :=by
    intro V w' μ' q1 q2 q3;obtain⟨μ2,kb2,kt2,hI2⟩:=W5 I hI hC W S K ha q1 q2 q3;rw[<-z] at hI2;exact ih _ _ _ μ2 kb2 kt2 (by simp[hsz]) adI (by rw[gh];exact ha) (by rw[gy];exact hd) hC' hI2
   unfold wpOpIn;simp only[W];rw[qu Y D.wanted];cases hw:d.wb i with
   |false=>
    obtain⟨e1,e2⟩:=D.skip hw;simp only[Bool.false_eq_true,if_false];exact⟨fun _ _=>trivial,next undef w μ (by rw[e1];simp[af4,af5,undef]) (by rw[e2];exact m) (by rw[e2];exact .refl (L9 _))⟩
   |true=>
    simp only[if_true];exact sZ hT hGw m Y ha D.dst (D.step hw) fun V w' μ' q1 q2 q3 q4=>next V w' μ' q1 q2 q4
 have hI0:ahO d ops base μ0 w0 (uS (Array.replicate ops.size false)) μ0 (fun _=>0) (fun _=>0) a0.tmps { w0 with drawn:=w0.drawn+1 }:=by
  have hno:∀i,¬uS (Array.replicate ops.size false) i:=by intro i;unfold uS;simp only[Array.getD_eq_getD_getElem?,Array.getElem?_replicate];split<;>simp
  have C :agh base μ0 (d.M 0) { w0 with drawn:=w0.drawn+1 }:=by rw[R];exact hH.ag4 rfl
  refine⟨C.agb,fun _=>Nat.zero_le _,fun b i _ _=>⟨fun h=>absurd h (hno i),fun h=>by omega⟩,fun _=>.inl rfl,fun b s hs=>C.slot b s hs,
   fun b b' s' =>C.sep b b' s',fun _=>Nat.zero_le _,fun t i oi _ _=>⟨fun h=>absurd h (hno i),fun h=>by omega⟩,fun _=>.inl rfl,fun t=>?_,fun _ _=>rfl,
   rfl,rfl,Nat.le_succ _,rfl,L9 _,fun _ _ _=>rfl,fun b F _=>⟨b,F,rfl⟩⟩
  rw[R,hE];exact hR t
 refine key ops.size _ a0 _ μ0 _ _ (by simp) ?_ hN rfl ?_ hI0
 .unfold left
  exact QQJ (List.length_filter_le _ _) (by simp)
 .intro j o _ hS
  exfalso;unfold uS at hS;simp only[Array.getD_eq_getD_getElem?,Array.getElem?_replicate] at hS;split at hS<;>simp at hS
end
end Go.Eng
namespace Go.Eng
def qJ:Exit->Option (Option Code)
 |.normal=>some none
 |.ret=>some (some .ret)
 |.exit id=>some (some (.exit id))
 |_=>none
def mJ:Option Code->Option Exit
 |none=>some .normal
 |some .ret=>some .ret
 |some (.exit id)=>some (.exit id)
 |_=>none
def lD(j:Option Code):LoopState:=if j.isNone then .ready else .done
def zE:List Tmp->List AV->Env->Env
 |t::ts,v::vs,env=>zE ts vs ((t,v)::env)
 |_,_,env=>env
variable{L:Loop}{m0:Nat}{r:agV}
section
variable {P:Program}{T:TypeId->Option TyI}{μ:Nat->Place}{mem:Mem}{base:Nat}{w:World}
theorem agh.alloc(y:agh base μ mem w)(o:Obj):agh base μ mem (w.alloc o):=by refine⟨by simp;have:=y.agb;omega,fun b s Z=>?_,y.sep⟩;exact(y.slot b s Z).mono (L9 _) (fun _ _=>rfl) fun X=>iQ w o ((y.slot b s Z).agN X)
theorem Step.alloc(h:m0<=mem.length)(o:Obj):Step m0 μ mem w μ mem (w.alloc o):=
 ⟨h,fun _ _=>rfl,rfl,rfl,rfl,by simp,fun k Z _=>iQ w o Z,fun b X _=>⟨b,X,rfl⟩,L9 _⟩
theorem HI{n:Nat}:∀{ts:List Tmp} {vs:List AV} {Vs:List Value} {env:Env} {tmps:Array Value},af5 μ n vs Vs->agy μ n env tmps->vs.length=ts.length->(∀t∈ts,t<tmps.size)->
  agy μ n (zE ts vs env) ((ts.zip Vs).foldl (fun tmps (t,a)=>tmps.setIfInBounds t a) tmps)/\((ts.zip Vs).foldl (fun tmps (t,a)=>tmps.setIfInBounds t a) tmps).size=tmps.size
 | [],[],Vs,env,tmps,hv,ht,_,_=>by exact⟨ht,rfl⟩
 |t::ts,v::vs,Vs,env,tmps,hv,ht,hl,hb=>by simp only[af5] at hv;obtain⟨U,V,rfl,Z,X⟩:=hv;simp only[zE,List.zip_cons_cons,List.foldl_cons];have:=agy.put (a:={ tmps:=tmps,defers:=[] }) ht (hb t (by simp)) Z;simp only[Act.put] at this;have r:=HI (env:=(t,v)::env) (tmps:=tmps.setIfInBounds t U) X this (by simpa using hl) (fun x W=>by simpa using hb x (by simp[W]));exact⟨r.1,r.2.trans (by simp)⟩
 | [],_::_,_,_,_,_,_,hl,_=>by simp at hl
 |_::_,[],_,_,_,_,_,hl,_=>by simp at hl
theorem jD{l:Nat}(h:w.heap[l]? =some (.loop L)):(Instr.getLoop l).run P w=.ok L w:=by
 have Z:(getObj l).run P w=.ok (.loop L) w:=by simp[getObj,Sem.run,h]
 simp only[Instr.getLoop,Sem.run_bind,Z,Result.andThen_ok];rfl
theorem xN{base:Nat}{b:Nat}{r' :agV}{L' :Loop}(H:agh base μ mem w)(y:mem[b]? =some (.loop r))(I:w.heap[(μ b).blk]? =some (.loop L))(hr:ahs μ mem.length r' L'):
  (setObj (μ b).blk (.loop L')).run P w=.ok () { w with heap:=w.heap.setIfInBounds (μ b).blk (.loop L') }/\
  agh base μ (mem.set b (.loop r')) { w with heap:=w.heap.setIfInBounds (μ b).blk (.loop L') }/\
  Step mem.length μ mem w μ (mem.set b (.loop r')) { w with heap:=w.heap.setIfInBounds (μ b).blk (.loop L') }:=by
 have X:=(Ns.1 I).1;have Z:=gL y;refine⟨ui I (by intro c e f h;cases h),H.write y (SR y) (fun _=>⟨_,X1 Z,rfl⟩) rfl rfl rfl rfl (by simp) (fun k W=>X2 (Ne.symm W)) ?_⟩;simp only[agj];have:=H.slot b _ y;simp only[agj] at this;obtain⟨_,_,V,_⟩:=this;exact⟨L',by simp[X],V,hr⟩
theorem agQ.intro{b:Nat}{args:List AV}{R:AV->Mem->Prop}(H:mem[b]? =some (.loop r))(I:r.st=.ready)(hl:args.length=r.ps.toList.length)(y:∀t∈r.ps.toList,t<r.N)(h:AWP P false r.N mem.length r.assign ⟨zE r.ps.toList args r.env,mem⟩ fun e Z=>e=.normal/\∃r1,Z.mem[b]? =some (.loop r1)/\r1.st=.ready/\
   AWP P false r.N mem.length r.body ⟨Z.env,Z.mem.set b (.loop { r1 with st:=.busy })⟩ fun e X=>∃r2 j J,qJ e=some j/\X.mem[b]? =some (.loop r2)/\E5 mem.length X.mem.length J=true/\
    R (.bool j.isNone) (age mem.length J (X.mem.set b (.loop { r2 with st:=lD j,agI:=j })))):
  agQ P b args mem R:=by
 intro base μ w Vs hG hH hV hbl;have W:=hH.slot b _ H;simp only[agj] at W;obtain⟨L,Q,h2,h3⟩:=W;have Do:Vs.length=L.params.size:=by rw[hV.length,hl,h3.ps];simp
 refine⟨L.fn,(L.params.zip ⟨Vs⟩).foldl (fun tmps (t,a)=>tmps.setIfInBounds t a) L.tmps,L.assign,L.body,?_,?_⟩
 .simp only[Instr.yield,Sem.run_bind,jD Q,Result.andThen_ok]
  rw[if_neg (by simp[Do])];rfl
 .refine roundIn_of_wpIn (F:=Fence.wide) trivial ?_
  have S:(L.params.zip ⟨Vs⟩).foldl (fun tmps (t,a)=>tmps.setIfInBounds t a) L.tmps=(r.ps.toList.zip Vs).foldl (fun tmps (t,a)=>tmps.setIfInBounds t a) L.tmps:=by rw[h3.ps,<-Array.foldl_toList];simp
  have O:=HI (ts:=r.ps.toList) hV h3.tmps hl (fun t ht=>by rw[h3.size];exact y t ht);rw[h3.assign,h3.body];refine wpIn_mono (F:=Fr (some (μ b).blk)) (h (some (μ b).blk) w.heap.size base μ w ⟨_,[]⟩ (fun h=>by cases h) hH (by rw[S];exact O.1) (by rw[S,O.2];exact h3.size) (MOk.nil w hG hH.agb (L9 _)) (L9 _)) ?_;rintro e a1 w1 ⟨Z,μ1,c1,c2,c3,c4,c5,c6,rfl,r1,c7,c8,hbody⟩;have M:=c1.slot b _ c7;simp only[agj] at M;obtain⟨L1,d1,d2,d3⟩:=M;have hμ:μ1 b=μ b:=c6.agree b hbl;rw[hμ] at d1;obtain⟨z,u,G⟩:=xN (P:=P) (r' :={ r1 with st:=.busy }) (L' :={ L1 with state:=.busy }) c1 c7 (by rw[hμ];exact d1) { d3 with st:=rfl };rw[hμ] at z u G;refine⟨_,?_,wpIn_mono (F:=Fr (some (μ b).blk)) (hbody (some (μ b).blk) w.heap.size base μ1 _ a1 (fun h=>by cases h) u (by rw[X3];exact c2) c3 (c4.step c1 G) (by rw[X3];exact c5)) ?_⟩
  .simp only[Instr.beginRound,Sem.run_bind,jD d1,Result.andThen_ok,z]
   rw[d3.st,c8];rfl
  .rintro e a2 w2 ⟨X,μ2,f1,f2,f3,f4,f5,f6,r2,j,J,f7,f8,f9,f10⟩
   have K:=f1.slot b _ f8;simp only[agj] at K;obtain⟨L2,D,g2,g3⟩:=K;have hμ2:μ2 b=μ b:=by rw[f6.agree b hbl,hμ]
   rw[hμ2] at D;obtain⟨C,m,Y⟩:=xN (P:=P) (r' :={ r2 with st:=lD j,agI:=j }) (L' :={ L2 with state:=lD j,pending:=j }) f1 f8 (by rw[hμ2];exact D) { g3 with st:=rfl,agI:=rfl };rw[hμ2] at C m Y;have B:(Instr.endRound (μ b).blk j).run P w2=.ok (.bool j.isNone) { w2 with heap:=w2.heap.setIfInBounds (μ b).blk (.loop { L2 with state:=lD j,pending:=j }) }:=by unfold lD at C |-;simp only[Instr.endRound,Sem.run_bind,jD D,Result.andThen_ok,C];rfl
   obtain⟨p1,p2,p3⟩:=m.age (by rw[X3];exact f5) (by rw[X3];exact f9);have hS:Step mem.length μ mem w _ _ _:=((c6.trans (G.mono c5)).trans f6).trans ((Y.mono f5).trans p3);have A:∃V v mem' μ',(Ending.returned (.bool j.isNone):Ending)=.returned V/\af4 μ' mem'.length v V/\agh base μ' mem' { w2 with heap:=w2.heap.setIfInBounds (μ b).blk (.loop { L2 with state:=lD j,pending:=j }) }/\
     Step mem.length μ mem w μ' mem' { w2 with heap:=w2.heap.setIfInBounds (μ b).blk (.loop { L2 with state:=lD j,pending:=j }) }/\R v mem' :=
    ⟨_,.bool j.isNone,_,_,rfl,by simp[af4],p1,hS,f10⟩
   cases e<;>simp only[qJ,N3,reduceCtorEq] at f7<;>subst f7<;>exact⟨_,_,B,A⟩
theorem HH{N:Nat}{g:Operand}{ps:Array Tmp}{assign body:Code}{st:St}{Q:Exit->St->Prop}{f:FuncId}{caps:List AV}(hg:get st.env g=.func f caps)(h:agF P f (.yield st.mem.length::caps) (st.mem++[.loop ⟨.ready,none,st.env,N,ps,assign,body⟩]) fun _ Z=>∃r2 e,Z[st.mem.length]? =some (.loop r2)/\r2.st≠ .busy/\mJ r2.agI=some e/\
   Q e ⟨st.env,Z.set st.mem.length (.loop { r2 with st:=.exhausted })⟩):
  AWP P true N m0 (.rangeFunc g ps assign body) st Q:=by
 intro ro h0 base μ w a hro hH hR hN hdf C;cases hro rfl;have S:=bk hR g;rw[hg] at S;simp only[af4] at S;obtain⟨B,hU,A⟩:=S;refine wpIn_rangeFunc fun fn _=>?_
 let o1:Obj:=.deferred (some [])
 let w1:=w.alloc o1
 let L:Loop:={ state:=.ready,pending:=none,fn,tmps:=a.tmps,params:=ps,assign,body,defers:=w.heap.size }
 have M:agh base μ st.mem w1:=hH.alloc o1;have z:Step st.mem.length μ st.mem w μ st.mem w1:=.alloc (L9 _) o1;have hsz:w1.heap.size=w.heap.size+1:=by simp[w1]
 obtain⟨K,u⟩:=M.push (.loop L) (.loop ⟨.ready,none,st.env,N,ps,assign,body⟩) ⟨w1.heap.size,0,0,0⟩ rfl (by simp only[agj];exact⟨L,heap_alloc_new w1 _,M.agb,rfl,rfl,rfl,rfl,rfl,hN,hR.mono (Nat.le_succ _) fun b O=>yg O⟩)
 have J:=z.trans u;have hμb:(upd μ st.mem.length ⟨w1.heap.size,0,0,0⟩ st.mem.length).blk=w1.heap.size:=by rw[fT]
 have hM:MOk P base h0 (w1.alloc (.loop L)) ({ target:=.collected w.heap.size,args:= #[] }::a.defers):=by
  have W:=(hdf.step hH J);refine⟨W.ahe,W.agb,W.le,fun d G=>?_,?_⟩
  .rcases List.mem_cons.1 G with rfl | G
   .refine⟨w.heap.size,rfl,hdf.le,?_⟩
    rw[iQ w1 _ (by omega)];exact heap_alloc_new w o1
   .exact W.each d G
  .simp only[List.map_cons,List.nodup_cons]
   refine⟨?_,hdf.nodup⟩;intro C;obtain⟨d,G,he⟩:=QQj.1 C;obtain⟨r,e,_,h2⟩:=hdf.each d G;rw[e] at he;simp only[Target.collected.injEq] at he;have:=(Ns.1 h2).1;omega
 have m:=h.2 base _ (w1.alloc (.loop L)) (.func (.yield w1.heap.size) #[] #[]::B) hM.ahe K
  (br.2 ⟨by simp only[af4,hμb];exact⟨by simp,trivial⟩,A.mono (by simp) fun b O=>yg O⟩)
 refine⟨w1.heap.size,[{ target:=.collected w.heap.size,args:= #[] }],w1.alloc (.loop L),{ target:=.fn (.func f) ⟨B⟩,args:= #[]++ #[.func (.yield w1.heap.size) #[] #[]] },w1.alloc (.loop L),f,⟨.func (.yield w1.heap.size) #[] #[]::B⟩,w1.alloc (.loop L),?_,?_,fun _ _=>trivial,?_,fun h=>by simp[Fence.wide] at h,?_⟩
 .simp only[Instr.enterLoop,Sem.run_bind,run_newObj,Result.andThen_ok,Sem.run_pure]
  rfl
 .have hc:(#[Operand.const (.func (.yield w1.heap.size) #[] #[])]:Array Operand).map a.eval= #[.func (.yield w1.heap.size) #[] #[]]:=by simp[Act.eval]
  simp only[resolve,hU,Deferred.ofValue,hc];rfl
 .simp only[invoke]
  rw[zF h.1];congr 2;apply Array.ext';simp
 .refine Bn.2 (m.mono ?_)
  rintro e w3 ⟨V,v,Z,μ2,rfl,q1,q2,q3,r2,e2,q4,q5,q6,q7⟩;have j:st.mem.length<(st.mem++[af6.loop ⟨.ready,none,st.env,N,ps,assign,body⟩]).length:=by simp
  have hμ2:(μ2 st.mem.length).blk=w1.heap.size:=by rw[q3.agree _ j,hμb]
  have F:=q2.slot _ _ q4;simp only[agj] at F;obtain⟨L2,Y,g2,g3⟩:=F;obtain⟨k1,k2,R⟩:=xN (P:=P) (r' :={ r2 with st:=.exhausted }) (L' :={ L2 with state:=.exhausted }) q2 q4 Y { g3 with st:=rfl };rw[hμ2] at k1 k2 R Y;have D:st.mem.length<=Z.length:=QQJ (by simp) q3.len;have I:=J.trans (q3.mono (m0:=st.mem.length) (by simp));have H:=I.trans (R.mono D);have X:∃P' μ',agh base μ' P'.mem { w3 with heap:=w3.heap.setIfInBounds w1.heap.size (.loop { L2 with state:=.exhausted }) }/\agy μ' P'.mem.length P'.env a.tmps/\a.tmps.size=N/\
    MOk P base h0 { w3 with heap:=w3.heap.setIfInBounds w1.heap.size (.loop { L2 with state:=.exhausted }) } ({ target:=.collected w.heap.size,args:= #[] }::a.defers)/\m0<=P'.mem.length/\
    Step m0 μ st.mem w μ' P'.mem { w3 with heap:=w3.heap.setIfInBounds w1.heap.size (.loop { L2 with state:=.exhausted }) }/\Q e2 P' :=by
   refine⟨_,μ2,k2,?_,hN,(hM.step K q3).step q2 R,?_,H.mono C,q7⟩
   .show agy μ2 (Z.set st.mem.length _).length st.env a.tmps
    rw[X3];exact hR.mono D fun b O=>by rw[q3.agree b (by simp;omega),yg O]
   .show m0<=(Z.set st.mem.length _).length
    rw[X3];omega
  refine⟨r2.agI,{ w3 with heap:=w3.heap.setIfInBounds w1.heap.size (.loop { L2 with state:=.exhausted }) },?_,?_⟩
  .simp only[Instr.endLoop,Sem.run_bind,jD Y,Result.andThen_ok]
   rw[g3.st];have O:(r2.st==LoopState.busy)=false:=by cases hx:r2.st<;>first | rfl | exact absurd hx q5
   rw[O];have y:L2.pending=r2.agI:=g3.agI;simp only[Bool.false_eq_true,if_false,Sem.run_bind,Sem.run_pure,k1,Result.andThen_ok];rw[y]
  .cases hp:r2.agI with
   |none=>
    rw[hp] at q6;simp only[mJ,N3] at q6;subst q6;exact X
   |some c=>
    rw[hp] at q6;cases c<;>simp only[mJ,N3,reduceCtorEq] at q6
    .subst q6;exact wpIn_exit X
    .subst q6;exact wpIn_ret X
end
end Go.Eng
namespace Go.Eng
structure afA where
 v:AV
 pre:Option Mem
 new:Mem
def afA.mem(r:afA)(mem:Mem):Mem:=(r.pre.getD mem)++r.new
inductive Callee where
 |fn (f:FuncId)
 |yld (b:Nat)
abbrev af3:=Callee->List AV->Mem->Option afA
def ly(env:Env):Op->Option (Callee×List AV)
 |.call { callee:=.value x,args,argTypes:=_ }=>match get env x with
  |.func f Z=>some (.fn f,Y3 env args++Z)
  |.yield b=>some (.yld b,Y3 env args)
  |_=>none
 |_=>none
structure XS where
 env:Env
 mem:Mem
 agp:Bool
def VT:AV->List Nat
 |.ptr b _=>[b]
 |_=>[]
def cG:AV->List Nat
 |.slice b _ _ _=>[b]
 |_=>[]
def PI:AV->List Nat
 |.map b=>[b]
 |_=>[]
def yk(env:Env):Op->List Nat
 |.store _ a _=>VT (get env a)
 |.call { callee:=.builtin .append,args:=⟨[s,_]⟩,argTypes:=_ }=>cG (get env s)
 |.call { callee:=.builtin .unsafeString,args:=⟨[x,_]⟩,argTypes:=_ }=>VT (get env x)
 |.call { callee:=.builtin .clear,args:=⟨[x]⟩,argTypes:=_ }=>cG (get env x)
 |.mapUpdate _ m _ _=>PI (get env m)
 |.mapEntry _ m _=>PI (get env m)
 |.entryStore _ m _ _=>PI (get env m)
 |_=>[]
def Xr(T:TypeId->Option TyI)(O:af3)(m0:Nat)(env:Env)(mem:Mem)(y:Bool)(o:Oper):Option (AV×Mem×Bool):=
 match aOp T env mem o.op with
 |some (v,m)=>some (v,m,y||(yk env o.op).any fun b=>decide (b<m0))
 |none=>match ly env o.op with
  |some (c,args)=>match O c args mem with
   |some r=>some (r.v,r.mem mem,y||r.pre.isSome)
   |none=>none
  |none=>none
def fH(T:TypeId->Option TyI)(O:af3)(N m0:Nat)(ops:Array Oper):List Oper->XS->Option XS
 | [],s=>some s
 |o::os,s=>
  if E2 N o then
   match tJ ops s.env o with
   |some true=>match Xr T O m0 s.env s.mem s.agp o with
    |some (v,m,dt)=>fH T O N m0 ops os ⟨agW s.env o.dst v,m,dt⟩
    |none=>none
   |some false=>fH T O N m0 ops os ⟨agW s.env o.dst (.tuple []),s.mem,s.agp⟩
   |none=>none
  else none
def fN(ops:List Oper):List Nat:=
 ops.foldl (fun acc o=>acc++[o.after.toList.foldl (fun s e=>if Region.binds .any e then s ||| 2 ^ e.on ||| acc.getD e.on 0 else s) 0]) []
def bef(y:List Nat)(i j:Nat):Bool:=(y.getD j 0).testBit i
def oY(ops:Array Oper)(y:List Nat):Bool:=
 let n:=ops.size
 (List.range n).all fun j=>match ops[j]? with
  |none=>true
  |some o=>
   o.after.toList.all (fun e=> !Region.binds .any e||decide (e.on<j))&&
   (List.range n).all fun i=>(!bef y i j||o.after.toList.any fun e=>Region.binds .any e&&(e.on==i||bef y i e.on))&&(i==j||bef y i j||bef y j i||match ops[i]? with
    |none=>true
    |some oi=>match oi.dst with
     |none=>true
     |some t=> !(o.looksAt ops).contains t&& !(o.dst==some t))
def Ps(env:Env):Op->Option (List Nat)
 |.load _ a=>match get env a with
  |.ptr b _=>some [b]
  |_=>some []
 |.store _ a _=>match get env a with
  |.ptr b _=>some [b]
  |_=>some []
 |.slice _ x _ _ _=>match get env x with
  |.slice b _ _ _=>some [b]
  |_=>some []
 |.lookup _ m _ _=>match get env m with
  |.map b=>some [b]
  |_=>some []
 |.mapUpdate _ m _ _=>match get env m with
  |.map b=>some [b]
  |_=>some []
 |.mapEntry _ m _=>match get env m with
  |.map b=>some [b]
  |_=>some []
 |.entryStore _ m _ _=>match get env m with
  |.map b=>some [b]
  |_=>some []
 |.call { callee:=.builtin .len,args:=⟨[x]⟩,argTypes:=_ }=>match get env x with
  |.map b=>some [b]
  |_=>some []
 |.call { callee:=.builtin .append,args:=⟨[s,x]⟩,argTypes:=_ }=>
  some ((match get env s with | .slice b _ _ _=>[b] | _=>[])++(match get env x with | .slice b _ _ _=>[b] | _=>[]))
 |.call { callee:=.builtin .unsafeSliceData,args:=⟨[x]⟩,argTypes:=_ }=>match get env x with
  |.slice b _ _ _=>some [b]
  |_=>some []
 |.call { callee:=.builtin .clear,args:=⟨[x]⟩,argTypes:=_ }=>match get env x with
  |.slice b _ _ _=>some [b]
  |_=>some []
 |.call { callee:=.builtin .unsafeString,args:=⟨[x,_]⟩,argTypes:=_ }=>match get env x with
  |.ptr b _=>some [b]
  |_=>some []
 |.call { callee:=.builtin _,args:=_,argTypes:=_ }=>some []
 |.call _=>none
 |_=>some []
structure Rec where
 env:Env
 en:Env
 mem:Mem
 tm:Mem
 v:AV
 m' :Mem
 nx:Mem
 wb:Bool
 wr:List Nat
def bJ(y:Nat->Bool):Nat->Mem->Mem
 |_,[]=>[]
 |i,s::r=>(if y i then s else .HS)::bJ y (i+1) r
def bm(wr:List Nat):Nat->Mem->Mem->Mem
 |_,[],m' =>m'
 |_,_::_,[]=>[]
 |i,s::r,s' ::r' =>(if wr.contains i then s' else s)::bm wr (i+1) r r'
def eP(mem:Mem)(b:Nat):Bool:=match mem[b]? with
 |some .HS=>false
 |some _=>true
 |none=>false
def dh:Nat->Mem->List Nat
 |_,[]=>[]
 |i,.HS::r=>dh (i+1) r
 |i,_::r=>i::dh (i+1) r
def yf(y:List Nat)(j:Nat):Nat->List Rec->List Rec
 |_,[]=>[]
 |i,r::rs=>if bef y i j then yf y j (i-1) rs else r::yf y j (i-1) rs
def YI(y:List Nat)(j:Nat)(acc:List Rec):Option (List Nat)->Nat->Bool
 |some l=>fun b=>l.contains b
 |none=>let un:=yf y j (j-1) acc;fun b=> !un.any fun f=>decide (f.mem.length<=b/\b<f.nx.length)
def Xo(y:Mem):Option Mem->List Nat
 |some _=>dh 0 y
 |none=>[]
def H7(T:TypeId->Option TyI)(O:af3)(N:Nat)(ops:Array Oper)(y:List Nat)(j:Nat)(o:Oper)(env:Env)(mem:Mem)(acc:List Rec):Option Rec:=
 if E2 N o then
  let en:=(o.looksAt ops).map fun t=>(t,ad env t)
  match tJ ops en o with
  |none=>none
  |some false=>some ⟨env,en,mem,bJ (fun _=>false) 0 mem,.tuple [],bJ (fun _=>false) 0 mem,mem,false,[]⟩
  |some true=>
   let tm:=bJ (YI y j acc (Ps en o.op)) 0 mem
   match aOp T en tm o.op with
   |some (v,m)=>let wr:=yk en o.op;some ⟨env,en,mem,tm,v,m,bm wr 0 mem m,true,wr⟩
   |none=>match ly en o.op with
    |none=>none
    |some (c,args)=>match O c args tm with
     |none=>none
     |some r=>let wr:=Xo tm r.pre
      some ⟨env,en,mem,tm,r.v,r.mem tm,bm wr 0 mem (r.mem tm),true,wr⟩
 else none
def mV(T:TypeId->Option TyI)(O:af3)(N:Nat)(ops:Array Oper)(y:List Nat):Nat->List Oper->Env->Mem->List Rec->Option (List Rec×Env×Mem)
 |_,[],env,mem,acc=>some (acc.reverse,env,mem)
 |j,o::os,env,mem,acc=>match H7 T O N ops y j o env mem acc with
  |none=>none
  |some r=>mV T O N ops y (j+1) os (agW env o.dst r.v) r.nx (r::acc)
def jd(top:Nat)(un:List (Nat×Rec))(b:Nat):Bool:=
 decide (b<top)&&un.all fun f=> !decide (f.2.mem.length<=b/\b<f.2.nx.length)
def aM:Nat->List Rec->List (Nat×Rec)
 |_,[]=>[]
 |i,r::rs=>(i,r)::aM (i+1) rs
def iw(y:List Nat)(R:List (Nat×Rec))(j:Nat)(r:Rec):Bool:=
 let un:=R.filter fun f=>decide (f.1<j)&& !bef y f.1 j
 r.wr.all (fun b=>eP r.tm b)&&
 r.v.afF (jd r.nx.length un)&&
 r.wr.all (fun b=>match r.nx[b]? with | some s=>s.afF (jd r.nx.length un) | none=>true)&&
 (r.nx.drop r.mem.length).all (fun s=>(s.own||match s with | .HS=>true | _=>false)&&s.afF (jd r.nx.length un))&&
 un.all fun f=>f.2.wr.all (fun b=> !eP r.tm b)&&r.wr.all (fun b=> !eP f.2.tm b)&&
  ((r.tm.drop f.2.mem.length).take (f.2.nx.length-f.2.mem.length)).all fun s=>match s with | .HS=>true | _=>false
def aJ(T:TypeId->Option TyI)(O:af3)(N m0:Nat)(ops:Array Oper)(s:XS):Option XS:=
 let bs:=fN ops.toList
 match mV T O N ops bs 0 ops.toList s.env s.mem [] with
 |none=>none
 |some (R,env,mem)=>
  let nR:=aM 0 R
  if nR.all fun f=>iw bs nR f.1 f.2 then some ⟨env,mem,s.agp||R.any fun r=>r.wr.any fun b=>decide (b<m0)⟩ else none
def cQ:Code->Bool
 |.region _ ops true=>oY ops (fN ops.toList)
 |.seq a b=>cQ a&&cQ b
 |.cond _ a b=>cQ a&&cQ b
 |.block _ b=>cQ b
 |.loop b=>cQ b
 |.scope b=>cQ b
 |.rangeFunc _ _ a b=>cQ a&&cQ b
 |_=>true
def ab:Code->List Nat
 |.region _ ops _=>ops.toList.filterMap (·.dst)
 |.seq a b=>ab a++ab b
 |.cond _ a b=>ab a++ab b
 |.block _ b=>ab b
 |.loop b=>ab b
 |.scope b=>ab b
 |_=>[]
def au(lv wr:List Nat)(y env:Env):Env:=lv.map (fun t=>(t,ad env t))++((wr.filter fun t=> !lv.contains t).map fun t=>(t,AV.undef))++y
mutual
def AV.refs(m0:Nat):AV->List Nat
 |.ptr b _=>if b<m0 then [] else [b]
 |.slice b _ _ _=>if b<m0 then [] else [b]
 |.map b=>if b<m0 then [] else [b]
 |.yield b=>if b<m0 then [] else [b]
 |.func _ Z=>AV.ago m0 Z
 |.iface _ v=>v.refs m0
 |.agg Z=>AV.ago m0 Z
 |.tuple Z=>AV.ago m0 Z
 |_=>[]
def AV.ago(m0:Nat):List AV->List Nat
 | []=>[]
 |v::vs=>v.refs m0++AV.ago m0 vs
end
def af6.refs(m0:Nat):af6->List Nat
 |.HS=>[]
 |.cells _ _ cs=>AV.ago m0 cs
 |.map es=>es.flatMap fun e=>e.1.refs m0++e.2.refs m0
 |.agC es=>es.flatMap fun e=>e.1.refs m0++e.2.refs m0
 |.loop r=>r.env.flatMap fun e=>e.2.refs m0
def pg(m0:Nat)(mem:Mem):Nat->List Nat->List Nat->List Nat
 |0,_,seen=>seen
 |_,[],seen=>seen
 |k+1,b::todo,seen=>if seen.contains b then pg m0 mem k todo seen else pg m0 mem k (todo++(mem.getD b .HS).refs m0) (seen++[b])
def UA:List Nat->Bool
 |a::b::_=>a==b
 |_=>false
def Ik:List Nat->Bool
 |a::b::c::_=>a==b&&b==c
 |_=>false
def MV(lv wr:List Nat)(y:Env)(m1:Nat)(s:XS):XS:=
 let ks:=pg m1 s.mem 1000 ((lv.flatMap fun t=>(ad s.env t).refs m1)++(s.mem.take m1).flatMap (af6.refs m1)) []
 if E5 m1 s.mem.length ks then
  ⟨(lv.filter fun t=>wr.contains t).map (fun t=>(t,(ad s.env t).ren (rho m1 ks)))++((wr.filter fun t=> !lv.contains t).map fun t=>(t,AV.undef))++y,(s.mem.take m1).map (af6.ren (rho m1 ks))++agR m1 ks s.mem,true⟩
 else⟨au lv wr y s.env,s.mem,s.agp⟩
def mM(lv wr:List Nat)(y:Env)(m1:Nat)(s:XS):XS:=
 if Ik lv=true\/s.mem.length<=m1 then⟨au lv wr y s.env,s.mem,s.agp⟩ else
  let ks:=pg m1 s.mem 1000 (lv.flatMap fun t=>(ad s.env t).refs m1) []
  if E5 m1 s.mem.length ks&&(s.mem.take m1).all fun s=>(s.refs m1).isEmpty then
   ⟨(lv.filter fun t=>wr.contains t).map (fun t=>(t,(ad s.env t).ren (rho m1 ks)))++((wr.filter fun t=> !lv.contains t).map fun t=>(t,AV.undef))++y,s.mem.take m1++agR m1 ks s.mem,s.agp⟩
  else if UA lv then MV lv wr y m1 s
  else⟨au lv wr y s.env,s.mem,s.agp⟩
def fW(lv wr:List Nat)(y:Env)(m1:Nat)(f:XS->Option (Exit×XS)):Nat->XS->Option (Exit×XS)
 |0,_=>none
 |k+1,s=>match f s with
  |some (.normal,s')=>fW lv wr y m1 f k (mM lv wr y m1 s')
  |r=>r
def aT(T:TypeId->Option TyI)(lv:Code->List Nat)(O:af3)(K N m0:Nat)(tp:Bool):Code->XS->Option (Exit×XS)
 |.skip,s=>some (.normal,s)
 |.region _ ops false,s=>match fH T O N m0 ops ops.toList s with
  |some s' =>some (.normal,s')
  |none=>none
 |.region _ ops true,s=>match aJ T O N m0 ops s with
  |some s' =>some (.normal,s')
  |none=>none
 |.seq a b,s=>match aT T lv O K N m0 tp a s with
  |some (.normal,s')=>aT T lv O K N m0 tp b s'
  |r=>r
 |.cond c a b,s=>match get s.env c with
  |.bool true=>aT T lv O K N m0 tp a s
  |.bool false=>aT T lv O K N m0 tp b s
  |_=>none
 |.block id b,s=>match aT T lv O K N m0 tp b s with
  |some (.exit i,s')=>if i=id then some (.normal,s') else some (.exit i,s')
  |r=>r
 |.loop b,s=>fW (lv b) (ab b) s.env s.mem.length (aT T lv O K N m0 tp b) K ⟨au (lv b) (ab b) s.env s.env,s.mem,s.agp⟩
 |.exit id,s=>some (.exit id,s)
 |.ret,s=>some (.ret,s)
 |.rangeFunc g ps J' body,s=>
  if tp then
   match get s.env g with
   |.func f caps=>match O (.fn f) (.yield s.mem.length::caps) (s.mem++[.loop ⟨.ready,none,s.env,N,ps,J',body⟩]) with
    |some r=>
     let aa1:=r.mem (s.mem++[.loop ⟨.ready,none,s.env,N,ps,J',body⟩])
     match aa1[s.mem.length]? with
     |some (.loop r2)=>if r2.st== .busy then none else match mJ r2.agI with
      |some e=>some (e,⟨s.env,aa1.set s.mem.length (.loop { r2 with st:=.exhausted }),s.agp||r.pre.isSome⟩)
      |none=>none
     |_=>none
    |none=>none
   |_=>none
  else none
 |_,_=>none
def aa(T:TypeId->Option TyI)(lv:Code->List Nat)(G:FuncId->Option Func)(O:af3)(K:Nat)(f:FuncId)(args:List AV)(mem:Mem):Option afA:=
 match G f with
 |none=>none
 |some fn=>match fn.body with
  |none=>none
  |some c=>
   if args.length<=fn.ntmps then
    match aT T lv O K fn.ntmps mem.length true c ⟨dV 0 args,mem,false⟩ with
    |some (e,s)=>
     match e with
     |.normal | .ret=>
      match kf T fn.results.toList s.env s.mem with
      |some v=>
       let m0:=mem.length
       if s.agp then
        let ks:=pg m0 s.mem 1000 (v.refs m0++(s.mem.take m0).flatMap (af6.refs m0)) []
        if E5 m0 s.mem.length ks then
         some ⟨v.ren (rho m0 ks),some ((s.mem.take m0).map (af6.ren (rho m0 ks))),agR m0 ks s.mem⟩
        else none
       else
        let ks:=pg m0 s.mem 1000 (v.refs m0) []
        if E5 m0 s.mem.length ks then
         some ⟨v.ren (rho m0 ks),none,agR m0 ks s.mem⟩
        else none
      |none=>none
     |_=>none
    |none=>none
   else none
def yX(T:TypeId->Option TyI)(lv:Code->List Nat)(O:af3)(K:Nat)(b:Nat)(args:List AV)(mem:Mem):Option afA:=
 match mem[b]? with
 |some (.loop r)=>
  if r.st== .ready&&decide (args.length=r.ps.toList.length)&&r.ps.toList.all (fun t=>decide (t<r.N))&&cQ r.assign&&cQ r.body then
   match aT T lv O K r.N mem.length false r.assign ⟨zE r.ps.toList args r.env,mem,true⟩ with
   |some (.normal,s1)=>match s1.mem[b]? with
    |some (.loop r1)=>
     if r1.st== .ready then
      match aT T lv O K r.N mem.length false r.body ⟨s1.env,s1.mem.set b (.loop { r1 with st:=.busy }),true⟩ with
      |some (e,s2)=>match qJ e,s2.mem[b]? with
       |some j,some (.loop r2)=>
        let m0:=mem.length
        let m3:=s2.mem.set b (.loop { r2 with st:=lD j,agI:=j })
        let ks:=pg m0 m3 1000 ((m3.take m0).flatMap (af6.refs m0)) []
        if E5 m0 s2.mem.length ks then
         some ⟨.bool j.isNone,some ((m3.take m0).map (af6.ren (rho m0 ks))),agR m0 ks m3⟩
        else none
       |_,_=>none
      |none=>none
     else none
    |_=>none
   |_=>none
  else none
 |_=>none
def A8(T:TypeId->Option TyI)(lv:Code->List Nat)(G:FuncId->Option Func)(O:af3)(K:Nat):Nat->af3
 |0=>O
 |n+1=>fun c Z mem=>match O c Z mem with
  |some r=>some r
  |none=>match c with
   |.fn f=>aa T lv G (A8 T lv G O K n) K f Z mem
   |.yld b=>yX T lv (A8 T lv G O K n) K b Z mem
structure adM (P:Program)(O:af3):Prop where
 fn:∀f args mem r,O (.fn f) args mem=some r->kO P f args mem r.v (r.mem mem)
 yld:∀b args mem r,O (.yld b) args mem=some r->gV P b args mem r.v (r.mem mem)
 pre:∀c args mem r p,O c args mem=some r->r.pre=some p->p.length=mem.length
variable{args:List AV}{c:Callee}{d:Bool}{k m x:AV}{l:List Nat}{o:Oper}{op:Op}
section
variable {P:Program}{T:TypeId->Option TyI}{O:af3}{mem mem' :Mem}{env:Env}
def agv(wr:List Nat) (mem mem' :Mem):Prop:=mem.length<=mem'.length/\∀b:Nat,b<mem.length->b∉wr->mem'[b]? =mem[b]?
theorem agv.refl(wr:List Nat)(mem:Mem):agv wr mem mem:=⟨L9 _,fun _ _ _=>rfl⟩
theorem agv.push(wr:List Nat)(mem l:Mem):agv wr mem (mem++l):=⟨by simp,fun b Z _=>Hi Z⟩
theorem agv.set(b0:Nat)(s:af6)(mem:Mem):agv [b0] mem (mem.set b0 s):=
 ⟨by simp,fun b _ Z=>X4 (fun e=>Z (by simp[e]))⟩
theorem agv.ahY(b0:Nat)(s:af6)(mem l:Mem):agv [b0] mem (mem.set b0 s++l):=
 ⟨by simp,fun b Z X=>by rw[Hi (by simpa using Z)];exact X4 (fun e=>X (by simp[e]))⟩
theorem xt{t t2:TypeId}{s x v:AV}(h:kz T mem t t2 s x=some (v,mem')):agv (cG s) mem mem' :=by
 unfold kz at h
 repeat' split at h
 all_goals first
  |(cases h;done)
  |(cases h;exact .refl _ _)
  |(cases h;exact .push _ _ _)
  |(cases h;exact .set _ _ _)
  |(cases h;exact .ahY _ _ _ _)
theorem L8{t:TypeId}{v:AV}(h:uL T mem t x v=some mem'):agv (VT x) mem mem' :=by
 unfold uL at h
 repeat' split at h
 all_goals first
  |(cases h;done)
  |(cases h;rename_i Z _ _ _;exact .set _ _ _)
theorem A5{t:TypeId}{v:AV}(h:fY T mem t m k v=some mem'):agv (PI m) mem mem' :=by
 unfold fY at h
 repeat' split at h
 all_goals first
  |(cases h;done)
  |(cases h;exact .set _ _ _)
theorem CQ{t:TypeId}{v:AV}(h:ss T mem t m k=some (v,mem')):agv (PI m) mem mem' :=by
 unfold ss at h
 repeat' split at h
 all_goals first
  |(cases h;done)
  |(cases h;exact .set _ _ _)
theorem yT{m s v:AV}(h:mC mem m s v=some mem'):agv (PI m) mem mem' :=by
 unfold mC at h
 repeat' split at h
 all_goals first
  |(cases h;done)
  |(cases h;exact .set _ _ _)
theorem LY{e:TypeId}{v:AV}(h:uK T mem e=some (v,mem')):agv l mem mem' :=by unfold uK at h;split at h<;>cases h;exact .push _ _ _
theorem R2{v:AV}(h:Y0 mem x=some (v,mem')):agv l mem mem' :=by unfold Y0 at h;split at h<;>cases h;exact .push _ _ _
theorem yR{t:TypeId}{n:Nat}{ps}{v:AV}{l:List Nat}(h:gJ T mem t n ps=some (v,mem')):agv l mem mem' :=by
 unfold gJ at h
 repeat' split at h
 all_goals first
  |(cases h;done)
  |(cases h;exact .push _ _ _)
theorem AZ{t:TypeId}{y:AV}{v:AV}(h:mg T mem t x y=some (v,mem')):agv l mem mem' :=by
 unfold mg at h
 repeat' split at h
 all_goals first
  |(cases h;done)
  |(cases h;exact .push _ _ _)
theorem HC{pt:TypeId}{l v:AV}(h:yV T mem pt x l=some (v,mem')):agv (VT x) mem mem' :=by
 unfold yV at h
 repeat' split at h
 all_goals first
  |(cases h;done)
  |(cases h;exact .set _ _ _)
theorem AU{s d:TypeId}{v:AV}(h:oP T mem s d x=some (v,mem')):agv l mem mem' :=by
 unfold oP at h
 repeat' split at h
 all_goals first
  |(cases h;done)
  |(cases h;exact .push _ _ _)
theorem L6{v:AV}(h:aOp T env mem op=some (v,mem')):agv (yk env op) mem mem' :=by
 unfold aOp at h
 repeat' split at h
 all_goals first
  |(cases h;done)
  |(cases h;exact .refl _ _)
  |exact LY h
  |exact R2 h
  |exact yR h
  |exact AZ h
  |exact xt h
  |(rename_i Z;cases h;exact xt Z)
  |exact AU h
  |exact HC h
  |exact CQ h
  |(cases h;exact .push _ _ _)
  |(rename_i Z;cases h;first | exact L8 Z | exact A5 Z | exact yT Z)
theorem oS{wr:List Nat}{m0:Nat}(h:(wr.any fun b=>decide (b<m0))=false){b:Nat}(y:b<m0):b∉wr:=by intro Z;have:=List.any_eq_false.1 h b Z;simp[y] at this
theorem wG{m0:Nat}(h1:m0<=mem.length)(h2:m0<=mem'.length)(h:∀b,b<m0->mem'[b]? =mem[b]?):mem'.take m0=mem.take m0:=by
 apply List.ext_getElem?;intro b;by_cases Z:b<m0
 .rw[QQQ Z,QQQ Z,h b Z]
 .rw[List.getElem?_eq_none (by simp;omega),List.getElem?_eq_none (by simp;omega)]
def Clean(m0:Nat)(mem:Mem)(d:Bool) (mem' :Mem) (y :Bool):Prop:=m0<=mem.length->m0<=mem'.length/\(y =false->d=false/\mem'.take m0=mem.take m0)
theorem Clean.refl(m0:Nat)(mem:Mem)(d:Bool):Clean m0 mem d mem d:=fun h=>⟨h,fun e=>⟨e,rfl⟩⟩
theorem Clean.trans{m0:Nat}{m1 m2 y:Mem}{d1 d2 d3:Bool}(h:Clean m0 m1 d1 m2 d2)(h' :Clean m0 m2 d2 y d3):Clean m0 m1 d1 y d3:=fun Z=>by obtain⟨X,W⟩:=h Z;obtain⟨V,S⟩:=h' X;refine⟨V,fun e=>?_⟩;obtain⟨M,K⟩:=S e;obtain⟨J,G⟩:=W M;exact⟨J,K.trans G⟩
theorem agv.clean{wr:List Nat}{m0:Nat}(h:agv wr mem mem'):Clean m0 mem d mem' (d||wr.any fun b=>decide (b<m0)):=fun Z=>by have X:=QQJ Z h.1;refine⟨X,fun e=>?_⟩;simp only[Bool.or_eq_false_iff] at e;exact⟨e.1,wG Z X fun b W=>h.2 b (by omega) (oS e.2 W)⟩
theorem Mb{f:FuncId}(h:ly env op=some (.fn f,args)):HJ env op=some (f,args):=by
 unfold ly at h;split at h
 .split at h
  .cases h;rename_i Z;simp[HJ,Z]
  .cases h
  .cases h
 .cases h
theorem HF{b:Nat}(h:ly env op=some (.yld b,args)):Bz env op=some (b,args):=by
 unfold ly at h;split at h
 .split at h
  .cases h
  .cases h;rename_i Z;simp[Bz,Z]
  .cases h
 .cases h
section
variable (hO:adM P O)
include hO
theorem DJ{r:afA}(hc:ly env o.op=some (c,args))(h:O c args mem=some r):
  yl P T env mem o r.v (r.mem mem):=by
 cases c with
 |fn f=>exact .inr (.inl ⟨f,args,Mb hc,hO.fn _ _ _ _ h⟩)
 |yld b=>exact .inr (.inr ⟨b,args,HF hc,hO.yld _ _ _ _ h⟩)
theorem zi{r:afA}(h:O c args mem=some r):mem.length<=(r.mem mem).length:=by
 unfold afA.mem;cases hp:r.pre with
 |none=>simp
 |some p=>have:=hO.pre _ _ _ _ p h hp;simp;omega
theorem Pz{m0:Nat}{y :Bool}{v:AV}(h:Xr T O m0 env mem d o=some (v,mem',y)):
  yl P T env mem o v mem' /\Clean m0 mem d mem' y :=by
 unfold Xr at h;split at h
 .rename_i V S Z
  cases h;exact⟨.inl Z,(L6 Z).clean⟩
 .split at h
  .rename_i c args hc
   split at h
   .rename_i r X
    cases h;refine⟨DJ hO hc X,fun W=>⟨QQJ W (zi hO X),fun e=>?_⟩⟩;simp only[Bool.or_eq_false_iff,Option.isSome_eq_false_iff,Option.isNone_iff_eq_none] at e;refine⟨e.1,?_⟩;unfold afA.mem;rw[e.2];simp[QQa W]
   .cases h
  .cases h
end
theorem lK(y:adM P O){N m0:Nat}{ops:Array Oper}:∀{l:List Oper}{s s' :XS},fH T O N m0 ops l s=some s' ->
  nY P T N ops l ⟨s.env,s.mem⟩ ⟨s'.env,s'.mem⟩/\Clean m0 s.mem s.agp s'.mem s'.agp
 | [],s,s',h=>by cases h;exact⟨rfl,.refl _ _ _⟩
 |o::os,s,s',h=>by
  unfold fH at h;split at h
  .rename_i V
   split at h
   .rename_i Z
    split at h
    .rename_i v m J S
     obtain⟨M,K⟩:=Pz y S;obtain⟨X,W⟩:=lK y h;exact⟨⟨true,Z,V,(fun e=>by cases e),fun _=>⟨v,m,M,X⟩⟩,K.trans W⟩
    .cases h
   .rename_i Z
    obtain⟨X,W⟩:=lK y h;exact⟨⟨false,Z,V,(fun _=>X),(fun e=>by cases e)⟩,W⟩
   .cases h
  .cases h
end
end Go.Eng
namespace Go.Eng
section
variable {P:Program}{T:TypeId->Option TyI}{O:af3}{N:Nat}{ops:Array Oper}
theorem iT(y:Nat->Bool):∀(i:Nat) (m:Mem),(bJ y i m).length=m.length
 |_,[]=>rfl
 |i,s::r=>by simp[bJ,iT y (i+1) r]
theorem mi(y:Nat->Bool):∀(i:Nat) (m:Mem) (b:Nat),(bJ y i m)[b]? =m[b]? \/(bJ y i m)[b]? =some .HS
 |_,[],b=>.inl rfl
 |i,s::r,0=>by
  simp only[bJ,List.getElem?_cons_zero];split
  .exact .inl rfl
  .exact .inr rfl
 |i,s::r,b+1=>by simp only[bJ,List.getElem?_cons_succ];exact mi y (i+1) r b
theorem DB:∀(i:Nat) (m:Mem) (b:Nat),¬jy (bJ (fun _=>false) i m) b
 |_,[],b=>by rintro ⟨s,h,_⟩;simp[bJ] at h
 |i,s::r,0=>by rintro ⟨s,h,Z⟩;simp[bJ] at h;exact Z h.symm
 |i,s::r,b+1=>by rintro ⟨s,h,Z⟩;simp only[bJ,List.getElem?_cons_succ] at h;exact DB (i+1) r b ⟨s,h,Z⟩
theorem ov(wr:List Nat):∀(i:Nat) (m y :Mem),m.length<=y.length->(bm wr i m y).length=y.length
 |_,[],y,_=>rfl
 |_,_::_,[],h=>by simp at h
 |i,s::r,s' ::r',h=>by simp only[bm,List.length_cons] at h |-;rw[ov wr (i+1) r r' (by omega)]
theorem wq(wr:List Nat):∀(i:Nat) (m y :Mem) (b:Nat),m.length<=y.length->(bm wr i m y)[b]? =if i+b∈wr\/m.length<=b then y[b]? else m[b]?
 |_,[],y,b,_=>by simp[bm]
 |_,_::_,[],_,h=>by simp at h
 |i,s::r,s' ::r',0,h=>by simp only[bm,List.getElem?_cons_zero,List.contains_iff_mem,Nat.add_zero,List.length_cons,Nat.le_zero_eq,Nat.add_one_ne_zero,or_false];split<;>rfl
 |i,s::r,s' ::r',b+1,h=>by simp only[List.length_cons] at h;simp only[bm,List.getElem?_cons_succ];rw[wq wr (i+1) r r' b (by omega)];simp only[List.length_cons,Nat.add_le_add_iff_right];rw[show i+1+b=i+(b+1) by omega]
theorem vW{m:Mem}{b:Nat}:eP m b=true↔jy m b:=by
 unfold eP jy;cases h:m[b]? with
 |none=>simp
 |some s=>cases s<;>simp
theorem E7:∀(i:Nat) (m:Mem) (b:Nat),i+b∈dh i m↔jy m b:=by
 intro i m;induction m generalizing i with
 |nil=>intro b;simp[dh,jy]
 |cons s r ih=>
  intro b;have Z:∀(i:Nat) (m:Mem) (x:Nat),x∈dh i m->i<=x:=by
   intro i m;induction m generalizing i with
   |nil=>intro x h;simp[dh] at h
   |cons s r ih=>
    intro x h;have:x∈dh (i+1) r\/x=i:=by cases s<;>simp only[dh,List.mem_cons] at h<;>first | exact .inl h | exact h.symm
    rcases this with h | h
    .have:=ih (i+1) x h;omega
    .omega
  cases b with
  |zero=>
   have X:¬(i+0∈dh (i+1) r):=fun h=>by have:=Z _ _ _ h;omega
   cases s<;>simp[dh,jy]<;>simpa using X
  |succ b=>
   have:=ih (i+1) b;rw[show i+1+b=i+(b+1) by omega] at this;have W:jy (s::r) (b+1)↔jy r b:=by simp[jy]
   rw[W,<-this];cases s<;>simp[dh]
structure ahH (P:Program)(T:TypeId->Option TyI)(N:Nat)(ops:Array Oper)(r:Rec)(o:Oper):Prop where
 dst:E2 N o=true
 wanted:tJ ops r.en o=some r.wb
 en:r.en=(o.looksAt ops).map fun t=>(t,ad r.env t)
 step:r.wb=true->yl P T r.en r.tm o r.v r.m'
 skip:r.wb=false->r.v=.tuple []/\r.m' =r.tm
 ahT:r.tm.length=r.mem.length
 ahU:∀b:Nat,r.tm[b]? =r.mem[b]? \/r.tm[b]? =some .HS
 mono:r.mem.length<=r.m'.length
 ahI:r.nx.length=r.m'.length
 nx:∀b:Nat,r.nx[b]? =if b∈r.wr\/r.mem.length<=b then r.m'[b]? else r.mem[b]?
 agR:∀b:Nat,b<r.mem.length->b∉r.wr->jy r.tm b->r.m'[b]? =r.mem[b]?
theorem FL{mem y:Mem}(h:∀b:Nat,y[b]? =mem[b]? \/y[b]? =some .HS){b:Nat}(H:jy y b):y[b]? =mem[b]? :=by
 rcases h b with e | e
 .exact e
 .obtain⟨s,Z,X⟩:=H
  rw[Z] at e;cases e;exact absurd rfl X
theorem H8(y:adM P O){H:List Nat}{j:Nat}{o:Oper}{env:Env}{mem:Mem}{acc:List Rec}{r:Rec}(h:H7 T O N ops H j o env mem acc=some r):
  r.env=env/\r.mem=mem/\ahH P T N ops r o:=by
 unfold H7 at h;split at h
 .rename_i F
  simp only at h;split at h
  .cases h
  .rename_i J
   cases h;refine⟨rfl,rfl,F,J,rfl,(fun e=>by cases e),(fun _=>⟨rfl,rfl⟩),iT _ _ _,(fun b=>mi _ _ _ _),by simp[iT],by simp[iT],fun b=>?_,fun b _ _ V=>absurd V (DB _ _ _)⟩;simp only[List.not_mem_nil,false_or];split
   .rename_i S
    rw[List.getElem?_eq_none S,List.getElem?_eq_none (by rw[iT];exact S)]
   .rfl
  .rename_i J
   generalize YI H j acc (Ps (List.map (fun t=>(t,ad env t)) (o.looksAt ops)) o.op)=see at h;have Z:(bJ see 0 mem).length=mem.length:=iT _ _ _;split at h
   .rename_i v m C
    cases h;have M:=L6 C;rw[agv,Z] at M;refine⟨rfl,rfl,F,J,rfl,fun _=>.inl C,(fun e=>by cases e),Z,fun b=>mi _ _ _ _,M.1,ov _ _ _ _ M.1,fun b=>?_,fun b V D W=>?_⟩
    .have:=wq (yk (List.map (fun t=>(t,ad env t)) (o.looksAt ops)) o.op) 0 mem m b M.1
     rw[QQZ] at this;exact this
    .rw[M.2 b V D];exact FL (fun b=>mi see 0 mem b) W
   .split at h
    .cases h
    .rename_i c B hc
     split at h
     .cases h
     .rename_i X K
      simp only[N3] at h;subst h;have G:=zi y K;rw[Z] at G;refine⟨rfl,rfl,F,J,rfl,fun _=>DJ y hc K,(fun e=>by cases e),Z,fun b=>mi _ _ _ _,G,ov _ _ _ _ G,fun b=>?_,fun b V D W=>?_⟩
      .have:=wq (Xo (bJ see 0 mem) X.pre) 0 mem (X.mem (bJ see 0 mem)) b G
       rw[QQZ] at this;exact this
      .cases hp:X.pre with
       |some p=>
        exfalso;apply D;show b∈Xo (bJ see 0 mem) X.pre
        rw[hp];show b∈dh 0 (bJ see 0 mem)
        have:=(E7 0 (bJ see 0 mem) b).2 W
        rwa [QQZ] at this
       |none=>
        show(X.mem (bJ see 0 mem))[b]? =mem[b]?
        unfold afA.mem;rw[hp];simp only[Option.getD_none];rw[Hi (by rw[Z];exact V)];exact FL (fun b=>mi see 0 mem b) W
 .cases h
def nh(P:Program)(T:TypeId->Option TyI)(N:Nat)(ops:Array Oper):List Oper->Env->Mem->List Rec->Env->Mem->Prop
 | [],env,mem,[],AC,mem' =>AC =env/\mem' =mem
 |o::os,env,mem,r::rs,AC,mem' =>r.env=env/\r.mem=mem/\ahH P T N ops r o/\nh P T N ops os (agW env o.dst r.v) r.nx rs AC mem'
 |_,_,_,_,_,_=>False
theorem qp(I:adM P O){Q:List Nat}:∀{l:List Oper} {j:Nat} {env:Env} {mem:Mem} {acc R:List Rec}{H :Env}{y :Mem},
  mV T O N ops Q j l env mem acc=some (R,H,y)->∃Z,R=acc.reverse++Z/\nh P T N ops l env mem Z H y
 | [],j,env,mem,acc,R,H,y,h=>by simp only[mV,N3,Prod.mk.injEq] at h;obtain⟨rfl,rfl,rfl⟩:=h;exact⟨[],by simp,rfl,rfl⟩
 |o::os,j,env,mem,acc,R,H,y,h=>by
  unfold mV at h;split at h
  .cases h
  .rename_i r X
   obtain⟨W,V,h3⟩:=H8 I X;obtain⟨Z,e,S⟩:=qp I h;exact⟨r::Z,by rw[e];simp,W,V,h3,S⟩
def S8(R:List Rec)(y:Env×Mem)(j:Nat):Env×Mem:=match R[j]? with
 |some r=>(r.env,r.mem)
 |none=>y
theorem z8:∀{l:List Oper} {env:Env} {mem:Mem} {R:List Rec}{H :Env}{y :Mem},nh P T N ops l env mem R H y ->R.length=l.length
 | [],_,_,[],_,_,_=>rfl
 |_::_,_,_,_::_,_,_,h=>by simp only[List.length_cons];rw[z8 h.2.2.2]
 | [],_,_,_::_,_,_,h=>h.elim
 |_::_,_,_,[],_,_,h=>h.elim
theorem xY:∀{l:List Oper} {env:Env} {mem:Mem} {R:List Rec}{H :Env}{y :Mem},nh P T N ops l env mem R H y ->S8 R (H,y) 0=(env,mem)
 | [],_,_,[],_,_,h=>by obtain⟨rfl,rfl⟩:=h;rfl
 |_::_,_,_,_::_,_,_,h=>by obtain⟨rfl,rfl,_⟩:=h;rfl
 | [],_,_,_::_,_,_,h=>h.elim
 |_::_,_,_,[],_,_,h=>h.elim
theorem DP:∀{l:List Oper} {env:Env} {mem:Mem} {R:List Rec}{H :Env}{y :Mem},nh P T N ops l env mem R H y ->∀(j:Nat) (o:Oper),l[j]? =some o->
  ∃r,R[j]? =some r/\ahH P T N ops r o/\S8 R (H,y) (j+1)=(agW r.env o.dst r.v,r.nx)
 |o::os,_,_,r::rs,H,y,h,0,o',ho=>by cases ho;obtain⟨rfl,rfl,h3,Z⟩:=h;exact⟨r,rfl,h3,xY Z⟩
 |o::os,_,_,r::rs,H,y,h,j+1,o',ho=>by obtain⟨_,_,_,Z⟩:=h;obtain⟨X,W,V,g3⟩:=DP Z j o' ho;exact⟨X,W,V,g3⟩
 | [],_,_,_,_,_,_,j,_,ho=>by simp at ho
 |_::_,_,_,[],_,_,h,_,_,_=>h.elim
theorem nQ:∀(i:Nat) (R:List Rec) (j:Nat) (r:Rec),R[j]? =some r->(i+j,r)∈aM i R
 |i,x::xs,0,r,h=>by cases h;simp[aM]
 |i,x::xs,j+1,r,h=>by simp only[List.getElem?_cons_succ] at h;have:=nQ (i+1) xs j r h;rw[show i+1+j=i+(j+1) by omega] at this;simp[aM,this]
 |_,[],_,_,h=>by simp at h
end
variable{R:List Rec}{bs:List Nat}{j:Nat}
section
variable {P:Program}{T:TypeId->Option TyI}{O:af3}{N:Nat}{ops:Array Oper}
def XG(bs:List Nat)(R:List Rec)(j:Nat):List (Nat×Rec):=(aM 0 R).filter fun f=>decide (f.1<j)&& !bef bs f.1 j
def qc(n:Nat)(bs:List Nat)(R:List Rec)(y:Env×Mem):agD where
 E j:=(S8 R y j).1
 M j:=(S8 R y j).2
 En j:=match R[j]? with | some r=>r.en | none=>[]
 Tm j:=match R[j]? with | some r=>r.tm | none=>[]
 M' j:=match R[j]? with | some r=>r.m' | none=>[]
 v j:=match R[j]? with | some r=>r.v | none=>.undef
 wb j:=match R[j]? with | some r=>r.wb | none=>false
 agM j b:=match R[j]? with | some r=>decide (b∈r.wr)||decide (r.mem.length<=b) | none=>false
 ok j b:=match R[j]? with | some r=>jd r.nx.length (XG bs R j) b | none=>false
 cl i j:=decide (i<n)&&bef bs i j
theorem Da(h:oY ops bs=true){o:Oper}(y:ops[j]? =some o):
  (∀e∈o.after,Region.binds .any e=true->e.on<j)/\
  (∀i,i<ops.size->bef bs i j=true->∃e∈o.after,Region.binds .any e=true/\(e.on=i\/bef bs i e.on=true))/\
  ∀(i:Nat) X t,ops[i]? =some X->i≠j->X.dst=some t->(t∈o.looksAt ops\/o.dst=some t)->bef bs i j=true\/bef bs j i=true:=by
 have G:j<ops.size:=(Ns.1 y).1;unfold oY at h;have:=List.all_eq_true.1 h j (by simpa using G);simp only[y,Es,List.all_eq_true,List.mem_range] at this;obtain⟨F,K⟩:=this;refine⟨fun e he W=>?_,fun i Z W=>?_,fun i X t Z D C V=>?_⟩
 .have:=F e (by simpa using he)
  simpa [W] using this
 .have:=(K i Z).1
  simp only[W,Bool.not_true,Bool.false_or,List.any_eq_true] at this;obtain⟨e,he,S⟩:=this;simp only[Es,QQk,beq_iff_eq] at S;exact⟨e,by simpa using he,S.1,S.2⟩
 .have M:i<ops.size:=(Ns.1 Z).1
  have:=(K i M).2;simp only[Z,C,QQk,beq_iff_eq,D,false_or,Es,Bool.not_eq_true',List.contains_eq_mem,decide_eq_false_iff_not] at this;rcases this with (h3 | h3) | ⟨h3,J⟩
  .exact .inl h3
  .exact .inr h3
  .rcases V with h5 | h5
   .exact absurd h5 h3
   .rw[h5] at J;simp at J
structure ahf (bs:List Nat)(R:List Rec)(j:Nat)(r:Rec):Prop where
 wr:∀b∈r.wr,jy r.tm b
 ahW:r.v.afF (jd r.nx.length (XG bs R j))=true
 aiD:∀(b:Nat) s,b∈r.wr->r.nx[b]? =some s->s.afF (jd r.nx.length (XG bs R j))=true
 fresh:∀(b:Nat) s,r.mem.length<=b->r.nx[b]? =some s->(s≠ .HS->s.own=true)/\s.afF (jd r.nx.length (XG bs R j))=true
 ain:∀(i:Nat) f,i<j->R[i]? =some f->bef bs i j=false->(∀b∈f.wr,¬jy r.tm b)/\(∀b∈r.wr,¬jy f.tm b)/\∀b,f.mem.length<=b->b<f.nx.length->¬jy r.tm b
theorem HM{r:Rec}(h:iw bs (aM 0 R) j r=true):ahf bs R j r:=by
 unfold iw at h;simp only[Es] at h;obtain⟨⟨⟨⟨M,K⟩,h3⟩,J⟩,G⟩:=h;refine⟨fun b Z=>vW.1 (List.all_eq_true.1 M b Z),K,fun b s Z X=>?_,fun b s Z X=>?_,fun i f F D Z=>?_⟩
 .have:=List.all_eq_true.1 h3 b Z
  rw[X] at this;exact this
 .have V:s∈r.nx.drop r.mem.length:=by apply Lo (i:=b-r.mem.length);rw[QQc,<-X];congr 1;omega
  have:=List.all_eq_true.1 J s V;simp only[Es,QQk] at this;refine⟨fun C=>?_,this.2⟩;rcases this.1 with h | h
  .exact h
  .cases s<;>simp_all
 .have S:(i,f)∈XG bs R j:=by unfold XG;rw[List.mem_filter];have:=nQ 0 R i f D;rw[QQZ] at this;exact⟨this,by simp[F,Z]⟩
  have:=List.all_eq_true.1 G (i,f) S;simp only[Es,List.all_eq_true,Bool.not_eq_true'] at this;obtain⟨⟨B,A⟩,z⟩:=this;refine⟨fun b Z W=>?_,fun b Z W=>?_,fun b u m W=>?_⟩
  .have:=B b Z;rw[vW.2 W] at this;cases this
  .have:=A b Z;rw[vW.2 W] at this;cases this
  .obtain⟨s,X,C⟩:=W
   have V:s∈(r.tm.drop f.mem.length).take (f.nx.length-f.mem.length):=by apply Lo (i:=b-f.mem.length);rw[QQQ (by omega),QQc,<-X];congr 1;omega
   have:=z s V;cases s<;>simp_all
theorem F4{env:Env}:∀(l:List Tmp) (t:Nat),(t∈l/\ad (l.map fun t=>(t,ad env t)) t=ad env t)\/(t∉l/\ad (l.map fun t=>(t,ad env t)) t=.undef)
 | [],t=>.inr ⟨by simp,rfl⟩
 |x::xs,t=>by
  simp only[List.map_cons,ad];by_cases Z:x=t
  .subst Z;exact .inl ⟨by simp,by simp⟩
  .simp only[Z,if_false]
   rcases F4 (env:=env) xs t with⟨X,W⟩ | ⟨X,W⟩
   .exact .inl ⟨by simp[X],W⟩
   .exact .inr ⟨by simp[X,Ne.symm Z],W⟩
theorem WR{m:Mem}{b:Nat}(h:jy m b):b<m.length:=by obtain⟨s,h,_⟩:=h;exact(gL h)
theorem WK{env H :Env}{mem y :Mem}(hs:oY ops bs=true)(hR:nh P T N ops ops.toList env mem R H y)(hC:∀(j:Nat) r,R[j]? =some r->ahf bs R j r):uk P T N ops (qc ops.size bs R (H,y)):=by
 have z:∀(j:Nat) o,ops[j]? =some o->∃r,R[j]? =some r/\ahH P T N ops r o/\S8 R (H,y) (j+1)=(agW r.env o.dst r.v,r.nx):=
  fun j o ho=>DP hR j o (by simpa using ho)
 have M_at:∀(j:Nat) r,R[j]? =some r->(qc ops.size bs R (H,y)).M j=r.mem:=fun j r h=>by simp[qc,S8,h]
 have lens:∀(i:Nat) V J,ops[i]? =some J->R[i]? =some V->∀(k j:Nat) B oj,j=i+1+k->ops[j]? =some oj->R[j]? =some B->V.nx.length<=B.mem.length:=by
  intro i V J X Z k;induction k with
  |zero=>
   intro j B oj hj hoj u;obtain⟨r,g1,g2,g3⟩:=z i J X;rw[Z] at g1;cases g1;have:S8 R (H,y) (i+1)=(B.env,B.mem):=by rw[show i+1=j by omega];simp[S8,u]
   rw[this] at g3;have:=congrArg Prod.snd g3;simp only at this;rw[this];exact L9 _
  |succ k ih=>
   intro j B oj hj hoj u;have hjs:j<ops.size:=(Ns.1 hoj).1;obtain⟨op,hop⟩:=Bd (ops:=ops) (j:=j-1) (by omega);obtain⟨r,g1,g2,g3⟩:=z (j-1) op hop;have Q:=ih (j-1) r op (by omega) hop g1;have:S8 R (H,y) (j-1+1)=(B.env,B.mem):=by rw[show j-1+1=j by omega];simp[S8,u]
   rw[this] at g3;have e:=congrArg Prod.snd g3;simp only at e;have:=g2.ahI;have:=g2.mono;rw[e];omega
 have ab1 :∀(i j:Nat) V B J oj,i<j->ops[i]? =some J->ops[j]? =some oj->R[i]? =some V->R[j]? =some B->V.nx.length<=B.mem.length:=
  fun i j V B J oj hij X hoj Z u=>lens i V J X Z (j-i-1) j B oj (by omega) hoj u
 intro j o ho;obtain⟨r,G,K,acF⟩:=z j o ho;have C:=hC j r G;have S:=Da hs ho;have hjs:j<ops.size:=(Ns.1 ho).1;have I:(qc ops.size bs R (H,y)).M j=r.mem:=M_at j r G;have F:(qc ops.size bs R (H,y)).M (j+1)=r.nx:=by simp[qc,acF]
 have eE:(qc ops.size bs R (H,y)).E j=r.env:=by simp[qc,S8,G]
 have eE1:(qc ops.size bs R (H,y)).E (j+1)=agW r.env o.dst r.v:=by simp[qc,acF]
 have eEn:(qc ops.size bs R (H,y)).En j=r.en:=by simp[qc,G]
 have eT:(qc ops.size bs R (H,y)).Tm j=r.tm:=by simp[qc,G]
 have m :(qc ops.size bs R (H,y)).M' j=r.m' :=by simp[qc,G]
 have ev:(qc ops.size bs R (H,y)).v j=r.v:=by simp[qc,G]
 have ew:(qc ops.size bs R (H,y)).wb j=r.wb:=by simp[qc,G]
 have A:∀b,(qc ops.size bs R (H,y)).agM j b=true↔b∈r.wr\/r.mem.length<=b:=fun b=>by simp[qc,G]
 have abl:∀b,(qc ops.size bs R (H,y)).agM j b=false↔b∉r.wr/\b<r.mem.length:=fun b=>by simp[qc,G]
 have eok:(qc ops.size bs R (H,y)).ok j=jd r.nx.length (XG bs R j):=by funext b;simp[qc,G]
 have D:∀i k,i<ops.size->(qc ops.size bs R (H,y)).cl i k=bef bs i k:=fun i k hi=>by simp[qc,hi]
 have acG:r.mem.length<=r.nx.length:=by rw[K.ahI];exact K.mono
 refine⟨by rw[eEn,ew];exact K.wanted,K.dst,?_,?_,by rw[eE1,eE,ev],?_,?_,by rw[eT,I];exact K.ahT,by rw[eT,I];exact K.ahU,by rw[F,m];exact K.ahI,by rw[I,F];exact acG,
  ?_,?_,?_,?_,?_,?_,?_,?_,?_,?_,S.1,?_⟩
 .rw[ew,eEn,eT,ev,m];exact K.step
 .rw[ew,ev,m,eT];exact K.skip
 .intro t
  rw[eEn,eE,K.en];rcases F4 (env:=r.env) (o.looksAt ops) t with⟨Q,h2⟩ | ⟨Q,h2⟩
  .refine .inr ⟨h2,fun i J hi IR Y=>?_⟩
   rw[D i j (Ns.1 hi).1,D j i hjs];exact S.2.2 i J t hi IR Y (.inl Q)
  .exact .inl h2
 .intro i J t hi IR Q h2
  rw[D i j (Ns.1 hi).1,D j i hjs];exact S.2.2 i J t hi IR h2 (.inr Q)
 .intro b W
  rw[F,m,K.nx b,if_pos ((A b).1 W)]
 .intro b W Y
  rw[I] at W;rw[F,I,K.nx b,if_neg];rw[abl] at Y;rintro (h | h)
  .exact Y.1 h
  .omega
 .intro b W Y hB
  rw[I] at W;rw[m,I];rw[abl] at Y;rw[eT] at hB;exact K.agR b W Y.1 hB
 .intro b W
  rw[I] at W;exact(A b).2 (.inr W)
 .intro b Y W
  rw[I] at W;rw[eT];rcases (A b).1 Y with h | h
  .exact C.wr b h
  .omega
 .
  intro i J b X hij hbi hti hor;obtain⟨V,Z,Ki,hni⟩:=z i J X;have Ci:=hC i V Z;have eMi:(qc ops.size bs R (H,y)).M (i+1)=V.nx:=by simp[qc,hni]
  rw[eMi] at hbi;have ad1 :b∈V.wr\/V.mem.length<=b:=by simpa [qc,Z] using hti
  rw[F,eT] at hor;rw[D i j (Ns.1 X).1,D j i hjs];by_cases B':i<j
  .cases W:bef bs i j with
   |true=>exact .inl rfl
   |false=>
    exfalso;obtain⟨p1,p2,p3⟩:=C.ain i V B' Z W;have hl:=ab1 i j V r J o B' X ho Z G;have ad2:¬jy r.tm b:=by
     rcases ad1 with h | h
     .exact p1 b h
     .exact p3 b h hbi
    rcases hor with⟨g1,g2⟩ | g
    .rcases (A b).1 g2 with h | h
     .exact ad2 (C.wr b h)
     .omega
    .exact ad2 g
  .cases W:bef bs j i with
   |true=>exact .inr rfl
   |false=>
    exfalso;obtain⟨p1,p2,p3⟩:=Ci.ain j r (by omega) G W;have hl:=ab1 j i r V o J (by omega) ho X G Z;have htl:=K.ahT;rcases ad1 with h | h
    .rcases hor with⟨g1,g2⟩ | g
     .rcases (A b).1 g2 with h' | h'
      .exact p2 b h (C.wr b h')
      .exact p3 b h' g1 (Ci.wr b h)
     .exact p2 b h g
    .rcases hor with⟨g1,g2⟩ | g
     .omega
     .have:=WR g;omega
 .
  intro i b J X hok Q h2;obtain⟨V,Z,Ki,hni⟩:=z i J X;have eMi:(qc ops.size bs R (H,y)).M (i+1)=V.nx:=by simp[qc,hni]
  rw[M_at i V Z] at Q;rw[eMi] at h2;rw[eok] at hok;unfold jd at hok;simp only[Es,L0,List.all_eq_true,Bool.not_eq_true',decide_eq_false_iff_not] at hok;by_cases hij:i=j
  .exact .inl hij
  .refine .inr ?_
   rw[D i j (Ns.1 X).1];by_cases B':i<j
   .cases W:bef bs i j with
    |true=>rfl
    |false=>
     exfalso;have aaL:(i,V)∈XG bs R j:=by unfold XG;rw[List.mem_filter];have:=nQ 0 R i V Z;rw[QQZ] at this;exact⟨this,by simp[B',W]⟩
     exact hok.2 (i,V) aaL ⟨Q,h2⟩
   .exfalso
    have hl:=ab1 j i r V o J (by omega) ho X G Z;omega
 .rw[ev,eok];exact C.ahW
 .intro b s Y hs
  rw[F] at hs;rw[eok];rcases (A b).1 Y with h | h
  .exact C.aiD b s h hs
  .exact(C.fresh b s h hs).2
 .intro b s W hs IR
  rw[I] at W;rw[F] at hs |-;exact⟨s,hs,(C.fresh b s W hs).1 IR⟩
 .intro i W
  simp only[qc,Es,L0] at W;obtain⟨e,Q,h2,h3⟩:=S.2.1 i W.1 W.2;refine⟨e,Q,h2,?_⟩;rcases h3 with h | h
  .exact .inl h
  .exact .inr (by simp[qc,W.1,h])
theorem Ib(H:P.follows .mixedOrders=true)(hT:dW P T)(I:adM P O){m0:Nat}{s s' :XS}(y:oY ops (fN ops.toList)=true)(h:aJ T O N m0 ops s=some s'):
  (∀(tp:Bool) (id:Nat) (Q:Exit->St->Prop),Q .normal ⟨s'.env,s'.mem⟩->AWP P tp N m0 (.region id ops true) ⟨s.env,s.mem⟩ Q)/\Clean m0 s.mem s.agp s'.mem s'.agp:=by
 unfold aJ at h;simp only at h
 .split at h
  .cases h
  .rename_i R env mem C
   split at h
   .rename_i hc
    cases h;obtain⟨X,e,W⟩:=qp I C;simp only[List.reverse_nil,List.nil_append] at e;subst e;have B:∀(j:Nat) r,R[j]? =some r->ahf (fN ops.toList) R j r:=by intro j r A;have:=nQ 0 R j r A;rw[QQZ] at this;exact HM (List.all_eq_true.1 hc _ this)
    have z:=WK y W B;have D:=xY W;have u:=z8 W;have V:S8 R (env,mem) ops.size=(env,mem):=by unfold S8;rw[List.getElem?_eq_none (by rw[u];simp)]
    refine⟨fun tp id Q hq=>CW H hT (d:=qc ops.size (fN ops.toList) R (env,mem)) z (by simp[qc,D]) (by simp[qc,D]) (by simp[qc,V]) hq,?_⟩;have S:∀(l:List Oper) (e:Env) (m:Mem) (X:List Rec),nh P T N ops l e m X env mem->m0<=m.length->m0<=mem.length/\((X.any fun r=>r.wr.any fun b=>decide (b<m0))=false->mem.take m0=m.take m0):=by
     intro l;induction l with
     |nil=>
      intro e m X h Z;cases X with
      |nil=>obtain⟨rfl,rfl⟩:=h;exact⟨Z,fun _=>rfl⟩
      |cons=>exact h.elim
     |cons o os ih=>
      intro e m X h Z;cases X with
      |nil=>exact h.elim
      |cons r X=>
       obtain⟨rfl,rfl,K,Y⟩:=h;have acG:r.mem.length<=r.nx.length:=by rw[K.ahI];exact K.mono
       obtain⟨M,J⟩:=ih _ _ _ Y (by omega);refine⟨M,fun G=>?_⟩;simp only[List.any_cons,Bool.or_eq_false_iff] at G;rw[J G.2];refine wG Z (by omega) fun b hb=>?_
       rw[K.nx b,if_neg];rintro (h | h)
       .exact oS G.1 hb h
       .omega
    intro Z;obtain⟨M,J⟩:=S _ _ _ _ W Z;refine⟨M,fun F=>?_⟩;simp only[Bool.or_eq_false_iff] at F;exact⟨F.1,J F.2⟩
   .cases h
end
end Go.Eng
namespace Go.Eng
variable{e z':Env}
section
variable {P:Program}{T:TypeId->Option TyI}{lv:Code->List Nat}{O:af3}{K N m0:Nat}{tp:Bool}
def ZM(P:Program)(tp:Bool)(N m0:Nat)(c:Code)(s:XS)(e:Exit) (s' :XS):Prop:=
 (∀Q:Exit->St->Prop,Q e ⟨s'.env,s'.mem⟩->AWP P tp N m0 c ⟨s.env,s.mem⟩ Q)/\Clean m0 s.mem s.agp s'.mem s'.agp
def agJ(wr:List Nat) (e y :Env):Prop:=∀t,t∉wr->ad y t=ad e t
theorem agJ.refl(wr:List Nat)(e:Env):agJ wr e e:=fun _ _=>rfl
theorem agJ.trans{wr:List Nat}{y H I:Env}(h:agJ wr y H)(h' :agJ wr H I):agJ wr y I:=fun t Z=>(h' t Z).trans (h t Z)
theorem agJ.mono{wr wr' :List Nat}{y :Env}(h:agJ wr e y)(H:∀t,t∈wr->t∈wr'):agJ wr' e y :=fun t Z=>h t fun X=>Z (H t X)
theorem jG(a b:Env)(t:Nat)(h:∀e∈a,e.1≠t):ad (a++b) t=ad b t:=by
 induction a with
 |nil=>rfl
 |cons e r ih=>
  obtain⟨k,v⟩:=e;simp only[List.cons_append,ad];rw[if_neg (h (k,v) (by simp))];exact ih fun e he=>h e (by simp[he])
theorem iF(l:List Nat)(g:Nat->AV)(b:Env)(t:Nat)(h:t∈l):ad (l.map (fun t=>(t,g t))++b) t=g t:=by
 induction l with
 |nil=>cases h
 |cons x r ih=>
  simp only[List.map_cons,List.cons_append,ad];by_cases Z:x=t
  .subst Z;rw[if_pos rfl]
  .rw[if_neg Z]
   exact ih (by cases h with
    |head=>exact absurd rfl Z
    |tail _ h=>exact h)
theorem tZ{lv wr:List Nat}{env:Env}(h:agJ wr z' env)(t:Nat):ad (au lv wr z' env) t=ad env t\/ad (au lv wr z' env) t=.undef:=by
 unfold au;rw[SP];by_cases Z:t∈lv
 .rw[iF lv (fun t=>ad env t) _ t Z];exact .inl rfl
 .rw[jG _ _ t (by intro e he;simp only[QQj] at he;obtain⟨x,X,rfl⟩:=he;intro e;exact Z (e▸X))]
  by_cases W:t∈wr
  .rw[iF (wr.filter fun t=> !lv.contains t) (fun _=>AV.undef) _ t (by rw[List.mem_filter];exact⟨W,by simpa using Z⟩)];exact .inr rfl
  .rw[jG _ _ t (by intro e he;simp only[QQj,List.mem_filter] at he;obtain⟨x,X,rfl⟩:=he;intro e;exact W (e▸X.1))]
   exact .inl (h t W).symm
theorem ph{lv wr:List Nat}{env:Env}(y:agJ wr z' env):agJ wr z' (au lv wr z' env):=by
 intro t X;unfold au;rw[SP];by_cases W:t∈lv
 .rw[iF lv (fun t=>ad env t) _ t W];exact y t X
 .rw[jG _ _ t (by intro e he;simp only[QQj] at he;obtain⟨x,Z,rfl⟩:=he;intro e;exact W (e▸Z)),
   jG _ _ t (by intro e he;simp only[QQj,List.mem_filter] at he;obtain⟨x,Z,rfl⟩:=he;intro e;exact X (e▸Z.1))]
theorem DX{wr:List Nat}{o:Oper}{v:AV}(h:∀d,o.dst=some d->d∈wr):agJ wr e (agW e o.dst v):=by intro t Z;exact ML fun he=>Z (h t he)
theorem qo{m0:Nat}{ops:Array Oper}:∀{l:List Oper}{s s' :XS},fH T O N m0 ops l s=some s' ->agJ (l.filterMap (·.dst)) s.env s'.env
 | [],s,s',h=>by cases h;exact .refl _ _
 |o::os,s,s',h=>by
  have X:∀t,t∈os.filterMap (·.dst)->t∈(o::os).filterMap (·.dst):=fun t W=>by
   rw[List.filterMap_cons];split
   .exact W
   .exact List.mem_cons_of_mem _ W
  have Z:∀d,o.dst=some d->d∈(o::os).filterMap (·.dst):=fun d Z=>by rw[List.filterMap_cons];simp[Z]
  unfold fH at h;split at h
  .split at h
   .split at h
    .exact(DX Z).trans ((qo h).mono X)
    .cases h
   .exact(DX Z).trans ((qo h).mono X)
   .cases h
  .cases h
theorem M8{ops:Array Oper}:∀{l:List Oper} {env:Env} {mem:Mem} {R:List Rec}{H :Env}{y :Mem},nh P T N ops l env mem R H y ->agJ (l.filterMap (·.dst)) env H
 | [],_,_,[],_,_,h=>by obtain⟨rfl,_⟩:=h;exact .refl _ _
 |o::os,_,_,r::rs,_,_,h=>by
  obtain⟨rfl,_,_,W⟩:=h;have V:∀t,t∈os.filterMap (·.dst)->t∈(o::os).filterMap (·.dst):=fun t X=>by
   rw[List.filterMap_cons];split
   .exact X
   .exact List.mem_cons_of_mem _ X
  have Z:∀d,o.dst=some d->d∈(o::os).filterMap (·.dst):=fun d Z=>by rw[List.filterMap_cons];simp[Z]
  exact(DX Z).trans ((M8 W).mono V)
 | [],_,_,_::_,_,_,h=>h.elim
 |_::_,_,_,[],_,_,h=>h.elim
theorem Nf(y:adM P O){m0:Nat}{ops:Array Oper}{s s' :XS}(h:aJ T O N m0 ops s=some s'):agJ (ops.toList.filterMap (·.dst)) s.env s'.env:=by
 unfold aJ at h;simp only at h;split at h
 .cases h
 .rename_i R env mem Z
  split at h
  .cases h
   obtain⟨W,e,X⟩:=qp y Z;exact M8 X
  .cases h
mutual
theorem af4.refs{μ:Nat->Place}{n:Nat}:∀{v V},af4 μ n v V->v.refs n=[]
 |.undef,_,_=>rfl
 |.bool _,_,_=>rfl
 |.int _ _,_,_=>rfl
 |.str _,_,_=>rfl
 |.ptr b o,V,h=>by simp only[af4] at h;simp[AV.refs,h.1]
 |.agk,_,_=>rfl
 |.slice b o l c,V,h=>by simp only[af4] at h;simp[AV.refs,h.1]
 |.y9,_,_=>rfl
 |.map b,V,h=>by simp only[af4] at h;simp[AV.refs,h.1]
 |.yield b,V,h=>by simp only[af4] at h;simp[AV.refs,h.1]
 |.agu,_,_=>rfl
 |.func f Z,V,h=>by simp only[af4] at h;obtain⟨X,_,h⟩:=h;simp[AV.refs,af5.refs h]
 |.nilFunc,_,_=>rfl
 |.iface t v,V,h=>by simp only[af4] at h;obtain⟨U,_,h⟩:=h;simp[AV.refs,af4.refs h]
 |.nilIface,_,_=>rfl
 |.agg Z,V,h=>by simp only[af4] at h;obtain⟨X,_,h⟩:=h;simp[AV.refs,af5.refs h]
 |.tuple Z,V,h=>by simp only[af4] at h;obtain⟨X,_,h⟩:=h;simp[AV.refs,af5.refs h]
theorem af5.refs{μ:Nat->Place}{n:Nat}:∀{vs Us},af5 μ n vs Us->AV.ago n vs=[]
 | [],_,_=>rfl
 |v::vs,_,h=>by simp only[af5] at h;obtain⟨U,W,_,Z,X⟩:=h;simp[AV.ago,af4.refs Z,af5.refs X]
end
mutual
theorem AV.agm{m1:Nat}{ks:List Nat}:∀{v:AV},v.refs m1=[]->v.ren (rho m1 ks)=v
 |.undef,_=>rfl
 |.bool _,_=>rfl
 |.int _ _,_=>rfl
 |.str _,_=>rfl
 |.ptr b o,h=>by
  have Z:b<m1:=by
   by_cases Z:b<m1
   .exact Z
   .simp[AV.refs,Z] at h
  simp[AV.ren,rho,Z]
 |.agk,_=>rfl
 |.slice b o l c,h=>by
  have Z:b<m1:=by
   by_cases Z:b<m1
   .exact Z
   .simp[AV.refs,Z] at h
  simp[AV.ren,rho,Z]
 |.y9,_=>rfl
 |.map b,h=>by
  have Z:b<m1:=by
   by_cases Z:b<m1
   .exact Z
   .simp[AV.refs,Z] at h
  simp[AV.ren,rho,Z]
 |.yield b,h=>by
  have Z:b<m1:=by
   by_cases Z:b<m1
   .exact Z
   .simp[AV.refs,Z] at h
  simp[AV.ren,rho,Z]
 |.agu,_=>rfl
 |.func f X,h=>by simp only[AV.refs] at h;simp[AV.ren,AV.agK h]
 |.nilFunc,_=>rfl
 |.iface t v,h=>by simp only[AV.refs] at h;simp[AV.ren,AV.agm h]
 |.nilIface,_=>rfl
 |.agg X,h=>by simp only[AV.refs] at h;simp[AV.ren,AV.agK h]
 |.tuple X,h=>by simp only[AV.refs] at h;simp[AV.ren,AV.agK h]
theorem AV.agK{m1:Nat}{ks:List Nat}:∀{vs:List AV},AV.ago m1 vs=[]->AV.agd (rho m1 ks) vs=vs
 | [],_=>rfl
 |v::vs,h=>by simp only[AV.ago,List.append_eq_nil_iff] at h;simp[AV.agd,AV.agm h.1,AV.agK h.2]
end
variable{ks:List Nat}{m1:Nat}
theorem af6.agm{s:af6}(h:s.refs m1=[]):s.ren (rho m1 ks)=s:=by
 cases s with
 |HS=>rfl
 |cells own es cs=>simp only[af6.refs] at h;simp only[af6.ren,AV.agK h]
 |map es=>
  simp only[af6.refs,List.flatMap_eq_nil_iff] at h;simp only[af6.ren];congr 1;conv=>rhs;rw[<-List.map_id es]
  apply List.map_congr_left;intro e he;have:=h e he;rw[List.append_eq_nil_iff] at this;rw[AV.agm this.1,AV.agm this.2];rfl
 |agC es=>
  simp only[af6.refs,List.flatMap_eq_nil_iff] at h;simp only[af6.ren];congr 1;conv=>rhs;rw[<-List.map_id es]
  apply List.map_congr_left;intro e he;have:=h e he;rw[List.append_eq_nil_iff] at this;rw[AV.agm this.1,AV.agm this.2];rfl
 |loop r=>
  simp only[af6.refs,List.flatMap_eq_nil_iff] at h;simp only[af6.ren,tD];congr 1;have:r.env.map (fun e=>(e.1,e.2.ren (rho m1 ks)))=r.env:=by
   conv=>rhs;rw[<-List.map_id r.env]
   apply List.map_congr_left;intro e he;rw[AV.agm (h e he)];rfl
  rw[this]
variable{Q:Exit->St->Prop}
theorem AWP.assume{c:Code}{y:St}(h:m0<=y.mem.length->(∀t,(ad y.env t).refs y.mem.length=[])->AWP P tp N m0 c y Q):AWP P tp N m0 c y Q:=
 fun ro h0 base μ w a hro h1 h2 h3 h4 h5=>h h5 (fun t=>(h2 t).refs) ro h0 base μ w a hro h1 h2 h3 h4 h5
theorem Mm{mem:Mem}(h:(mem.take m1).all (fun s=>(s.refs m1).isEmpty)=true):age m1 ks mem=mem.take m1++agR m1 ks mem:=by
 unfold age;congr 1;conv=>rhs;rw[<-List.map_id (mem.take m1)]
 apply List.map_congr_left;intro s Z;have:=List.all_eq_true.1 h s Z;rw[List.isEmpty_iff] at this;rw[af6.agm this];rfl
variable{lw:List Nat}
section
variable{wr:List Nat}
include wr
theorem ua{g:Nat->AV}(t:Nat):
  ad ((lw.filter fun t=>wr.contains t).map (fun t=>(t,g t))++((wr.filter fun t=> !lw.contains t).map fun t=>(t,AV.undef))++z') t=
   if t∈wr then (if t∈lw then g t else .undef) else ad z' t:=by
 rw[SP];by_cases Z:t∈wr
 .by_cases X:t∈lw
  .rw[if_pos Z,if_pos X]
   exact iF _ g _ t (by rw[List.mem_filter];exact⟨X,by simpa using Z⟩)
  .rw[if_pos Z,if_neg X,jG _ _ t (by intro e he;simp only[QQj,List.mem_filter] at he;obtain⟨x,W,rfl⟩:=he;intro e;exact X (e▸W.1))]
   exact iF (wr.filter fun t=> !lw.contains t) (fun _=>AV.undef) _ t (by rw[List.mem_filter];exact⟨Z,by simpa using X⟩)
 .rw[if_neg Z,jG _ _ t (by intro e he;simp only[QQj,List.mem_filter] at he;obtain⟨x,W,rfl⟩:=he;intro e;exact Z (e▸by simpa using W.2)),
   jG _ _ t (by intro e he;simp only[QQj,List.mem_filter] at he;obtain⟨x,W,rfl⟩:=he;intro e;exact Z (e▸W.1))]
theorem S0{s:XS}(h:agJ wr z' s.env):agJ wr z' (MV lw wr z' m1 s).env:=by
 unfold MV;simp only;split
 .intro t Z
  simp only;rw[ua,if_neg Z]
 .exact ph h
theorem Gi{s:XS}(h:agJ wr z' s.env):agJ wr z' (mM lw wr z' m1 s).env:=by
 unfold mM;split
 .exact ph h
 .simp only
  split
  .intro t Z
   simp only;rw[ua,if_neg Z]
  .split
   .exact S0 h
   .exact ph h
theorem OX{s:XS}(y:m0<=m1):Clean m0 s.mem s.agp (mM lw wr z' m1 s).mem (mM lw wr z' m1 s).agp:=by
 unfold mM;split
 .exact .refl _ _ _
 .rename_i Z
  have Z:=fun h=>Z (.inr h)
  simp only;split
  .intro h
   refine⟨by simp only[Nm,P3];omega,fun e=>⟨e,?_⟩⟩;simp only;rw[QQa (by simp only[P3];omega),List.take_take];congr 1;omega
  .split
   .unfold MV
    simp only;split
    .intro h
     exact⟨by show m0<=(age m1 _ s.mem).length;rw[gk (by omega)];omega,fun e=>by cases e⟩
    .exact .refl _ _ _
   .exact .refl _ _ _
theorem Th{s:XS}(h:agJ wr z' s.env)(h0:∀t,(ad z' t).refs m1=[])(y:m0<=m1)(H:m1<=s.mem.length):
  agY m0 ⟨s.env,s.mem⟩ ⟨(MV lw wr z' m1 s).env,(MV lw wr z' m1 s).mem⟩:=by
 unfold MV;simp only;split
 .rename_i V
  obtain⟨ks,W⟩:=xE (pg m1 s.mem 1000 ((lw.flatMap fun t=>(ad s.env t).refs m1)++(s.mem.take m1).flatMap (af6.refs m1)) []);rw[<-W] at V |-;have S:agY m0 ⟨s.env,s.mem⟩ ⟨tD (rho m1 ks) s.env,age m1 ks s.mem⟩:=by intro base μ w tmps Z X h3;obtain⟨μ1,M,J,G,F⟩:=agY.age (env:=s.env) _ V base μ w tmps Z X H;exact⟨μ1,M,J,QQJ y G,F.mono y⟩
  refine S.trans (agY.env fun t=>?_);rw[ua,jH];by_cases Z:t∈wr
  .rw[if_pos Z]
   by_cases X:t∈lw
   .rw[if_pos X];exact .inl rfl
   .rw[if_neg X];exact .inr rfl
  .rw[if_neg Z,h t Z,AV.agm (h0 t)];exact .inl rfl
 .exact agY.env fun t=>tZ h t
theorem Ti{s:XS}(h:agJ wr z' s.env)(h0:∀t,(ad z' t).refs m1=[])(y:m0<=m1):
  agY m0 ⟨s.env,s.mem⟩ ⟨(mM lw wr z' m1 s).env,(mM lw wr z' m1 s).mem⟩:=by
 unfold mM;split
 .exact agY.env fun t=>tZ h t
 .rename_i V
  have V:=fun h=>V (.inr h)
  simp only;split
  .rename_i hc
   rw[Es] at hc;obtain⟨M,J⟩:=hc;have S:agY m0 ⟨s.env,s.mem⟩ ⟨tD (rho m1 (pg m1 s.mem 1000 (lw.flatMap fun t=>(ad s.env t).refs m1) [])) s.env,age m1 (pg m1 s.mem 1000 (lw.flatMap fun t=>(ad s.env t).refs m1) []) s.mem⟩:=by
    intro base μ w tmps Z X h3;have W :m1<=s.mem.length:=by omega
    obtain⟨μ1,G,F,D,C⟩:=agY.age (env:=s.env) _ M base μ w tmps Z X W;exact⟨μ1,G,F,QQJ y D,C.mono y⟩
   rw[Mm J] at S;refine S.trans (agY.env fun t=>?_);rw[ua,jH];by_cases Z:t∈wr
   .rw[if_pos Z]
    by_cases X:t∈lw
    .rw[if_pos X];exact .inl rfl
    .rw[if_neg X];exact .inr rfl
   .rw[if_neg Z,h t Z,AV.agm (h0 t)];exact .inl rfl
  .split
   .exact Th h h0 y (by omega)
   .exact agY.env fun t=>tZ h t
end
variable{f:XS->Option (Exit×XS)}
theorem UZ{b:Code}(hf:∀s e s',f s=some (e,s')->agJ (ab b) s.env s'.env):
  ∀(k:Nat) (s:XS) (e:Exit) (s' :XS),agJ (ab b) z' s.env->fW lw (ab b) z' m1 f k s=some (e,s')->agJ (ab b) z' s'.env:=by
 intro k;induction k with
 |zero=>intro s e s' _ h;cases h
 |succ k ih=>
  intro s e s' Z h;unfold fW at h;split at h
  .rename_i W X
   exact ih _ _ _ (Gi (Z.trans (hf _ _ _ X))) h
  .exact Z.trans (hf _ _ _ h)
theorem SA{b:Code}(hf:∀s e s',f s=some (e,s')->ZM P tp N m0 b s e s')(y:m0<=m1):
  ∀(k:Nat) (s:XS) (e:Exit) (s' :XS),fW lw (ab b) z' m1 f k s=some (e,s')->Clean m0 s.mem s.agp s'.mem s'.agp:=by
 intro k;induction k with
 |zero=>intro s e s' h;cases h
 |succ k ih=>
  intro s e s' h;unfold fW at h;split at h
  .rename_i W Z
   obtain⟨_,X⟩:=hf _ _ _ Z;exact(X.trans (OX y)).trans (ih _ _ _ h)
  .exact(hf _ _ _ h).2
theorem SB{b:Code}(hf:∀s e s',f s=some (e,s')->ZM P tp N m0 b s e s' /\agJ (ab b) s.env s'.env)(h0:∀t,(ad z' t).refs m1=[])(H:m0<=m1)(k:Nat)(s:XS)(e:Exit)(s' :XS)(y:agJ (ab b) z' s.env)(h:fW lw (ab b) z' m1 f k s=some (e,s'))(hq:Q e ⟨s'.env,s'.mem⟩):AWP P tp N m0 (.loop b) ⟨s.env,s.mem⟩ Q:=by
 refine WN (σ:=Nat) (fun k S=>∃s,S=⟨s.env,s.mem⟩/\agJ (ab b) z' s.env/\fW lw (ab b) z' m1 f k s=some (e,s')) id (s:=k) ⟨s,rfl,y,h⟩ ?_;rintro k S ⟨s,rfl,y,hk⟩;cases k with
 |zero=>cases hk
 |succ k=>
  unfold fW at hk;split at hk
  .rename_i X J
   obtain⟨⟨G,_⟩,M⟩:=hf _ _ _ J;refine AWP.aiy (G (fun e Z=>e=.normal/\Z=⟨X.env,X.mem⟩) ⟨rfl,rfl⟩) ?_;rintro W Z ⟨rfl,rfl⟩;exact⟨⟨(mM lw (ab b) z' m1 X).env,(mM lw (ab b) z' m1 X).mem⟩,Ti (y.trans M) h0 H,k,⟨_,rfl,Gi (y.trans M),hk⟩,Nat.lt_succ_self k⟩
  .rename_i F
   have V :e≠ .normal:=by rintro rfl;exact F s' hk
   refine((hf _ _ _ hk).1.1 (fun W Z=>W=e/\Z=⟨s'.env,s'.mem⟩) ⟨rfl,rfl⟩).mono ?_;rintro W Z ⟨rfl,rfl⟩;cases W<;>first | exact absurd rfl V | exact hq
theorem gx(H:adM P O):∀{c:Code} {s:XS} {e:Exit}{s' :XS},aT T lv O K N m0 tp c s=some (e,s')->agJ (ab c) s.env s'.env
 |.skip,s,e,s',h=>by simp only[aT,N3,Prod.mk.injEq] at h;obtain⟨_,rfl⟩:=h;exact .refl _ _
 |.exit id,s,e,s',h=>by simp only[aT,N3,Prod.mk.injEq] at h;obtain⟨_,rfl⟩:=h;exact .refl _ _
 |.ret,s,e,s',h=>by simp only[aT,N3,Prod.mk.injEq] at h;obtain⟨_,rfl⟩:=h;exact .refl _ _
 |.region id ops false,s,e,s',h=>by
  unfold aT at h;split at h
  next W X=>cases h;exact qo X
  .cases h
 |.region id ops true,s,e,s',h=>by
  unfold aT at h;split at h
  next W X=>cases h;exact Nf H X
  .cases h
 |.seq x y,s,e,s',h=>by
  unfold aT at h;split at h
  .rename_i W X
   exact((gx H X).mono fun t Z=>by simp[ab,Z]).trans ((gx H h).mono fun t Z=>by simp[ab,Z])
  .exact(gx H h).mono fun t Z=>by simp[ab,Z]
 |.cond c x y,s,e,s',h=>by
  unfold aT at h;split at h
  .exact(gx H h).mono fun t Z=>by simp[ab,Z]
  .exact(gx H h).mono fun t Z=>by simp[ab,Z]
  .cases h
 |.block id b,s,e,s',h=>by
  show agJ (ab b) s.env s'.env
  unfold aT at h;split at h
  .rename_i i W X
   split at h
   .cases h;exact gx H X
   .cases h;exact gx H X
  .exact gx H h
 |.loop b,s,e,s',h=>by
  show agJ (ab b) s.env s'.env
  unfold aT at h;exact UZ (fun s e s' h=>gx H h) _ _ _ _ (ph (.refl _ _)) h
 |.rangeFunc g ps J' body,s,e,s',h=>by
  unfold aT at h;split at h
  .split at h
   .split at h
    .simp only at h
     split at h
     .split at h
      .cases h
      .split at h
       .cases h;exact .refl _ _
       .cases h
     .cases h
    .cases h
   .cases h
  .cases h
 |.label _,s,e,s',h=>by cases h
 |.goto _,s,e,s',h=>by cases h
 |.scope _,s,e,s',h=>by cases h
 |.refuse _,s,e,s',h=>by cases h
theorem dO(I:P.follows .mixedOrders=true)(hT:dW P T)(H:adM P O):∀{c:Code} {s:XS} {e:Exit}{s' :XS},cQ c=true->aT T lv O K N m0 tp c s=some (e,s')->ZM P tp N m0 c s e s'
 |.skip,s,e,s',hst,h=>by simp only[aT,N3,Prod.mk.injEq] at h;obtain⟨rfl,rfl⟩:=h;exact⟨fun Q hq=>WO hq,.refl _ _ _⟩
 |.exit id,s,e,s',hst,h=>by simp only[aT,N3,Prod.mk.injEq] at h;obtain⟨rfl,rfl⟩:=h;exact⟨fun Q hq=>WM hq,.refl _ _ _⟩
 |.ret,s,e,s',hst,h=>by simp only[aT,N3,Prod.mk.injEq] at h;obtain⟨rfl,rfl⟩:=h;exact⟨fun Q hq=>Yd hq,.refl _ _ _⟩
 |.region id ops false,s,e,s',hst,h=>by
  unfold aT at h;split at h
  .rename_i S V
   cases h;obtain⟨Z,X⟩:=lK H V;exact⟨fun Q hq=>Sc hT Z hq,X⟩
  .cases h
 |.region id ops true,s,e,s',hst,h=>by
  unfold aT at h;split at h
  .rename_i S V
   cases h;obtain⟨Z,X⟩:=Ib I hT H hst V;exact⟨fun Q hq=>Z tp id Q hq,X⟩
  .cases h
 |.seq x y,s,e,s',hst,h=>by
  unfold aT at h;split at h
  .rename_i S V
   simp only[cQ,Es] at hst;obtain⟨Z,X⟩:=dO I hT H hst.1 V;obtain⟨j,Y⟩:=dO I hT H hst.2 h;exact⟨fun Q hq=>yW (Z _ (j Q hq)),X.trans Y⟩
  .rename_i M
   simp only[cQ,Es] at hst;obtain⟨Z,X⟩:=dO I hT H hst.1 h;refine⟨fun Q hq=>yW (Z _ ?_),X⟩;cases e<;>first | exact absurd h (M s') | exact hq
 |.cond c x y,s,e,s',hst,h=>by
  unfold aT at h;split at h
  .rename_i hc
   simp only[cQ,Es] at hst;obtain⟨Z,X⟩:=dO I hT H hst.1 h;exact⟨fun Q hq=>PW hc (fun _=>Z Q hq) (fun e=>by cases e),X⟩
  .rename_i hc
   simp only[cQ,Es] at hst;obtain⟨Z,X⟩:=dO I hT H hst.2 h;exact⟨fun Q hq=>PW hc (fun e=>by cases e) (fun _=>Z Q hq),X⟩
  .cases h
 |.block id b,s,e,s',hst,h=>by
  unfold aT at h;split at h
  .rename_i i S V
   obtain⟨Z,X⟩:=dO I hT H (by simpa only[cQ] using hst) V;split at h
   .rename_i J
    cases h;exact⟨fun Q hq=>CV (Z _ (by simp only[PY];rw[if_pos J];exact hq)),X⟩
   .rename_i J
    cases h;exact⟨fun Q hq=>CV (Z _ (by simp only[PY];rw[if_neg J];exact hq)),X⟩
  .rename_i M
   obtain⟨Z,X⟩:=dO I hT H (by simpa only[cQ] using hst) h;refine⟨fun Q hq=>CV (Z _ ?_),X⟩;cases e<;>first | exact absurd h (M _ s') | exact hq
 |.loop b,s,e,s',hst,h=>by
  unfold aT at h;have C:∀s e s',aT T lv O K N m0 tp b s=some (e,s')->ZM P tp N m0 b s e s' /\agJ (ab b) s.env s'.env:=fun s e s' h=>⟨dO I hT H (by simpa only[cQ] using hst) h,gx H h⟩
  refine⟨fun Q hq=>AWP.assume fun W he=>WQ (agY.env fun t=>tZ (.refl _ _) t) (SB C he W _ _ _ _ (ph (.refl _ _)) h hq),fun W=>?_⟩;exact SA (fun s e s' h=>(C s e s' h).1) W _ ⟨au (lv b) (ab b) s.env s.env,s.mem,s.agp⟩ _ _ h W
 |.rangeFunc g ps J' body,s,e,s',hst,h=>by
  unfold aT at h;split at h
  .rename_i G
   subst G;split at h
   .rename_i f B R
    split at h
    .rename_i r A
     simp only at h;split at h
     .rename_i r2 F
      split at h
      .cases h
      .rename_i z
       split at h
       .rename_i e1 he
        cases h;have u:=zi H A;refine⟨fun Q hq=>HH R ((H.fn _ _ _ _ A).mono ?_),fun W=>⟨?_,fun D=>?_⟩⟩
        .rintro v m ⟨rfl,rfl⟩
         exact⟨r2,e,F,fun e=>z (by rw[e];rfl),he,hq⟩
        .simp only[X3]
         simp only[Nm] at u;omega
        .simp only[Bool.or_eq_false_iff,Option.isSome_eq_false_iff,Option.isNone_iff_eq_none] at D
         refine⟨D.1,wG W ?_ fun b z=>?_⟩
         .simp only[X3]
          simp only[Nm] at u;omega
         .have Y' :b<s.mem.length:=by omega
          show((r.mem _).set s.mem.length _)[b]? =_
          rw[X4 (by omega)];unfold afA.mem;rw[D.2];simp only[Option.getD_none];rw[SP,Hi Y']
       .cases h
     .cases h
    .cases h
   .cases h
  .cases h
 |.label _,s,e,s',hst,h=>by cases h
 |.goto _,s,e,s',hst,h=>by cases h
 |.scope _,s,e,s',hst,h=>by cases h
 |.refuse _,s,e,s',hst,h=>by cases h
structure aho (P:Program)(G:FuncId->Option Func):Prop where
 fn:∀f fn,G f=some fn->P.funcs[f]? =some fn/\(fn.name == "runtime.NumGoroutine")=false/\∀c,fn.body=some c->cQ c=true
section
variable (hm:P.follows .mixedOrders=true)(hT:dW P T)(hO:adM P O)
include hm hT hO
theorem ah{G:FuncId->Option Func}(y:aho P G){f:FuncId}{args:List AV}{mem:Mem}{r:afA}(h:aa T lv G O K f args mem=some r):kO P f args mem r.v (r.mem mem)/\∀p,r.pre=some p->p.length=mem.length:=by
 unfold aa at h;split at h
 .cases h
 .rename_i fn S
  obtain⟨F,D,g3⟩:=y.fn _ _ S;split at h
  .cases h
  .rename_i c M
   split at h
   .rename_i C
    split at h
    .rename_i e s he
     obtain⟨B,z⟩:=dO hm hT hO (g3 c M) he;obtain⟨j,u⟩:=z (L9 _);have X:(e=.normal\/e=.ret)->(match kf T fn.results.toList s.env s.mem with
      |some v=>
       let m0:=mem.length
       if s.agp then
        let ks:=pg m0 s.mem 1000 (v.refs m0++(s.mem.take m0).flatMap (af6.refs m0)) []
        if E5 m0 s.mem.length ks then
         some ⟨v.ren (rho m0 ks),some ((s.mem.take m0).map (af6.ren (rho m0 ks))),agR m0 ks s.mem⟩
        else none
       else
        let ks:=pg m0 s.mem 1000 (v.refs m0) []
        if E5 m0 s.mem.length ks then
         some ⟨v.ren (rho m0 ks),none,agR m0 ks s.mem⟩
        else none
      |none=>none:Option afA)=some r->kO P f args mem r.v (r.mem mem)/\∀p,r.pre=some p->p.length=mem.length:=by
      intro W h;split at h
      .rename_i v A
       simp only at h;split at h
       .split at h
        .rename_i Z
         cases h;refine⟨agF.intro hT F M D C (B _ ⟨W,v,A,_,Z,.inr ⟨rfl,rfl⟩⟩),fun p J=>?_⟩;cases J;simp only[QQi,P3];omega
        .cases h
       .rename_i m
        split at h
        .rename_i Z
         cases h;have V :=(u (by simpa using m)).2;rw[GE (L9 _)] at V;exact⟨agF.intro hT F M D C (B _ ⟨W,v,A,_,Z,.inl ⟨V,rfl,rfl⟩⟩),fun p J=>by cases J⟩
        .cases h
      .cases h
     split at h
     .exact X (.inl rfl) h
     .exact X (.inr rfl) h
     .cases h
    .cases h
   .cases h
theorem p9{b:Nat}{args:List AV}{mem:Mem}{r:afA}(h:yX T lv O K b args mem=some r):gV P b args mem r.v (r.mem mem)/\∀p,r.pre=some p->p.length=mem.length:=by
 unfold yX at h;split at h
 .rename_i H X
  split at h
  .rename_i hc
   simp only[Es,L0,List.all_eq_true] at hc;obtain⟨⟨⟨⟨J,G⟩,F⟩,D⟩,C⟩:=hc;have Z:∀{x:LoopState},(x== .ready)=true->x=.ready:=fun {x} h=>by cases x<;>first | rfl | cases h
   split at h
   .rename_i y B
    obtain⟨A,z⟩:=dO hm hT hO D B;split at h
    .rename_i r1 W
     split at h
     .rename_i V
      split at h
      .rename_i e s2 u
       obtain⟨m,Y⟩:=dO hm hT hO C u;split at h
       .rename_i j r2 R S
        simp only at h;split at h
        .rename_i M
         cases h;obtain⟨d1,_⟩:=z (L9 _);obtain⟨d2,_⟩:=Y (by simpa using d1);refine⟨agQ.intro X (Z J) G F (A _ ⟨rfl,r1,W,Z V,m _ ⟨r2,j,_,R,S,M,rfl,rfl⟩⟩),fun p I=>?_⟩;cases I;simp only[QQi,P3,X3];omega
        .cases h
       .cases h
      .cases h
     .cases h
    .cases h
   .cases h
  .cases h
 .cases h
end
theorem pZ(y:P.follows .mixedOrders=true)(hT:dW P T){G:FuncId->Option Func}(I:aho P G)(H:adM P O):∀n,adM P (A8 T lv G O K n)
 |0=>H
 |n+1=>by
  have W:=pZ y hT I H n;have X:∀c Z mem r,A8 T lv G O K (n+1) c Z mem=some r->O c Z mem=some r\/(match c with
   |.fn f=>aa T lv G (A8 T lv G O K n) K f Z mem
   |.yld b=>yX T lv (A8 T lv G O K n) K b Z mem)=some r:=by
   intro c Z mem r h;unfold A8 at h;split at h
   next M S=>cases h;exact .inl S
   .exact .inr h
  refine⟨fun f Z mem r h=>?_,fun b Z mem r h=>?_,fun c Z mem r p h V=>?_⟩
  .rcases X _ _ _ _ h with h | h
   .exact H.fn _ _ _ _ h
   .exact(ah y hT W I h).1
  .rcases X _ _ _ _ h with h | h
   .exact H.yld _ _ _ _ h
   .exact(p9 y hT W h).1
  .rcases X _ _ _ _ h with h | h
   .exact H.pre _ _ _ _ _ h V
   .cases c with
    |fn f=>exact(ah y hT W I h).2 p V
    |yld b=>exact(p9 y hT W h).2 p V
end
end Go.Eng
namespace Go.Eng
def aU(P:Program)(t:TypeId):Option TyI:=
 match P.info? t,P.underlying t with
 |some i,some d=>match i.zero with
  |some z=>if z.cells.size=i.size then some ⟨d,i.size,i.bytes,z,!P.stoodInHeld t&& !P.eqGuardType P.depth t⟩ else none
  |none=>none
 |_,_=>none
theorem al(P:Program):dW P (aU P):=by
 intro t i h;unfold aU at h;split at h
 .rename_i f d Z X
  split at h
  .rename_i z W
   split at h
   .rename_i V
    cases h;refine⟨X,⟨f,Z,rfl,rfl,W⟩,V,fun he=>?_⟩;simp only[Es,Bool.not_eq_true'] at he;exact he
   .cases h
  .cases h
 .cases h
def aS(P:Program)(f:FuncId):Option Func:=match P.funcs[f]? with
 |some fn=>if fn.name == "runtime.NumGoroutine" then none else match fn.body with
  |some c=>if cQ c then some fn else none
  |none=>some fn
 |none=>none
theorem ao(P:Program):aho P (aS P):=by
 refine⟨fun f fn h=>?_⟩;unfold aS at h;split at h
 .rename_i V X
  split at h
  .cases h
  .rename_i W
   split at h
   .rename_i c Z
    split at h
    .rename_i S
     cases h;refine⟨X,by simpa using W,fun O hc=>?_⟩;rw[Z] at hc;cases hc;exact S
    .cases h
   .rename_i Z
    cases h;refine⟨X,by simpa using W,fun O hc=>?_⟩;rw[Z] at hc;cases hc
 .cases h
def bD:af3:=fun _ _ _=>none
theorem aj(P:Program):adM P bD:=⟨(fun _ _ _ _ h=>by cases h),(fun _ _ _ _ h=>by cases h),(fun _ _ _ _ _ h=>by cases h)⟩
structure agx (w w' :World):Prop where
 size:w.heap.size<=w'.heap.size
 heap:∀k,k<w.heap.size->w'.heap[k]? =w.heap[k]?
 os:w'.os=w.os
 tape:w'.tape=w.tape
 output:w'.output=w.output
 drawn:w.drawn<=w'.drawn
section
variable {P:Program}{μ:Nat->Place}{mem:Mem}{base:Nat}{w w' :World}
theorem agx.refl(w:World):agx w w:=⟨L9 _,fun _ _=>rfl,rfl,rfl,rfl,L9 _⟩
theorem agx.aiM(h:agx w w')(y:agh base μ mem w):agh base μ mem w' :=by refine⟨QQJ y.agb h.size,fun b s Z=>?_,y.sep⟩;exact(y.slot b s Z).mono (L9 _) (fun _ _=>rfl) fun X=>h.heap _ ((y.slot b s Z).agN X)
theorem agx.step(h:agx w w'){m0:Nat}(y:m0<=mem.length):Step m0 μ mem w μ mem w' :=
 ⟨y,fun _ _=>rfl,h.os,h.tape,h.output,h.size,fun k Z _=>h.heap k Z,fun b X _=>⟨b,X,rfl⟩,h.drawn⟩
theorem kO.agG{f:FuncId}{args:List AV}{Vs:List Value}{v:AV}{V:Value}(hf:V2 P f)(y:∀μ n Us,af5 μ n args Us->Us=Vs)(H:∀μ n,af4 μ n v V)(h:∀base w,GOk P base w->Calls P f ⟨Vs⟩ w fun e w' =>e=.returned V/\agx w w')(mem:Mem):kO P f args mem v mem:=by refine⟨hf,fun base μ w Us hG hH hV=>?_⟩;rw[y _ _ _ hV];refine(h base w hG).mono ?_;rintro e w' ⟨rfl,hg⟩;exact⟨V,v,mem,μ,rfl,H _ _,hg.aiM hH,hg.step (L9 _),rfl,rfl⟩
theorem agx.grow(w:World)(k:Nat)(os:Array Obj):agx w { w with heap:=w.heap++os,drawn:=w.drawn+k }:=by
 refine⟨by simp,fun i Z=>?_,rfl,rfl,rfl,Nat.le_add_right _ _⟩;show(w.heap++os)[i]? =_
 rw[Array.getElem?_append_left Z]
mutual
def AV.closed:AV->Bool
 |.ptr _ _=>false
 |.slice _ _ _ _=>false
 |.map _=>false
 |.yield _=>false
 |.func _ Z=>AV.af9 Z
 |.iface _ v=>v.closed
 |.agg Z=>AV.af9 Z
 |.tuple Z=>AV.af9 Z
 |_=>true
def AV.af9:List AV->Bool
 | []=>true
 |v::vs=>v.closed&&AV.af9 vs
end
mutual
theorem af4.closed{μ μ' :Nat->Place}{n y :Nat}:∀{v V},v.closed=true->af4 μ n v V->af4 μ' y v V
 |.undef,V,_,_=>by simp[af4]
 |.bool b,V,_,h=>by simpa [af4] using h
 |.int k i,V,_,h=>by simpa [af4] using h
 |.str s,V,_,h=>by simpa [af4] using h
 |.ptr b o,V,hc,_=>by simp[AV.closed] at hc
 |.agk,V,_,h=>by simpa [af4] using h
 |.slice b o l c,V,hc,_=>by simp[AV.closed] at hc
 |.y9,V,_,h=>by simpa [af4] using h
 |.map b,V,hc,_=>by simp[AV.closed] at hc
 |.yield b,V,hc,_=>by simp[AV.closed] at hc
 |.agu,V,_,h=>by simpa [af4] using h
 |.func f X,V,hc,h=>by simp only[af4] at h |-;simp only[AV.closed] at hc;obtain⟨Z,rfl,h⟩:=h;exact⟨Z,rfl,af5.closed hc h⟩
 |.nilFunc,V,_,h=>by simpa [af4] using h
 |.iface t v,V,hc,h=>by simp only[af4] at h |-;simp only[AV.closed] at hc;obtain⟨U,rfl,h⟩:=h;exact⟨U,rfl,af4.closed hc h⟩
 |.nilIface,V,_,h=>by simpa [af4] using h
 |.agg X,V,hc,h=>by simp only[af4] at h |-;simp only[AV.closed] at hc;obtain⟨Z,rfl,h⟩:=h;exact⟨Z,rfl,af5.closed hc h⟩
 |.tuple X,V,hc,h=>by simp only[af4] at h |-;simp only[AV.closed] at hc;obtain⟨Z,rfl,h⟩:=h;exact⟨Z,rfl,af5.closed hc h⟩
theorem af5.closed{μ μ' :Nat->Place}{n y :Nat}:∀{vs Us},AV.af9 vs=true->af5 μ n vs Us->af5 μ' y vs Us
 | [],Us,_,h=>by simpa [af5] using h
 |v::vs,Us,hc,h=>by simp only[AV.af9,Es] at hc;simp only[af5] at h |-;obtain⟨U,Z,rfl,X,W⟩:=h;exact⟨U,Z,rfl,af4.closed hc.1 X,af5.closed hc.2 W⟩
end
theorem kO.lift{f:FuncId}{args:List AV}{v:AV}(y:AV.af9 args=true)(H:v.closed=true)(h:kO P f args [] v [])(mem:Mem):kO P f args mem v mem:=by refine⟨h.1,fun base μ w Us hG hH hV=>?_⟩;have S:agh base μ [] w:=⟨hH.agb,fun b s Z=>by simp at Z,fun b M K X=>by obtain⟨s,Z,_⟩:=X;simp at Z⟩;refine(h.2 base μ w Us hG S (af5.closed y hV)).mono ?_;rintro e w' ⟨V,v',m',μ',rfl,q1,q2,q3,rfl,rfl⟩;have W:agx w w' :=⟨q3.size,fun k O=>q3.frame k O fun b X=>by obtain⟨s,Z,_⟩:=X;simp at Z,q3.os,q3.tape,q3.output,q3.drawn⟩;exact⟨V,v',mem,μ,rfl,af4.closed H q1,W.aiM hH,W.step (L9 _),rfl,rfl⟩
variable{O:af3}
theorem kO.aio{T:TypeId->Option TyI}{G:FuncId->Option Func}{K:Nat}(y:P.follows .mixedOrders=true)(hT:dW P T)(H:adM P O)(I:aho P G){f:FuncId}{args:List AV}{v:AV}(Q:AV.af9 args=true)(R:v.closed=true){lv:Code->List Nat}(h:aa T lv G O K f args []=some ⟨v,none,[]⟩)(mem:Mem):kO P f args mem v mem:=
 kO.lift Q R (ah y hT H I h).1 mem
def af3.or(O y :af3):af3:=fun c Z mem=>match O c Z mem with
 |some r=>some r
 |none=>y c Z mem
theorem adM.or{y :af3}(h:adM P O)(h' :adM P y):adM P (O.or y):=by
 have V:∀c Z mem r,O.or y c Z mem=some r->O c Z mem=some r\/y c Z mem=some r:=by
  intro c Z mem r W;unfold af3.or at W;split at W
  next M X=>cases W;exact .inl X
  .exact .inr W
 refine⟨fun f Z mem r W=>?_,fun b Z mem r W=>?_,fun c Z mem r p W S=>?_⟩
 .rcases V _ _ _ _ W with X | X
  .exact h.fn _ _ _ _ X
  .exact h'.fn _ _ _ _ X
 .rcases V _ _ _ _ W with X | X
  .exact h.yld _ _ _ _ X
  .exact h'.yld _ _ _ _ X
 .rcases V _ _ _ _ W with X | X
  .exact h.pre _ _ _ _ _ X S
  .exact h'.pre _ _ _ _ _ X S
def af(F:FuncId->List AV->Option AV):af3:=fun c Z _=>match c with
 |.fn f=>match F f Z with
  |some v=>some ⟨v,none,[]⟩
  |none=>none
 |.yld _=>none
theorem bX{F:FuncId->List AV->Option AV}(h:∀f Z v,F f Z=some v->∀mem,kO P f Z mem v mem):adM P (af F):=by
 refine⟨fun f Z mem r X=>?_,(fun b Z mem r X=>by cases X),fun c Z mem r p X W=>?_⟩
 .unfold af at X
  simp only at X;split at X
  .rename_i v V
   cases X;have:=h f Z v V mem;simpa [afA.mem] using this
  .cases X
 .unfold af at X
  split at X
  .split at X
   .cases X;cases W
   .cases X
  .cases X
end
end Go.Eng
