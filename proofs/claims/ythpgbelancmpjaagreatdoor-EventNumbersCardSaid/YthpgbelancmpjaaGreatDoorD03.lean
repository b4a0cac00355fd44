/- See D38. -/
import Derived.Test.YthpgbelancmpjaaGreatDoorD02
set_option linter.all false
namespace Go.Eng
mutual
def AV.adM(ok:Nat->Bool):AV->Bool
 |.ptr b _=>ok b
 |.slice b _ _ _=>ok b
 |.map b=>ok b
 |.yield b=>ok b
 |.func _ Z=>AV.afn ok Z
 |.iface _ v=>v.adM ok
 |.agg Z=>AV.afn ok Z
 |.tuple Z=>AV.afn ok Z
 |_=>true
def AV.afn(ok:Nat->Bool):List AV->Bool
 | []=>true
 |v::vs=>v.adM ok&&AV.afn ok vs
end
def afl.adM(ok:Nat->Bool):afl->Bool
 |.qK=>true
 |.cells _ _ cs=>AV.afn ok cs
 |.map es=>es.all fun e=>e.1.adM ok&&e.2.adM ok
 |.afS es=>es.all fun e=>e.1.adM ok&&e.2.adM ok
 |.loop r=>r.env.all fun e=>e.2.adM ok
theorem CN{ok:Nat->Bool}:∀{env:Env},(env.all fun e=>e.2.adM ok)=true->∀t,(ae env t).adM ok=true
 | [],_,_=>rfl
 |(k,v)::r,h,t=>by
  simp only[QQb,C0] at h;simp only[ae];split
  .exact h.1
  .exact CN h.2 t
mutual
theorem afj.change{μ μ' :Nat->Place}{n:Nat}{ok:Nat->Bool}(hμ:∀b,b<n->ok b=true->μ' b=μ b):
  ∀{v V},v.adM ok=true->afj μ n v V->afj μ' n v V
 |.undef,_,_,_=>by simp[afj]
 |.bool _,_,_,h=>by simpa [afj] using h
 |.int _ _,_,_,h=>by simpa [afj] using h
 |.str _,_,_,h=>by simpa [afj] using h
 |.ptr b o,V,hk,h=>by simp only[afj] at h |-;simp only[AV.adM] at hk;exact⟨h.1,by rw[hμ b h.1 hk];exact h.2⟩
 |.afw,_,_,h=>by simpa [afj] using h
 |.slice b o l c,V,hk,h=>by simp only[afj] at h |-;simp only[AV.adM] at hk;exact⟨h.1,by rw[hμ b h.1 hk];exact h.2⟩
 |.qF,_,_,h=>by simpa [afj] using h
 |.map b,V,hk,h=>by simp only[afj] at h |-;simp only[AV.adM] at hk;exact⟨h.1,by rw[hμ b h.1 hk];exact h.2⟩
 |.yield b,V,hk,h=>by simp only[afj] at h |-;simp only[AV.adM] at hk;exact⟨h.1,by rw[hμ b h.1 hk];exact h.2⟩
 |.afG,_,_,h=>by simpa [afj] using h
 |.func f X,V,hk,h=>by simp only[afj] at h |-;simp only[AV.adM] at hk;obtain⟨Z,e,h⟩:=h;exact⟨Z,e,afk.change hμ hk h⟩
 |.nilFunc,_,_,h=>by simpa [afj] using h
 |.iface t v,V,hk,h=>by simp only[afj] at h |-;simp only[AV.adM] at hk;obtain⟨U,e,h⟩:=h;exact⟨U,e,afj.change hμ hk h⟩
 |.nilIface,_,_,h=>by simpa [afj] using h
 |.agg X,V,hk,h=>by simp only[afj] at h |-;simp only[AV.adM] at hk;obtain⟨Z,e,h⟩:=h;exact⟨Z,e,afk.change hμ hk h⟩
 |.tuple X,V,hk,h=>by simp only[afj] at h |-;simp only[AV.adM] at hk;obtain⟨Z,e,h⟩:=h;exact⟨Z,e,afk.change hμ hk h⟩
theorem afk.change{μ μ' :Nat->Place}{n:Nat}{ok:Nat->Bool}(hμ:∀b,b<n->ok b=true->μ' b=μ b):
  ∀{vs Us},AV.afn ok vs=true->afk μ n vs Us->afk μ' n vs Us
 | [],_,_,h=>by simpa [afk] using h
 |v::vs,Us,hk,h=>by simp only[afk] at h |-;simp only[AV.afn,C0] at hk;obtain⟨U,Z,e,X,V⟩:=h;exact⟨U,Z,e,afj.change hμ hk.1 X,afk.change hμ hk.2 V⟩
end
variable{s:afl}
theorem afx.change{μ μ' :Nat->Place}{n base:Nat}{w:World}{p:Place}{ok:Nat->Bool}(hμ:∀b,b<n->ok b=true->μ' b=μ b)(H:s.adM ok=true)(h:afx μ n base w p s):afx μ' n base w p s:=by
 cases s with
 |qK=>trivial
 |cells own es cs=>
  simp only[afx] at h |-;simp only[afl.adM] at H;obtain⟨O,e,fr,Z,X,h3,S,D⟩:=h;refine⟨O,e,fr,Z,X,h3,fun j v U=>?_,D⟩;obtain⟨V,hV,C⟩:=S j v U;refine⟨V,hV,C.change hμ ?_⟩;have:∀(l:List AV),AV.afn ok l=true->∀v∈l,v.adM ok=true:=by
   intro l;induction l with
   |nil=>intro _ v U;cases U
   |cons x xs ih=>
    intro hl v U;simp only[AV.afn,C0] at hl;cases U with
    |head=>exact hl.1
    |tail _ hm=>exact ih hl.2 v hm
  exact this cs H v (J1 U)
 |map es=>
  simp only[afx] at h |-;simp only[afl.adM,List.all_eq_true,C0] at H;obtain⟨N,M,Z,X,h3,S⟩:=h;refine⟨N,M,Z,X,h3,fun j e R=>?_⟩;obtain⟨E,K,G,F⟩:=S j e R;have:=H e (J1 R);exact⟨E,K,G.change hμ this.1,F.change hμ this.2⟩
 |afS es=>
  simp only[afx] at h |-;simp only[afl.adM,List.all_eq_true,C0] at H;obtain⟨N,M,Z,X,h3,S⟩:=h;refine⟨N,M,Z,X,h3,fun j e R=>?_⟩;obtain⟨E,K,G,F⟩:=S j e R;have:=H e (J1 R);exact⟨E,K,G.change hμ this.1,F.change hμ this.2⟩
 |loop r=>
  simp only[afx] at h |-;obtain⟨L,Z,X,h3⟩:=h;exact⟨L,Z,X,{ h3 with tmps:=fun t=>(h3.tmps t).change hμ (CN H t) }⟩
structure afQ where
 E:Nat->Env
 En:Nat->Env
 M:Nat->Mem
 Tm:Nat->Mem
 M' :Nat->Mem
 v:Nat->AV
 wb:Nat->Bool
 af1:Nat->Nat->Bool
 ok:Nat->Nat->Bool
 cl:Nat->Nat->Bool
def jf(mem:Mem)(b:Nat):Prop:=∃s,mem[b]? =some s/\s≠ .qK
structure ahk (P:Program)(T:TypeId->Option TyI)(N:Nat)(ops:Array Oper)(d:afQ)(j:Nat)(o:Oper):Prop where
 wanted:sE ops (d.En j) o=some (d.wb j)
 dst:DT N o=true
 step:d.wb j=true->xg P T (d.En j) (d.Tm j) o (d.v j) (d.M' j)
 skip:d.wb j=false->d.v j=.tuple []/\d.M' j=d.Tm j
 env:d.E (j+1)=af9 (d.E j) o.dst (d.v j)
 named:∀t,ae (d.En j) t=.undef\/(ae (d.En j) t=ae (d.E j) t/\∀(i:Nat) oi,ops[i]? =some oi->i≠j->oi.dst=some t->d.cl i j=true\/d.cl j i=true)
 ah1:∀(i:Nat) oi t,ops[i]? =some oi->i≠j->o.dst=some t->oi.dst=some t->d.cl i j=true\/d.cl j i=true
 ag3:(d.Tm j).length=(d.M j).length
 ag4:∀b:Nat,(d.Tm j)[b]? =(d.M j)[b]? \/(d.Tm j)[b]? =some .qK
 ahC:(d.M (j+1)).length=(d.M' j).length
 ag5:(d.M j).length<=(d.M (j+1)).length
 ahD:∀b:Nat,d.af1 j b=true->(d.M (j+1))[b]? =(d.M' j)[b]?
 ahJ:∀b:Nat,b<(d.M j).length->d.af1 j b=false->(d.M (j+1))[b]? =(d.M j)[b]?
 ahK:∀b:Nat,b<(d.M j).length->d.af1 j b=false->jf (d.Tm j) b->(d.M' j)[b]? =(d.M j)[b]?
 ahL:∀b:Nat,(d.M j).length<=b->d.af1 j b=true
 ahl:∀b:Nat,d.af1 j b=true->b<(d.M j).length->jf (d.Tm j) b
 sep:∀(i:Nat) oi (b:Nat),ops[i]? =some oi->i≠j->b<(d.M (i+1)).length->d.af1 i b=true->(b<(d.M (j+1)).length/\d.af1 j b=true)\/jf (d.Tm j) b->d.cl i j=true\/d.cl j i=true
 okc:∀(i:Nat) (b:Nat) oi,ops[i]? =some oi->d.ok j b=true->(d.M i).length<=b->b<(d.M (i+1)).length->i=j\/d.cl i j=true
 ag6:(d.v j).adM (d.ok j)=true
 ahM:∀(b:Nat) s,d.af1 j b=true->(d.M (j+1))[b]? =some s->s.adM (d.ok j)=true
 ahm:∀(b:Nat) s,(d.M j).length<=b->(d.M (j+1))[b]? =some s->s≠ .qK->eJ (d.M (j+1)) b
 ahE:∀e∈o.after,Region.binds .any e=true->e.on<j
 ahn:∀i,d.cl i j=true->∃e∈o.after,Region.binds .any e=true/\(e.on=i\/d.cl i e.on=true)
variable{b t:Nat}
section
variable {P:Program}{T:TypeId->Option TyI}{N:Nat}{ops:Array Oper}{d:afQ}
def tw(P:Program)(T:TypeId->Option TyI)(N:Nat)(ops:Array Oper)(d:afQ):Prop:=∀(j:Nat) o,ops[j]? =some o->ahk P T N ops d j o
def Tch(d:afQ)(i b:Nat):Prop:=d.af1 i b=true/\b<(d.M (i+1)).length
theorem Ak{j:Nat}(h:j<ops.size):∃o,ops[j]? =some o:=⟨ops[j],by simp[h]⟩
theorem LD{env:Env}{H:Option Tmp}{v:AV}(h:H≠some t):ae (af9 env H v) t=ae env t:=by
 cases H with
 |none=>rfl
 |some x=>
  have:¬x=t:=fun e=>h (by rw[e])
  simp[af9,ae,this]
section
variable (hA:tw P T N ops d)
include hA
theorem Ex(t:Nat)(j:Nat):∀k,j<=k->k<=ops.size->(∀(i:Nat) V,j<=i->i<k->ops[i]? =some V->V.dst≠some t)->ae (d.E k) t=ae (d.E j) t:=by
 intro k Z;induction Z with
 |refl=>intro _ _;rfl
 | @step k Z ih=>
  intro R X;obtain⟨o,U⟩:=Ak (ops:=ops) (j:=k) (by omega);rw[(hA k o U).env,LD (X k o Z (Nat.lt_succ_self k) U)];exact ih (by omega) fun i V S O h3=>X i V S (by omega) h3
theorem AG(j:Nat):∀k,j<=k->k<=ops.size->(d.M j).length<=(d.M k).length:=by
 intro k Z;induction Z with
 |refl=>intro _;exact L9 _
 | @step k Z ih=>
  intro V;obtain⟨o,X⟩:=Ak (ops:=ops) (j:=k) (by omega);exact QQJ (ih (by omega)) (hA k o X).ag5
theorem ER(b:Nat)(j:Nat):∀k,j<=k->k<=ops.size->(∀i,j<=i->i<k->¬Tch d i b)->(d.M k)[b]? =(d.M j)[b]? :=by
 intro k Z;induction Z with
 |refl=>intro _ _;rfl
 | @step k Z ih=>
  intro L X;obtain⟨o,V⟩:=Ak (ops:=ops) (j:=k) (by omega);have U:=ih (by omega) fun i U K=>X i U (by omega)
  have O:=X k Z (Nat.lt_succ_self k);rw[<-U];by_cases S:b<(d.M k).length
  .have:d.af1 k b=false:=by
    cases R:d.af1 k b with
    |false=>rfl
    |true=>exact absurd ⟨R,QXQ S (hA k o V).ag5⟩ O
   exact(hA k o V).ahJ b S this
  .have R:=(hA k o V).ahL b (by omega)
   have:¬b<(d.M (k+1)).length:=fun h=>O ⟨R,h⟩
   exact(List.getElem?_eq_none (Nat.le_of_not_lt this)).trans (List.getElem?_eq_none (Nat.le_of_not_lt S)).symm
end
structure agY (d:afQ)(ops:Array Oper)(base:Nat) (μ0:Nat->Place)(w0:World)(S:Nat->Prop) (μ:Nat->Place)(kb kt:Nat->Nat)(tmps:Array Value)(w:World):Prop where
 afr:base<=w.heap.size
 agJ:∀b,kb b<=ops.size
 agr:∀b i,i<ops.size->Tch d i b->(S i↔i<kb b)
 agK:∀b,kb b=0\/Tch d (kb b-1) b
 slot:∀(b:Nat) s,(d.M (kb b))[b]? =some s->afx μ (d.M (kb b)).length base w (μ b) s
 sep:∀b b' s',eJ (d.M (kb b)) b->(d.M (kb b'))[b']? =some s' ->s' ≠ .qK->b≠b' ->(μ b).blk≠(μ b').blk
 ag7:∀t,kt t<=ops.size
 ags:∀(t i:Nat) oi,ops[i]? =some oi->oi.dst=some t->(S i↔i<kt t)
 agL:∀t,kt t=0\/∃oi,ops[kt t-1]? =some oi/\oi.dst=some t
 tmp:∀t,afj μ (d.M (kt t)).length (ae (d.E (kt t)) t) (tmps.getD t undef)
 agree:∀b,b<(d.M 0).length->μ b=μ0 b
 os:w.os=w0.os
 tape:w.tape=w0.tape
 drawn:w0.drawn<=w.drawn
 output:w.output=w0.output
 size:w0.heap.size<=w.heap.size
 frame:∀k,k<w0.heap.size->(∀b,eJ (d.M 0) b->(μ0 b).blk≠k)->w.heap[k]? =w0.heap[k]?
 owner:∀b,eJ (d.M (kb b)) b->(μ b).blk<w0.heap.size->∃b0,eJ (d.M 0) b0/\(μ0 b0).blk=(μ b).blk
theorem Xx(H:tw P T N ops d):∀(j i:Nat),j<ops.size->d.cl i j=true->i<j:=by
 intro j;induction j using Nat.strongRecOn with
 |_ j ih=>
  intro i V h;obtain⟨o,X⟩:=Ak V;obtain⟨e,U,S,hc⟩:=(H j o X).ahn i h;have Z:=(H j o X).ahE e U S;rcases hc with rfl | hc
  .exact Z
  .exact Nat.lt_trans (ih e.on Z i (by omega) hc) Z
def vx(ops:Array Oper)(S:Nat->Prop):Prop:=∀(j:Nat) o,ops[j]? =some o->S j->∀e∈o.after,Region.binds .any e=true->S e.on
section
variable (hA:tw P T N ops d){S:Nat->Prop}(hS:vx ops S)
include hA S hS
theorem SG:∀(j:Nat) o,ops[j]? =some o->(∀e∈o.after,Region.binds .any e=true->S e.on)->∀i,d.cl i j=true->S i:=by
 intro j;induction j using Nat.strongRecOn with
 |_ j ih=>
  intro o V M i h;have L:j<ops.size:=(Nm.1 V).1;obtain⟨e,U,R,hc⟩:=(hA j o V).ahn i h;have K:=(hA j o V).ahE e U R;have Z:=M e U R;rcases hc with rfl | hc
  .exact Z
  .obtain⟨O,X⟩:=Ak (ops:=ops) (j:=e.on) (by omega)
   exact ih e.on K O X (hS e.on O X Z) i hc
theorem nQ{j:Nat}{o:Oper}(H:ops[j]? =some o)(hr:∀e∈o.after,Region.binds .any e=true->S e.on)(J:¬S j){i:Nat}(I:i<ops.size)(h:d.cl i j=true\/d.cl j i=true):S i↔i<j:=by
 have X:j<ops.size:=(Nm.1 H).1;obtain⟨U,Z⟩:=Ak I;rcases h with h | h
 .exact⟨fun _=>Xx hA j i X h,fun _=>SG hA hS j o H hr i h⟩
 .have R:=Xx hA i j I h
  constructor
  .intro V
   exact absurd (SG hA hS i U Z (hS i U Z V) j h) J
  .intro;omega
end
section step
variable {base:Nat}{μ0:Nat->Place}{w0:World}{S:Nat->Prop}{μ:Nat->Place}{kb kt:Nat->Nat}{a:Act}{w:World}{j:Nat}{o:Oper}
section
variable (hA:tw P T N ops d)(hI:agY d ops base μ0 w0 S μ kb kt a.tmps w)(hS:vx ops S)(ho:ops[j]? =some o)(hr:∀e∈o.after,Region.binds .any e=true->S e.on)(hj:¬S j)
include hA hI hS ho hr hj
theorem VI(H:∀(i:Nat) Z,ops[i]? =some Z->i≠j->Z.dst=some t->d.cl i j=true\/d.cl j i=true):
  kt t<=j/\ae (d.E j) t=ae (d.E (kt t)) t:=by
 have M:j<ops.size:=(Nm.1 ho).1;have R:kt t<=j:=by
  rcases hI.agL t with L | ⟨Z,V,U⟩
  .omega
  .have K:=(hI.ags t (kt t-1) Z V U)
   by_cases L:kt t=0
   .omega
   .have X:S (kt t-1):=K.2 (by omega)
    have G:kt t-1≠j:=fun e=>hj (e▸X)
    have F:kt t-1<ops.size:=(Nm.1 V).1;have:=(nQ hA hS ho hr hj F (H _ Z V G U)).1 X;omega
 refine⟨R,Ex hA t (kt t) j R (by omega) fun i Z V U h3 O=>?_⟩;have:=(nQ hA hS ho hr hj (by omega) (H i Z h3 (by omega) O)).2 U;have:=(hI.ags t i Z h3 O).1 this;omega
theorem xX(H:jf (d.Tm j) b):kb b<=j/\(d.M j)[b]? =(d.M (kb b))[b]? :=by
 have F:j<ops.size:=(Nm.1 ho).1;have Z:∀i,i<ops.size->i≠j->Tch d i b->(S i↔i<j):=by intro i O V L;obtain⟨D,U⟩:=Ak O;exact nQ hA hS ho hr hj O ((hA j o ho).sep i D b U V L.2 L.1 (.inr H))
 have K:kb b<=j:=by
  rcases hI.agK b with C | R
  .omega
  .by_cases C:kb b=0
   .omega
   .have G:kb b-1<ops.size:=by have:=hI.agJ b;omega
    have X:S (kb b-1):=(hI.agr b _ G R).2 (by omega);have V:kb b-1≠j:=fun e=>hj (e▸X)
    have:=(Z _ G V R).1 X;omega
 refine⟨K,ER hA b (kb b) j K (by omega) fun i R B h3=>?_⟩;have:=(Z i (by omega) (by omega) h3).2 B;have:=(hI.agr b i (by omega) h3).1 this;omega
end
theorem rJ(H:tw P T N ops d)(I:ops[j]? =some o)(h:(d.Tm j)[b]? =some s)(hs:s≠ .qK):(d.M j)[b]? =some s:=by
 rcases (H j o I).ag4 b with e | e
 .rw[<-e];exact h
 .rw[h] at e;cases e;exact absurd rfl hs
theorem mj{mem:Mem}(h:eJ mem b):jf mem b:=by obtain⟨s,h,Z⟩:=h;exact⟨s,h,afl.afT Z⟩
theorem ml{m H :Mem}(h:m[b]? =H[b]?):eJ m b↔eJ H b:=by simp[eJ,h]
section
variable (hA:tw P T N ops d)(hI:agY d ops base μ0 w0 S μ kb kt a.tmps w)(hS:vx ops S)(ho:ops[j]? =some o)(hr:∀e∈o.after,Region.binds .any e=true->S e.on)(hj:¬S j)
include hA hI hS ho hr hj
theorem T4:afv base μ (d.Tm j) w:=by
 have F:j<ops.size:=(Nm.1 ho).1;refine⟨hI.afr,fun b s R=>?_,fun b D O M L X C=>?_⟩
 .by_cases V:s=.qK
  .subst V;trivial
  .have B:jf (d.Tm j) b:=⟨s,R,V⟩
   obtain⟨K,U⟩:=xX hA hI hS ho hr hj B;have G:=rJ hA ho R V;rw[U] at G;rw[(hA j o ho).ag3];exact(hI.slot b s G).mono (AG hA _ j K (by omega)) (fun _ _=>rfl) fun _=>rfl
 .obtain⟨K,U⟩:=xX hA hI hS ho hr hj (mj M)
  obtain⟨m,u⟩:=xX hA hI hS ho hr hj ⟨O,L,X⟩;refine hI.sep b D O ?_ ?_ X C
  .refine(ml U).1 ?_
   obtain⟨s,h,Z⟩:=M;exact⟨s,rJ hA ho h (afl.afT Z),Z⟩
  .rw[<-u];exact rJ hA ho L X
theorem T5:afO μ (d.Tm j).length (d.En j) a.tmps:=by
 have Z:j<ops.size:=(Nm.1 ho).1;intro t;rcases (hA j o ho).named t with h | ⟨h,X⟩
 .rw[h];simp[afj]
 .obtain⟨V,U⟩:=VI hA hI hS ho hr hj X
  rw[h,U,(hA j o ho).ag3];exact(hI.tmp t).mono (AG hA _ j V (by omega)) fun _ _=>rfl
end
end step
end
end Go.Eng
namespace Go.Eng
section
variable {P:Program}{T:TypeId->Option TyI}{N:Nat}{ops:Array Oper}{d:afQ}
variable {base:Nat}{μ0:Nat->Place}{w0:World}{S:Nat->Prop}{μ μ' :Nat->Place}{kb kt:Nat->Nat}{a:Act}{w w' :World}{j:Nat}{o:Oper}{V:Value}
open Classical in
theorem VE(I:tw P T N ops d)(H:agY d ops base μ0 w0 S μ kb kt a.tmps w)(hS:vx ops S)(J:ops[j]? =some o)(hr:∀e∈o.after,Region.binds .any e=true->S e.on)(hj:¬S j)(hN:a.tmps.size=N)(hV:afj μ' (d.M' j).length (d.v j) V)(hH:afv base μ' (d.M' j) w')(W:Step (d.Tm j).length μ (d.Tm j) w μ' (d.M' j) w'):
  ∃μ2 kb2 kt2,agY d ops base μ0 w0 (fun i=>S i\/i=j) μ2 kb2 kt2 (a.put o.dst V).tmps w' :=by
 have hjs:j<ops.size:=(Nm.1 J).1;have D:=I j o J;have hlj:∀k,k<=j->(d.M k).length<=(d.M j).length:=fun k hk=>AG I k j hk (by omega)
 have Z2:=D.ag5;have h0j:=hlj 0 (Nat.zero_le _);have hag:∀b,b<(d.M j).length->μ' b=μ b:=fun b X=>W.agree b (by rw[D.ag3];exact X)
 let μ2:Nat->Place:=fun b=>if b<(d.M (j+1)).length then μ' b else μ b
 have F:∀b,b<(d.M j).length->μ2 b=μ b:=by
  intro b X;show(if b<(d.M (j+1)).length then μ' b else μ b)=μ b
  rw[if_pos (by omega),hag b X]
 have aa0:∀b,b<(d.M (j+1)).length->μ2 b=μ' b:=by
  intro b X;show(if b<(d.M (j+1)).length then μ' b else μ b)=μ' b
  rw[if_pos X]
 have abW:∀b,¬b<(d.M (j+1)).length->μ2 b=μ b:=by
  intro b X;show(if b<(d.M (j+1)).length then μ' b else μ b)=μ b
  rw[if_neg X]
 have ac9:∀k,0<k->S (k-1)->k-1<ops.size->∀b,d.ok (k-1) b=true->μ2 b=μ b:=by
  intro k hk hSk Z0 b X;by_cases h1:b<(d.M j).length
  .exact F b h1
  .by_cases G:b<(d.M (j+1)).length
   .obtain⟨ok,Zj⟩:=Ak Z0
    rcases (I _ ok Zj).okc j b o J X (by omega) G with e | e
    .exact absurd (e▸hSk) hj
    .exact absurd (SG I hS _ ok Zj (hS _ ok Zj hSk) j e) hj
   .exact abW b G
 let kb2:Nat->Nat:=fun b=>if Tch d j b then j+1 else kb b
 let kt2:Nat->Nat:=fun t=>if o.dst=some t then j+1 else kt t
 have abG:∀b,Tch d j b->kb2 b=j+1:=fun b X=>if_pos X
 have abH:∀b,¬Tch d j b->kb2 b=kb b:=fun b X=>if_neg X
 have kbS:∀b,kb b=0\/(0<kb b/\S (kb b-1)/\kb b-1<ops.size/\Tch d (kb b-1) b):=by
  intro b;rcases QQX (kb b) with h0 | h0
  .exact .inl h0
  .rcases H.agK b with h1 | h1
   .exact .inl h1
   .have K:kb b-1<ops.size:=by have:=H.agJ b;omega
    exact .inr ⟨h0,(H.agr b _ K h1).2 (by omega),K,h1⟩
 have acU:∀b,¬Tch d j b->b<(d.M j).length\/¬b<(d.M (j+1)).length:=by
  intro b X;by_cases h1:b<(d.M j).length
  .exact .inl h1
  .refine .inr fun G=>X ⟨D.ahL b (by omega),G⟩
 have ac':∀b,¬Tch d j b->μ2 b=μ b:=by
  intro b X;rcases acU b X with h | h
  .exact F b h
  .exact abW b h
 have abX:∀b,jf (d.Tm j) b->¬Tch d j b->kb b<=j/\b<(d.M j).length/\(d.M' j)[b]? =(d.M (kb b))[b]? /\(d.M (kb b))[b]? =(d.M j)[b]? :=by
  intro b X hnt;obtain⟨Y,u⟩:=xX I H hS J hr hj X;obtain⟨s,O,m⟩:=X;have K:b<(d.M j).length:=by have:=gL O;rw[D.ag3] at this;exact this
  have hf:d.af1 j b=false:=by
   cases Z:d.af1 j b with
   |false=>rfl
   |true=>exact absurd ⟨Z,by omega⟩ hnt
  exact⟨Y,K,(D.ahK b K hf ⟨s,O,m⟩).trans u,u.symm⟩
 have ada:∀b s,(d.M (kb2 b))[b]? =some s->s≠ .qK->((d.M' j)[b]? =some s/\μ2 b=μ' b/\b<(d.M (j+1)).length/\(Tch d j b\/jf (d.Tm j) b))\/
   ((d.M (kb b))[b]? =some s/\¬jf (d.Tm j) b/\¬Tch d j b/\μ2 b=μ b):=by
  intro b s O m;by_cases Z:Tch d j b
  .rw[abG b Z] at O
   exact .inl ⟨by rw[<-D.ahD b Z.1];exact O,aa0 b Z.2,Z.2,.inl Z⟩
  .rw[abH b Z] at O
   by_cases X:jf (d.Tm j) b
   .obtain⟨Y,u,k3,k4⟩:=abX b X Z
    exact .inl ⟨by rw[k3];exact O,by rw[F b u,hag b u],by omega,.inr X⟩
   .exact .inr ⟨O,X,Z,ac' b Z⟩
 have aaP:∀b,eJ (d.M (kb2 b)) b->(eJ (d.M' j) b/\μ2 b=μ' b/\b<(d.M (j+1)).length/\(Tch d j b\/jf (d.Tm j) b))\/
   (eJ (d.M (kb b)) b/\¬jf (d.Tm j) b/\¬Tch d j b/\μ2 b=μ b):=by
  intro b X;obtain⟨s,h,U⟩:=X;rcases ada b _ h (afl.afT U) with⟨C,g2⟩ | ⟨C,g2⟩
  .exact .inl ⟨⟨s,C,U⟩,g2⟩
  .exact .inr ⟨⟨s,C,U⟩,g2⟩
 have aaa:∀b,eJ (d.Tm j) b->eJ (d.M (kb b)) b:=by intro b X;obtain⟨Y,u⟩:=xX I H hS J hr hj (mj X);refine(ml u).1 ?_;obtain⟨s,h,U⟩:=X;exact⟨s,rJ I J h (afl.afT U),U⟩
 have abY:∀b s,(d.M (kb b))[b]? =some s->s≠ .qK->(μ b).blk<w.heap.size:=fun b s O m=>(H.slot b s O).af2 m
 refine⟨μ2,kb2,kt2,⟨QQJ H.afr W.size,?_,?_,?_,?_,?_,?_,?_,?_,?_,?_,W.os.trans H.os,W.tape.trans H.tape,QQJ H.drawn W.drawn,W.output.trans H.output,QQJ H.size W.size,?_,?_⟩⟩
 .
  intro b;by_cases Z:Tch d j b
  .rw[abG b Z];omega
  .rw[abH b Z];exact H.agJ b
 .
  intro b i hi hti;obtain⟨oi,B⟩:=Ak hi;by_cases Z:Tch d j b
  .rw[abG b Z]
   by_cases R:i=j
   .subst R;simp
   .have:=nQ I hS J hr hj hi (D.sep i oi b B R hti.2 hti.1 (.inl ⟨Z.2,Z.1⟩))
    constructor
    .rintro (h | h)
     .have:=this.1 h;omega
     .omega
    .intro h;exact .inl (this.2 (by omega))
  .rw[abH b Z]
   have R:i≠j:=fun e=>Z (e▸hti)
   rw[<-H.agr b i hi hti];constructor
   .rintro (h | h)
    .exact h
    .exact absurd h R
   .exact .inl
 .
  intro b;by_cases Z:Tch d j b
  .rw[abG b Z];exact .inr Z
  .rw[abH b Z];exact H.agK b
 .
  intro b s O;by_cases h0:s=.qK
  .subst h0;trivial
  by_cases Z:Tch d j b
  .rw[abG b Z] at O |-
   have h1:=hH.slot b s (by rw[<-D.ahD b Z.1];exact O);rw[aa0 b Z.2,D.ahC];exact h1.mono (L9 _) (fun x hx=>aa0 x (by rw[D.ahC];exact hx)) fun _=>rfl
  .rw[abH b Z] at O |-
   have ZB:=H.slot b s O;rw[ac' b Z];by_cases X:jf (d.Tm j) b
   .obtain⟨Y,u,k3,k4⟩:=abX b X Z
    have h1:=hH.slot b s (by rw[k3];exact O);rw[hag b u] at h1;have hlk:=hlj (kb b) Y;have G:=ZB.lower (fun x hx=>hag x (by omega)) h1;exact G.mono (L9 _) (fun x hx=>F x (by omega)) fun _=>rfl
   .have acV:w'.heap[(μ b).blk]? =w.heap[(μ b).blk]? :=by
     refine W.frame _ (ZB.af2 h0) fun b1 hb1=>?_
     refine H.sep b1 b s (aaa b1 hb1) O h0 ?_;rintro rfl;exact X (mj hb1)
    have G:afx μ (d.M (kb b)).length base w' (μ b) s:=ZB.mono (L9 _) (fun _ _=>rfl) fun _=>acV
    rcases kbS b with h3 | ⟨h3,h4,h5,h6⟩
    .refine G.mono (L9 _) (fun x hx=>F x ?_) fun _=>rfl
     rw[h3] at hx;omega
    .obtain⟨ok,Zj⟩:=Ak h5
     have hk1:kb b-1+1=kb b:=by omega
     refine G.change (ok:=d.ok (kb b-1)) (fun x _ hx=>ac9 (kb b) h3 h4 h5 x hx) ?_;exact(I _ ok Zj).ahM b s h6.1 (by rw[hk1];exact O)
 .
  intro b L s' X Y7 m ZA;rcases aaP b X with⟨C,g2,_,_⟩ | ⟨C,g2,g3,g4⟩<;>rcases ada L s' Y7 m with⟨Y,u,k3,k4⟩ | ⟨Y,u,k3,k4⟩
  .rw[g2,u];exact hH.sep b L s' C Y m ZA
  .rw[g2,k4]
   have K:=abY L s' Y m;by_cases hlt2:(μ' b).blk<w.heap.size
   .obtain⟨b0,h0,h1⟩:=W.owner b C hlt2
    rw[<-h1];refine H.sep b0 L s' (aaa b0 h0) Y m ?_;rintro rfl;exact u (mj h0)
   .omega
  .rw[g4,u]
   by_cases K:L <(d.M j).length
   .have S':jf (d.Tm j) L :=by
     rcases k4 with Z | hb1
     .exact D.ahl L Z.1 K
     .exact hb1
    obtain⟨q1,q2⟩:=xX I H hS J hr hj S';obtain⟨s0,hs0,adb⟩:=S';rw[hag L K];exact H.sep b L s0 C (by rw[<-q2];exact rJ I J hs0 adb) adb ZA
   .have ht' :=D.ahL L (by omega)
    have hM1:(d.M (j+1))[L]? =some s' :=by rw[D.ahD L ht'];exact Y
    have Zw:=D.ahm L s' (by omega) hM1 m;have abU :eJ (d.M' j) L :=(ml (D.ahD L ht')).1 Zw;have Z4:(μ b).blk<w.heap.size:=by obtain⟨s,h,U⟩:=C;exact abY b _ h (afl.afT U)
    by_cases hlt2:(μ' L).blk<w.heap.size
    .obtain⟨b0,h0,h1⟩:=W.owner L abU hlt2
     rw[<-h1];have hob:=aaa b0 h0;have adR:b≠b0:=by rintro rfl;exact g2 (mj h0)
     obtain⟨s,h,U⟩:=hob;exact H.sep b b0 _ C h (afl.afT U) adR
    .omega
  .rw[g4,k4];exact H.sep b L s' C Y m ZA
 .
  intro t;show(if o.dst=some t then j+1 else kt t)<=ops.size
  split
  .omega
  .exact H.ag7 t
 .
  intro t i oi B hd;show(S i\/i=j)↔i<(if o.dst=some t then j+1 else kt t)
  have hi:i<ops.size:=(Nm.1 B).1;by_cases Z:o.dst=some t
  .rw[if_pos Z]
   by_cases R:i=j
   .subst R;simp
   .have:=nQ I hS J hr hj hi (D.ah1 i oi t B R Z hd)
    constructor
    .rintro (h | h)
     .have:=this.1 h;omega
     .omega
    .intro h;exact .inl (this.2 (by omega))
  .rw[if_neg Z]
   have R:i≠j:=by rintro rfl;rw[J] at B;cases B;exact Z hd
   rw[<-H.ags t i oi B hd];constructor
   .rintro (h | h)
    .exact h
    .exact absurd h R
   .exact .inl
 .
  intro t;show(if o.dst=some t then j+1 else kt t)=0\/∃oi,ops[(if o.dst=some t then j+1 else kt t)-1]? =some oi/\oi.dst=some t
  by_cases Z:o.dst=some t
  .rw[if_pos Z];exact .inr ⟨o,by simpa using J,Z⟩
  .rw[if_neg Z];exact H.agL t
 .
  intro t;show afj μ2 (d.M (if o.dst=some t then j+1 else kt t)).length (ae (d.E (if o.dst=some t then j+1 else kt t)) t) ((a.put o.dst V).tmps.getD t undef)
  by_cases Z:o.dst=some t
  .rw[if_pos Z,D.env,Z]
   have K:t<a.tmps.size:=by have:=D.dst;unfold DT at this;rw[Z] at this;simp only[Es] at this;rw[hN];exact this
   have e1:ae (af9 (d.E j) (some t) (d.v j)) t=d.v j:=by simp[af9,ae]
   have e2:(a.put (some t) V).tmps.getD t undef=V:=by simp[Act.put,K]
   rw[e1,e2,D.ahC];exact hV.mono (L9 _) fun x hx=>aa0 x (by rw[D.ahC];exact hx)
  .rw[if_neg Z]
   have e2:(a.put o.dst V).tmps.getD t undef=a.tmps.getD t undef:=by
    cases hd:o.dst with
    |none=>rfl
    |some x=>
     have m:x≠t:=by rintro rfl;exact Z hd
     simp[Act.put,ZX m]
   rw[e2];have ZB:=H.tmp t;rcases QQX (kt t) with h0 | h0
   .rw[h0] at ZB |-
    exact ZB.mono (L9 _) fun x hx=>F x (by omega)
   .rcases H.agL t with h1 | ⟨oi,h1,G⟩
    .omega
    .have hSk:S (kt t-1):=(H.ags t _ oi h1 G).2 (by omega)
     have Z0:kt t-1<ops.size:=(Nm.1 h1).1;refine ZB.change (ok:=d.ok (kt t-1)) (fun x _ hx=>ac9 (kt t) h0 hSk Z0 x hx) ?_;have he:=(I _ oi h1).env;have hk1:kt t-1+1=kt t:=by omega
     rw[hk1,G] at he;rw[he];simp only[af9,ae,if_true];exact(I _ oi h1).ag6
 .
  intro b X;rw[F b (by omega)];exact H.agree b X
 .
  intro k hk hf;rw[W.frame k (QXQ hk H.size) ?_,H.frame k hk hf];intro b X he;obtain⟨b0,h1,G⟩:=H.owner b (aaa b X) (by rw[he];exact hk);exact hf b0 h1 (G.trans he)
 .
  intro b X K;rcases aaP b X with⟨C,g2,_,_⟩ | ⟨C,g2,g3,g4⟩
  .rw[g2] at K |-
   obtain⟨b0,h0,h1⟩:=W.owner b C (QXQ K H.size);obtain⟨b1,G,h3⟩:=H.owner b0 (aaa b0 h0) (by rw[h1];exact K);exact⟨b1,G,h3.trans h1⟩
  .rw[g4] at K |-
   exact H.owner b C K
end
variable{listed:Array Bool}
section
variable {P:Program}{T:TypeId->Option TyI}{tp:Bool}{N m0:Nat}{ops:Array Oper}{d:afQ}
def left(ops:Array Oper)(listed:Array Bool):Nat:=((List.range ops.size).filter fun i=> !listed.getD i true).length
def tW(listed:Array Bool)(i:Nat):Prop:=listed.getD i false=true
theorem Ah{l:List Nat}{p q:Nat->Bool}(h:∀i∈l,q i=true->p i=true){j:Nat}(H:j∈l)(h1:p j=true)(h2:q j=false):(l.filter q).length<(l.filter p).length:=by
 induction l with
 |nil=>cases H
 |cons x xs ih=>
  have V:∀(l:List Nat),(∀i∈l,q i=true->p i=true)->(l.filter q).length<=(l.filter p).length:=by
   intro l X;induction l with
   |nil=>simp
   |cons y ys ih2=>
    have:=ih2 (fun i Z=>X i (by simp[Z]));have S:=X y (by simp);simp only[List.filter_cons];cases hq:q y<;>cases hp:p y<;>simp_all<;>omega
  have U:=V xs (fun i Z=>h i (by simp[Z]));have R:=h x (by simp);simp only[List.filter_cons];cases H with
  |head=>rw[h1,h2];simp;omega
  |tail _ hm=>
   have:=ih (fun i Z=>h i (by simp[Z])) hm;cases hq:q x<;>cases hp:p x<;>simp_all<;>omega
theorem T6{i:Nat}(H:i<listed.size):tW (listed.setIfInBounds i true)=fun k=>tW listed k\/k=i:=by
 funext k;apply propext;unfold tW;by_cases Z:i=k
 .subst Z;simp[H]
 .rw[getD_set_ne false Z]
  constructor
  .exact .inl
  .rintro (h | h)
   .exact h
   .exact absurd h.symm Z
theorem Q5(H:tw P T N ops d)(I:listed.size=ops.size)(h:Region.ready .any ops listed=[]):∀i,i<ops.size->tW listed i:=by
 intro i;induction i using Nat.strongRecOn with
 |_ i ih=>
  intro U;obtain⟨o,Z⟩:=Ak U;cases hl:listed.getD i true with
  |true=>
   unfold tW;simp only[Array.getD_eq_getD_getElem?] at hl |-;rw[Array.getElem?_eq_getElem (by omega)] at hl |-;exact hl
  |false=>
   exfalso;have:i∈Region.ready .any ops listed:=mem_ready.2 ⟨hl,o,Z,fun e X V=>ih e.on ((H i o Z).ahE e X V) (by have:=(H i o Z).ahE e X V;omega)⟩;rw[h] at this;cases this
theorem Vw(J:tw P T N ops d){I:Nat}{μ0 μ:Nat->Place}{w0 w:World}{S:Nat->Prop}{W Y:Nat->Nat}{tmps:Array Value}(ZC:m0<=(d.M 0).length)(H:agY d ops I μ0 w0 S μ W Y tmps w)(hS:∀i,i<ops.size->S i):
  afv I μ (d.M ops.size) w/\afO μ (d.M ops.size).length (d.E ops.size) tmps/\m0<=(d.M ops.size).length/\Step m0 μ0 (d.M 0) w0 μ (d.M ops.size) w:=by
 have X:∀b,(d.M ops.size)[b]? =(d.M (W b))[b]? :=fun b=>ER J b (W b) _ (H.agJ b) (L9 _) fun i R V h3=>by have:=(H.agr b i V h3).1 (hS i V);omega
 have U:∀k,k<=ops.size->(d.M k).length<=(d.M ops.size).length:=fun k O=>AG J k _ O (L9 _)
 have j:=U 0 (Nat.zero_le _);refine⟨⟨H.afr,fun b s L=>?_,fun b K G Z F D C=>?_⟩,fun t=>?_,by omega,⟨by omega,fun b Z=>H.agree b (by omega),H.os,H.tape,H.output,H.size,H.frame,fun b Z B=>?_,H.drawn⟩⟩
 .exact(H.slot b s (by rw[<-X];exact L)).mono (U _ (H.agJ b)) (fun _ _=>rfl) fun _=>rfl
 .exact H.sep b K G ((ml (X b)).1 Z) (by rw[<-X];exact F) D C
 .have u:=Ex J t (Y t) ops.size (H.ag7 t) (L9 _) fun i o R V h3 m=>by have:=(H.ags t i o h3 m).1 (hS i V);omega
  rw[u];exact(H.tmp t).mono (U _ (H.ag7 t)) fun _ _=>rfl
 .exact H.owner b ((ml (X b)).1 Z) B
theorem BX(hm:P.follows .mixedOrders=true)(hT:dN P T){id:Nat}{st H :St}{Q:Exit->St->Prop}(hA:tw P T N ops d)(hE:d.E 0=st.env)(J:d.M 0=st.mem)(I :H =⟨d.E ops.size,d.M ops.size⟩)(hq:Q .normal H):
  AWP P tp N m0 (.region id ops true) st Q:=by
 intro ro h0 base μ0 w0 a0 hro hH hR hN hdf ZC;refine wpIn_region_any hm ?_;have G:∀(listed:Array Bool) (a:Act) (w:World) μ kb kt,listed.size=ops.size->a.tmps.size=N->a.defers=a0.defers->
   agY d ops base μ0 w0 (tW listed) μ kb kt a.tmps w->Region.ready .any ops listed=[]->
   ∃H μ',afv base μ' H.mem w/\afO μ' H.mem.length H.env a.tmps/\a.tmps.size=N/\MOk P base h0 w a.defers/\m0<=H.mem.length/\Step m0 μ0 st.mem w0 μ' H.mem w/\Q .normal H :=by
  intro listed a w μ kb kt ZH ha hd hI hr;obtain⟨X,h2,h3,h4⟩:=Vw (m0:=m0) hA (by rw[J];exact ZC) hI (Q5 hA ZH hr);rw[J] at h4;exact⟨H,μ,by rw[I];exact X,by rw[I];exact h2,ha,by rw[hd];exact hdf.step hH h4,by rw[I];exact h3,by rw[I];exact h4,hq⟩
 have key:∀(Z:Nat) (listed:Array Bool) (a:Act) (w:World) μ kb kt,listed.size=ops.size->left ops listed<=Z->a.tmps.size=N->a.defers=a0.defers->
   vx ops (tW listed)->agY d ops base μ0 w0 (tW listed) μ kb kt a.tmps w->
   wpAnyIn (Fr ro) 0 P .any ops (fun e S w' =>∃H μ',afv base μ' H.mem w' /\afO μ' H.mem.length H.env S.tmps/\S.tmps.size=N/\MOk P base h0 w' S.defers/\m0<=H.mem.length/\
    Step m0 μ0 st.mem w0 μ' H.mem w' /\Q e H) Z listed a w:=by
  intro Z;induction Z with
  |zero=>
   intro listed a w μ kb kt ZH hl ha hd hC hI;have hr:Region.ready .any ops listed=[]:=by
    apply List.eq_nil_iff_forall_not_mem.2;intro i hi;obtain⟨X,o,U,_⟩:=mem_ready.1 hi;have F:i<ops.size:=(Nm.1 U).1;have:i∈(List.range ops.size).filter fun i=> !listed.getD i true:=by rw[List.mem_filter];exact⟨by simpa using F,by rw[X];rfl⟩
    have h0:((List.range ops.size).filter fun i=> !listed.getD i true)=[]:=Mp (Nat.le_zero.1 hl);rw[h0] at this;cases this
   exact⟨hr,G listed a w μ kb kt ZH ha hd hI hr⟩
  |succ Z ih=>
   intro listed a w μ kb kt ZH hl ha hd hC hI;refine⟨G listed a w μ kb kt ZH ha hd hI,fun i hi=>?_⟩;obtain⟨X,o,U,Zx⟩:=mem_ready.1 hi;have F:i<ops.size:=(Nm.1 U).1;have R:¬tW listed i:=by unfold tW;simp only[Array.getD_eq_getD_getElem?] at X |-;rw[Array.getElem?_eq_getElem (by omega)] at X |-;simp only[Option.getD_some] at X |-;rw[X];simp
   have C:=T6 (listed:=listed) (i:=i) (by omega);have hC' :vx ops (tW (listed.setIfInBounds i true)):=by
    rw[C];intro j oj O L e he hb;rcases L with L | rfl
    .exact .inl (hC j oj O L e he hb)
    .rw[U] at O;cases O;exact .inl (Zx e he hb)
   have acW:left ops (listed.setIfInBounds i true)<=Z:=by
    have:left ops (listed.setIfInBounds i true)<left ops listed:=by
     unfold left;refine Ah (fun k _ hk=>?_) (j:=i) (by simpa using F) (by rw[X];rfl) (by simp[ZH,F]);by_cases B:i=k
     .subst B;simp[ZH,F] at hk
     .rw[getD_set_ne true B] at hk;exact hk
    omega
   have D:=hA i o U;have u:=T4 hA hI hC U Zx R;have hGw:GOk P base w:=by
    refine⟨hdf.agv.below,?_⟩;have:=hdf.agv.tab;unfold Lib.TabIs at this |-;rw[<-this];refine PB fun k hk=>hI.frame k ?_ fun b hb=>?_
    .have:=hdf.agv.below;have:=hH.afr;omega
    .rw[J] at hb
     have:=Pk hH hb;have:=hdf.agv.below;omega
   have m:=T5 hA hI hC U Zx R;have next:∀V w' μ',afj μ' (d.M' i).length (d.v i) V->afv base μ' (d.M' i) w' ->Step (d.Tm i).length μ (d.Tm i) w μ' (d.M' i) w' ->
     wpAnyIn (Fr ro) 0 P .any ops (fun e S w' =>∃H μ',afv base μ' H.mem w' /\afO μ' H.mem.length H.env S.tmps/\S.tmps.size=N/\MOk P base h0 w' S.defers/\m0<=H.mem.length/\
      Step m0 μ0 st.mem w0 μ' H.mem w' /\Q e H) Z (listed.setIfInBounds i true) (a.put o.dst V) w' :=by
    intro V w' μ' q1 q2 q3;obtain⟨μ2,kb2,kt2,Y⟩:=VE hA hI hC U Zx R ha q1 q2 q3;rw[<-C] at Y;exact ih _ _ _ μ2 kb2 kt2 (by simp[ZH]) acW (by rw[fV];exact ha) (by rw[gp];exact hd) hC' Y
   unfold wpOpIn;simp only[U];rw[pY m D.wanted];cases hw:d.wb i with
   |false=>
    obtain⟨e1,e2⟩:=D.skip hw;simp only[Bool.false_eq_true,if_false];exact⟨fun _ _=>trivial,next undef w μ (by rw[e1];simp[afj,afk,undef]) (by rw[e2];exact u) (by rw[e2];exact .refl (L9 _))⟩
   |true=>
    simp only[if_true];exact sj hT hGw u m ha D.dst (D.step hw) fun V w' μ' q1 q2 q3 q4=>next V w' μ' q1 q2 q4
 have hI0:agY d ops base μ0 w0 (tW (Array.replicate ops.size false)) μ0 (fun _=>0) (fun _=>0) a0.tmps { w0 with drawn:=w0.drawn+1 }:=by
  have W:∀i,¬tW (Array.replicate ops.size false) i:=by intro i;unfold tW;simp only[Array.getD_eq_getD_getElem?,Array.getElem?_replicate];split<;>simp
  have K :afv base μ0 (d.M 0) { w0 with drawn:=w0.drawn+1 }:=by rw[J];exact hH.agn rfl
  refine⟨K.afr,fun _=>Nat.zero_le _,fun b i _ _=>⟨fun h=>absurd h (W i),fun h=>by omega⟩,fun _=>.inl rfl,fun b s hs=>K.slot b s hs,
   fun b b' s' =>K.sep b b' s',fun _=>Nat.zero_le _,fun t i oi _ _=>⟨fun h=>absurd h (W i),fun h=>by omega⟩,fun _=>.inl rfl,fun t=>?_,fun _ _=>rfl,
   rfl,rfl,Nat.le_succ _,rfl,L9 _,fun _ _ _=>rfl,fun b hb _=>⟨b,hb,rfl⟩⟩
  rw[J,hE];exact hR t
 refine key ops.size _ a0 _ μ0 _ _ (by simp) ?_ hN rfl ?_ hI0
 .unfold left
  exact QQJ (List.length_filter_le _ _) (by simp)
 .intro j o _ hS
  exfalso;unfold tW at hS;simp only[Array.getD_eq_getD_getElem?,Array.getElem?_replicate] at hS;split at hS<;>simp at hS
end
end Go.Eng
namespace Go.Eng
def rY:Exit->Option (Option Code)
 |.normal=>some none
 |.ret=>some (some .ret)
 |.exit id=>some (some (.exit id))
 |_=>none
def yW:Option Code->Option Exit
 |none=>some .normal
 |some .ret=>some .ret
 |some (.exit id)=>some (.exit id)
 |_=>none
def nC(j:Option Code):LoopState:=if j.isNone then .ready else .done
def yR:List Tmp->List AV->Env->Env
 |t::ts,v::vs,env=>yR ts vs ((t,v)::env)
 |_,_,env=>env
variable{L:Loop}{m0:Nat}{r:agq}
section
variable {P:Program}{T:TypeId->Option TyI}{μ:Nat->Place}{mem:Mem}{base:Nat}{w:World}
theorem afv.alloc(H:afv base μ mem w)(o:Obj):afv base μ mem (w.alloc o):=by refine⟨by simp;have:=H.afr;omega,fun b s Z=>?_,H.sep⟩;exact(H.slot b s Z).mono (L9 _) (fun _ _=>rfl) fun X=>iF w o ((H.slot b s Z).af2 X)
theorem Step.alloc(h:m0<=mem.length)(o:Obj):Step m0 μ mem w μ mem (w.alloc o):=
 ⟨h,fun _ _=>rfl,rfl,rfl,rfl,by simp,fun k Z _=>iF w o Z,fun b X _=>⟨b,X,rfl⟩,L9 _⟩
theorem Gz{n:Nat}:∀{ts:List Tmp} {vs:List AV} {Vs:List Value} {env:Env} {tmps:Array Value},afk μ n vs Vs->afO μ n env tmps->vs.length=ts.length->(∀t∈ts,t<tmps.size)->
  afO μ n (yR ts vs env) ((ts.zip Vs).foldl (fun tmps (t,a)=>tmps.setIfInBounds t a) tmps)/\((ts.zip Vs).foldl (fun tmps (t,a)=>tmps.setIfInBounds t a) tmps).size=tmps.size
 | [],[],Vs,env,tmps,hv,ht,_,_=>by exact⟨ht,rfl⟩
 |t::ts,v::vs,Vs,env,tmps,hv,ht,hl,hb=>by simp only[afk] at hv;obtain⟨U,S,rfl,Z,X⟩:=hv;simp only[yR,List.zip_cons_cons,List.foldl_cons];have:=afO.put (a:={ tmps:=tmps,defers:=[] }) ht (hb t (by simp)) Z;simp only[Act.put] at this;have r:=Gz (env:=(t,v)::env) (tmps:=tmps.setIfInBounds t U) X this (by simpa using hl) (fun x V=>by simpa using hb x (by simp[V]));exact⟨r.1,r.2.trans (by simp)⟩
 | [],_::_,_,_,_,_,_,hl,_=>by simp at hl
 |_::_,[],_,_,_,_,_,hl,_=>by simp at hl
theorem ji{l:Nat}(h:w.heap[l]? =some (.loop L)):(Instr.getLoop l).run P w=.ok L w:=by
 have Z:(getObj l).run P w=.ok (.loop L) w:=by simp[getObj,Sem.run,h]
 simp only[Instr.getLoop,Sem.run_bind,Z,Result.andThen_ok];rfl
theorem wJ{base:Nat}{b:Nat}{r' :agq}{L' :Loop}(H:afv base μ mem w)(hb:mem[b]? =some (.loop r))(I:w.heap[(μ b).blk]? =some (.loop L))(hr:agH μ mem.length r' L'):
  (setObj (μ b).blk (.loop L')).run P w=.ok () { w with heap:=w.heap.setIfInBounds (μ b).blk (.loop L') }/\
  afv base μ (mem.set b (.loop r')) { w with heap:=w.heap.setIfInBounds (μ b).blk (.loop L') }/\
  Step mem.length μ mem w μ (mem.set b (.loop r')) { w with heap:=w.heap.setIfInBounds (μ b).blk (.loop L') }:=by
 have Z:=(Nm.1 I).1;have X:=gL hb;refine⟨th I (by intro c e f h;cases h),H.write hb (Rv hb) (fun _=>⟨_,QQY X,rfl⟩) rfl rfl rfl rfl (by simp) (fun k V=>ZX (Ne.symm V)) ?_⟩;simp only[afx];have:=H.slot b _ hb;simp only[afx] at this;obtain⟨_,_,U,_⟩:=this;exact⟨L',by simp[Z],U,hr⟩
theorem af3.intro{b:Nat}{args:List AV}{R:AV->Mem->Prop}(hb:mem[b]? =some (.loop r))(I:r.st=.ready)(hl:args.length=r.ps.toList.length)(H:∀t∈r.ps.toList,t<r.N)(h:AWP P false r.N mem.length r.assign ⟨yR r.ps.toList args r.env,mem⟩ fun e Z=>e=.normal/\∃r1,Z.mem[b]? =some (.loop r1)/\r1.st=.ready/\
   AWP P false r.N mem.length r.body ⟨Z.env,Z.mem.set b (.loop { r1 with st:=.busy })⟩ fun e X=>∃r2 j K,rY e=some j/\X.mem[b]? =some (.loop r2)/\DX mem.length X.mem.length K=true/\
    R (.bool j.isNone) (afu mem.length K (X.mem.set b (.loop { r2 with st:=nC j,ago:=j })))):
  af3 P b args mem R:=by
 intro base μ w Vs hG hH hV Z4;have U:=hH.slot b _ hb;simp only[afx] at U;obtain⟨L,W,h2,h3⟩:=U;have J:Vs.length=L.params.size:=by rw[hV.length,hl,h3.ps];simp
 refine⟨L.fn,(L.params.zip ⟨Vs⟩).foldl (fun tmps (t,a)=>tmps.setIfInBounds t a) L.tmps,L.assign,L.body,?_,?_⟩
 .simp only[Instr.yield,Sem.run_bind,ji W,Result.andThen_ok]
  rw[if_neg (by simp[J])];rfl
 .refine roundIn_of_wpIn (F:=Fence.wide) trivial ?_
  have S:(L.params.zip ⟨Vs⟩).foldl (fun tmps (t,a)=>tmps.setIfInBounds t a) L.tmps=(r.ps.toList.zip Vs).foldl (fun tmps (t,a)=>tmps.setIfInBounds t a) L.tmps:=by rw[h3.ps,<-Array.foldl_toList];simp
  have B:=Gz (ts:=r.ps.toList) hV h3.tmps hl (fun t ht=>by rw[h3.size];exact H t ht);rw[h3.assign,h3.body];refine wpIn_mono (F:=Fr (some (μ b).blk)) (h (some (μ b).blk) w.heap.size base μ w ⟨_,[]⟩ (fun h=>by cases h) hH (by rw[S];exact B.1) (by rw[S,B.2];exact h3.size) (MOk.nil w hG hH.afr (L9 _)) (L9 _)) ?_;rintro e a1 w1 ⟨Z,μ1,c1,c2,c3,c4,c5,c6,rfl,r1,c7,c8,hbody⟩;have O:=c1.slot b _ c7;simp only[afx] at O;obtain⟨L1,d1,d2,d3⟩:=O;have hμ:μ1 b=μ b:=c6.agree b Z4;rw[hμ] at d1;obtain⟨u,o,G⟩:=wJ (P:=P) (r' :={ r1 with st:=.busy }) (L' :={ L1 with state:=.busy }) c1 c7 (by rw[hμ];exact d1) { d3 with st:=rfl };rw[hμ] at u o G;refine⟨_,?_,wpIn_mono (F:=Fr (some (μ b).blk)) (hbody (some (μ b).blk) w.heap.size base μ1 _ a1 (fun h=>by cases h) o (by rw[QQc];exact c2) c3 (c4.step c1 G) (by rw[QQc];exact c5)) ?_⟩
  .simp only[Instr.beginRound,Sem.run_bind,ji d1,Result.andThen_ok,u]
   rw[d3.st,c8];rfl
  .rintro e a2 w2 ⟨X,μ2,f1,f2,f3,f4,f5,f6,r2,j,K,f7,f8,f9,f10⟩
   have M:=f1.slot b _ f8;simp only[afx] at M;obtain⟨L2,g1,g2,g3⟩:=M;have hμ2:μ2 b=μ b:=by rw[f6.agree b Z4,hμ]
   rw[hμ2] at g1;obtain⟨D,m,Y⟩:=wJ (P:=P) (r' :={ r2 with st:=nC j,ago:=j }) (L' :={ L2 with state:=nC j,pending:=j }) f1 f8 (by rw[hμ2];exact g1) { g3 with st:=rfl,ago:=rfl };rw[hμ2] at D m Y;have Y6:(Instr.endRound (μ b).blk j).run P w2=.ok (.bool j.isNone) { w2 with heap:=w2.heap.setIfInBounds (μ b).blk (.loop { L2 with state:=nC j,pending:=j }) }:=by unfold nC at D |-;simp only[Instr.endRound,Sem.run_bind,ji g1,Result.andThen_ok,D];rfl
   obtain⟨p1,p2,p3⟩:=m.afu (by rw[QQc];exact f5) (by rw[QQc];exact f9);have hS:Step mem.length μ mem w _ _ _:=((c6.trans (G.mono c5)).trans f6).trans ((Y.mono f5).trans p3);have C:∃V v mem' μ',(Ending.returned (.bool j.isNone):Ending)=.returned V/\afj μ' mem'.length v V/\afv base μ' mem' { w2 with heap:=w2.heap.setIfInBounds (μ b).blk (.loop { L2 with state:=nC j,pending:=j }) }/\
     Step mem.length μ mem w μ' mem' { w2 with heap:=w2.heap.setIfInBounds (μ b).blk (.loop { L2 with state:=nC j,pending:=j }) }/\R v mem' :=
    ⟨_,.bool j.isNone,_,_,rfl,by simp[afj],p1,hS,f10⟩
   cases e<;>simp only[rY,Pi,reduceCtorEq] at f7<;>subst f7<;>exact⟨_,_,Y6,C⟩
theorem Gx{N:Nat}{g:Operand}{ps:Array Tmp}{assign body:Code}{st:St}{Q:Exit->St->Prop}{f:FuncId}{caps:List AV}(hg:get st.env g=.func f caps)(h:afU P f (.yield st.mem.length::caps) (st.mem++[.loop ⟨.ready,none,st.env,N,ps,assign,body⟩]) fun _ Z=>∃r2 e,Z[st.mem.length]? =some (.loop r2)/\r2.st≠ .busy/\yW r2.ago=some e/\
   Q e ⟨st.env,Z.set st.mem.length (.loop { r2 with st:=.exhausted })⟩):
  AWP P true N m0 (.rangeFunc g ps assign body) st Q:=by
 intro ro h0 base μ w a hro hH hR hN hdf D;cases hro rfl;have S:=bQ hR g;rw[hg] at S;simp only[afj] at S;obtain⟨C,hU,B⟩:=S;refine wpIn_rangeFunc fun fn _=>?_
 let o1:Obj:=.deferred (some [])
 let w1:=w.alloc o1
 let L:Loop:={ state:=.ready,pending:=none,fn,tmps:=a.tmps,params:=ps,assign,body,defers:=w.heap.size }
 have R:afv base μ st.mem w1:=hH.alloc o1;have u:Step st.mem.length μ st.mem w μ st.mem w1:=.alloc (L9 _) o1;have ZH:w1.heap.size=w.heap.size+1:=by simp[w1]
 obtain⟨O,o⟩:=R.push (.loop L) (.loop ⟨.ready,none,st.env,N,ps,assign,body⟩) ⟨w1.heap.size,0,0,0⟩ rfl (by simp only[afx];exact⟨L,heap_alloc_new w1 _,R.afr,rfl,rfl,rfl,rfl,rfl,hN,hR.mono (Nat.le_succ _) fun b hb=>w9 hb⟩)
 have M:=u.trans o;have hμb:(upd μ st.mem.length ⟨w1.heap.size,0,0,0⟩ st.mem.length).blk=w1.heap.size:=by rw[fL]
 have I:MOk P base h0 (w1.alloc (.loop L)) ({ target:=.collected w.heap.size,args:= #[] }::a.defers):=by
  have U:=(hdf.step hH M);refine⟨U.agv,U.afr,U.le,fun d K=>?_,?_⟩
  .rcases List.mem_cons.1 K with rfl | K
   .refine⟨w.heap.size,rfl,hdf.le,?_⟩
    rw[iF w1 _ (by omega)];exact heap_alloc_new w o1
   .exact U.each d K
  .simp only[List.map_cons,List.nodup_cons]
   refine⟨?_,hdf.nodup⟩;intro D;obtain⟨d,K,H⟩:=QQh.1 D;obtain⟨r,e,_,h2⟩:=hdf.each d K;rw[e] at H;simp only[Target.collected.injEq] at H;have:=(Nm.1 h2).1;omega
 have m:=h.2 base _ (w1.alloc (.loop L)) (.func (.yield w1.heap.size) #[] #[]::C) I.agv O
  (bV.2 ⟨by simp only[afj,hμb];exact⟨by simp,trivial⟩,B.mono (by simp) fun b hb=>w9 hb⟩)
 refine⟨w1.heap.size,[{ target:=.collected w.heap.size,args:= #[] }],w1.alloc (.loop L),{ target:=.fn (.func f) ⟨C⟩,args:= #[]++ #[.func (.yield w1.heap.size) #[] #[]] },w1.alloc (.loop L),f,⟨.func (.yield w1.heap.size) #[] #[]::C⟩,w1.alloc (.loop L),?_,?_,fun _ _=>trivial,?_,fun h=>by simp[Fence.wide] at h,?_⟩
 .simp only[Instr.enterLoop,Sem.run_bind,run_newObj,Result.andThen_ok,Sem.run_pure]
  rfl
 .have hc:(#[Operand.const (.func (.yield w1.heap.size) #[] #[])]:Array Operand).map a.eval= #[.func (.yield w1.heap.size) #[] #[]]:=by simp[Act.eval]
  simp only[resolve,hU,Deferred.ofValue,hc];rfl
 .simp only[invoke]
  rw[yS h.1];congr 2;apply Array.ext';simp
 .refine Ax.2 (m.mono ?_)
  rintro e w3 ⟨V,v,Z,μ2,rfl,q1,q2,q3,r2,e2,q4,q5,q6,q7⟩;have Z4:st.mem.length<(st.mem++[afl.loop ⟨.ready,none,st.env,N,ps,assign,body⟩]).length:=by simp
  have hμ2:(μ2 st.mem.length).blk=w1.heap.size:=by rw[q3.agree _ Z4,hμb]
  have G:=q2.slot _ _ q4;simp only[afx] at G;obtain⟨L2,g1,g2,g3⟩:=G;obtain⟨k1,k2,j⟩:=wJ (P:=P) (r' :={ r2 with st:=.exhausted }) (L' :={ L2 with state:=.exhausted }) q2 q4 g1 { g3 with st:=rfl };rw[hμ2] at k1 k2 j g1;have F:st.mem.length<=Z.length:=QQJ (by simp) q3.len;have Y:=M.trans (q3.mono (m0:=st.mem.length) (by simp));have W:=Y.trans (j.mono F);have X:∃T' μ',afv base μ' T'.mem { w3 with heap:=w3.heap.setIfInBounds w1.heap.size (.loop { L2 with state:=.exhausted }) }/\afO μ' T'.mem.length T'.env a.tmps/\a.tmps.size=N/\
    MOk P base h0 { w3 with heap:=w3.heap.setIfInBounds w1.heap.size (.loop { L2 with state:=.exhausted }) } ({ target:=.collected w.heap.size,args:= #[] }::a.defers)/\m0<=T'.mem.length/\
    Step m0 μ st.mem w μ' T'.mem { w3 with heap:=w3.heap.setIfInBounds w1.heap.size (.loop { L2 with state:=.exhausted }) }/\Q e2 T' :=by
   refine⟨_,μ2,k2,?_,hN,(I.step O q3).step q2 j,?_,W.mono D,q7⟩
   .show afO μ2 (Z.set st.mem.length _).length st.env a.tmps
    rw[QQc];exact hR.mono F fun b hb=>by rw[q3.agree b (by simp;omega),w9 hb]
   .show m0<=(Z.set st.mem.length _).length
    rw[QQc];omega
  refine⟨r2.ago,{ w3 with heap:=w3.heap.setIfInBounds w1.heap.size (.loop { L2 with state:=.exhausted }) },?_,?_⟩
  .simp only[Instr.endLoop,Sem.run_bind,ji g1,Result.andThen_ok]
   rw[g3.st];have hb:(r2.st==LoopState.busy)=false:=by cases hx:r2.st<;>first | rfl | exact absurd hx q5
   rw[hb];have J:L2.pending=r2.ago:=g3.ago;simp only[Bool.false_eq_true,if_false,Sem.run_bind,Sem.run_pure,k1,Result.andThen_ok];rw[J]
  .cases hp:r2.ago with
   |none=>
    rw[hp] at q6;simp only[yW,Pi] at q6;subst q6;exact X
   |some c=>
    rw[hp] at q6;cases c<;>simp only[yW,Pi,reduceCtorEq] at q6
    .subst q6;exact wpIn_exit X
    .subst q6;exact wpIn_ret X
end
end Go.Eng
namespace Go.Eng
structure afh where
 v:AV
 pre:Option Mem
 new:Mem
def afh.mem(r:afh)(mem:Mem):Mem:=(r.pre.getD mem)++r.new
inductive Callee where
 |fn (f:FuncId)
 |yld (b:Nat)
abbrev y9:=Callee->List AV->Mem->Option afh
def kJ(env:Env):Op->Option (Callee×List AV)
 |.call { callee:=.value x,args,argTypes:=_ }=>match get env x with
  |.func f Z=>some (.fn f,Xq env args++Z)
  |.yield b=>some (.yld b,Xq env args)
  |_=>none
 |_=>none
structure XS where
 env:Env
 mem:Mem
 afD:Bool
def Ul:AV->List Nat
 |.ptr b _=>[b]
 |_=>[]
def cO:AV->List Nat
 |.slice b _ _ _=>[b]
 |_=>[]
def OO:AV->List Nat
 |.map b=>[b]
 |_=>[]
def xc(env:Env):Op->List Nat
 |.store _ a _=>Ul (get env a)
 |.call { callee:=.builtin .append,args:=⟨[s,_]⟩,argTypes:=_ }=>cO (get env s)
 |.call { callee:=.builtin .unsafeString,args:=⟨[x,_]⟩,argTypes:=_ }=>Ul (get env x)
 |.call { callee:=.builtin .clear,args:=⟨[x]⟩,argTypes:=_ }=>cO (get env x)
 |.mapUpdate _ m _ _=>OO (get env m)
 |.mapEntry _ m _=>OO (get env m)
 |.entryStore _ m _ _=>OO (get env m)
 |_=>[]
def VZ(T:TypeId->Option TyI)(O:y9)(m0:Nat)(env:Env)(mem:Mem)(H:Bool)(o:Oper):Option (AV×Mem×Bool):=
 match aOp T env mem o.op with
 |some (v,m)=>some (v,m,H||(xc env o.op).any fun b=>decide (b<m0))
 |none=>match kJ env o.op with
  |some (c,args)=>match O c args mem with
   |some r=>some (r.v,r.mem mem,H||r.pre.isSome)
   |none=>none
  |none=>none
def fA(T:TypeId->Option TyI)(O:y9)(N m0:Nat)(ops:Array Oper):List Oper->XS->Option XS
 | [],s=>some s
 |o::os,s=>
  if DT N o then
   match sE ops s.env o with
   |some true=>match VZ T O m0 s.env s.mem s.afD o with
    |some (v,m,dt)=>fA T O N m0 ops os ⟨af9 s.env o.dst v,m,dt⟩
    |none=>none
   |some false=>fA T O N m0 ops os ⟨af9 s.env o.dst (.tuple []),s.mem,s.afD⟩
   |none=>none
  else none
def dO(ops:List Oper):List Nat:=
 ops.foldl (fun acc o=>acc++[o.after.toList.foldl (fun s e=>if Region.binds .any e then s ||| 2 ^ e.on ||| acc.getD e.on 0 else s) 0]) []
def bef(H:List Nat)(i j:Nat):Bool:=(H.getD j 0).testBit i
def nU(ops:Array Oper)(H:List Nat):Bool:=
 let n:=ops.size
 (List.range n).all fun j=>match ops[j]? with
  |none=>true
  |some o=>
   o.after.toList.all (fun e=> !Region.binds .any e||decide (e.on<j))&&
   (List.range n).all fun i=>(!bef H i j||o.after.toList.any fun e=>Region.binds .any e&&(e.on==i||bef H i e.on))&&(i==j||bef H i j||bef H j i||match ops[i]? with
    |none=>true
    |some oi=>match oi.dst with
     |none=>true
     |some t=> !(o.looksAt ops).contains t&& !(o.dst==some t))
def Ow(env:Env):Op->Option (List Nat)
 |.load _ a=>match get env a with
  |.ptr b _=>some [b]
  |_=>some []
 |.store _ a _=>match get env a with
  |.ptr b _=>some [b]
  |_=>some []
 |.slice _ x _ _ _=>match get env x with
  |.slice b _ _ _=>some [b]
  |_=>some []
 |.lookup _ m _ _=>match get env m with
  |.map b=>some [b]
  |_=>some []
 |.mapUpdate _ m _ _=>match get env m with
  |.map b=>some [b]
  |_=>some []
 |.mapEntry _ m _=>match get env m with
  |.map b=>some [b]
  |_=>some []
 |.entryStore _ m _ _=>match get env m with
  |.map b=>some [b]
  |_=>some []
 |.call { callee:=.builtin .len,args:=⟨[x]⟩,argTypes:=_ }=>match get env x with
  |.map b=>some [b]
  |_=>some []
 |.call { callee:=.builtin .append,args:=⟨[s,x]⟩,argTypes:=_ }=>
  some ((match get env s with | .slice b _ _ _=>[b] | _=>[])++(match get env x with | .slice b _ _ _=>[b] | _=>[]))
 |.call { callee:=.builtin .unsafeSliceData,args:=⟨[x]⟩,argTypes:=_ }=>match get env x with
  |.slice b _ _ _=>some [b]
  |_=>some []
 |.call { callee:=.builtin .clear,args:=⟨[x]⟩,argTypes:=_ }=>match get env x with
  |.slice b _ _ _=>some [b]
  |_=>some []
 |.call { callee:=.builtin .unsafeString,args:=⟨[x,_]⟩,argTypes:=_ }=>match get env x with
  |.ptr b _=>some [b]
  |_=>some []
 |.call { callee:=.builtin _,args:=_,argTypes:=_ }=>some []
 |.call _=>none
 |_=>some []
structure Rec where
 env:Env
 en:Env
 mem:Mem
 tm:Mem
 v:AV
 m' :Mem
 nx:Mem
 wb:Bool
 wr:List Nat
def bF(H:Nat->Bool):Nat->Mem->Mem
 |_,[]=>[]
 |i,s::r=>(if H i then s else .qK)::bF H (i+1) r
def bn(wr:List Nat):Nat->Mem->Mem->Mem
 |_,[],m' =>m'
 |_,_::_,[]=>[]
 |i,s::r,s' ::r' =>(if wr.contains i then s' else s)::bn wr (i+1) r r'
def fI(mem:Mem)(b:Nat):Bool:=match mem[b]? with
 |some .qK=>false
 |some _=>true
 |none=>false
def eZ:Nat->Mem->List Nat
 |_,[]=>[]
 |i,.qK::r=>eZ (i+1) r
 |i,_::r=>i::eZ (i+1) r
def w8(H:List Nat)(j:Nat):Nat->List Rec->List Rec
 |_,[]=>[]
 |i,r::rs=>if bef H i j then w8 H j (i-1) rs else r::w8 H j (i-1) rs
def W7(H:List Nat)(j:Nat)(acc:List Rec):Option (List Nat)->Nat->Bool
 |some l=>fun b=>l.contains b
 |none=>let un:=w8 H j (j-1) acc;fun b=> !un.any fun f=>decide (f.mem.length<=b/\b<f.nx.length)
def VY(H:Mem):Option Mem->List Nat
 |some _=>eZ 0 H
 |none=>[]
def G1(T:TypeId->Option TyI)(O:y9)(N:Nat)(ops:Array Oper)(H:List Nat)(j:Nat)(o:Oper)(env:Env)(mem:Mem)(acc:List Rec):Option Rec:=
 if DT N o then
  let en:=(o.looksAt ops).map fun t=>(t,ae env t)
  match sE ops en o with
  |none=>none
  |some false=>some ⟨env,en,mem,bF (fun _=>false) 0 mem,.tuple [],bF (fun _=>false) 0 mem,mem,false,[]⟩
  |some true=>
   let tm:=bF (W7 H j acc (Ow en o.op)) 0 mem
   match aOp T en tm o.op with
   |some (v,m)=>let wr:=xc en o.op;some ⟨env,en,mem,tm,v,m,bn wr 0 mem m,true,wr⟩
   |none=>match kJ en o.op with
    |none=>none
    |some (c,args)=>match O c args tm with
     |none=>none
     |some r=>let wr:=VY tm r.pre
      some ⟨env,en,mem,tm,r.v,r.mem tm,bn wr 0 mem (r.mem tm),true,wr⟩
 else none
def nE(T:TypeId->Option TyI)(O:y9)(N:Nat)(ops:Array Oper)(H:List Nat):Nat->List Oper->Env->Mem->List Rec->Option (List Rec×Env×Mem)
 |_,[],env,mem,acc=>some (acc.reverse,env,mem)
 |j,o::os,env,mem,acc=>match G1 T O N ops H j o env mem acc with
  |none=>none
  |some r=>nE T O N ops H (j+1) os (af9 env o.dst r.v) r.nx (r::acc)
def jo(top:Nat)(un:List (Nat×Rec))(b:Nat):Bool:=
 decide (b<top)&&un.all fun f=> !decide (f.2.mem.length<=b/\b<f.2.nx.length)
def bw:Nat->List Rec->List (Nat×Rec)
 |_,[]=>[]
 |i,r::rs=>(i,r)::bw (i+1) rs
def jc(H:List Nat)(R:List (Nat×Rec))(j:Nat)(r:Rec):Bool:=
 let un:=R.filter fun f=>decide (f.1<j)&& !bef H f.1 j
 r.wr.all (fun b=>fI r.tm b)&&
 r.v.adM (jo r.nx.length un)&&
 r.wr.all (fun b=>match r.nx[b]? with | some s=>s.adM (jo r.nx.length un) | none=>true)&&
 (r.nx.drop r.mem.length).all (fun s=>(s.own||match s with | .qK=>true | _=>false)&&s.adM (jo r.nx.length un))&&
 un.all fun f=>f.2.wr.all (fun b=> !fI r.tm b)&&r.wr.all (fun b=> !fI f.2.tm b)&&
  ((r.tm.drop f.2.mem.length).take (f.2.nx.length-f.2.mem.length)).all fun s=>match s with | .qK=>true | _=>false
def aG(T:TypeId->Option TyI)(O:y9)(N m0:Nat)(ops:Array Oper)(s:XS):Option XS:=
 let bs:=dO ops.toList
 match nE T O N ops bs 0 ops.toList s.env s.mem [] with
 |none=>none
 |some (R,env,mem)=>
  let nR:=bw 0 R
  if nR.all fun f=>jc bs nR f.1 f.2 then some ⟨env,mem,s.afD||R.any fun r=>r.wr.any fun b=>decide (b<m0)⟩ else none
def dc:Code->Bool
 |.region _ ops true=>nU ops (dO ops.toList)
 |.seq a b=>dc a&&dc b
 |.cond _ a b=>dc a&&dc b
 |.block _ b=>dc b
 |.loop b=>dc b
 |.scope b=>dc b
 |.rangeFunc _ _ a b=>dc a&&dc b
 |_=>true
def ad:Code->List Nat
 |.region _ ops _=>ops.toList.filterMap (·.dst)
 |.seq a b=>ad a++ad b
 |.cond _ a b=>ad a++ad b
 |.block _ b=>ad b
 |.loop b=>ad b
 |.scope b=>ad b
 |_=>[]
def aw(lv wr:List Nat)(H env:Env):Env:=lv.map (fun t=>(t,ae env t))++((wr.filter fun t=> !lv.contains t).map fun t=>(t,AV.undef))++H
mutual
def AV.refs(m0:Nat):AV->List Nat
 |.ptr b _=>if b<m0 then [] else [b]
 |.slice b _ _ _=>if b<m0 then [] else [b]
 |.map b=>if b<m0 then [] else [b]
 |.yield b=>if b<m0 then [] else [b]
 |.func _ Z=>AV.afy m0 Z
 |.iface _ v=>v.refs m0
 |.agg Z=>AV.afy m0 Z
 |.tuple Z=>AV.afy m0 Z
 |_=>[]
def AV.afy(m0:Nat):List AV->List Nat
 | []=>[]
 |v::vs=>v.refs m0++AV.afy m0 vs
end
def afl.refs(m0:Nat):afl->List Nat
 |.qK=>[]
 |.cells _ _ cs=>AV.afy m0 cs
 |.map es=>es.flatMap fun e=>e.1.refs m0++e.2.refs m0
 |.afS es=>es.flatMap fun e=>e.1.refs m0++e.2.refs m0
 |.loop r=>r.env.flatMap fun e=>e.2.refs m0
def qs(m0:Nat)(mem:Mem):Nat->List Nat->List Nat->List Nat
 |0,_,seen=>seen
 |_,[],seen=>seen
 |k+1,b::todo,seen=>if seen.contains b then qs m0 mem k todo seen else qs m0 mem k (todo++(mem.getD b .qK).refs m0) (seen++[b])
def SS:List Nat->Bool
 |a::b::_=>a==b
 |_=>false
def wZ:List Nat->Bool
 |a::b::c::_=>a==b&&b==c
 |_=>false
def LN(lv wr:List Nat)(I:Env)(H:Nat)(s:XS):XS:=
 let ks:=qs H s.mem 1000 ((lv.flatMap fun t=>(ae s.env t).refs H)++(s.mem.take H).flatMap (afl.refs H)) []
 if DX H s.mem.length ks then
  ⟨(lv.filter fun t=>wr.contains t).map (fun t=>(t,(ae s.env t).ren (rho H ks)))++((wr.filter fun t=> !lv.contains t).map fun t=>(t,AV.undef))++I,(s.mem.take H).map (afl.ren (rho H ks))++af4 H ks s.mem,true⟩
 else⟨aw lv wr I s.env,s.mem,s.afD⟩
def mg(lv wr:List Nat)(I:Env)(H:Nat)(s:XS):XS:=
 if wZ lv=true\/s.mem.length<=H then⟨aw lv wr I s.env,s.mem,s.afD⟩ else
  let ks:=qs H s.mem 1000 (lv.flatMap fun t=>(ae s.env t).refs H) []
  if DX H s.mem.length ks&&(s.mem.take H).all fun s=>(s.refs H).isEmpty then
   ⟨(lv.filter fun t=>wr.contains t).map (fun t=>(t,(ae s.env t).ren (rho H ks)))++((wr.filter fun t=> !lv.contains t).map fun t=>(t,AV.undef))++I,s.mem.take H++af4 H ks s.mem,s.afD⟩
  else if SS lv then LN lv wr I H s
  else⟨aw lv wr I s.env,s.mem,s.afD⟩
def ga(lv wr:List Nat)(H:Env)(I:Nat)(f:XS->Option (Exit×XS)):Nat->XS->Option (Exit×XS)
 |0,_=>none
 |k+1,s=>match f s with
  |some (.normal,s')=>ga lv wr H I f k (mg lv wr H I s')
  |r=>r
def aU(T:TypeId->Option TyI)(lv:Code->List Nat)(O:y9)(K N m0:Nat)(tp:Bool):Code->XS->Option (Exit×XS)
 |.skip,s=>some (.normal,s)
 |.region _ ops false,s=>match fA T O N m0 ops ops.toList s with
  |some s' =>some (.normal,s')
  |none=>none
 |.region _ ops true,s=>match aG T O N m0 ops s with
  |some s' =>some (.normal,s')
  |none=>none
 |.seq a b,s=>match aU T lv O K N m0 tp a s with
  |some (.normal,s')=>aU T lv O K N m0 tp b s'
  |r=>r
 |.cond c a b,s=>match get s.env c with
  |.bool true=>aU T lv O K N m0 tp a s
  |.bool false=>aU T lv O K N m0 tp b s
  |_=>none
 |.block id b,s=>match aU T lv O K N m0 tp b s with
  |some (.exit i,s')=>if i=id then some (.normal,s') else some (.exit i,s')
  |r=>r
 |.loop b,s=>ga (lv b) (ad b) s.env s.mem.length (aU T lv O K N m0 tp b) K ⟨aw (lv b) (ad b) s.env s.env,s.mem,s.afD⟩
 |.exit id,s=>some (.exit id,s)
 |.ret,s=>some (.ret,s)
 |.rangeFunc g ps Zb body,s=>
  if tp then
   match get s.env g with
   |.func f caps=>match O (.fn f) (.yield s.mem.length::caps) (s.mem++[.loop ⟨.ready,none,s.env,N,ps,Zb,body⟩]) with
    |some r=>
     let aar:=r.mem (s.mem++[.loop ⟨.ready,none,s.env,N,ps,Zb,body⟩])
     match aar[s.mem.length]? with
     |some (.loop r2)=>if r2.st== .busy then none else match yW r2.ago with
      |some e=>some (e,⟨s.env,aar.set s.mem.length (.loop { r2 with st:=.exhausted }),s.afD||r.pre.isSome⟩)
      |none=>none
     |_=>none
    |none=>none
   |_=>none
  else none
 |_,_=>none
def aa(T:TypeId->Option TyI)(lv:Code->List Nat)(G:FuncId->Option Func)(O:y9)(K:Nat)(f:FuncId)(args:List AV)(mem:Mem):Option afh:=
 match G f with
 |none=>none
 |some fn=>match fn.body with
  |none=>none
  |some c=>
   if args.length<=fn.ntmps then
    match aU T lv O K fn.ntmps mem.length true c ⟨dL 0 args,mem,false⟩ with
    |some (e,s)=>
     match e with
     |.normal | .ret=>
      match jT T fn.results.toList s.env s.mem with
      |some v=>
       let m0:=mem.length
       if s.afD then
        let ks:=qs m0 s.mem 1000 (v.refs m0++(s.mem.take m0).flatMap (afl.refs m0)) []
        if DX m0 s.mem.length ks then
         some ⟨v.ren (rho m0 ks),some ((s.mem.take m0).map (afl.ren (rho m0 ks))),af4 m0 ks s.mem⟩
        else none
       else
        let ks:=qs m0 s.mem 1000 (v.refs m0) []
        if DX m0 s.mem.length ks then
         some ⟨v.ren (rho m0 ks),none,af4 m0 ks s.mem⟩
        else none
      |none=>none
     |_=>none
    |none=>none
   else none
def xN(T:TypeId->Option TyI)(lv:Code->List Nat)(O:y9)(K:Nat)(b:Nat)(args:List AV)(mem:Mem):Option afh:=
 match mem[b]? with
 |some (.loop r)=>
  if r.st== .ready&&decide (args.length=r.ps.toList.length)&&r.ps.toList.all (fun t=>decide (t<r.N))&&dc r.assign&&dc r.body then
   match aU T lv O K r.N mem.length false r.assign ⟨yR r.ps.toList args r.env,mem,true⟩ with
   |some (.normal,s1)=>match s1.mem[b]? with
    |some (.loop r1)=>
     if r1.st== .ready then
      match aU T lv O K r.N mem.length false r.body ⟨s1.env,s1.mem.set b (.loop { r1 with st:=.busy }),true⟩ with
      |some (e,s2)=>match rY e,s2.mem[b]? with
       |some j,some (.loop r2)=>
        let m0:=mem.length
        let m3:=s2.mem.set b (.loop { r2 with st:=nC j,ago:=j })
        let ks:=qs m0 m3 1000 ((m3.take m0).flatMap (afl.refs m0)) []
        if DX m0 s2.mem.length ks then
         some ⟨.bool j.isNone,some ((m3.take m0).map (afl.ren (rho m0 ks))),af4 m0 ks m3⟩
        else none
       |_,_=>none
      |none=>none
     else none
    |_=>none
   |_=>none
  else none
 |_=>none
def DQ(T:TypeId->Option TyI)(lv:Code->List Nat)(G:FuncId->Option Func)(O:y9)(K:Nat):Nat->y9
 |0=>O
 |n+1=>fun c Z mem=>match O c Z mem with
  |some r=>some r
  |none=>match c with
   |.fn f=>aa T lv G (DQ T lv G O K n) K f Z mem
   |.yld b=>xN T lv (DQ T lv G O K n) K b Z mem
structure qS (P:Program)(O:y9):Prop where
 fn:∀f args mem r,O (.fn f) args mem=some r->kO P f args mem r.v (r.mem mem)
 yld:∀b args mem r,O (.yld b) args mem=some r->gH P b args mem r.v (r.mem mem)
 pre:∀c args mem r p,O c args mem=some r->r.pre=some p->p.length=mem.length
variable{args:List AV}{c:Callee}{d:Bool}{k m x:AV}{l:List Nat}{o:Oper}{op:Op}
section
variable {P:Program}{T:TypeId->Option TyI}{O:y9}{mem mem' :Mem}{env:Env}
def afP(wr:List Nat) (mem mem' :Mem):Prop:=mem.length<=mem'.length/\∀b:Nat,b<mem.length->b∉wr->mem'[b]? =mem[b]?
theorem afP.refl(wr:List Nat)(mem:Mem):afP wr mem mem:=⟨L9 _,fun _ _ _=>rfl⟩
theorem afP.push(wr:List Nat)(mem l:Mem):afP wr mem (mem++l):=⟨by simp,fun b Z _=>GE Z⟩
theorem afP.set(b0:Nat)(s:afl)(mem:Mem):afP [b0] mem (mem.set b0 s):=
 ⟨by simp,fun b _ Z=>QQK (fun e=>Z (by simp[e]))⟩
theorem afP.ag8(b0:Nat)(s:afl)(mem l:Mem):afP [b0] mem (mem.set b0 s++l):=
 ⟨by simp,fun b Z X=>by rw[GE (by simpa using Z)];exact QQK (fun e=>X (by simp[e]))⟩
theorem wj{t t2:TypeId}{s x v:AV}(h:pw T mem t t2 s x=some (v,mem')):afP (cO s) mem mem' :=by
 unfold pw at h
 repeat' split at h
 all_goals first
  |(cases h;done)
  |(cases h;exact .refl _ _)
  |(cases h;exact .push _ _ _)
  |(cases h;exact .set _ _ _)
  |(cases h;exact .ag8 _ _ _ _)
theorem KP{t:TypeId}{v:AV}(h:tP T mem t x v=some mem'):afP (Ul x) mem mem' :=by
 unfold tP at h
 repeat' split at h
 all_goals first
  |(cases h;done)
  |(cases h;rename_i Z _ _ _;exact .set _ _ _)
theorem Ab{t:TypeId}{v:AV}(h:fP T mem t m k v=some mem'):afP (OO m) mem mem' :=by
 unfold fP at h
 repeat' split at h
 all_goals first
  |(cases h;done)
  |(cases h;exact .set _ _ _)
theorem BO{t:TypeId}{v:AV}(h:rH T mem t m k=some (v,mem')):afP (OO m) mem mem' :=by
 unfold rH at h
 repeat' split at h
 all_goals first
  |(cases h;done)
  |(cases h;exact .set _ _ _)
theorem xJ{m s v:AV}(h:lU mem m s v=some mem'):afP (OO m) mem mem' :=by
 unfold lU at h
 repeat' split at h
 all_goals first
  |(cases h;done)
  |(cases h;exact .set _ _ _)
theorem KI{e:TypeId}{v:AV}(h:tN T mem e=some (v,mem')):afP l mem mem' :=by unfold tN at h;split at h<;>cases h;exact .push _ _ _
theorem QW{v:AV}(h:Xn mem x=some (v,mem')):afP l mem mem' :=by unfold Xn at h;split at h<;>cases h;exact .push _ _ _
theorem xH{t:TypeId}{n:Nat}{ps}{v:AV}{l:List Nat}(h:gA T mem t n ps=some (v,mem')):afP l mem mem' :=by
 unfold gA at h
 repeat' split at h
 all_goals first
  |(cases h;done)
  |(cases h;exact .push _ _ _)
theorem z8{t:TypeId}{y:AV}{v:AV}(h:lD T mem t x y=some (v,mem')):afP l mem mem' :=by
 unfold lD at h
 repeat' split at h
 all_goals first
  |(cases h;done)
  |(cases h;exact .push _ _ _)
theorem Gs{pt:TypeId}{l v:AV}(h:xL T mem pt x l=some (v,mem')):afP (Ul x) mem mem' :=by
 unfold xL at h
 repeat' split at h
 all_goals first
  |(cases h;done)
  |(cases h;exact .set _ _ _)
theorem zW{s d:TypeId}{v:AV}(h:nK T mem s d x=some (v,mem')):afP l mem mem' :=by
 unfold nK at h
 repeat' split at h
 all_goals first
  |(cases h;done)
  |(cases h;exact .push _ _ _)
theorem KN{v:AV}(h:aOp T env mem op=some (v,mem')):afP (xc env op) mem mem' :=by
 unfold aOp at h
 repeat' split at h
 all_goals first
  |(cases h;done)
  |(cases h;exact .refl _ _)
  |exact KI h
  |exact QW h
  |exact xH h
  |exact z8 h
  |exact wj h
  |(rename_i Z;cases h;exact wj Z)
  |exact zW h
  |exact Gs h
  |exact BO h
  |(cases h;exact .push _ _ _)
  |(rename_i Z;cases h;first | exact KP Z | exact Ab Z | exact xJ Z)
theorem nO{wr:List Nat}{m0:Nat}(h:(wr.any fun b=>decide (b<m0))=false){b:Nat}(H:b<m0):b∉wr:=by intro Z;have:=List.any_eq_false.1 h b Z;simp[H] at this
theorem vo{m0:Nat}(h1:m0<=mem.length)(h2:m0<=mem'.length)(h:∀b,b<m0->mem'[b]? =mem[b]?):mem'.take m0=mem.take m0:=by
 apply List.ext_getElem?;intro b;by_cases Z:b<m0
 .rw[QQQ Z,QQQ Z,h b Z]
 .rw[List.getElem?_eq_none (by simp;omega),List.getElem?_eq_none (by simp;omega)]
def Clean(m0:Nat)(mem:Mem)(d:Bool) (mem' :Mem) (d' :Bool):Prop:=m0<=mem.length->m0<=mem'.length/\(d' =false->d=false/\mem'.take m0=mem.take m0)
theorem Clean.refl(m0:Nat)(mem:Mem)(d:Bool):Clean m0 mem d mem d:=fun h=>⟨h,fun e=>⟨e,rfl⟩⟩
theorem Clean.trans{m0:Nat}{H m2 I:Mem}{d1 d2 d3:Bool}(h:Clean m0 H d1 m2 d2)(h' :Clean m0 m2 d2 I d3):Clean m0 H d1 I d3:=fun Z=>by obtain⟨X,V⟩:=h Z;obtain⟨U,S⟩:=h' X;refine⟨U,fun e=>?_⟩;obtain⟨R,N⟩:=S e;obtain⟨M,L⟩:=V R;exact⟨M,N.trans L⟩
theorem afP.clean{wr:List Nat}{m0:Nat}(h:afP wr mem mem'):Clean m0 mem d mem' (d||wr.any fun b=>decide (b<m0)):=fun Z=>by have X:=QQJ Z h.1;refine⟨X,fun e=>?_⟩;simp only[Bool.or_eq_false_iff] at e;exact⟨e.1,vo Z X fun b V=>h.2 b (by omega) (nO e.2 V)⟩
theorem KS{f:FuncId}(h:kJ env op=some (.fn f,args)):GA env op=some (f,args):=by
 unfold kJ at h;split at h
 .split at h
  .cases h;rename_i Z;simp[GA,Z]
  .cases h
  .cases h
 .cases h
theorem Gu{b:Nat}(h:kJ env op=some (.yld b,args)):AO env op=some (b,args):=by
 unfold kJ at h;split at h
 .split at h
  .cases h
  .cases h;rename_i Z;simp[AO,Z]
  .cases h
 .cases h
section
variable (hO:qS P O)
include hO
theorem CF{r:afh}(hc:kJ env o.op=some (c,args))(h:O c args mem=some r):
  xg P T env mem o r.v (r.mem mem):=by
 cases c with
 |fn f=>exact .inr (.inl ⟨f,args,KS hc,hO.fn _ _ _ _ h⟩)
 |yld b=>exact .inr (.inr ⟨b,args,Gu hc,hO.yld _ _ _ _ h⟩)
theorem yc{r:afh}(h:O c args mem=some r):mem.length<=(r.mem mem).length:=by
 unfold afh.mem;cases hp:r.pre with
 |none=>simp
 |some p=>have:=hO.pre _ _ _ _ p h hp;simp;omega
theorem OC{m0:Nat}{d' :Bool}{v:AV}(h:VZ T O m0 env mem d o=some (v,mem',d')):
  xg P T env mem o v mem' /\Clean m0 mem d mem' d' :=by
 unfold VZ at h;split at h
 .rename_i S R Z
  cases h;exact⟨.inl Z,(KN Z).clean⟩
 .split at h
  .rename_i c args U
   split at h
   .rename_i r X
    cases h;refine⟨CF hO U X,fun V=>⟨QQJ V (yc hO X),fun e=>?_⟩⟩;simp only[Bool.or_eq_false_iff,Option.isSome_eq_false_iff,Option.isNone_iff_eq_none] at e;refine⟨e.1,?_⟩;unfold afh.mem;rw[e.2];simp[QXK V]
   .cases h
  .cases h
end
theorem kW(H:qS P O){N m0:Nat}{ops:Array Oper}:∀{l:List Oper}{s s' :XS},fA T O N m0 ops l s=some s' ->
  ni P T N ops l ⟨s.env,s.mem⟩ ⟨s'.env,s'.mem⟩/\Clean m0 s.mem s.afD s'.mem s'.afD
 | [],s,s',h=>by cases h;exact⟨rfl,.refl _ _ _⟩
 |o::os,s,s',h=>by
  unfold fA at h;split at h
  .rename_i U
   split at h
   .rename_i Z
    split at h
    .rename_i v m L S
     obtain⟨R,M⟩:=OC H S;obtain⟨X,V⟩:=kW H h;exact⟨⟨true,Z,U,(fun e=>by cases e),fun _=>⟨v,m,R,X⟩⟩,M.trans V⟩
    .cases h
   .rename_i Z
    obtain⟨X,V⟩:=kW H h;exact⟨⟨false,Z,U,(fun _=>X),(fun e=>by cases e)⟩,V⟩
   .cases h
  .cases h
end
end Go.Eng
namespace Go.Eng
section
variable {P:Program}{T:TypeId->Option TyI}{O:y9}{N:Nat}{ops:Array Oper}
theorem iJ(H:Nat->Bool):∀(i:Nat) (m:Mem),(bF H i m).length=m.length
 |_,[]=>rfl
 |i,s::r=>by simp[bF,iJ H (i+1) r]
theorem lG(H:Nat->Bool):∀(i:Nat) (m:Mem) (b:Nat),(bF H i m)[b]? =m[b]? \/(bF H i m)[b]? =some .qK
 |_,[],b=>.inl rfl
 |i,s::r,0=>by
  simp only[bF,List.getElem?_cons_zero];split
  .exact .inl rfl
  .exact .inr rfl
 |i,s::r,b+1=>by simp only[bF,List.getElem?_cons_succ];exact lG H (i+1) r b
theorem Cw:∀(i:Nat) (m:Mem) (b:Nat),¬jf (bF (fun _=>false) i m) b
 |_,[],b=>by rintro ⟨s,h,_⟩;simp[bF] at h
 |i,s::r,0=>by rintro ⟨s,h,Z⟩;simp[bF] at h;exact Z h.symm
 |i,s::r,b+1=>by rintro ⟨s,h,Z⟩;simp only[bF,List.getElem?_cons_succ] at h;exact Cw (i+1) r b ⟨s,h,Z⟩
theorem nD(wr:List Nat):∀(i:Nat) (m H :Mem),m.length<=H.length->(bn wr i m H).length=H.length
 |_,[],H,_=>rfl
 |_,_::_,[],h=>by simp at h
 |i,s::r,s' ::r',h=>by simp only[bn,List.length_cons] at h |-;rw[nD wr (i+1) r r' (by omega)]
theorem vd(wr:List Nat):∀(i:Nat) (m H :Mem) (b:Nat),m.length<=H.length->(bn wr i m H)[b]? =if i+b∈wr\/m.length<=b then H[b]? else m[b]?
 |_,[],H,b,_=>by simp[bn]
 |_,_::_,[],_,h=>by simp at h
 |i,s::r,s' ::r',0,h=>by simp only[bn,List.getElem?_cons_zero,List.contains_iff_mem,Nat.add_zero,List.length_cons,Nat.le_zero_eq,Nat.add_one_ne_zero,or_false];split<;>rfl
 |i,s::r,s' ::r',b+1,h=>by simp only[List.length_cons] at h;simp only[bn,List.getElem?_cons_succ];rw[vd wr (i+1) r r' b (by omega)];simp only[List.length_cons,Nat.add_le_add_iff_right];rw[show i+1+b=i+(b+1) by omega]
theorem uV{m:Mem}{b:Nat}:fI m b=true↔jf m b:=by
 unfold fI jf;cases h:m[b]? with
 |none=>simp
 |some s=>cases s<;>simp
theorem DZ:∀(i:Nat) (m:Mem) (b:Nat),i+b∈eZ i m↔jf m b:=by
 intro i m;induction m generalizing i with
 |nil=>intro b;simp[eZ,jf]
 |cons s r ih=>
  intro b;have Z:∀(i:Nat) (m:Mem) (x:Nat),x∈eZ i m->i<=x:=by
   intro i m;induction m generalizing i with
   |nil=>intro x h;simp[eZ] at h
   |cons s r ih=>
    intro x h;have:x∈eZ (i+1) r\/x=i:=by cases s<;>simp only[eZ,List.mem_cons] at h<;>first | exact .inl h | exact h.symm
    rcases this with h | h
    .have:=ih (i+1) x h;omega
    .omega
  cases b with
  |zero=>
   have X:¬(i+0∈eZ (i+1) r):=fun h=>by have:=Z _ _ _ h;omega
   cases s<;>simp[eZ,jf]<;>simpa using X
  |succ b=>
   have:=ih (i+1) b;rw[show i+1+b=i+(b+1) by omega] at this;have V:jf (s::r) (b+1)↔jf r b:=by simp[jf]
   rw[V,<-this];cases s<;>simp[eZ]
structure agP (P:Program)(T:TypeId->Option TyI)(N:Nat)(ops:Array Oper)(r:Rec)(o:Oper):Prop where
 dst:DT N o=true
 wanted:sE ops r.en o=some r.wb
 en:r.en=(o.looksAt ops).map fun t=>(t,ae r.env t)
 step:r.wb=true->xg P T r.en r.tm o r.v r.m'
 skip:r.wb=false->r.v=.tuple []/\r.m' =r.tm
 ag3:r.tm.length=r.mem.length
 ag4:∀b:Nat,r.tm[b]? =r.mem[b]? \/r.tm[b]? =some .qK
 mono:r.mem.length<=r.m'.length
 agQ:r.nx.length=r.m'.length
 nx:∀b:Nat,r.nx[b]? =if b∈r.wr\/r.mem.length<=b then r.m'[b]? else r.mem[b]?
 af4:∀b:Nat,b<r.mem.length->b∉r.wr->jf r.tm b->r.m'[b]? =r.mem[b]?
theorem Em{mem H:Mem}(h:∀b:Nat,H[b]? =mem[b]? \/H[b]? =some .qK){b:Nat}(I:jf H b):H[b]? =mem[b]? :=by
 rcases h b with e | e
 .exact e
 .obtain⟨s,Z,X⟩:=I
  rw[Z] at e;cases e;exact absurd rfl X
theorem G2(H:qS P O){I:List Nat}{j:Nat}{o:Oper}{env:Env}{mem:Mem}{acc:List Rec}{r:Rec}(h:G1 T O N ops I j o env mem acc=some r):
  r.env=env/\r.mem=mem/\agP P T N ops r o:=by
 unfold G1 at h;split at h
 .rename_i L
  simp only at h;split at h
  .cases h
  .rename_i S
   cases h;refine⟨rfl,rfl,L,S,rfl,(fun e=>by cases e),(fun _=>⟨rfl,rfl⟩),iJ _ _ _,(fun b=>lG _ _ _ _),by simp[iJ],by simp[iJ],fun b=>?_,fun b _ _ V=>absurd V (Cw _ _ _)⟩;simp only[List.not_mem_nil,false_or];split
   .rename_i G
    rw[List.getElem?_eq_none G,List.getElem?_eq_none (by rw[iJ];exact G)]
   .rfl
  .rename_i S
   generalize W7 I j acc (Ow (List.map (fun t=>(t,ae env t)) (o.looksAt ops)) o.op)=see at h;have Z:(bF see 0 mem).length=mem.length:=iJ _ _ _;split at h
   .rename_i v m F
    cases h;have U:=KN F;rw[afP,Z] at U;refine⟨rfl,rfl,L,S,rfl,fun _=>.inl F,(fun e=>by cases e),Z,fun b=>lG _ _ _ _,U.1,nD _ _ _ _ U.1,fun b=>?_,fun b V K R=>?_⟩
    .have:=vd (xc (List.map (fun t=>(t,ae env t)) (o.looksAt ops)) o.op) 0 mem m b U.1
     rw[QQZ] at this;exact this
    .rw[U.2 b V K];exact Em (fun b=>lG see 0 mem b) R
   .split at h
    .cases h
    .rename_i c D B
     split at h
     .cases h
     .rename_i X C
      simp only[Pi] at h;subst h;have M:=yc H C;rw[Z] at M;refine⟨rfl,rfl,L,S,rfl,fun _=>CF H B C,(fun e=>by cases e),Z,fun b=>lG _ _ _ _,M,nD _ _ _ _ M,fun b=>?_,fun b V K R=>?_⟩
      .have:=vd (VY (bF see 0 mem) X.pre) 0 mem (X.mem (bF see 0 mem)) b M
       rw[QQZ] at this;exact this
      .cases hp:X.pre with
       |some p=>
        exfalso;apply K;show b∈VY (bF see 0 mem) X.pre
        rw[hp];show b∈eZ 0 (bF see 0 mem)
        have:=(DZ 0 (bF see 0 mem) b).2 R
        rwa [QQZ] at this
       |none=>
        show(X.mem (bF see 0 mem))[b]? =mem[b]?
        unfold afh.mem;rw[hp];simp only[Option.getD_none];rw[GE (by rw[Z];exact V)];exact Em (fun b=>lG see 0 mem b) R
 .cases h
def mD(P:Program)(T:TypeId->Option TyI)(N:Nat)(ops:Array Oper):List Oper->Env->Mem->List Rec->Env->Mem->Prop
 | [],env,mem,[],AC,mem' =>AC =env/\mem' =mem
 |o::os,env,mem,r::rs,AC,mem' =>r.env=env/\r.mem=mem/\agP P T N ops r o/\mD P T N ops os (af9 env o.dst r.v) r.nx rs AC mem'
 |_,_,_,_,_,_=>False
theorem pV(J:qS P O){W:List Nat}:∀{l:List Oper} {j:Nat} {env:Env} {mem:Mem} {acc R:List Rec}{I :Env}{H :Mem},
  nE T O N ops W j l env mem acc=some (R,I,H)->∃Z,R=acc.reverse++Z/\mD P T N ops l env mem Z I H
 | [],j,env,mem,acc,R,I,H,h=>by simp only[nE,Pi,Prod.mk.injEq] at h;obtain⟨rfl,rfl,rfl⟩:=h;exact⟨[],by simp,rfl,rfl⟩
 |o::os,j,env,mem,acc,R,I,H,h=>by
  unfold nE at h;split at h
  .cases h
  .rename_i r X
   obtain⟨V,U,h3⟩:=G2 J X;obtain⟨Z,e,S⟩:=pV J h;exact⟨r::Z,by rw[e];simp,V,U,h3,S⟩
def RI(R:List Rec)(H:Env×Mem)(j:Nat):Env×Mem:=match R[j]? with
 |some r=>(r.env,r.mem)
 |none=>H
theorem zf:∀{l:List Oper} {env:Env} {mem:Mem} {R:List Rec}{I :Env}{H :Mem},mD P T N ops l env mem R I H ->R.length=l.length
 | [],_,_,[],_,_,_=>rfl
 |_::_,_,_,_::_,_,_,h=>by simp only[List.length_cons];rw[zf h.2.2.2]
 | [],_,_,_::_,_,_,h=>h.elim
 |_::_,_,_,[],_,_,h=>h.elim
theorem wR:∀{l:List Oper} {env:Env} {mem:Mem} {R:List Rec}{I :Env}{H :Mem},mD P T N ops l env mem R I H ->RI R (I,H) 0=(env,mem)
 | [],_,_,[],_,_,h=>by obtain⟨rfl,rfl⟩:=h;rfl
 |_::_,_,_,_::_,_,_,h=>by obtain⟨rfl,rfl,_⟩:=h;rfl
 | [],_,_,_::_,_,_,h=>h.elim
 |_::_,_,_,[],_,_,h=>h.elim
theorem CM:∀{l:List Oper} {env:Env} {mem:Mem} {R:List Rec}{I :Env}{H :Mem},mD P T N ops l env mem R I H ->∀(j:Nat) (o:Oper),l[j]? =some o->
  ∃r,R[j]? =some r/\agP P T N ops r o/\RI R (I,H) (j+1)=(af9 r.env o.dst r.v,r.nx)
 |o::os,_,_,r::rs,I,H,h,0,o',ho=>by cases ho;obtain⟨rfl,rfl,h3,Z⟩:=h;exact⟨r,rfl,h3,wR Z⟩
 |o::os,_,_,r::rs,I,H,h,j+1,o',ho=>by obtain⟨_,_,_,Z⟩:=h;obtain⟨X,V,U,g3⟩:=CM Z j o' ho;exact⟨X,V,U,g3⟩
 | [],_,_,_,_,_,_,j,_,ho=>by simp at ho
 |_::_,_,_,[],_,_,h,_,_,_=>h.elim
theorem mR:∀(i:Nat) (R:List Rec) (j:Nat) (r:Rec),R[j]? =some r->(i+j,r)∈bw i R
 |i,x::xs,0,r,h=>by cases h;simp[bw]
 |i,x::xs,j+1,r,h=>by simp only[List.getElem?_cons_succ] at h;have:=mR (i+1) xs j r h;rw[show i+1+j=i+(j+1) by omega] at this;simp[bw,this]
 |_,[],_,_,h=>by simp at h
end
variable{R:List Rec}{bs:List Nat}{j:Nat}
section
variable {P:Program}{T:TypeId->Option TyI}{O:y9}{N:Nat}{ops:Array Oper}
def Wc(bs:List Nat)(R:List Rec)(j:Nat):List (Nat×Rec):=(bw 0 R).filter fun f=>decide (f.1<j)&& !bef bs f.1 j
def pF(n:Nat)(bs:List Nat)(R:List Rec)(H:Env×Mem):afQ where
 E j:=(RI R H j).1
 M j:=(RI R H j).2
 En j:=match R[j]? with | some r=>r.en | none=>[]
 Tm j:=match R[j]? with | some r=>r.tm | none=>[]
 M' j:=match R[j]? with | some r=>r.m' | none=>[]
 v j:=match R[j]? with | some r=>r.v | none=>.undef
 wb j:=match R[j]? with | some r=>r.wb | none=>false
 af1 j b:=match R[j]? with | some r=>decide (b∈r.wr)||decide (r.mem.length<=b) | none=>false
 ok j b:=match R[j]? with | some r=>jo r.nx.length (Wc bs R j) b | none=>false
 cl i j:=decide (i<n)&&bef bs i j
theorem B9(h:nU ops bs=true){o:Oper}(H:ops[j]? =some o):
  (∀e∈o.after,Region.binds .any e=true->e.on<j)/\
  (∀i,i<ops.size->bef bs i j=true->∃e∈o.after,Region.binds .any e=true/\(e.on=i\/bef bs i e.on=true))/\
  ∀(i:Nat) X t,ops[i]? =some X->i≠j->X.dst=some t->(t∈o.looksAt ops\/o.dst=some t)->bef bs i j=true\/bef bs j i=true:=by
 have F:j<ops.size:=(Nm.1 H).1;unfold nU at h;have:=List.all_eq_true.1 h j (by simpa using F);simp only[H,C0,List.all_eq_true,List.mem_range] at this;obtain⟨D,K⟩:=this;refine⟨fun e V U=>?_,fun i Z U=>?_,fun i X t Z C B S=>?_⟩
 .have:=D e (by simpa using V)
  simpa [U] using this
 .have:=(K i Z).1
  simp only[U,Bool.not_true,Bool.false_or,List.any_eq_true] at this;obtain⟨e,V,M⟩:=this;simp only[C0,QXZ,beq_iff_eq] at M;exact⟨e,by simpa using V,M.1,M.2⟩
 .have L:i<ops.size:=(Nm.1 Z).1
  have:=(K i L).2;simp only[Z,B,QXZ,beq_iff_eq,C,false_or,C0,Bool.not_eq_true',List.contains_eq_mem,decide_eq_false_iff_not] at this;rcases this with (h3 | h3) | ⟨h3,G⟩
  .exact .inl h3
  .exact .inr h3
  .rcases S with h5 | h5
   .exact absurd h5 h3
   .rw[h5] at G;simp at G
structure agw (bs:List Nat)(R:List Rec)(j:Nat)(r:Rec):Prop where
 wr:∀b∈r.wr,jf r.tm b
 ag6:r.v.adM (jo r.nx.length (Wc bs R j))=true
 ahN:∀(b:Nat) s,b∈r.wr->r.nx[b]? =some s->s.adM (jo r.nx.length (Wc bs R j))=true
 fresh:∀(b:Nat) s,r.mem.length<=b->r.nx[b]? =some s->(s≠ .qK->s.own=true)/\s.adM (jo r.nx.length (Wc bs R j))=true
 aho:∀(i:Nat) f,i<j->R[i]? =some f->bef bs i j=false->(∀b∈f.wr,¬jf r.tm b)/\(∀b∈r.wr,¬jf f.tm b)/\∀b,f.mem.length<=b->b<f.nx.length->¬jf r.tm b
theorem GD{r:Rec}(h:jc bs (bw 0 R) j r=true):agw bs R j r:=by
 unfold jc at h;simp only[C0] at h;obtain⟨⟨⟨⟨M,L⟩,h3⟩,K⟩,G⟩:=h;refine⟨fun b Z=>uV.1 (List.all_eq_true.1 M b Z),L,fun b s Z X=>?_,fun b s Z X=>?_,fun i f F D Z=>?_⟩
 .have:=List.all_eq_true.1 h3 b Z
  rw[X] at this;exact this
 .have U:s∈r.nx.drop r.mem.length:=by apply J1 (i:=b-r.mem.length);rw[QQa,<-X];congr 1;omega
  have:=List.all_eq_true.1 K s U;simp only[C0,QXZ] at this;refine⟨fun C=>?_,this.2⟩;rcases this.1 with h | h
  .exact h
  .cases s<;>simp_all
 .have S:(i,f)∈Wc bs R j:=by unfold Wc;rw[List.mem_filter];have:=mR 0 R i f D;rw[QQZ] at this;exact⟨this,by simp[F,Z]⟩
  have:=List.all_eq_true.1 G (i,f) S;simp only[C0,List.all_eq_true,Bool.not_eq_true'] at this;obtain⟨⟨B,u⟩,o⟩:=this;refine⟨fun b Z V=>?_,fun b Z V=>?_,fun b m Y V=>?_⟩
  .have:=B b Z;rw[uV.2 V] at this;cases this
  .have:=u b Z;rw[uV.2 V] at this;cases this
  .obtain⟨s,X,C⟩:=V
   have U:s∈(r.tm.drop f.mem.length).take (f.nx.length-f.mem.length):=by apply J1 (i:=b-f.mem.length);rw[QQQ (by omega),QQa,<-X];congr 1;omega
   have:=o s U;cases s<;>simp_all
theorem EJ{env:Env}:∀(l:List Tmp) (t:Nat),(t∈l/\ae (l.map fun t=>(t,ae env t)) t=ae env t)\/(t∉l/\ae (l.map fun t=>(t,ae env t)) t=.undef)
 | [],t=>.inr ⟨by simp,rfl⟩
 |x::xs,t=>by
  simp only[List.map_cons,ae];by_cases Z:x=t
  .subst Z;exact .inl ⟨by simp,by simp⟩
  .simp only[Z,if_false]
   rcases EJ (env:=env) xs t with⟨X,V⟩ | ⟨X,V⟩
   .exact .inl ⟨by simp[X],V⟩
   .exact .inr ⟨by simp[X,Ne.symm Z],V⟩
theorem Vq{m:Mem}{b:Nat}(h:jf m b):b<m.length:=by obtain⟨s,h,_⟩:=h;exact(gL h)
theorem Vl{env I :Env}{mem H :Mem}(hs:nU ops bs=true)(hR:mD P T N ops ops.toList env mem R I H)(hC:∀(j:Nat) r,R[j]? =some r->agw bs R j r):tw P T N ops (pF ops.size bs R (I,H)):=by
 have m:∀(j:Nat) o,ops[j]? =some o->∃r,R[j]? =some r/\agP P T N ops r o/\RI R (I,H) (j+1)=(af9 r.env o.dst r.v,r.nx):=
  fun j o ho=>CM hR j o (by simpa using ho)
 have M_at:∀(j:Nat) r,R[j]? =some r->(pF ops.size bs R (I,H)).M j=r.mem:=fun j r h=>by simp[pF,RI,h]
 have lens:∀(i:Nat) U L,ops[i]? =some L->R[i]? =some U->∀(k j:Nat) B oj,j=i+1+k->ops[j]? =some oj->R[j]? =some B->U.nx.length<=B.mem.length:=by
  intro i U L X Z k;induction k with
  |zero=>
   intro j B oj hj hoj Y;obtain⟨r,g1,g2,g3⟩:=m i L X;rw[Z] at g1;cases g1;have:RI R (I,H) (i+1)=(B.env,B.mem):=by rw[show i+1=j by omega];simp[RI,Y]
   rw[this] at g3;have:=congrArg Prod.snd g3;simp only at this;rw[this];exact L9 _
  |succ k ih=>
   intro j B oj hj hoj Y;have hjs:j<ops.size:=(Nm.1 hoj).1;obtain⟨op,hop⟩:=Ak (ops:=ops) (j:=j-1) (by omega);obtain⟨r,g1,g2,g3⟩:=m (j-1) op hop;have h1:=ih (j-1) r op (by omega) hop g1;have:RI R (I,H) (j-1+1)=(B.env,B.mem):=by rw[show j-1+1=j by omega];simp[RI,Y]
   rw[this] at g3;have e:=congrArg Prod.snd g3;simp only at e;have:=g2.agQ;have:=g2.mono;rw[e];omega
 have abq :∀(i j:Nat) U B L oj,i<j->ops[i]? =some L->ops[j]? =some oj->R[i]? =some U->R[j]? =some B->U.nx.length<=B.mem.length:=
  fun i j U B L oj hij X hoj Z Y=>lens i U L X Z (j-i-1) j B oj (by omega) hoj Y
 intro j o ho;obtain⟨r,G,K,abZ⟩:=m j o ho;have C:=hC j r G;have S:=B9 hs ho;have hjs:j<ops.size:=(Nm.1 ho).1;have eM:(pF ops.size bs R (I,H)).M j=r.mem:=M_at j r G;have F:(pF ops.size bs R (I,H)).M (j+1)=r.nx:=by simp[pF,abZ]
 have eE:(pF ops.size bs R (I,H)).E j=r.env:=by simp[pF,RI,G]
 have eE1:(pF ops.size bs R (I,H)).E (j+1)=af9 r.env o.dst r.v:=by simp[pF,abZ]
 have eEn:(pF ops.size bs R (I,H)).En j=r.en:=by simp[pF,G]
 have eT:(pF ops.size bs R (I,H)).Tm j=r.tm:=by simp[pF,G]
 have W :(pF ops.size bs R (I,H)).M' j=r.m' :=by simp[pF,G]
 have ev:(pF ops.size bs R (I,H)).v j=r.v:=by simp[pF,G]
 have ew:(pF ops.size bs R (I,H)).wb j=r.wb:=by simp[pF,G]
 have u:∀b,(pF ops.size bs R (I,H)).af1 j b=true↔b∈r.wr\/r.mem.length<=b:=fun b=>by simp[pF,G]
 have aaQ:∀b,(pF ops.size bs R (I,H)).af1 j b=false↔b∉r.wr/\b<r.mem.length:=fun b=>by simp[pF,G]
 have eok:(pF ops.size bs R (I,H)).ok j=jo r.nx.length (Wc bs R j):=by funext b;simp[pF,G]
 have D:∀i k,i<ops.size->(pF ops.size bs R (I,H)).cl i k=bef bs i k:=fun i k hi=>by simp[pF,hi]
 have ab0:r.mem.length<=r.nx.length:=by rw[K.agQ];exact K.mono
 refine⟨by rw[eEn,ew];exact K.wanted,K.dst,?_,?_,by rw[eE1,eE,ev],?_,?_,by rw[eT,eM];exact K.ag3,by rw[eT,eM];exact K.ag4,by rw[F,W];exact K.agQ,by rw[eM,F];exact ab0,
  ?_,?_,?_,?_,?_,?_,?_,?_,?_,?_,S.1,?_⟩
 .rw[ew,eEn,eT,ev,W];exact K.step
 .rw[ew,ev,W,eT];exact K.skip
 .intro t
  rw[eEn,eE,K.en];rcases EJ (env:=r.env) (o.looksAt ops) t with⟨h1,h2⟩ | ⟨h1,h2⟩
  .refine .inr ⟨h2,fun i L hi I' J=>?_⟩
   rw[D i j (Nm.1 hi).1,D j i hjs];exact S.2.2 i L t hi I' J (.inl h1)
  .exact .inl h2
 .intro i L t hi I' h1 h2
  rw[D i j (Nm.1 hi).1,D j i hjs];exact S.2.2 i L t hi I' h2 (.inr h1)
 .intro b V
  rw[F,W,K.nx b,if_pos ((u b).1 V)]
 .intro b V J
  rw[eM] at V;rw[F,eM,K.nx b,if_neg];rw[aaQ] at J;rintro (h | h)
  .exact J.1 h
  .omega
 .intro b V J hB
  rw[eM] at V;rw[W,eM];rw[aaQ] at J;rw[eT] at hB;exact K.af4 b V J.1 hB
 .intro b V
  rw[eM] at V;exact(u b).2 (.inr V)
 .intro b J V
  rw[eM] at V;rw[eT];rcases (u b).1 J with h | h
  .exact C.wr b h
  .omega
 .
  intro i L b X hij hbi hti hor;obtain⟨U,Z,Ki,hni⟩:=m i L X;have Ci:=hC i U Z;have eMi:(pF ops.size bs R (I,H)).M (i+1)=U.nx:=by simp[pF,hni]
  rw[eMi] at hbi;have adf :b∈U.wr\/U.mem.length<=b:=by simpa [pF,Z] using hti
  rw[F,eT] at hor;rw[D i j (Nm.1 X).1,D j i hjs];by_cases FS:i<j
  .cases V:bef bs i j with
   |true=>exact .inl rfl
   |false=>
    exfalso;obtain⟨p1,p2,p3⟩:=C.aho i U FS Z V;have hl:=abq i j U r L o FS X ho Z G;have adg:¬jf r.tm b:=by
     rcases adf with h | h
     .exact p1 b h
     .exact p3 b h hbi
    rcases hor with⟨g1,g2⟩ | g
    .rcases (u b).1 g2 with h | h
     .exact adg (C.wr b h)
     .omega
    .exact adg g
  .cases V:bef bs j i with
   |true=>exact .inr rfl
   |false=>
    exfalso;obtain⟨p1,p2,p3⟩:=Ci.aho j r (by omega) G V;have hl:=abq j i r U o L (by omega) ho X G Z;have htl:=K.ag3;rcases adf with h | h
    .rcases hor with⟨g1,g2⟩ | g
     .rcases (u b).1 g2 with h' | h'
      .exact p2 b h (C.wr b h')
      .exact p3 b h' g1 (Ci.wr b h)
     .exact p2 b h g
    .rcases hor with⟨g1,g2⟩ | g
     .omega
     .have:=Vq g;omega
 .
  intro i b L X Zj h1 h2;obtain⟨U,Z,Ki,hni⟩:=m i L X;have eMi:(pF ops.size bs R (I,H)).M (i+1)=U.nx:=by simp[pF,hni]
  rw[M_at i U Z] at h1;rw[eMi] at h2;rw[eok] at Zj;unfold jo at Zj;simp only[C0,Es,List.all_eq_true,Bool.not_eq_true',decide_eq_false_iff_not] at Zj;by_cases hij:i=j
  .exact .inl hij
  .refine .inr ?_
   rw[D i j (Nm.1 X).1];by_cases FS:i<j
   .cases V:bef bs i j with
    |true=>rfl
    |false=>
     exfalso;have aan:(i,U)∈Wc bs R j:=by unfold Wc;rw[List.mem_filter];have:=mR 0 R i U Z;rw[QQZ] at this;exact⟨this,by simp[FS,V]⟩
     exact Zj.2 (i,U) aan ⟨h1,h2⟩
   .exfalso
    have hl:=abq j i r U o L (by omega) ho X G Z;omega
 .rw[ev,eok];exact C.ag6
 .intro b s J hs
  rw[F] at hs;rw[eok];rcases (u b).1 J with h | h
  .exact C.ahN b s h hs
  .exact(C.fresh b s h hs).2
 .intro b s V hs I'
  rw[eM] at V;rw[F] at hs |-;exact⟨s,hs,(C.fresh b s V hs).1 I'⟩
 .intro i V
  simp only[pF,C0,Es] at V;obtain⟨e,h1,h2,h3⟩:=S.2.1 i V.1 V.2;refine⟨e,h1,h2,?_⟩;rcases h3 with h | h
  .exact .inl h
  .exact .inr (by simp[pF,V.1,h])
theorem G5(H:P.follows .mixedOrders=true)(hT:dN P T)(I:qS P O){m0:Nat}{s s' :XS}(J:nU ops (dO ops.toList)=true)(h:aG T O N m0 ops s=some s'):
  (∀(tp:Bool) (id:Nat) (Q:Exit->St->Prop),Q .normal ⟨s'.env,s'.mem⟩->AWP P tp N m0 (.region id ops true) ⟨s.env,s.mem⟩ Q)/\Clean m0 s.mem s.afD s'.mem s'.afD:=by
 unfold aG at h;simp only at h
 .split at h
  .cases h
  .rename_i R env mem C
   split at h
   .rename_i B
    cases h;obtain⟨Z,e,V⟩:=pV I C;simp only[List.reverse_nil,List.nil_append] at e;subst e;have u:∀(j:Nat) r,R[j]? =some r->agw (dO ops.toList) R j r:=by intro j r Y;have:=mR 0 R j r Y;rw[QQZ] at this;exact GD (List.all_eq_true.1 B _ this)
    have W:=Vl J V u;have D:=wR V;have F':=zf V;have U:RI R (env,mem) ops.size=(env,mem):=by unfold RI;rw[List.getElem?_eq_none (by rw[F'];simp)]
    refine⟨fun tp id Q hq=>BX H hT (d:=pF ops.size (dO ops.toList) R (env,mem)) W (by simp[pF,D]) (by simp[pF,D]) (by simp[pF,U]) hq,?_⟩;have S:∀(l:List Oper) (e:Env) (m:Mem) (Z:List Rec),mD P T N ops l e m Z env mem->m0<=m.length->m0<=mem.length/\((Z.any fun r=>r.wr.any fun b=>decide (b<m0))=false->mem.take m0=m.take m0):=by
     intro l;induction l with
     |nil=>
      intro e m Z h X;cases Z with
      |nil=>obtain⟨rfl,rfl⟩:=h;exact⟨X,fun _=>rfl⟩
      |cons=>exact h.elim
     |cons o os ih=>
      intro e m Z h X;cases Z with
      |nil=>exact h.elim
      |cons r Z=>
       obtain⟨rfl,rfl,K,h4⟩:=h;have ab0:r.mem.length<=r.nx.length:=by rw[K.agQ];exact K.mono
       obtain⟨M,L⟩:=ih _ _ _ h4 (by omega);refine⟨M,fun G=>?_⟩;simp only[List.any_cons,Bool.or_eq_false_iff] at G;rw[L G.2];refine vo X (by omega) fun b hb=>?_
       rw[K.nx b,if_neg];rintro (h | h)
       .exact nO G.1 hb h
       .omega
    intro X;obtain⟨M,L⟩:=S _ _ _ _ V X;refine⟨M,fun F=>?_⟩;simp only[Bool.or_eq_false_iff] at F;exact⟨F.1,L F.2⟩
   .cases h
end
end Go.Eng
namespace Go.Eng
variable{e z':Env}
section
variable {P:Program}{T:TypeId->Option TyI}{lv:Code->List Nat}{O:y9}{K N m0:Nat}{tp:Bool}
def Yh(P:Program)(tp:Bool)(N m0:Nat)(c:Code)(s:XS)(e:Exit) (s' :XS):Prop:=
 (∀Q:Exit->St->Prop,Q e ⟨s'.env,s'.mem⟩->AWP P tp N m0 c ⟨s.env,s.mem⟩ Q)/\Clean m0 s.mem s.afD s'.mem s'.afD
def afY(wr:List Nat) (e H :Env):Prop:=∀t,t∉wr->ae H t=ae e t
theorem afY.refl(wr:List Nat)(e:Env):afY wr e e:=fun _ _=>rfl
theorem afY.trans{wr:List Nat}{H I J:Env}(h:afY wr H I)(h' :afY wr I J):afY wr H J:=fun t Z=>(h' t Z).trans (h t Z)
theorem afY.mono{wr wr' :List Nat}{H :Env}(h:afY wr e H)(I:∀t,t∈wr->t∈wr'):afY wr' e H :=fun t Z=>h t fun X=>Z (I t X)
theorem jl(a b:Env)(t:Nat)(h:∀e∈a,e.1≠t):ae (a++b) t=ae b t:=by
 induction a with
 |nil=>rfl
 |cons e r ih=>
  obtain⟨k,v⟩:=e;simp only[List.cons_append,ae];rw[if_neg (h (k,v) (by simp))];exact ih fun e Z=>h e (by simp[Z])
theorem iu(l:List Nat)(g:Nat->AV)(b:Env)(t:Nat)(h:t∈l):ae (l.map (fun t=>(t,g t))++b) t=g t:=by
 induction l with
 |nil=>cases h
 |cons x r ih=>
  simp only[List.map_cons,List.cons_append,ae];by_cases Z:x=t
  .subst Z;rw[if_pos rfl]
  .rw[if_neg Z]
   exact ih (by cases h with
    |head=>exact absurd rfl Z
    |tail _ h=>exact h)
theorem sS{lv wr:List Nat}{env:Env}(h:afY wr z' env)(t:Nat):ae (aw lv wr z' env) t=ae env t\/ae (aw lv wr z' env) t=.undef:=by
 unfold aw;rw[Y1];by_cases X:t∈lv
 .rw[iu lv (fun t=>ae env t) _ t X];exact .inl rfl
 .rw[jl _ _ t (by intro e Z;simp only[QQh] at Z;obtain⟨x,V,rfl⟩:=Z;intro e;exact X (e▸V))]
  by_cases U:t∈wr
  .rw[iu (wr.filter fun t=> !lv.contains t) (fun _=>AV.undef) _ t (by rw[List.mem_filter];exact⟨U,by simpa using X⟩)];exact .inr rfl
  .rw[jl _ _ t (by intro e Z;simp only[QQh,List.mem_filter] at Z;obtain⟨x,V,rfl⟩:=Z;intro e;exact U (e▸V.1))]
   exact .inl (h t U).symm
theorem oG{lv wr:List Nat}{env:Env}(H:afY wr z' env):afY wr z' (aw lv wr z' env):=by
 intro t V;unfold aw;rw[Y1];by_cases U:t∈lv
 .rw[iu lv (fun t=>ae env t) _ t U];exact H t V
 .rw[jl _ _ t (by intro e Z;simp only[QQh] at Z;obtain⟨x,X,rfl⟩:=Z;intro e;exact U (e▸X)),
   jl _ _ t (by intro e Z;simp only[QQh,List.mem_filter] at Z;obtain⟨x,X,rfl⟩:=Z;intro e;exact V (e▸X.1))]
theorem CV{wr:List Nat}{o:Oper}{v:AV}(h:∀d,o.dst=some d->d∈wr):afY wr e (af9 e o.dst v):=by intro t Z;exact LD fun X=>Z (h t X)
theorem pU{m0:Nat}{ops:Array Oper}:∀{l:List Oper}{s s' :XS},fA T O N m0 ops l s=some s' ->afY (l.filterMap (·.dst)) s.env s'.env
 | [],s,s',h=>by cases h;exact .refl _ _
 |o::os,s,s',h=>by
  have X:∀t,t∈os.filterMap (·.dst)->t∈(o::os).filterMap (·.dst):=fun t V=>by
   rw[List.filterMap_cons];split
   .exact V
   .exact List.mem_cons_of_mem _ V
  have Z:∀d,o.dst=some d->d∈(o::os).filterMap (·.dst):=fun d Z=>by rw[List.filterMap_cons];simp[Z]
  unfold fA at h;split at h
  .split at h
   .split at h
    .exact(CV Z).trans ((pU h).mono X)
    .cases h
   .exact(CV Z).trans ((pU h).mono X)
   .cases h
  .cases h
theorem L3{ops:Array Oper}:∀{l:List Oper} {env:Env} {mem:Mem} {R:List Rec}{I :Env}{H :Mem},mD P T N ops l env mem R I H ->afY (l.filterMap (·.dst)) env I
 | [],_,_,[],_,_,h=>by obtain⟨rfl,_⟩:=h;exact .refl _ _
 |o::os,_,_,r::rs,_,_,h=>by
  obtain⟨rfl,_,_,V⟩:=h;have U:∀t,t∈os.filterMap (·.dst)->t∈(o::os).filterMap (·.dst):=fun t X=>by
   rw[List.filterMap_cons];split
   .exact X
   .exact List.mem_cons_of_mem _ X
  have Z:∀d,o.dst=some d->d∈(o::os).filterMap (·.dst):=fun d Z=>by rw[List.filterMap_cons];simp[Z]
  exact(CV Z).trans ((L3 V).mono U)
 | [],_,_,_::_,_,_,h=>h.elim
 |_::_,_,_,[],_,_,h=>h.elim
theorem Ma(H:qS P O){m0:Nat}{ops:Array Oper}{s s' :XS}(h:aG T O N m0 ops s=some s'):afY (ops.toList.filterMap (·.dst)) s.env s'.env:=by
 unfold aG at h;simp only at h;split at h
 .cases h
 .rename_i R env mem Z
  split at h
  .cases h
   obtain⟨V,e,X⟩:=pV H Z;exact L3 X
  .cases h
mutual
theorem afj.refs{μ:Nat->Place}{n:Nat}:∀{v V},afj μ n v V->v.refs n=[]
 |.undef,_,_=>rfl
 |.bool _,_,_=>rfl
 |.int _ _,_,_=>rfl
 |.str _,_,_=>rfl
 |.ptr b o,V,h=>by simp only[afj] at h;simp[AV.refs,h.1]
 |.afw,_,_=>rfl
 |.slice b o l c,V,h=>by simp only[afj] at h;simp[AV.refs,h.1]
 |.qF,_,_=>rfl
 |.map b,V,h=>by simp only[afj] at h;simp[AV.refs,h.1]
 |.yield b,V,h=>by simp only[afj] at h;simp[AV.refs,h.1]
 |.afG,_,_=>rfl
 |.func f Z,V,h=>by simp only[afj] at h;obtain⟨X,_,h⟩:=h;simp[AV.refs,afk.refs h]
 |.nilFunc,_,_=>rfl
 |.iface t v,V,h=>by simp only[afj] at h;obtain⟨U,_,h⟩:=h;simp[AV.refs,afj.refs h]
 |.nilIface,_,_=>rfl
 |.agg Z,V,h=>by simp only[afj] at h;obtain⟨X,_,h⟩:=h;simp[AV.refs,afk.refs h]
 |.tuple Z,V,h=>by simp only[afj] at h;obtain⟨X,_,h⟩:=h;simp[AV.refs,afk.refs h]
theorem afk.refs{μ:Nat->Place}{n:Nat}:∀{vs Us},afk μ n vs Us->AV.afy n vs=[]
 | [],_,_=>rfl
 |v::vs,_,h=>by simp only[afk] at h;obtain⟨U,V,_,Z,X⟩:=h;simp[AV.afy,afj.refs Z,afk.refs X]
end
mutual
theorem AV.afA{H:Nat}{ks:List Nat}:∀{v:AV},v.refs H=[]->v.ren (rho H ks)=v
 |.undef,_=>rfl
 |.bool _,_=>rfl
 |.int _ _,_=>rfl
 |.str _,_=>rfl
 |.ptr b o,h=>by
  have Z:b<H:=by
   by_cases Z:b<H
   .exact Z
   .simp[AV.refs,Z] at h
  simp[AV.ren,rho,Z]
 |.afw,_=>rfl
 |.slice b o l c,h=>by
  have Z:b<H:=by
   by_cases Z:b<H
   .exact Z
   .simp[AV.refs,Z] at h
  simp[AV.ren,rho,Z]
 |.qF,_=>rfl
 |.map b,h=>by
  have Z:b<H:=by
   by_cases Z:b<H
   .exact Z
   .simp[AV.refs,Z] at h
  simp[AV.ren,rho,Z]
 |.yield b,h=>by
  have Z:b<H:=by
   by_cases Z:b<H
   .exact Z
   .simp[AV.refs,Z] at h
  simp[AV.ren,rho,Z]
 |.afG,_=>rfl
 |.func f X,h=>by simp only[AV.refs] at h;simp[AV.ren,AV.afZ h]
 |.nilFunc,_=>rfl
 |.iface t v,h=>by simp only[AV.refs] at h;simp[AV.ren,AV.afA h]
 |.nilIface,_=>rfl
 |.agg X,h=>by simp only[AV.refs] at h;simp[AV.ren,AV.afZ h]
 |.tuple X,h=>by simp only[AV.refs] at h;simp[AV.ren,AV.afZ h]
theorem AV.afZ{H:Nat}{ks:List Nat}:∀{vs:List AV},AV.afy H vs=[]->AV.afz (rho H ks) vs=vs
 | [],_=>rfl
 |v::vs,h=>by simp only[AV.afy,List.append_eq_nil_iff] at h;simp[AV.afz,AV.afA h.1,AV.afZ h.2]
end
variable{ks:List Nat}{m1:Nat}
theorem afl.afA{s:afl}(h:s.refs m1=[]):s.ren (rho m1 ks)=s:=by
 cases s with
 |qK=>rfl
 |cells own es cs=>simp only[afl.refs] at h;simp only[afl.ren,AV.afZ h]
 |map es=>
  simp only[afl.refs,List.flatMap_eq_nil_iff] at h;simp only[afl.ren];congr 1;conv=>rhs;rw[<-List.map_id es]
  apply List.map_congr_left;intro e Z;have:=h e Z;rw[List.append_eq_nil_iff] at this;rw[AV.afA this.1,AV.afA this.2];rfl
 |afS es=>
  simp only[afl.refs,List.flatMap_eq_nil_iff] at h;simp only[afl.ren];congr 1;conv=>rhs;rw[<-List.map_id es]
  apply List.map_congr_left;intro e Z;have:=h e Z;rw[List.append_eq_nil_iff] at this;rw[AV.afA this.1,AV.afA this.2];rfl
 |loop r=>
  simp only[afl.refs,List.flatMap_eq_nil_iff] at h;simp only[afl.ren,su];congr 1;have:r.env.map (fun e=>(e.1,e.2.ren (rho m1 ks)))=r.env:=by
   conv=>rhs;rw[<-List.map_id r.env]
   apply List.map_congr_left;intro e Z;rw[AV.afA (h e Z)];rfl
  rw[this]
variable{Q:Exit->St->Prop}
theorem AWP.assume{c:Code}{H:St}(h:m0<=H.mem.length->(∀t,(ae H.env t).refs H.mem.length=[])->AWP P tp N m0 c H Q):AWP P tp N m0 c H Q:=
 fun ro h0 base μ w a hro h1 h2 h3 h4 h5=>h h5 (fun t=>(h2 t).refs) ro h0 base μ w a hro h1 h2 h3 h4 h5
theorem Lg{mem:Mem}(h:(mem.take m1).all (fun s=>(s.refs m1).isEmpty)=true):afu m1 ks mem=mem.take m1++af4 m1 ks mem:=by
 unfold afu;congr 1;conv=>rhs;rw[<-List.map_id (mem.take m1)]
 apply List.map_congr_left;intro s Z;have:=List.all_eq_true.1 h s Z;rw[List.isEmpty_iff] at this;rw[afl.afA this];rfl
variable{lw:List Nat}
section
variable{wr:List Nat}
include wr
theorem sT{g:Nat->AV}(t:Nat):
  ae ((lw.filter fun t=>wr.contains t).map (fun t=>(t,g t))++((wr.filter fun t=> !lw.contains t).map fun t=>(t,AV.undef))++z') t=
   if t∈wr then (if t∈lw then g t else .undef) else ae z' t:=by
 rw[Y1];by_cases X:t∈wr
 .by_cases V:t∈lw
  .rw[if_pos X,if_pos V]
   exact iu _ g _ t (by rw[List.mem_filter];exact⟨V,by simpa using X⟩)
  .rw[if_pos X,if_neg V,jl _ _ t (by intro e Z;simp only[QQh,List.mem_filter] at Z;obtain⟨x,U,rfl⟩:=Z;intro e;exact V (e▸U.1))]
   exact iu (wr.filter fun t=> !lw.contains t) (fun _=>AV.undef) _ t (by rw[List.mem_filter];exact⟨X,by simpa using V⟩)
 .rw[if_neg X,jl _ _ t (by intro e Z;simp only[QQh,List.mem_filter] at Z;obtain⟨x,U,rfl⟩:=Z;intro e;exact X (e▸by simpa using U.2)),
   jl _ _ t (by intro e Z;simp only[QQh,List.mem_filter] at Z;obtain⟨x,U,rfl⟩:=Z;intro e;exact X (e▸U.1))]
theorem RC{s:XS}(h:afY wr z' s.env):afY wr z' (LN lw wr z' m1 s).env:=by
 unfold LN;simp only;split
 .intro t Z
  simp only;rw[sT,if_neg Z]
 .exact oG h
theorem EZ{s:XS}(h:afY wr z' s.env):afY wr z' (mg lw wr z' m1 s).env:=by
 unfold mg;split
 .exact oG h
 .simp only
  split
  .intro t Z
   simp only;rw[sT,if_neg Z]
  .split
   .exact RC h
   .exact oG h
theorem N6{s:XS}(H:m0<=m1):Clean m0 s.mem s.afD (mg lw wr z' m1 s).mem (mg lw wr z' m1 s).afD:=by
 unfold mg;split
 .exact .refl _ _ _
 .rename_i Z
  have Z:=fun h=>Z (.inr h)
  simp only;split
  .intro h
   refine⟨by simp only[SP,S2];omega,fun e=>⟨e,?_⟩⟩;simp only;rw[QXK (by simp only[S2];omega),List.take_take];congr 1;omega
  .split
   .unfold LN
    simp only;split
    .intro h
     exact⟨by show m0<=(afu m1 _ s.mem).length;rw[fZ (by omega)];omega,fun e=>by cases e⟩
    .exact .refl _ _ _
   .exact .refl _ _ _
theorem RQ{s:XS}(h:afY wr z' s.env)(h0:∀t,(ae z' t).refs m1=[])(H:m0<=m1)(I:m1<=s.mem.length):
  age m0 ⟨s.env,s.mem⟩ ⟨(LN lw wr z' m1 s).env,(LN lw wr z' m1 s).mem⟩:=by
 unfold LN;simp only;split
 .rename_i V
  obtain⟨ks,U⟩:=xE (qs m1 s.mem 1000 ((lw.flatMap fun t=>(ae s.env t).refs m1)++(s.mem.take m1).flatMap (afl.refs m1)) []);rw[<-U] at V |-;have S:age m0 ⟨s.env,s.mem⟩ ⟨su (rho m1 ks) s.env,afu m1 ks s.mem⟩:=by intro base μ w tmps Z X h3;obtain⟨μ1,R,M,L,G⟩:=age.afu (env:=s.env) _ V base μ w tmps Z X I;exact⟨μ1,R,M,QQJ H L,G.mono H⟩
  refine S.trans (age.env fun t=>?_);rw[sT,jm];by_cases Z:t∈wr
  .rw[if_pos Z]
   by_cases X:t∈lw
   .rw[if_pos X];exact .inl rfl
   .rw[if_neg X];exact .inr rfl
  .rw[if_neg Z,h t Z,AV.afA (h0 t)];exact .inl rfl
 .exact age.env fun t=>sS h t
theorem RR{s:XS}(h:afY wr z' s.env)(h0:∀t,(ae z' t).refs m1=[])(H:m0<=m1):
  age m0 ⟨s.env,s.mem⟩ ⟨(mg lw wr z' m1 s).env,(mg lw wr z' m1 s).mem⟩:=by
 unfold mg;split
 .exact age.env fun t=>sS h t
 .rename_i U
  have U:=fun h=>U (.inr h)
  simp only;split
  .rename_i S
   rw[C0] at S;obtain⟨M,L⟩:=S;have R:age m0 ⟨s.env,s.mem⟩ ⟨su (rho m1 (qs m1 s.mem 1000 (lw.flatMap fun t=>(ae s.env t).refs m1) [])) s.env,afu m1 (qs m1 s.mem 1000 (lw.flatMap fun t=>(ae s.env t).refs m1) []) s.mem⟩:=by
    intro base μ w tmps Z X h3;have V :m1<=s.mem.length:=by omega
    obtain⟨μ1,G,F,D,C⟩:=age.afu (env:=s.env) _ M base μ w tmps Z X V;exact⟨μ1,G,F,QQJ H D,C.mono H⟩
   rw[Lg L] at R;refine R.trans (age.env fun t=>?_);rw[sT,jm];by_cases Z:t∈wr
   .rw[if_pos Z]
    by_cases X:t∈lw
    .rw[if_pos X];exact .inl rfl
    .rw[if_neg X];exact .inr rfl
   .rw[if_neg Z,h t Z,AV.afA (h0 t)];exact .inl rfl
  .split
   .exact RQ h h0 H (by omega)
   .exact age.env fun t=>sS h t
end
variable{f:XS->Option (Exit×XS)}
theorem Ts{b:Code}(hf:∀s e s',f s=some (e,s')->afY (ad b) s.env s'.env):
  ∀(k:Nat) (s:XS) (e:Exit) (s' :XS),afY (ad b) z' s.env->ga lw (ad b) z' m1 f k s=some (e,s')->afY (ad b) z' s'.env:=by
 intro k;induction k with
 |zero=>intro s e s' _ h;cases h
 |succ k ih=>
  intro s e s' Z h;unfold ga at h;split at h
  .rename_i V X
   exact ih _ _ _ (EZ (Z.trans (hf _ _ _ X))) h
  .exact Z.trans (hf _ _ _ h)
theorem Ri{b:Code}(hf:∀s e s',f s=some (e,s')->Yh P tp N m0 b s e s')(H:m0<=m1):
  ∀(k:Nat) (s:XS) (e:Exit) (s' :XS),ga lw (ad b) z' m1 f k s=some (e,s')->Clean m0 s.mem s.afD s'.mem s'.afD:=by
 intro k;induction k with
 |zero=>intro s e s' h;cases h
 |succ k ih=>
  intro s e s' h;unfold ga at h;split at h
  .rename_i V Z
   obtain⟨_,X⟩:=hf _ _ _ Z;exact(X.trans (N6 H)).trans (ih _ _ _ h)
  .exact(hf _ _ _ h).2
theorem Rj{b:Code}(hf:∀s e s',f s=some (e,s')->Yh P tp N m0 b s e s' /\afY (ad b) s.env s'.env)(h0:∀t,(ae z' t).refs m1=[])(I:m0<=m1)(k:Nat)(s:XS)(e:Exit)(s' :XS)(H:afY (ad b) z' s.env)(h:ga lw (ad b) z' m1 f k s=some (e,s'))(hq:Q e ⟨s'.env,s'.mem⟩):AWP P tp N m0 (.loop b) ⟨s.env,s.mem⟩ Q:=by
 refine Vn (σ:=Nat) (fun k S=>∃s,S=⟨s.env,s.mem⟩/\afY (ad b) z' s.env/\ga lw (ad b) z' m1 f k s=some (e,s')) id (s:=k) ⟨s,rfl,H,h⟩ ?_;rintro k S ⟨s,rfl,H,hk⟩;cases k with
 |zero=>cases hk
 |succ k=>
  unfold ga at hk;split at hk
  .rename_i X M
   obtain⟨⟨L,_⟩,R⟩:=hf _ _ _ M;refine AWP.ahI (L (fun e Z=>e=.normal/\Z=⟨X.env,X.mem⟩) ⟨rfl,rfl⟩) ?_;rintro V Z ⟨rfl,rfl⟩;exact⟨⟨(mg lw (ad b) z' m1 X).env,(mg lw (ad b) z' m1 X).mem⟩,RR (H.trans R) h0 I,k,⟨_,rfl,EZ (H.trans R),hk⟩,Nat.lt_succ_self k⟩
  .rename_i G
   have U :e≠ .normal:=by rintro rfl;exact G s' hk
   refine((hf _ _ _ hk).1.1 (fun V Z=>V=e/\Z=⟨s'.env,s'.mem⟩) ⟨rfl,rfl⟩).mono ?_;rintro V Z ⟨rfl,rfl⟩;cases V<;>first | exact absurd rfl U | exact hq
theorem gm(H:qS P O):∀{c:Code} {s:XS} {e:Exit}{s' :XS},aU T lv O K N m0 tp c s=some (e,s')->afY (ad c) s.env s'.env
 |.skip,s,e,s',h=>by simp only[aU,Pi,Prod.mk.injEq] at h;obtain⟨_,rfl⟩:=h;exact .refl _ _
 |.exit id,s,e,s',h=>by simp only[aU,Pi,Prod.mk.injEq] at h;obtain⟨_,rfl⟩:=h;exact .refl _ _
 |.ret,s,e,s',h=>by simp only[aU,Pi,Prod.mk.injEq] at h;obtain⟨_,rfl⟩:=h;exact .refl _ _
 |.region id ops false,s,e,s',h=>by
  unfold aU at h;split at h
  next V X=>cases h;exact pU X
  .cases h
 |.region id ops true,s,e,s',h=>by
  unfold aU at h;split at h
  next V X=>cases h;exact Ma H X
  .cases h
 |.seq x y,s,e,s',h=>by
  unfold aU at h;split at h
  .rename_i V X
   exact((gm H X).mono fun t Z=>by simp[ad,Z]).trans ((gm H h).mono fun t Z=>by simp[ad,Z])
  .exact(gm H h).mono fun t Z=>by simp[ad,Z]
 |.cond c x y,s,e,s',h=>by
  unfold aU at h;split at h
  .exact(gm H h).mono fun t Z=>by simp[ad,Z]
  .exact(gm H h).mono fun t Z=>by simp[ad,Z]
  .cases h
 |.block id b,s,e,s',h=>by
  show afY (ad b) s.env s'.env
  unfold aU at h;split at h
  .rename_i i V X
   split at h
   .cases h;exact gm H X
   .cases h;exact gm H X
  .exact gm H h
 |.loop b,s,e,s',h=>by
  show afY (ad b) s.env s'.env
  unfold aU at h;exact Ts (fun s e s' h=>gm H h) _ _ _ _ (oG (.refl _ _)) h
 |.rangeFunc g ps Zb body,s,e,s',h=>by
  unfold aU at h;split at h
  .split at h
   .split at h
    .simp only at h
     split at h
     .split at h
      .cases h
      .split at h
       .cases h;exact .refl _ _
       .cases h
     .cases h
    .cases h
   .cases h
  .cases h
 |.label _,s,e,s',h=>by cases h
 |.goto _,s,e,s',h=>by cases h
 |.scope _,s,e,s',h=>by cases h
 |.refuse _,s,e,s',h=>by cases h
theorem dI(I:P.follows .mixedOrders=true)(hT:dN P T)(H:qS P O):∀{c:Code} {s:XS} {e:Exit}{s' :XS},dc c=true->aU T lv O K N m0 tp c s=some (e,s')->Yh P tp N m0 c s e s'
 |.skip,s,e,s',Za,h=>by simp only[aU,Pi,Prod.mk.injEq] at h;obtain⟨rfl,rfl⟩:=h;exact⟨fun Q Z=>Vo Z,.refl _ _ _⟩
 |.exit id,s,e,s',Za,h=>by simp only[aU,Pi,Prod.mk.injEq] at h;obtain⟨rfl,rfl⟩:=h;exact⟨fun Q Z=>Vm Z,.refl _ _ _⟩
 |.ret,s,e,s',Za,h=>by simp only[aU,Pi,Prod.mk.injEq] at h;obtain⟨rfl,rfl⟩:=h;exact⟨fun Q Z=>WL Z,.refl _ _ _⟩
 |.region id ops false,s,e,s',Za,h=>by
  unfold aU at h;split at h
  .rename_i R U
   cases h;obtain⟨X,V⟩:=kW H U;exact⟨fun Q Z=>Q6 hT X Z,V⟩
  .cases h
 |.region id ops true,s,e,s',Za,h=>by
  unfold aU at h;split at h
  .rename_i R U
   cases h;obtain⟨X,V⟩:=G5 I hT H Za U;exact⟨fun Q Z=>X tp id Q Z,V⟩
  .cases h
 |.seq x y,s,e,s',Za,h=>by
  unfold aU at h;split at h
  .rename_i R U
   simp only[dc,C0] at Za;obtain⟨X,V⟩:=dI I hT H Za.1 U;obtain⟨W,J⟩:=dI I hT H Za.2 h;exact⟨fun Q Z=>xM (X _ (W Q Z)),V.trans J⟩
  .rename_i M
   simp only[dc,C0] at Za;obtain⟨X,V⟩:=dI I hT H Za.1 h;refine⟨fun Q Z=>xM (X _ ?_),V⟩;cases e<;>first | exact absurd h (M s') | exact Z
 |.cond c x y,s,e,s',Za,h=>by
  unfold aU at h;split at h
  .rename_i L
   simp only[dc,C0] at Za;obtain⟨X,V⟩:=dI I hT H Za.1 h;exact⟨fun Q Z=>OV L (fun _=>X Q Z) (fun e=>by cases e),V⟩
  .rename_i L
   simp only[dc,C0] at Za;obtain⟨X,V⟩:=dI I hT H Za.2 h;exact⟨fun Q Z=>OV L (fun e=>by cases e) (fun _=>X Q Z),V⟩
  .cases h
 |.block id b,s,e,s',Za,h=>by
  unfold aU at h;split at h
  .rename_i i R U
   obtain⟨X,V⟩:=dI I hT H (by simpa only[dc] using Za) U;split at h
   .rename_i G
    cases h;exact⟨fun Q Z=>BW (X _ (by simp only[OX];rw[if_pos G];exact Z)),V⟩
   .rename_i G
    cases h;exact⟨fun Q Z=>BW (X _ (by simp only[OX];rw[if_neg G];exact Z)),V⟩
  .rename_i M
   obtain⟨X,V⟩:=dI I hT H (by simpa only[dc] using Za) h;refine⟨fun Q Z=>BW (X _ ?_),V⟩;cases e<;>first | exact absurd h (M _ s') | exact Z
 |.loop b,s,e,s',Za,h=>by
  unfold aU at h;have B:∀s e s',aU T lv O K N m0 tp b s=some (e,s')->Yh P tp N m0 b s e s' /\afY (ad b) s.env s'.env:=fun s e s' h=>⟨dI I hT H (by simpa only[dc] using Za) h,gm H h⟩
  refine⟨fun Q Z=>AWP.assume fun S F=>Vp (age.env fun t=>sS (.refl _ _) t) (Rj B F S _ _ _ _ (oG (.refl _ _)) h Z),fun S=>?_⟩;exact Ri (fun s e s' h=>(B s e s' h).1) S _ ⟨aw (lv b) (ad b) s.env s.env,s.mem,s.afD⟩ _ _ h S
 |.rangeFunc g ps Zb body,s,e,s',Za,h=>by
  unfold aU at h;split at h
  .rename_i D
   subst D;split at h
   .rename_i f u hg
    split at h
    .rename_i r o
     simp only at h;split at h
     .rename_i r2 Zz
      split at h
      .cases h
      .rename_i j
       split at h
       .rename_i e1 F
        cases h;have Y:=yc H o;refine⟨fun Q Z=>Gx hg ((H.fn _ _ _ _ o).mono ?_),fun S=>⟨?_,fun C=>?_⟩⟩
        .rintro v m ⟨rfl,rfl⟩
         exact⟨r2,e,Zz,fun e=>j (by rw[e];rfl),F,Z⟩
        .simp only[QQc]
         simp only[SP] at Y;omega
        .simp only[Bool.or_eq_false_iff,Option.isSome_eq_false_iff,Option.isNone_iff_eq_none] at C
         refine⟨C.1,vo S ?_ fun b j=>?_⟩
         .simp only[QQc]
          simp only[SP] at Y;omega
         .have Y7 :b<s.mem.length:=by omega
          show((r.mem _).set s.mem.length _)[b]? =_
          rw[QQK (by omega)];unfold afh.mem;rw[C.2];simp only[Option.getD_none];rw[Y1,GE Y7]
       .cases h
     .cases h
    .cases h
   .cases h
  .cases h
 |.label _,s,e,s',Za,h=>by cases h
 |.goto _,s,e,s',Za,h=>by cases h
 |.scope _,s,e,s',Za,h=>by cases h
 |.refuse _,s,e,s',Za,h=>by cases h
structure agC (P:Program)(G:FuncId->Option Func):Prop where
 fn:∀f fn,G f=some fn->P.funcs[f]? =some fn/\(fn.name == "runtime.NumGoroutine")=false/\∀c,fn.body=some c->dc c=true
section
variable (hm:P.follows .mixedOrders=true)(hT:dN P T)(hO:qS P O)
include hm hT hO
theorem ar{G:FuncId->Option Func}(H:agC P G){f:FuncId}{args:List AV}{mem:Mem}{r:afh}(h:aa T lv G O K f args mem=some r):kO P f args mem r.v (r.mem mem)/\∀p,r.pre=some p->p.length=mem.length:=by
 unfold aa at h;split at h
 .cases h
 .rename_i fn U
  obtain⟨L,F,g3⟩:=H.fn _ _ U;split at h
  .cases h
  .rename_i c S
   split at h
   .rename_i D
    split at h
    .rename_i e s u
     obtain⟨C,o⟩:=dI hm hT hO (g3 c S) u;obtain⟨Y,m⟩:=o (L9 _);have Z:(e=.normal\/e=.ret)->(match jT T fn.results.toList s.env s.mem with
      |some v=>
       let m0:=mem.length
       if s.afD then
        let ks:=qs m0 s.mem 1000 (v.refs m0++(s.mem.take m0).flatMap (afl.refs m0)) []
        if DX m0 s.mem.length ks then
         some ⟨v.ren (rho m0 ks),some ((s.mem.take m0).map (afl.ren (rho m0 ks))),af4 m0 ks s.mem⟩
        else none
       else
        let ks:=qs m0 s.mem 1000 (v.refs m0) []
        if DX m0 s.mem.length ks then
         some ⟨v.ren (rho m0 ks),none,af4 m0 ks s.mem⟩
        else none
      |none=>none:Option afh)=some r->kO P f args mem r.v (r.mem mem)/\∀p,r.pre=some p->p.length=mem.length:=by
      intro X h;split at h
      .rename_i v B
       simp only at h;split at h
       .split at h
        .rename_i R
         cases h;refine⟨afU.intro hT L S F D (C _ ⟨X,v,B,_,R,.inr ⟨rfl,rfl⟩⟩),fun p M=>?_⟩;cases M;simp only[QXY,S2];omega
        .cases h
       .rename_i j
        split at h
        .rename_i R
         cases h;have V :=(m (by simpa using j)).2;rw[B5 (L9 _)] at V;exact⟨afU.intro hT L S F D (C _ ⟨X,v,B,_,R,.inl ⟨V,rfl,rfl⟩⟩),fun p M=>by cases M⟩
        .cases h
      .cases h
     split at h
     .exact Z (.inl rfl) h
     .exact Z (.inr rfl) h
     .cases h
    .cases h
   .cases h
theorem pE{b:Nat}{args:List AV}{mem:Mem}{r:afh}(h:xN T lv O K b args mem=some r):gH P b args mem r.v (r.mem mem)/\∀p,r.pre=some p->p.length=mem.length:=by
 unfold xN at h;split at h
 .rename_i H X
  split at h
  .rename_i V
   simp only[C0,Es,List.all_eq_true] at V;obtain⟨⟨⟨⟨U,S⟩,R⟩,M⟩,L⟩:=V;have Z:∀{x:LoopState},(x== .ready)=true->x=.ready:=fun {x} h=>by cases x<;>first | rfl | cases h
   split at h
   .rename_i s1 G
    obtain⟨F,D⟩:=dI hm hT hO M G;split at h
    .rename_i r1 C
     split at h
     .rename_i B
      split at h
      .rename_i e s2 u
       obtain⟨o,m⟩:=dI hm hT hO L u;split at h
       .rename_i j r2 Y W
        simp only at h;split at h
        .rename_i J
         cases h;obtain⟨d1,_⟩:=D (L9 _);obtain⟨d2,_⟩:=m (by simpa using d1);refine⟨af3.intro X (Z U) S R (F _ ⟨rfl,r1,C,Z B,o _ ⟨r2,j,_,Y,W,J,rfl,rfl⟩⟩),fun p I=>?_⟩;cases I;simp only[QXY,S2,QQc];omega
        .cases h
       .cases h
      .cases h
     .cases h
    .cases h
   .cases h
  .cases h
 .cases h
end
theorem pD(H:P.follows .mixedOrders=true)(hT:dN P T){G:FuncId->Option Func}(J:agC P G)(I:qS P O):∀n,qS P (DQ T lv G O K n)
 |0=>I
 |n+1=>by
  have V:=pD H hT J I n;have X:∀c Z mem r,DQ T lv G O K (n+1) c Z mem=some r->O c Z mem=some r\/(match c with
   |.fn f=>aa T lv G (DQ T lv G O K n) K f Z mem
   |.yld b=>xN T lv (DQ T lv G O K n) K b Z mem)=some r:=by
   intro c Z mem r h;unfold DQ at h;split at h
   next R S=>cases h;exact .inl S
   .exact .inr h
  refine⟨fun f Z mem r h=>?_,fun b Z mem r h=>?_,fun c Z mem r p h U=>?_⟩
  .rcases X _ _ _ _ h with h | h
   .exact I.fn _ _ _ _ h
   .exact(ar H hT V J h).1
  .rcases X _ _ _ _ h with h | h
   .exact I.yld _ _ _ _ h
   .exact(pE H hT V h).1
  .rcases X _ _ _ _ h with h | h
   .exact I.pre _ _ _ _ _ h U
   .cases c with
    |fn f=>exact(ar H hT V J h).2 p U
    |yld b=>exact(pE H hT V h).2 p U
end
end Go.Eng
namespace Go.Eng
def bd(P:Program)(t:TypeId):Option TyI:=
 match P.info? t,P.underlying t with
 |some i,some d=>match i.zero with
  |some z=>if z.cells.size=i.size then some ⟨d,i.size,i.bytes,z,!P.stoodInHeld t&& !P.eqGuardType P.depth t⟩ else none
  |none=>none
 |_,_=>none
theorem aJ(P:Program):dN P (bd P):=by
 intro t i h;unfold bd at h;split at h
 .rename_i f d X V
  split at h
  .rename_i z U
   split at h
   .rename_i S
    cases h;refine⟨V,⟨f,X,rfl,rfl,U⟩,S,fun Z=>?_⟩;simp only[C0,Bool.not_eq_true'] at Z;exact Z
   .cases h
  .cases h
 .cases h
def aX(P:Program)(f:FuncId):Option Func:=match P.funcs[f]? with
 |some fn=>if fn.name == "runtime.NumGoroutine" then none else match fn.body with
  |some c=>if dc c then some fn else none
  |none=>some fn
 |none=>none
theorem aM(P:Program):agC P (aX P):=by
 refine⟨fun f fn h=>?_⟩;unfold aX at h;split at h
 .rename_i S V
  split at h
  .cases h
  .rename_i U
   split at h
   .rename_i c X
    split at h
    .rename_i R
     cases h;refine⟨V,by simpa using U,fun O Z=>?_⟩;rw[X] at Z;cases Z;exact R
    .cases h
   .rename_i X
    cases h;refine⟨V,by simpa using U,fun O Z=>?_⟩;rw[X] at Z;cases Z
 .cases h
def cP:y9:=fun _ _ _=>none
theorem az(P:Program):qS P cP:=⟨(fun _ _ _ _ h=>by cases h),(fun _ _ _ _ h=>by cases h),(fun _ _ _ _ _ h=>by cases h)⟩
structure afM (w w' :World):Prop where
 size:w.heap.size<=w'.heap.size
 heap:∀k,k<w.heap.size->w'.heap[k]? =w.heap[k]?
 os:w'.os=w.os
 tape:w'.tape=w.tape
 output:w'.output=w.output
 drawn:w.drawn<=w'.drawn
section
variable {P:Program}{μ:Nat->Place}{mem:Mem}{base:Nat}{w w' :World}
theorem afM.refl(w:World):afM w w:=⟨L9 _,fun _ _=>rfl,rfl,rfl,rfl,L9 _⟩
theorem afM.ahX(h:afM w w')(H:afv base μ mem w):afv base μ mem w' :=by refine⟨QQJ H.afr h.size,fun b s Z=>?_,H.sep⟩;exact(H.slot b s Z).mono (L9 _) (fun _ _=>rfl) fun X=>h.heap _ ((H.slot b s Z).af2 X)
theorem afM.step(h:afM w w'){m0:Nat}(H:m0<=mem.length):Step m0 μ mem w μ mem w' :=
 ⟨H,fun _ _=>rfl,h.os,h.tape,h.output,h.size,fun k Z _=>h.heap k Z,fun b X _=>⟨b,X,rfl⟩,h.drawn⟩
theorem kO.afW{f:FuncId}{args:List AV}{Vs:List Value}{v:AV}{V:Value}(hf:Uw P f)(H:∀μ n Us,afk μ n args Us->Us=Vs)(I:∀μ n,afj μ n v V)(h:∀base w,GOk P base w->Calls P f ⟨Vs⟩ w fun e w' =>e=.returned V/\afM w w')(mem:Mem):kO P f args mem v mem:=by refine⟨hf,fun base μ w Us hG hH hV=>?_⟩;rw[H _ _ _ hV];refine(h base w hG).mono ?_;rintro e w' ⟨rfl,hg⟩;exact⟨V,v,mem,μ,rfl,I _ _,hg.ahX hH,hg.step (L9 _),rfl,rfl⟩
theorem afM.grow(w:World)(k:Nat)(os:Array Obj):afM w { w with heap:=w.heap++os,drawn:=w.drawn+k }:=by
 refine⟨by simp,fun i hi=>?_,rfl,rfl,rfl,Nat.le_add_right _ _⟩;show(w.heap++os)[i]? =_
 rw[Array.getElem?_append_left hi]
mutual
def AV.closed:AV->Bool
 |.ptr _ _=>false
 |.slice _ _ _ _=>false
 |.map _=>false
 |.yield _=>false
 |.func _ Z=>AV.afm Z
 |.iface _ v=>v.closed
 |.agg Z=>AV.afm Z
 |.tuple Z=>AV.afm Z
 |_=>true
def AV.afm:List AV->Bool
 | []=>true
 |v::vs=>v.closed&&AV.afm vs
end
mutual
theorem afj.closed{μ μ' :Nat->Place}{n n' :Nat}:∀{v V},v.closed=true->afj μ n v V->afj μ' n' v V
 |.undef,V,_,_=>by simp[afj]
 |.bool b,V,_,h=>by simpa [afj] using h
 |.int k i,V,_,h=>by simpa [afj] using h
 |.str s,V,_,h=>by simpa [afj] using h
 |.ptr b o,V,hc,_=>by simp[AV.closed] at hc
 |.afw,V,_,h=>by simpa [afj] using h
 |.slice b o l c,V,hc,_=>by simp[AV.closed] at hc
 |.qF,V,_,h=>by simpa [afj] using h
 |.map b,V,hc,_=>by simp[AV.closed] at hc
 |.yield b,V,hc,_=>by simp[AV.closed] at hc
 |.afG,V,_,h=>by simpa [afj] using h
 |.func f X,V,hc,h=>by simp only[afj] at h |-;simp only[AV.closed] at hc;obtain⟨Z,rfl,h⟩:=h;exact⟨Z,rfl,afk.closed hc h⟩
 |.nilFunc,V,_,h=>by simpa [afj] using h
 |.iface t v,V,hc,h=>by simp only[afj] at h |-;simp only[AV.closed] at hc;obtain⟨U,rfl,h⟩:=h;exact⟨U,rfl,afj.closed hc h⟩
 |.nilIface,V,_,h=>by simpa [afj] using h
 |.agg X,V,hc,h=>by simp only[afj] at h |-;simp only[AV.closed] at hc;obtain⟨Z,rfl,h⟩:=h;exact⟨Z,rfl,afk.closed hc h⟩
 |.tuple X,V,hc,h=>by simp only[afj] at h |-;simp only[AV.closed] at hc;obtain⟨Z,rfl,h⟩:=h;exact⟨Z,rfl,afk.closed hc h⟩
theorem afk.closed{μ μ' :Nat->Place}{n n' :Nat}:∀{vs Us},AV.afm vs=true->afk μ n vs Us->afk μ' n' vs Us
 | [],Us,_,h=>by simpa [afk] using h
 |v::vs,Us,hc,h=>by simp only[AV.afm,C0] at hc;simp only[afk] at h |-;obtain⟨U,Z,rfl,X,V⟩:=h;exact⟨U,Z,rfl,afj.closed hc.1 X,afk.closed hc.2 V⟩
end
theorem kO.lift{f:FuncId}{args:List AV}{v:AV}(H:AV.afm args=true)(I:v.closed=true)(h:kO P f args [] v [])(mem:Mem):kO P f args mem v mem:=by refine⟨h.1,fun base μ w Us hG hH hV=>?_⟩;have S:afv base μ [] w:=⟨hH.afr,fun b s Z=>by simp at Z,fun b O N X=>by obtain⟨s,Z,_⟩:=X;simp at Z⟩;refine(h.2 base μ w Us hG S (afk.closed H hV)).mono ?_;rintro e w' ⟨V,v',m',μ',rfl,q1,q2,q3,rfl,rfl⟩;have U:afM w w' :=⟨q3.size,fun k R=>q3.frame k R fun b X=>by obtain⟨s,Z,_⟩:=X;simp at Z,q3.os,q3.tape,q3.output,q3.drawn⟩;exact⟨V,v',mem,μ,rfl,afj.closed I q1,U.ahX hH,U.step (L9 _),rfl,rfl⟩
variable{O:y9}
theorem kO.ahp{T:TypeId->Option TyI}{G:FuncId->Option Func}{K:Nat}(H:P.follows .mixedOrders=true)(hT:dN P T)(I:qS P O)(J:agC P G){f:FuncId}{args:List AV}{v:AV}(W:AV.afm args=true)(Y:v.closed=true){lv:Code->List Nat}(h:aa T lv G O K f args []=some ⟨v,none,[]⟩)(mem:Mem):kO P f args mem v mem:=
 kO.lift W Y (ar H hT I J h).1 mem
def y9.or(O H :y9):y9:=fun c Z mem=>match O c Z mem with
 |some r=>some r
 |none=>H c Z mem
theorem qS.or{H :y9}(h:qS P O)(h' :qS P H):qS P (O.or H):=by
 have U:∀c Z mem r,O.or H c Z mem=some r->O c Z mem=some r\/H c Z mem=some r:=by
  intro c Z mem r V;unfold y9.or at V;split at V
  next R X=>cases V;exact .inl X
  .exact .inr V
 refine⟨fun f Z mem r V=>?_,fun b Z mem r V=>?_,fun c Z mem r p V S=>?_⟩
 .rcases U _ _ _ _ V with X | X
  .exact h.fn _ _ _ _ X
  .exact h'.fn _ _ _ _ X
 .rcases U _ _ _ _ V with X | X
  .exact h.yld _ _ _ _ X
  .exact h'.yld _ _ _ _ X
 .rcases U _ _ _ _ V with X | X
  .exact h.pre _ _ _ _ _ X S
  .exact h'.pre _ _ _ _ _ X S
def ag(F:FuncId->List AV->Option AV):y9:=fun c Z _=>match c with
 |.fn f=>match F f Z with
  |some v=>some ⟨v,none,[]⟩
  |none=>none
 |.yld _=>none
theorem bP{F:FuncId->List AV->Option AV}(h:∀f Z v,F f Z=some v->∀mem,kO P f Z mem v mem):qS P (ag F):=by
 refine⟨fun f Z mem r X=>?_,(fun b Z mem r X=>by cases X),fun c Z mem r p X V=>?_⟩
 .unfold ag at X
  simp only at X;split at X
  .rename_i v U
   cases X;have:=h f Z v U mem;simpa [afh.mem] using this
  .cases X
 .unfold ag at X
  split at X
  .split at X
   .cases X;cases V
   .cases X
  .cases X
end
end Go.Eng
