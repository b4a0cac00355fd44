/- See G38. -/
import Derived.Test.YthpgbelancmpjaaGreatDoorG02
set_option linter.all false
namespace Go.Eng
mutual
def AV.afm(ok:Nat->Bool):AV->Bool
 |.ptr b _=>ok b
 |.slice b _ _ _=>ok b
 |.map b=>ok b
 |.yield b=>ok b
 |.func _ Z=>AV.afs ok Z
 |.iface _ v=>v.afm ok
 |.agg Z=>AV.afs ok Z
 |.tuple Z=>AV.afs ok Z
 |_=>true
def AV.afs(ok:Nat->Bool):List AV->Bool
 | []=>true
 |v::vs=>v.afm ok&&AV.afs ok vs
end
def afq.afm(ok:Nat->Bool):afq->Bool
 |.qK=>true
 |.cells _ _ cs=>AV.afs ok cs
 |.map es=>es.all fun e=>e.1.afm ok&&e.2.afm ok
 |.afX es=>es.all fun e=>e.1.afm ok&&e.2.afm ok
 |.loop r=>r.env.all fun e=>e.2.afm ok
theorem CZ{ok:Nat->Bool}:∀{env:Env},(env.all fun e=>e.2.afm ok)=true->∀t,(ad env t).afm ok=true
 | [],_,_=>rfl
 |(k,v)::r,h,t=>by
  simp only[QQg,Es] at h;simp only[ad];split
  .exact h.1
  .exact CZ h.2 t
mutual
theorem afn.change{μ μ' :Nat->Place}{n:Nat}{ok:Nat->Bool}(hμ:∀b,b<n->ok b=true->μ' b=μ b):
  ∀{v V},v.afm ok=true->afn μ n v V->afn μ' n v V
 |.undef,_,_,_=>by simp[afn]
 |.bool _,_,_,h=>by simpa [afn] using h
 |.int _ _,_,_,h=>by simpa [afn] using h
 |.str _,_,_,h=>by simpa [afn] using h
 |.ptr b o,V,hk,h=>by simp only[afn] at h |-;simp only[AV.afm] at hk;exact⟨h.1,by rw[hμ b h.1 hk];exact h.2⟩
 |.afB,_,_,h=>by simpa [afn] using h
 |.slice b o l c,V,hk,h=>by simp only[afn] at h |-;simp only[AV.afm] at hk;exact⟨h.1,by rw[hμ b h.1 hk];exact h.2⟩
 |.qF,_,_,h=>by simpa [afn] using h
 |.map b,V,hk,h=>by simp only[afn] at h |-;simp only[AV.afm] at hk;exact⟨h.1,by rw[hμ b h.1 hk];exact h.2⟩
 |.yield b,V,hk,h=>by simp only[afn] at h |-;simp only[AV.afm] at hk;exact⟨h.1,by rw[hμ b h.1 hk];exact h.2⟩
 |.afL,_,_,h=>by simpa [afn] using h
 |.func f X,V,hk,h=>by simp only[afn] at h |-;simp only[AV.afm] at hk;obtain⟨Z,e,h⟩:=h;exact⟨Z,e,afo.change hμ hk h⟩
 |.nilFunc,_,_,h=>by simpa [afn] using h
 |.iface t v,V,hk,h=>by simp only[afn] at h |-;simp only[AV.afm] at hk;obtain⟨U,e,h⟩:=h;exact⟨U,e,afn.change hμ hk h⟩
 |.nilIface,_,_,h=>by simpa [afn] using h
 |.agg X,V,hk,h=>by simp only[afn] at h |-;simp only[AV.afm] at hk;obtain⟨Z,e,h⟩:=h;exact⟨Z,e,afo.change hμ hk h⟩
 |.tuple X,V,hk,h=>by simp only[afn] at h |-;simp only[AV.afm] at hk;obtain⟨Z,e,h⟩:=h;exact⟨Z,e,afo.change hμ hk h⟩
theorem afo.change{μ μ' :Nat->Place}{n:Nat}{ok:Nat->Bool}(hμ:∀b,b<n->ok b=true->μ' b=μ b):
  ∀{vs Us},AV.afs ok vs=true->afo μ n vs Us->afo μ' n vs Us
 | [],_,_,h=>by simpa [afo] using h
 |v::vs,Us,hk,h=>by simp only[afo] at h |-;simp only[AV.afs,Es] at hk;obtain⟨U,Z,e,X,V⟩:=h;exact⟨U,Z,e,afn.change hμ hk.1 X,afo.change hμ hk.2 V⟩
end
variable{s:afq}
theorem afD.change{μ μ' :Nat->Place}{n base:Nat}{w:World}{p:Place}{ok:Nat->Bool}(hμ:∀b,b<n->ok b=true->μ' b=μ b)(H:s.afm ok=true)(h:afD μ n base w p s):afD μ' n base w p s:=by
 cases s with
 |qK=>trivial
 |cells own es cs=>
  simp only[afD] at h |-;simp only[afq.afm] at H;obtain⟨N,e,fr,Z,X,h3,R,C⟩:=h;refine⟨N,e,fr,Z,X,h3,fun j v S=>?_,C⟩;obtain⟨V,hV,B⟩:=R j v S;refine⟨V,hV,B.change hμ ?_⟩;have:∀(l:List AV),AV.afs ok l=true->∀v∈l,v.afm ok=true:=by
   intro l;induction l with
   |nil=>intro _ v S;cases S
   |cons x xs ih=>
    intro hl v S;simp only[AV.afs,Es] at hl;cases S with
    |head=>exact hl.1
    |tail _ hm=>exact ih hl.2 v hm
  exact this cs H v (J1 S)
 |map es=>
  simp only[afD] at h |-;simp only[afq.afm,List.all_eq_true,Es] at H;obtain⟨M,K,Z,X,h3,R⟩:=h;refine⟨M,K,Z,X,h3,fun j e O=>?_⟩;obtain⟨E,G,U,F⟩:=R j e O;have:=H e (J1 O);exact⟨E,G,U.change hμ this.1,F.change hμ this.2⟩
 |afX es=>
  simp only[afD] at h |-;simp only[afq.afm,List.all_eq_true,Es] at H;obtain⟨M,K,Z,X,h3,R⟩:=h;refine⟨M,K,Z,X,h3,fun j e O=>?_⟩;obtain⟨E,G,U,F⟩:=R j e O;have:=H e (J1 O);exact⟨E,G,U.change hμ this.1,F.change hμ this.2⟩
 |loop r=>
  simp only[afD] at h |-;obtain⟨L,Z,X,h3⟩:=h;exact⟨L,Z,X,{ h3 with tmps:=fun t=>(h3.tmps t).change hμ (CZ H t) }⟩
structure afW where
 E:Nat->Env
 En:Nat->Env
 M:Nat->Mem
 Tm:Nat->Mem
 M' :Nat->Mem
 v:Nat->AV
 wb:Nat->Bool
 af7:Nat->Nat->Bool
 ok:Nat->Nat->Bool
 cl:Nat->Nat->Bool
def jb(mem:Mem)(b:Nat):Prop:=∃s,mem[b]? =some s/\s≠ .qK
structure aho (P:Program)(T:TypeId->Option TyI)(N:Nat)(ops:Array Oper)(d:afW)(j:Nat)(o:Oper):Prop where
 wanted:sI ops (d.En j) o=some (d.wb j)
 dst:Ee N o=true
 step:d.wb j=true->xr P T (d.En j) (d.Tm j) o (d.v j) (d.M' j)
 skip:d.wb j=false->d.v j=.tuple []/\d.M' j=d.Tm j
 env:d.E (j+1)=age (d.E j) o.dst (d.v j)
 named:∀t,ad (d.En j) t=.undef\/(ad (d.En j) t=ad (d.E j) t/\∀(i:Nat) oi,ops[i]? =some oi->i≠j->oi.dst=some t->d.cl i j=true\/d.cl j i=true)
 ah6:∀(i:Nat) oi t,ops[i]? =some oi->i≠j->o.dst=some t->oi.dst=some t->d.cl i j=true\/d.cl j i=true
 ag7:(d.Tm j).length=(d.M j).length
 ag8:∀b:Nat,(d.Tm j)[b]? =(d.M j)[b]? \/(d.Tm j)[b]? =some .qK
 ahG:(d.M (j+1)).length=(d.M' j).length
 ag9:(d.M j).length<=(d.M (j+1)).length
 ahH:∀b:Nat,d.af7 j b=true->(d.M (j+1))[b]? =(d.M' j)[b]?
 ahM:∀b:Nat,b<(d.M j).length->d.af7 j b=false->(d.M (j+1))[b]? =(d.M j)[b]?
 ahN:∀b:Nat,b<(d.M j).length->d.af7 j b=false->jb (d.Tm j) b->(d.M' j)[b]? =(d.M j)[b]?
 ahO:∀b:Nat,(d.M j).length<=b->d.af7 j b=true
 ahp:∀b:Nat,d.af7 j b=true->b<(d.M j).length->jb (d.Tm j) b
 sep:∀(i:Nat) oi (b:Nat),ops[i]? =some oi->i≠j->b<(d.M (i+1)).length->d.af7 i b=true->(b<(d.M (j+1)).length/\d.af7 j b=true)\/jb (d.Tm j) b->d.cl i j=true\/d.cl j i=true
 okc:∀(i:Nat) (b:Nat) oi,ops[i]? =some oi->d.ok j b=true->(d.M i).length<=b->b<(d.M (i+1)).length->i=j\/d.cl i j=true
 aha:(d.v j).afm (d.ok j)=true
 ahP:∀(b:Nat) s,d.af7 j b=true->(d.M (j+1))[b]? =some s->s.afm (d.ok j)=true
 ahq:∀(b:Nat) s,(d.M j).length<=b->(d.M (j+1))[b]? =some s->s≠ .qK->eG (d.M (j+1)) b
 ahI:∀e∈o.after,Region.binds .any e=true->e.on<j
 ahr:∀i,d.cl i j=true->∃e∈o.after,Region.binds .any e=true/\(e.on=i\/d.cl i e.on=true)
variable{b t:Nat}
section
variable {P:Program}{T:TypeId->Option TyI}{N:Nat}{ops:Array Oper}{d:afW}
def tz(P:Program)(T:TypeId->Option TyI)(N:Nat)(ops:Array Oper)(d:afW):Prop:=∀(j:Nat) o,ops[j]? =some o->aho P T N ops d j o
def Tch(d:afW)(i b:Nat):Prop:=d.af7 i b=true/\b<(d.M (i+1)).length
theorem AA{j:Nat}(h:j<ops.size):∃o,ops[j]? =some o:=⟨ops[j],by simp[h]⟩
theorem LX{env:Env}{H:Option Tmp}{v:AV}(h:H≠some t):ad (age env H v) t=ad env t:=by
 cases H with
 |none=>rfl
 |some x=>
  have:¬x=t:=fun e=>h (by rw[e])
  simp[age,ad,this]
section
variable (hA:tz P T N ops d)
include hA
theorem EK(t:Nat)(j:Nat):∀k,j<=k->k<=ops.size->(∀(i:Nat) V,j<=i->i<k->ops[i]? =some V->V.dst≠some t)->ad (d.E k) t=ad (d.E j) t:=by
 intro k Z;induction Z with
 |refl=>intro _ _;rfl
 | @step k Z ih=>
  intro R X;obtain⟨o,U⟩:=AA (ops:=ops) (j:=k) (by omega);rw[(hA k o U).env,LX (X k o Z (Nat.lt_succ_self k) U)];exact ih (by omega) fun i V S O h3=>X i V S (by omega) h3
theorem AT(j:Nat):∀k,j<=k->k<=ops.size->(d.M j).length<=(d.M k).length:=by
 intro k Z;induction Z with
 |refl=>intro _;exact L9 _
 | @step k Z ih=>
  intro V;obtain⟨o,X⟩:=AA (ops:=ops) (j:=k) (by omega);exact QQd (ih (by omega)) (hA k o X).ag9
theorem E5(b:Nat)(j:Nat):∀k,j<=k->k<=ops.size->(∀i,j<=i->i<k->¬Tch d i b)->(d.M k)[b]? =(d.M j)[b]? :=by
 intro k Z;induction Z with
 |refl=>intro _ _;rfl
 | @step k Z ih=>
  intro L X;obtain⟨o,V⟩:=AA (ops:=ops) (j:=k) (by omega);have U:=ih (by omega) fun i U K=>X i U (by omega)
  have O:=X k Z (Nat.lt_succ_self k);rw[<-U];by_cases S:b<(d.M k).length
  .have:d.af7 k b=false:=by
    cases R:d.af7 k b with
    |false=>rfl
    |true=>exact absurd ⟨R,QXK S (hA k o V).ag9⟩ O
   exact(hA k o V).ahM b S this
  .have R:=(hA k o V).ahO b (by omega)
   have:¬b<(d.M (k+1)).length:=fun h=>O ⟨R,h⟩
   exact(List.getElem?_eq_none (Nat.le_of_not_lt this)).trans (List.getElem?_eq_none (Nat.le_of_not_lt S)).symm
end
structure ag2 (d:afW)(ops:Array Oper)(base:Nat) (μ0:Nat->Place)(w0:World)(S:Nat->Prop) (μ:Nat->Place)(kb kt:Nat->Nat)(tmps:Array Value)(w:World):Prop where
 afx:base<=w.heap.size
 agM:∀b,kb b<=ops.size
 agw:∀b i,i<ops.size->Tch d i b->(S i↔i<kb b)
 agN:∀b,kb b=0\/Tch d (kb b-1) b
 slot:∀(b:Nat) s,(d.M (kb b))[b]? =some s->afD μ (d.M (kb b)).length base w (μ b) s
 sep:∀b b' s',eG (d.M (kb b)) b->(d.M (kb b'))[b']? =some s' ->s' ≠ .qK->b≠b' ->(μ b).blk≠(μ b').blk
 ahb:∀t,kt t<=ops.size
 agx:∀(t i:Nat) oi,ops[i]? =some oi->oi.dst=some t->(S i↔i<kt t)
 agO:∀t,kt t=0\/∃oi,ops[kt t-1]? =some oi/\oi.dst=some t
 tmp:∀t,afn μ (d.M (kt t)).length (ad (d.E (kt t)) t) (tmps.getD t undef)
 agree:∀b,b<(d.M 0).length->μ b=μ0 b
 os:w.os=w0.os
 tape:w.tape=w0.tape
 drawn:w0.drawn<=w.drawn
 output:w.output=w0.output
 size:w0.heap.size<=w.heap.size
 frame:∀k,k<w0.heap.size->(∀b,eG (d.M 0) b->(μ0 b).blk≠k)->w.heap[k]? =w0.heap[k]?
 owner:∀b,eG (d.M (kb b)) b->(μ b).blk<w0.heap.size->∃b0,eG (d.M 0) b0/\(μ0 b0).blk=(μ b).blk
theorem XU(H:tz P T N ops d):∀(j i:Nat),j<ops.size->d.cl i j=true->i<j:=by
 intro j;induction j using Nat.strongRecOn with
 |_ j ih=>
  intro i V h;obtain⟨o,X⟩:=AA V;obtain⟨e,U,S,hc⟩:=(H j o X).ahr i h;have Z:=(H j o X).ahI e U S;rcases hc with rfl | hc
  .exact Z
  .exact Nat.lt_trans (ih e.on Z i (by omega) hc) Z
def vM(ops:Array Oper)(S:Nat->Prop):Prop:=∀(j:Nat) o,ops[j]? =some o->S j->∀e∈o.after,Region.binds .any e=true->S e.on
section
variable (hA:tz P T N ops d){S:Nat->Prop}(hS:vM ops S)
include hA S hS
theorem SV:∀(j:Nat) o,ops[j]? =some o->(∀e∈o.after,Region.binds .any e=true->S e.on)->∀i,d.cl i j=true->S i:=by
 intro j;induction j using Nat.strongRecOn with
 |_ j ih=>
  intro o V M i h;have L:j<ops.size:=(Nm.1 V).1;obtain⟨e,U,R,hc⟩:=(hA j o V).ahr i h;have K:=(hA j o V).ahI e U R;have Z:=M e U R;rcases hc with rfl | hc
  .exact Z
  .obtain⟨O,X⟩:=AA (ops:=ops) (j:=e.on) (by omega)
   exact ih e.on K O X (hS e.on O X Z) i hc
theorem nM{j:Nat}{o:Oper}(H:ops[j]? =some o)(hr:∀e∈o.after,Region.binds .any e=true->S e.on)(J:¬S j){i:Nat}(I:i<ops.size)(h:d.cl i j=true\/d.cl j i=true):S i↔i<j:=by
 have X:j<ops.size:=(Nm.1 H).1;obtain⟨U,Z⟩:=AA I;rcases h with h | h
 .exact⟨fun _=>XU hA j i X h,fun _=>SV hA hS j o H hr i h⟩
 .have R:=XU hA i j I h
  constructor
  .intro V
   exact absurd (SV hA hS i U Z (hS i U Z V) j h) J
  .intro;omega
end
section step
variable {base:Nat}{μ0:Nat->Place}{w0:World}{S:Nat->Prop}{μ:Nat->Place}{kb kt:Nat->Nat}{a:Act}{w:World}{j:Nat}{o:Oper}
section
variable (hA:tz P T N ops d)(hI:ag2 d ops base μ0 w0 S μ kb kt a.tmps w)(hS:vM ops S)(ho:ops[j]? =some o)(hr:∀e∈o.after,Region.binds .any e=true->S e.on)(hj:¬S j)
include hA hI hS ho hr hj
theorem VT(H:∀(i:Nat) Z,ops[i]? =some Z->i≠j->Z.dst=some t->d.cl i j=true\/d.cl j i=true):
  kt t<=j/\ad (d.E j) t=ad (d.E (kt t)) t:=by
 have M:j<ops.size:=(Nm.1 ho).1;have R:kt t<=j:=by
  rcases hI.agO t with L | ⟨Z,V,U⟩
  .omega
  .have K:=(hI.agx t (kt t-1) Z V U)
   by_cases L:kt t=0
   .omega
   .have X:S (kt t-1):=K.2 (by omega)
    have G:kt t-1≠j:=fun e=>hj (e▸X)
    have F:kt t-1<ops.size:=(Nm.1 V).1;have:=(nM hA hS ho hr hj F (H _ Z V G U)).1 X;omega
 refine⟨R,EK hA t (kt t) j R (by omega) fun i Z V U h3 O=>?_⟩;have:=(nM hA hS ho hr hj (by omega) (H i Z h3 (by omega) O)).2 U;have:=(hI.agx t i Z h3 O).1 this;omega
theorem yp(H:jb (d.Tm j) b):kb b<=j/\(d.M j)[b]? =(d.M (kb b))[b]? :=by
 have F:j<ops.size:=(Nm.1 ho).1;have Z:∀i,i<ops.size->i≠j->Tch d i b->(S i↔i<j):=by intro i O V L;obtain⟨C,U⟩:=AA O;exact nM hA hS ho hr hj O ((hA j o ho).sep i C b U V L.2 L.1 (.inr H))
 have K:kb b<=j:=by
  rcases hI.agN b with B | R
  .omega
  .by_cases B:kb b=0
   .omega
   .have G:kb b-1<ops.size:=by have:=hI.agM b;omega
    have X:S (kb b-1):=(hI.agw b _ G R).2 (by omega);have V:kb b-1≠j:=fun e=>hj (e▸X)
    have:=(Z _ G V R).1 X;omega
 refine⟨K,E5 hA b (kb b) j K (by omega) fun i R u h3=>?_⟩;have:=(Z i (by omega) (by omega) h3).2 u;have:=(hI.agw b i (by omega) h3).1 this;omega
end
theorem rM(H:tz P T N ops d)(I:ops[j]? =some o)(h:(d.Tm j)[b]? =some s)(hs:s≠ .qK):(d.M j)[b]? =some s:=by
 rcases (H j o I).ag8 b with e | e
 .rw[<-e];exact h
 .rw[h] at e;cases e;exact absurd rfl hs
theorem me{mem:Mem}(h:eG mem b):jb mem b:=by obtain⟨s,h,Z⟩:=h;exact⟨s,h,afq.afY Z⟩
theorem mg{m H :Mem}(h:m[b]? =H[b]?):eG m b↔eG H b:=by simp[eG,h]
section
variable (hA:tz P T N ops d)(hI:ag2 d ops base μ0 w0 S μ kb kt a.tmps w)(hS:vM ops S)(ho:ops[j]? =some o)(hr:∀e∈o.after,Region.binds .any e=true->S e.on)(hj:¬S j)
include hA hI hS ho hr hj
theorem Uh:afA base μ (d.Tm j) w:=by
 have F:j<ops.size:=(Nm.1 ho).1;refine⟨hI.afx,fun b s R=>?_,fun b C O M L X B=>?_⟩
 .by_cases V:s=.qK
  .subst V;trivial
  .have u:jb (d.Tm j) b:=⟨s,R,V⟩
   obtain⟨K,U⟩:=yp hA hI hS ho hr hj u;have G:=rM hA ho R V;rw[U] at G;rw[(hA j o ho).ag7];exact(hI.slot b s G).mono (AT hA _ j K (by omega)) (fun _ _=>rfl) fun _=>rfl
 .obtain⟨K,U⟩:=yp hA hI hS ho hr hj (me M)
  obtain⟨Y,m⟩:=yp hA hI hS ho hr hj ⟨O,L,X⟩;refine hI.sep b C O ?_ ?_ X B
  .refine(mg U).1 ?_
   obtain⟨s,h,Z⟩:=M;exact⟨s,rM hA ho h (afq.afY Z),Z⟩
  .rw[<-m];exact rM hA ho L X
theorem Ui:afU μ (d.Tm j).length (d.En j) a.tmps:=by
 have Z:j<ops.size:=(Nm.1 ho).1;intro t;rcases (hA j o ho).named t with h | ⟨h,X⟩
 .rw[h];simp[afn]
 .obtain⟨V,U⟩:=VT hA hI hS ho hr hj X
  rw[h,U,(hA j o ho).ag7];exact(hI.tmp t).mono (AT hA _ j V (by omega)) fun _ _=>rfl
end
end step
end
end Go.Eng
namespace Go.Eng
section
variable {P:Program}{T:TypeId->Option TyI}{N:Nat}{ops:Array Oper}{d:afW}
variable {base:Nat}{μ0:Nat->Place}{w0:World}{S:Nat->Prop}{μ μ' :Nat->Place}{kb kt:Nat->Nat}{a:Act}{w w' :World}{j:Nat}{o:Oper}{V:Value}
open Classical in
theorem VR(I:tz P T N ops d)(H:ag2 d ops base μ0 w0 S μ kb kt a.tmps w)(hS:vM ops S)(J:ops[j]? =some o)(hr:∀e∈o.after,Region.binds .any e=true->S e.on)(hj:¬S j)(hN:a.tmps.size=N)(hV:afn μ' (d.M' j).length (d.v j) V)(hH:afA base μ' (d.M' j) w')(Y:Step (d.Tm j).length μ (d.Tm j) w μ' (d.M' j) w'):
  ∃μ2 kb2 kt2,ag2 d ops base μ0 w0 (fun i=>S i\/i=j) μ2 kb2 kt2 (a.put o.dst V).tmps w' :=by
 have hjs:j<ops.size:=(Nm.1 J).1;have D:=I j o J;have hlj:∀k,k<=j->(d.M k).length<=(d.M j).length:=fun k hk=>AT I k j hk (by omega)
 have hl1:=D.ag9;have h0j:=hlj 0 (Nat.zero_le _);have hag:∀b,b<(d.M j).length->μ' b=μ b:=fun b X=>Y.agree b (by rw[D.ag7];exact X)
 let μ2:Nat->Place:=fun b=>if b<(d.M (j+1)).length then μ' b else μ b
 have F:∀b,b<(d.M j).length->μ2 b=μ b:=by
  intro b X;show(if b<(d.M (j+1)).length then μ' b else μ b)=μ b
  rw[if_pos (by omega),hag b X]
 have aa6:∀b,b<(d.M (j+1)).length->μ2 b=μ' b:=by
  intro b X;show(if b<(d.M (j+1)).length then μ' b else μ b)=μ' b
  rw[if_pos X]
 have ab2:∀b,¬b<(d.M (j+1)).length->μ2 b=μ b:=by
  intro b X;show(if b<(d.M (j+1)).length then μ' b else μ b)=μ b
  rw[if_neg X]
 have adg:∀k,0<k->S (k-1)->k-1<ops.size->∀b,d.ok (k-1) b=true->μ2 b=μ b:=by
  intro k hk hSk hks b X;by_cases h1:b<(d.M j).length
  .exact F b h1
  .by_cases G:b<(d.M (j+1)).length
   .obtain⟨ok,ZF⟩:=AA hks
    rcases (I _ ok ZF).okc j b o J X (by omega) G with e | e
    .exact absurd (e▸hSk) hj
    .exact absurd (SV I hS _ ok ZF (hS _ ok ZF hSk) j e) hj
   .exact ab2 b G
 let kb2:Nat->Nat:=fun b=>if Tch d j b then j+1 else kb b
 let kt2:Nat->Nat:=fun t=>if o.dst=some t then j+1 else kt t
 have abL:∀b,Tch d j b->kb2 b=j+1:=fun b X=>if_pos X
 have abM:∀b,¬Tch d j b->kb2 b=kb b:=fun b X=>if_neg X
 have kbS:∀b,kb b=0\/(0<kb b/\S (kb b-1)/\kb b-1<ops.size/\Tch d (kb b-1) b):=by
  intro b;rcases QQK (kb b) with h0 | h0
  .exact .inl h0
  .rcases H.agN b with h1 | h1
   .exact .inl h1
   .have K:kb b-1<ops.size:=by have:=H.agM b;omega
    exact .inr ⟨h0,(H.agw b _ K h1).2 (by omega),K,h1⟩
 have acZ:∀b,¬Tch d j b->b<(d.M j).length\/¬b<(d.M (j+1)).length:=by
  intro b X;by_cases h1:b<(d.M j).length
  .exact .inl h1
  .refine .inr fun G=>X ⟨D.ahO b (by omega),G⟩
 have adh:∀b,¬Tch d j b->μ2 b=μ b:=by
  intro b X;rcases acZ b X with h | h
  .exact F b h
  .exact ab2 b h
 have ab3:∀b,jb (d.Tm j) b->¬Tch d j b->kb b<=j/\b<(d.M j).length/\(d.M' j)[b]? =(d.M (kb b))[b]? /\(d.M (kb b))[b]? =(d.M j)[b]? :=by
  intro b X hnt;obtain⟨k1,u⟩:=yp I H hS J hr hj X;obtain⟨s,O,m⟩:=X;have K:b<(d.M j).length:=by have:=gL O;rw[D.ag7] at this;exact this
  have hf:d.af7 j b=false:=by
   cases Z:d.af7 j b with
   |false=>rfl
   |true=>exact absurd ⟨Z,by omega⟩ hnt
  exact⟨k1,K,(D.ahN b K hf ⟨s,O,m⟩).trans u,u.symm⟩
 have adi:∀b s,(d.M (kb2 b))[b]? =some s->s≠ .qK->((d.M' j)[b]? =some s/\μ2 b=μ' b/\b<(d.M (j+1)).length/\(Tch d j b\/jb (d.Tm j) b))\/
   ((d.M (kb b))[b]? =some s/\¬jb (d.Tm j) b/\¬Tch d j b/\μ2 b=μ b):=by
  intro b s O m;by_cases Z:Tch d j b
  .rw[abL b Z] at O
   exact .inl ⟨by rw[<-D.ahH b Z.1];exact O,aa6 b Z.2,Z.2,.inl Z⟩
  .rw[abM b Z] at O
   by_cases X:jb (d.Tm j) b
   .obtain⟨k1,u,k3,k4⟩:=ab3 b X Z
    exact .inl ⟨by rw[k3];exact O,by rw[F b u,hag b u],by omega,.inr X⟩
   .exact .inr ⟨O,X,Z,adh b Z⟩
 have aaU:∀b,eG (d.M (kb2 b)) b->(eG (d.M' j) b/\μ2 b=μ' b/\b<(d.M (j+1)).length/\(Tch d j b\/jb (d.Tm j) b))\/
   (eG (d.M (kb b)) b/\¬jb (d.Tm j) b/\¬Tch d j b/\μ2 b=μ b):=by
  intro b X;obtain⟨s,h,U⟩:=X;rcases adi b _ h (afq.afY U) with⟨C,g2⟩ | ⟨C,g2⟩
  .exact .inl ⟨⟨s,C,U⟩,g2⟩
  .exact .inr ⟨⟨s,C,U⟩,g2⟩
 have aaa:∀b,eG (d.Tm j) b->eG (d.M (kb b)) b:=by intro b X;obtain⟨k1,u⟩:=yp I H hS J hr hj (me X);refine(mg u).1 ?_;obtain⟨s,h,U⟩:=X;exact⟨s,rM I J h (afq.afY U),U⟩
 have ab4:∀b s,(d.M (kb b))[b]? =some s->s≠ .qK->(μ b).blk<w.heap.size:=fun b s O m=>(H.slot b s O).af8 m
 refine⟨μ2,kb2,kt2,⟨QQd H.afx Y.size,?_,?_,?_,?_,?_,?_,?_,?_,?_,?_,Y.os.trans H.os,Y.tape.trans H.tape,QQd H.drawn Y.drawn,Y.output.trans H.output,QQd H.size Y.size,?_,?_⟩⟩
 .
  intro b;by_cases Z:Tch d j b
  .rw[abL b Z];omega
  .rw[abM b Z];exact H.agM b
 .
  intro b i hi hti;obtain⟨oi,B⟩:=AA hi;by_cases Z:Tch d j b
  .rw[abL b Z]
   by_cases R:i=j
   .subst R;simp
   .have:=nM I hS J hr hj hi (D.sep i oi b B R hti.2 hti.1 (.inl ⟨Z.2,Z.1⟩))
    constructor
    .rintro (h | h)
     .have:=this.1 h;omega
     .omega
    .intro h;exact .inl (this.2 (by omega))
  .rw[abM b Z]
   have R:i≠j:=fun e=>Z (e▸hti)
   rw[<-H.agw b i hi hti];constructor
   .rintro (h | h)
    .exact h
    .exact absurd h R
   .exact .inl
 .
  intro b;by_cases Z:Tch d j b
  .rw[abL b Z];exact .inr Z
  .rw[abM b Z];exact H.agN b
 .
  intro b s O;by_cases h0:s=.qK
  .subst h0;trivial
  by_cases Z:Tch d j b
  .rw[abL b Z] at O |-
   have h1:=hH.slot b s (by rw[<-D.ahH b Z.1];exact O);rw[aa6 b Z.2,D.ahG];exact h1.mono (L9 _) (fun x hx=>aa6 x (by rw[D.ahG];exact hx)) fun _=>rfl
  .rw[abM b Z] at O |-
   have ZZ:=H.slot b s O;rw[adh b Z];by_cases X:jb (d.Tm j) b
   .obtain⟨k1,u,k3,k4⟩:=ab3 b X Z
    have h1:=hH.slot b s (by rw[k3];exact O);rw[hag b u] at h1;have hlk:=hlj (kb b) k1;have G:=ZZ.lower (fun x hx=>hag x (by omega)) h1;exact G.mono (L9 _) (fun x hx=>F x (by omega)) fun _=>rfl
   .have ac0:w'.heap[(μ b).blk]? =w.heap[(μ b).blk]? :=by
     refine Y.frame _ (ZZ.af8 h0) fun b1 hb1=>?_
     refine H.sep b1 b s (aaa b1 hb1) O h0 ?_;rintro rfl;exact X (me hb1)
    have G:afD μ (d.M (kb b)).length base w' (μ b) s:=ZZ.mono (L9 _) (fun _ _=>rfl) fun _=>ac0
    rcases kbS b with h3 | ⟨h3,h4,h5,h6⟩
    .refine G.mono (L9 _) (fun x hx=>F x ?_) fun _=>rfl
     rw[h3] at hx;omega
    .obtain⟨ok,ZF⟩:=AA h5
     have hk1:kb b-1+1=kb b:=by omega
     refine G.change (ok:=d.ok (kb b-1)) (fun x _ hx=>adg (kb b) h3 h4 h5 x hx) ?_;exact(I _ ok ZF).ahP b s h6.1 (by rw[hk1];exact O)
 .
  intro b L s' X Zu m ZY;rcases aaU b X with⟨C,g2,_,_⟩ | ⟨C,g2,g3,g4⟩<;>rcases adi L s' Zu m with⟨k1,u,k3,k4⟩ | ⟨k1,u,k3,k4⟩
  .rw[g2,u];exact hH.sep b L s' C k1 m ZY
  .rw[g2,k4]
   have K:=ab4 L s' k1 m;by_cases hlt2:(μ' b).blk<w.heap.size
   .obtain⟨b0,h0,h1⟩:=Y.owner b C hlt2
    rw[<-h1];refine H.sep b0 L s' (aaa b0 h0) k1 m ?_;rintro rfl;exact u (me h0)
   .omega
  .rw[g4,u]
   by_cases K:L <(d.M j).length
   .have S':jb (d.Tm j) L :=by
     rcases k4 with Z | hb1
     .exact D.ahp L Z.1 K
     .exact hb1
    obtain⟨q1,q2⟩:=yp I H hS J hr hj S';obtain⟨s0,hs0,adj⟩:=S';rw[hag L K];exact H.sep b L s0 C (by rw[<-q2];exact rM I J hs0 adj) adj ZY
   .have ht' :=D.ahO L (by omega)
    have hM1:(d.M (j+1))[L]? =some s' :=by rw[D.ahH L ht'];exact k1
    have ZT:=D.ahq L s' (by omega) hM1 m;have ab0 :eG (d.M' j) L :=(mg (D.ahH L ht')).1 ZT;have hbl:(μ b).blk<w.heap.size:=by obtain⟨s,h,U⟩:=C;exact ab4 b _ h (afq.afY U)
    by_cases hlt2:(μ' L).blk<w.heap.size
    .obtain⟨b0,h0,h1⟩:=Y.owner L ab0 hlt2
     rw[<-h1];have hob:=aaa b0 h0;have adU:b≠b0:=by rintro rfl;exact g2 (me h0)
     obtain⟨s,h,U⟩:=hob;exact H.sep b b0 _ C h (afq.afY U) adU
    .omega
  .rw[g4,k4];exact H.sep b L s' C k1 m ZY
 .
  intro t;show(if o.dst=some t then j+1 else kt t)<=ops.size
  split
  .omega
  .exact H.ahb t
 .
  intro t i oi B hd;show(S i\/i=j)↔i<(if o.dst=some t then j+1 else kt t)
  have hi:i<ops.size:=(Nm.1 B).1;by_cases Z:o.dst=some t
  .rw[if_pos Z]
   by_cases R:i=j
   .subst R;simp
   .have:=nM I hS J hr hj hi (D.ah6 i oi t B R Z hd)
    constructor
    .rintro (h | h)
     .have:=this.1 h;omega
     .omega
    .intro h;exact .inl (this.2 (by omega))
  .rw[if_neg Z]
   have R:i≠j:=by rintro rfl;rw[J] at B;cases B;exact Z hd
   rw[<-H.agx t i oi B hd];constructor
   .rintro (h | h)
    .exact h
    .exact absurd h R
   .exact .inl
 .
  intro t;show(if o.dst=some t then j+1 else kt t)=0\/∃oi,ops[(if o.dst=some t then j+1 else kt t)-1]? =some oi/\oi.dst=some t
  by_cases Z:o.dst=some t
  .rw[if_pos Z];exact .inr ⟨o,by simpa using J,Z⟩
  .rw[if_neg Z];exact H.agO t
 .
  intro t;show afn μ2 (d.M (if o.dst=some t then j+1 else kt t)).length (ad (d.E (if o.dst=some t then j+1 else kt t)) t) ((a.put o.dst V).tmps.getD t undef)
  by_cases Z:o.dst=some t
  .rw[if_pos Z,D.env,Z]
   have K:t<a.tmps.size:=by have:=D.dst;unfold Ee at this;rw[Z] at this;simp only[GE] at this;rw[hN];exact this
   have e1:ad (age (d.E j) (some t) (d.v j)) t=d.v j:=by simp[age,ad]
   have e2:(a.put (some t) V).tmps.getD t undef=V:=by simp[Act.put,K]
   rw[e1,e2,D.ahG];exact hV.mono (L9 _) fun x hx=>aa6 x (by rw[D.ahG];exact hx)
  .rw[if_neg Z]
   have e2:(a.put o.dst V).tmps.getD t undef=a.tmps.getD t undef:=by
    cases hd:o.dst with
    |none=>rfl
    |some x=>
     have m:x≠t:=by rintro rfl;exact Z hd
     simp[Act.put,QQY m]
   rw[e2];have ZZ:=H.tmp t;rcases QQK (kt t) with h0 | h0
   .rw[h0] at ZZ |-
    exact ZZ.mono (L9 _) fun x hx=>F x (by omega)
   .rcases H.agO t with h1 | ⟨oi,h1,G⟩
    .omega
    .have hSk:S (kt t-1):=(H.agx t _ oi h1 G).2 (by omega)
     have hks:kt t-1<ops.size:=(Nm.1 h1).1;refine ZZ.change (ok:=d.ok (kt t-1)) (fun x _ hx=>adg (kt t) h0 hSk hks x hx) ?_;have he:=(I _ oi h1).env;have hk1:kt t-1+1=kt t:=by omega
     rw[hk1,G] at he;rw[he];simp only[age,ad,if_true];exact(I _ oi h1).aha
 .
  intro b X;rw[F b (by omega)];exact H.agree b X
 .
  intro k hk hf;rw[Y.frame k (QXK hk H.size) ?_,H.frame k hk hf];intro b X he;obtain⟨b0,h1,G⟩:=H.owner b (aaa b X) (by rw[he];exact hk);exact hf b0 h1 (G.trans he)
 .
  intro b X K;rcases aaU b X with⟨C,g2,_,_⟩ | ⟨C,g2,g3,g4⟩
  .rw[g2] at K |-
   obtain⟨b0,h0,h1⟩:=Y.owner b C (QXK K H.size);obtain⟨b1,G,h3⟩:=H.owner b0 (aaa b0 h0) (by rw[h1];exact K);exact⟨b1,G,h3.trans h1⟩
  .rw[g4] at K |-
   exact H.owner b C K
end
variable{listed:Array Bool}
section
variable {P:Program}{T:TypeId->Option TyI}{tp:Bool}{N m0:Nat}{ops:Array Oper}{d:afW}
def left(ops:Array Oper)(listed:Array Bool):Nat:=((List.range ops.size).filter fun i=> !listed.getD i true).length
def tZ(listed:Array Bool)(i:Nat):Prop:=listed.getD i false=true
theorem Ay{l:List Nat}{p q:Nat->Bool}(h:∀i∈l,q i=true->p i=true){j:Nat}(H:j∈l)(h1:p j=true)(h2:q j=false):(l.filter q).length<(l.filter p).length:=by
 induction l with
 |nil=>cases H
 |cons x xs ih=>
  have V:∀(l:List Nat),(∀i∈l,q i=true->p i=true)->(l.filter q).length<=(l.filter p).length:=by
   intro l X;induction l with
   |nil=>simp
   |cons y ys ih2=>
    have:=ih2 (fun i Z=>X i (by simp[Z]));have S:=X y (by simp);simp only[List.filter_cons];cases hq:q y<;>cases hp:p y<;>simp_all<;>omega
  have U:=V xs (fun i Z=>h i (by simp[Z]));have R:=h x (by simp);simp only[List.filter_cons];cases H with
  |head=>rw[h1,h2];simp;omega
  |tail _ hm=>
   have:=ih (fun i Z=>h i (by simp[Z])) hm;cases hq:q x<;>cases hp:p x<;>simp_all<;>omega
theorem Uj{i:Nat}(H:i<listed.size):tZ (listed.setIfInBounds i true)=fun k=>tZ listed k\/k=i:=by
 funext k;apply propext;unfold tZ;by_cases Z:i=k
 .subst Z;simp[H]
 .rw[getD_set_ne false Z]
  constructor
  .exact .inl
  .rintro (h | h)
   .exact h
   .exact absurd h.symm Z
theorem Rd(H:tz P T N ops d)(I:listed.size=ops.size)(h:Region.ready .any ops listed=[]):∀i,i<ops.size->tZ listed i:=by
 intro i;induction i using Nat.strongRecOn with
 |_ i ih=>
  intro U;obtain⟨o,Z⟩:=AA U;cases hl:listed.getD i true with
  |true=>
   unfold tZ;simp only[Array.getD_eq_getD_getElem?] at hl |-;rw[Array.getElem?_eq_getElem (by omega)] at hl |-;exact hl
  |false=>
   exfalso;have:i∈Region.ready .any ops listed:=mem_ready.2 ⟨hl,o,Z,fun e X V=>ih e.on ((H i o Z).ahI e X V) (by have:=(H i o Z).ahI e X V;omega)⟩;rw[h] at this;cases this
theorem VJ(J:tz P T N ops d){I:Nat}{μ0 μ:Nat->Place}{w0 w:World}{S:Nat->Prop}{Y kt:Nat->Nat}{tmps:Array Value}(Z0:m0<=(d.M 0).length)(H:ag2 d ops I μ0 w0 S μ Y kt tmps w)(hS:∀i,i<ops.size->S i):
  afA I μ (d.M ops.size) w/\afU μ (d.M ops.size).length (d.E ops.size) tmps/\m0<=(d.M ops.size).length/\Step m0 μ0 (d.M 0) w0 μ (d.M ops.size) w:=by
 have X:∀b,(d.M ops.size)[b]? =(d.M (Y b))[b]? :=fun b=>E5 J b (Y b) _ (H.agM b) (L9 _) fun i R V h3=>by have:=(H.agw b i V h3).1 (hS i V);omega
 have U:∀k,k<=ops.size->(d.M k).length<=(d.M ops.size).length:=fun k O=>AT J k _ O (L9 _)
 have h0:=U 0 (Nat.zero_le _);refine⟨⟨H.afx,fun b s L=>?_,fun b K G Z F C B=>?_⟩,fun t=>?_,by omega,⟨by omega,fun b Z=>H.agree b (by omega),H.os,H.tape,H.output,H.size,H.frame,fun b Z u=>?_,H.drawn⟩⟩
 .exact(H.slot b s (by rw[<-X];exact L)).mono (U _ (H.agM b)) (fun _ _=>rfl) fun _=>rfl
 .exact H.sep b K G ((mg (X b)).1 Z) (by rw[<-X];exact F) C B
 .have o:=EK J t (kt t) ops.size (H.ahb t) (L9 _) fun i m R V h3 j=>by have:=(H.agx t i m h3 j).1 (hS i V);omega
  rw[o];exact(H.tmp t).mono (U _ (H.ahb t)) fun _ _=>rfl
 .exact H.owner b ((mg (X b)).1 Z) u
theorem Cc(hm:P.follows .mixedOrders=true)(hT:dQ P T){id:Nat}{st H :St}{Q:Exit->St->Prop}(hA:tz P T N ops d)(hE:d.E 0=st.env)(J:d.M 0=st.mem)(I :H =⟨d.E ops.size,d.M ops.size⟩)(hq:Q .normal H):
  AWP P tp N m0 (.region id ops true) st Q:=by
 intro ro h0 base μ0 w0 a0 hro hH hR hN hdf Z0;refine wpIn_region_any hm ?_;have G:∀(listed:Array Bool) (a:Act) (w:World) μ kb kt,listed.size=ops.size->a.tmps.size=N->a.defers=a0.defers->
   ag2 d ops base μ0 w0 (tZ listed) μ kb kt a.tmps w->Region.ready .any ops listed=[]->
   ∃H μ',afA base μ' H.mem w/\afU μ' H.mem.length H.env a.tmps/\a.tmps.size=N/\MOk P base h0 w a.defers/\m0<=H.mem.length/\Step m0 μ0 st.mem w0 μ' H.mem w/\Q .normal H :=by
  intro listed a w μ kb kt Z6 ha hd hI hr;obtain⟨X,h2,h3,h4⟩:=VJ (m0:=m0) hA (by rw[J];exact Z0) hI (Rd hA Z6 hr);rw[J] at h4;exact⟨H,μ,by rw[I];exact X,by rw[I];exact h2,ha,by rw[hd];exact hdf.step hH h4,by rw[I];exact h3,by rw[I];exact h4,hq⟩
 have key:∀(Z:Nat) (listed:Array Bool) (a:Act) (w:World) μ kb kt,listed.size=ops.size->left ops listed<=Z->a.tmps.size=N->a.defers=a0.defers->
   vM ops (tZ listed)->ag2 d ops base μ0 w0 (tZ listed) μ kb kt a.tmps w->
   wpAnyIn (Fr ro) 0 P .any ops (fun e S w' =>∃H μ',afA base μ' H.mem w' /\afU μ' H.mem.length H.env S.tmps/\S.tmps.size=N/\MOk P base h0 w' S.defers/\m0<=H.mem.length/\
    Step m0 μ0 st.mem w0 μ' H.mem w' /\Q e H) Z listed a w:=by
  intro Z;induction Z with
  |zero=>
   intro listed a w μ kb kt Z6 hl ha hd hC hI;have hr:Region.ready .any ops listed=[]:=by
    apply List.eq_nil_iff_forall_not_mem.2;intro i hi;obtain⟨X,o,U,_⟩:=mem_ready.1 hi;have F:i<ops.size:=(Nm.1 U).1;have:i∈(List.range ops.size).filter fun i=> !listed.getD i true:=by rw[List.mem_filter];exact⟨by simpa using F,by rw[X];rfl⟩
    have h0:((List.range ops.size).filter fun i=> !listed.getD i true)=[]:=Mp (Nat.le_zero.1 hl);rw[h0] at this;cases this
   exact⟨hr,G listed a w μ kb kt Z6 ha hd hI hr⟩
  |succ Z ih=>
   intro listed a w μ kb kt Z6 hl ha hd hC hI;refine⟨G listed a w μ kb kt Z6 ha hd hI,fun i hi=>?_⟩;obtain⟨X,o,U,ZU⟩:=mem_ready.1 hi;have F:i<ops.size:=(Nm.1 U).1;have R:¬tZ listed i:=by unfold tZ;simp only[Array.getD_eq_getD_getElem?] at X |-;rw[Array.getElem?_eq_getElem (by omega)] at X |-;simp only[Option.getD_some] at X |-;rw[X];simp
   have C:=Uj (listed:=listed) (i:=i) (by omega);have hC' :vM ops (tZ (listed.setIfInBounds i true)):=by
    rw[C];intro j oj O L e he hb;rcases L with L | rfl
    .exact .inl (hC j oj O L e he hb)
    .rw[U] at O;cases O;exact .inl (ZU e he hb)
   have ac1:left ops (listed.setIfInBounds i true)<=Z:=by
    have:left ops (listed.setIfInBounds i true)<left ops listed:=by
     unfold left;refine Ay (fun k _ hk=>?_) (j:=i) (by simpa using F) (by rw[X];rfl) (by simp[Z6,F]);by_cases B:i=k
     .subst B;simp[Z6,F] at hk
     .rw[getD_set_ne true B] at hk;exact hk
    omega
   have D:=hA i o U;have u:=Uh hA hI hC U ZU R;have hGw:GOk P base w:=by
    refine⟨hdf.agA.below,?_⟩;have:=hdf.agA.tab;unfold Lib.TabIs at this |-;rw[<-this];refine PN fun k hk=>hI.frame k ?_ fun b hb=>?_
    .have:=hdf.agA.below;have:=hH.afx;omega
    .rw[J] at hb
     have:=Py hH hb;have:=hdf.agA.below;omega
   have m:=Ui hA hI hC U ZU R;have next:∀V w' μ',afn μ' (d.M' i).length (d.v i) V->afA base μ' (d.M' i) w' ->Step (d.Tm i).length μ (d.Tm i) w μ' (d.M' i) w' ->
     wpAnyIn (Fr ro) 0 P .any ops (fun e S w' =>∃H μ',afA base μ' H.mem w' /\afU μ' H.mem.length H.env S.tmps/\S.tmps.size=N/\MOk P base h0 w' S.defers/\m0<=H.mem.length/\
      Step m0 μ0 st.mem w0 μ' H.mem w' /\Q e H) Z (listed.setIfInBounds i true) (a.put o.dst V) w' :=by
    intro V w' μ' q1 q2 q3;obtain⟨μ2,kb2,kt2,Y⟩:=VR hA hI hC U ZU R ha q1 q2 q3;rw[<-C] at Y;exact ih _ _ _ μ2 kb2 kt2 (by simp[Z6]) ac1 (by rw[fX];exact ha) (by rw[gu];exact hd) hC' Y
   unfold wpOpIn;simp only[U];rw[qe m D.wanted];cases hw:d.wb i with
   |false=>
    obtain⟨e1,e2⟩:=D.skip hw;simp only[Bool.false_eq_true,if_false];exact⟨fun _ _=>trivial,next undef w μ (by rw[e1];simp[afn,afo,undef]) (by rw[e2];exact u) (by rw[e2];exact .refl (L9 _))⟩
   |true=>
    simp only[if_true];exact sn hT hGw u m ha D.dst (D.step hw) fun V w' μ' q1 q2 q3 q4=>next V w' μ' q1 q2 q4
 have hI0:ag2 d ops base μ0 w0 (tZ (Array.replicate ops.size false)) μ0 (fun _=>0) (fun _=>0) a0.tmps { w0 with drawn:=w0.drawn+1 }:=by
  have hno:∀i,¬tZ (Array.replicate ops.size false) i:=by intro i;unfold tZ;simp only[Array.getD_eq_getD_getElem?,Array.getElem?_replicate];split<;>simp
  have K :afA base μ0 (d.M 0) { w0 with drawn:=w0.drawn+1 }:=by rw[J];exact hH.ags rfl
  refine⟨K.afx,fun _=>Nat.zero_le _,fun b i _ _=>⟨fun h=>absurd h (hno i),fun h=>by omega⟩,fun _=>.inl rfl,fun b s hs=>K.slot b s hs,
   fun b b' s' =>K.sep b b' s',fun _=>Nat.zero_le _,fun t i oi _ _=>⟨fun h=>absurd h (hno i),fun h=>by omega⟩,fun _=>.inl rfl,fun t=>?_,fun _ _=>rfl,
   rfl,rfl,Nat.le_succ _,rfl,L9 _,fun _ _ _=>rfl,fun b hb _=>⟨b,hb,rfl⟩⟩
  rw[J,hE];exact hR t
 refine key ops.size _ a0 _ μ0 _ _ (by simp) ?_ hN rfl ?_ hI0
 .unfold left
  exact QQd (List.length_filter_le _ _) (by simp)
 .intro j o _ hS
  exfalso;unfold tZ at hS;simp only[Array.getD_eq_getD_getElem?,Array.getElem?_replicate] at hS;split at hS<;>simp at hS
end
end Go.Eng
namespace Go.Eng
def rZ:Exit->Option (Option Code)
 |.normal=>some none
 |.ret=>some (some .ret)
 |.exit id=>some (some (.exit id))
 |_=>none
def zm:Option Code->Option Exit
 |none=>some .normal
 |some .ret=>some .ret
 |some (.exit id)=>some (.exit id)
 |_=>none
def np(j:Option Code):LoopState:=if j.isNone then .ready else .done
def zh:List Tmp->List AV->Env->Env
 |t::ts,v::vs,env=>zh ts vs ((t,v)::env)
 |_,_,env=>env
variable{L:Loop}{m0:Nat}{r:agv}
section
variable {P:Program}{T:TypeId->Option TyI}{μ:Nat->Place}{mem:Mem}{base:Nat}{w:World}
theorem afA.alloc(H:afA base μ mem w)(o:Obj):afA base μ mem (w.alloc o):=by refine⟨by simp;have:=H.afx;omega,fun b s Z=>?_,H.sep⟩;exact(H.slot b s Z).mono (L9 _) (fun _ _=>rfl) fun X=>iC w o ((H.slot b s Z).af8 X)
theorem Step.alloc(h:m0<=mem.length)(o:Obj):Step m0 μ mem w μ mem (w.alloc o):=
 ⟨h,fun _ _=>rfl,rfl,rfl,rfl,by simp,fun k Z _=>iC w o Z,fun b X _=>⟨b,X,rfl⟩,L9 _⟩
theorem GO{n:Nat}:∀{ts:List Tmp} {vs:List AV} {Vs:List Value} {env:Env} {tmps:Array Value},afo μ n vs Vs->afU μ n env tmps->vs.length=ts.length->(∀t∈ts,t<tmps.size)->
  afU μ n (zh ts vs env) ((ts.zip Vs).foldl (fun tmps (t,a)=>tmps.setIfInBounds t a) tmps)/\((ts.zip Vs).foldl (fun tmps (t,a)=>tmps.setIfInBounds t a) tmps).size=tmps.size
 | [],[],Vs,env,tmps,hv,ht,_,_=>by exact⟨ht,rfl⟩
 |t::ts,v::vs,Vs,env,tmps,hv,ht,hl,hb=>by simp only[afo] at hv;obtain⟨U,S,rfl,Z,X⟩:=hv;simp only[zh,List.zip_cons_cons,List.foldl_cons];have:=afU.put (a:={ tmps:=tmps,defers:=[] }) ht (hb t (by simp)) Z;simp only[Act.put] at this;have r:=GO (env:=(t,v)::env) (tmps:=tmps.setIfInBounds t U) X this (by simpa using hl) (fun x V=>by simpa using hb x (by simp[V]));exact⟨r.1,r.2.trans (by simp)⟩
 | [],_::_,_,_,_,_,_,hl,_=>by simp at hl
 |_::_,[],_,_,_,_,_,hl,_=>by simp at hl
theorem jf{l:Nat}(h:w.heap[l]? =some (.loop L)):(Instr.getLoop l).run P w=.ok L w:=by
 have Z:(getObj l).run P w=.ok (.loop L) w:=by simp[getObj,Sem.run,h]
 simp only[Instr.getLoop,Sem.run_bind,Z,Result.andThen_ok];rfl
theorem wT{base:Nat}{b:Nat}{r' :agv}{L' :Loop}(H:afA base μ mem w)(hb:mem[b]? =some (.loop r))(I:w.heap[(μ b).blk]? =some (.loop L))(hr:agK μ mem.length r' L'):
  (setObj (μ b).blk (.loop L')).run P w=.ok () { w with heap:=w.heap.setIfInBounds (μ b).blk (.loop L') }/\
  afA base μ (mem.set b (.loop r')) { w with heap:=w.heap.setIfInBounds (μ b).blk (.loop L') }/\
  Step mem.length μ mem w μ (mem.set b (.loop r')) { w with heap:=w.heap.setIfInBounds (μ b).blk (.loop L') }:=by
 have X:=(Nm.1 I).1;have Z:=gL hb;refine⟨tx I (by intro c e f h;cases h),H.write hb (RG hb) (fun _=>⟨_,QQc Z,rfl⟩) rfl rfl rfl rfl (by simp) (fun k V=>QQY (Ne.symm V)) ?_⟩;simp only[afD];have:=H.slot b _ hb;simp only[afD] at this;obtain⟨_,_,U,_⟩:=this;exact⟨L',by simp[X],U,hr⟩
theorem af9.intro{b:Nat}{args:List AV}{R:AV->Mem->Prop}(hb:mem[b]? =some (.loop r))(I:r.st=.ready)(hl:args.length=r.ps.toList.length)(H:∀t∈r.ps.toList,t<r.N)(h:AWP P false r.N mem.length r.assign ⟨zh r.ps.toList args r.env,mem⟩ fun e Z=>e=.normal/\∃r1,Z.mem[b]? =some (.loop r1)/\r1.st=.ready/\
   AWP P false r.N mem.length r.body ⟨Z.env,Z.mem.set b (.loop { r1 with st:=.busy })⟩ fun e X=>∃r2 j K,rZ e=some j/\X.mem[b]? =some (.loop r2)/\Ei mem.length X.mem.length K=true/\
    R (.bool j.isNone) (afz mem.length K (X.mem.set b (.loop { r2 with st:=np j,agt:=j })))):
  af9 P b args mem R:=by
 intro base μ w Vs hG hH hV hbl;have U:=hH.slot b _ hb;simp only[afD] at U;obtain⟨L,h1,h2,h3⟩:=U;have G':Vs.length=L.params.size:=by rw[hV.length,hl,h3.ps];simp
 refine⟨L.fn,(L.params.zip ⟨Vs⟩).foldl (fun tmps (t,a)=>tmps.setIfInBounds t a) L.tmps,L.assign,L.body,?_,?_⟩
 .simp only[Instr.yield,Sem.run_bind,jf h1,Result.andThen_ok]
  rw[if_neg (by simp[G'])];rfl
 .refine roundIn_of_wpIn (F:=Fence.wide) trivial ?_
  have S:(L.params.zip ⟨Vs⟩).foldl (fun tmps (t,a)=>tmps.setIfInBounds t a) L.tmps=(r.ps.toList.zip Vs).foldl (fun tmps (t,a)=>tmps.setIfInBounds t a) L.tmps:=by rw[h3.ps,<-Array.foldl_toList];simp
  have u:=GO (ts:=r.ps.toList) hV h3.tmps hl (fun t ht=>by rw[h3.size];exact H t ht);rw[h3.assign,h3.body];refine wpIn_mono (F:=Fr (some (μ b).blk)) (h (some (μ b).blk) w.heap.size base μ w ⟨_,[]⟩ (fun h=>by cases h) hH (by rw[S];exact u.1) (by rw[S,u.2];exact h3.size) (MOk.nil w hG hH.afx (L9 _)) (L9 _)) ?_;rintro e a1 w1 ⟨Z,μ1,c1,c2,c3,c4,c5,c6,rfl,r1,c7,c8,hbody⟩;have O:=c1.slot b _ c7;simp only[afD] at O;obtain⟨L1,d1,d2,d3⟩:=O;have hμ:μ1 b=μ b:=c6.agree b hbl;rw[hμ] at d1;obtain⟨o,m,G⟩:=wT (P:=P) (r' :={ r1 with st:=.busy }) (L' :={ L1 with state:=.busy }) c1 c7 (by rw[hμ];exact d1) { d3 with st:=rfl };rw[hμ] at o m G;refine⟨_,?_,wpIn_mono (F:=Fr (some (μ b).blk)) (hbody (some (μ b).blk) w.heap.size base μ1 _ a1 (fun h=>by cases h) m (by rw[QQh];exact c2) c3 (c4.step c1 G) (by rw[QQh];exact c5)) ?_⟩
  .simp only[Instr.beginRound,Sem.run_bind,jf d1,Result.andThen_ok,o]
   rw[d3.st,c8];rfl
  .rintro e a2 w2 ⟨X,μ2,f1,f2,f3,f4,f5,f6,r2,j,K,f7,f8,f9,f10⟩
   have M:=f1.slot b _ f8;simp only[afD] at M;obtain⟨L2,g1,g2,g3⟩:=M;have hμ2:μ2 b=μ b:=by rw[f6.agree b hbl,hμ]
   rw[hμ2] at g1;obtain⟨C,Y,J⟩:=wT (P:=P) (r' :={ r2 with st:=np j,agt:=j }) (L' :={ L2 with state:=np j,pending:=j }) f1 f8 (by rw[hμ2];exact g1) { g3 with st:=rfl,agt:=rfl };rw[hμ2] at C Y J;have Zr:(Instr.endRound (μ b).blk j).run P w2=.ok (.bool j.isNone) { w2 with heap:=w2.heap.setIfInBounds (μ b).blk (.loop { L2 with state:=np j,pending:=j }) }:=by unfold np at C |-;simp only[Instr.endRound,Sem.run_bind,jf g1,Result.andThen_ok,C];rfl
   obtain⟨p1,p2,p3⟩:=Y.afz (by rw[QQh];exact f5) (by rw[QQh];exact f9);have hS:Step mem.length μ mem w _ _ _:=((c6.trans (G.mono c5)).trans f6).trans ((J.mono f5).trans p3);have B:∃V v mem' μ',(Ending.returned (.bool j.isNone):Ending)=.returned V/\afn μ' mem'.length v V/\afA base μ' mem' { w2 with heap:=w2.heap.setIfInBounds (μ b).blk (.loop { L2 with state:=np j,pending:=j }) }/\
     Step mem.length μ mem w μ' mem' { w2 with heap:=w2.heap.setIfInBounds (μ b).blk (.loop { L2 with state:=np j,pending:=j }) }/\R v mem' :=
    ⟨_,.bool j.isNone,_,_,rfl,by simp[afn],p1,hS,f10⟩
   cases e<;>simp only[rZ,Pi,reduceCtorEq] at f7<;>subst f7<;>exact⟨_,_,Zr,B⟩
theorem GM{N:Nat}{g:Operand}{ps:Array Tmp}{assign body:Code}{st:St}{Q:Exit->St->Prop}{f:FuncId}{caps:List AV}(hg:get st.env g=.func f caps)(h:afZ P f (.yield st.mem.length::caps) (st.mem++[.loop ⟨.ready,none,st.env,N,ps,assign,body⟩]) fun _ Z=>∃r2 e,Z[st.mem.length]? =some (.loop r2)/\r2.st≠ .busy/\zm r2.agt=some e/\
   Q e ⟨st.env,Z.set st.mem.length (.loop { r2 with st:=.exhausted })⟩):
  AWP P true N m0 (.rangeFunc g ps assign body) st Q:=by
 intro ro h0 base μ w a hro hH hR hN hdf C;cases hro rfl;have S:=bN hR g;rw[hg] at S;simp only[afn] at S;obtain⟨B,hU,u⟩:=S;refine wpIn_rangeFunc fun fn _=>?_
 let o1:Obj:=.deferred (some [])
 let w1:=w.alloc o1
 let L:Loop:={ state:=.ready,pending:=none,fn,tmps:=a.tmps,params:=ps,assign,body,defers:=w.heap.size }
 have R:afA base μ st.mem w1:=hH.alloc o1;have o:Step st.mem.length μ st.mem w μ st.mem w1:=.alloc (L9 _) o1;have Z6:w1.heap.size=w.heap.size+1:=by simp[w1]
 obtain⟨O,m⟩:=R.push (.loop L) (.loop ⟨.ready,none,st.env,N,ps,assign,body⟩) ⟨w1.heap.size,0,0,0⟩ rfl (by simp only[afD];exact⟨L,heap_alloc_new w1 _,R.afx,rfl,rfl,rfl,rfl,rfl,hN,hR.mono (Nat.le_succ _) fun b hb=>xm hb⟩)
 have M:=o.trans m;have hμb:(upd μ st.mem.length ⟨w1.heap.size,0,0,0⟩ st.mem.length).blk=w1.heap.size:=by rw[fL]
 have hM:MOk P base h0 (w1.alloc (.loop L)) ({ target:=.collected w.heap.size,args:= #[] }::a.defers):=by
  have U:=(hdf.step hH M);refine⟨U.agA,U.afx,U.le,fun d K=>?_,?_⟩
  .rcases List.mem_cons.1 K with rfl | K
   .refine⟨w.heap.size,rfl,hdf.le,?_⟩
    rw[iC w1 _ (by omega)];exact heap_alloc_new w o1
   .exact U.each d K
  .simp only[List.map_cons,List.nodup_cons]
   refine⟨?_,hdf.nodup⟩;intro C;obtain⟨d,K,he⟩:=QQm.1 C;obtain⟨r,e,_,h2⟩:=hdf.each d K;rw[e] at he;simp only[Target.collected.injEq] at he;have:=(Nm.1 h2).1;omega
 have j:=h.2 base _ (w1.alloc (.loop L)) (.func (.yield w1.heap.size) #[] #[]::B) hM.agA O
  (bX.2 ⟨by simp only[afn,hμb];exact⟨by simp,trivial⟩,u.mono (by simp) fun b hb=>xm hb⟩)
 refine⟨w1.heap.size,[{ target:=.collected w.heap.size,args:= #[] }],w1.alloc (.loop L),{ target:=.fn (.func f) ⟨B⟩,args:= #[]++ #[.func (.yield w1.heap.size) #[] #[]] },w1.alloc (.loop L),f,⟨.func (.yield w1.heap.size) #[] #[]::B⟩,w1.alloc (.loop L),?_,?_,fun _ _=>trivial,?_,fun h=>by simp[Fence.wide] at h,?_⟩
 .simp only[Instr.enterLoop,Sem.run_bind,run_newObj,Result.andThen_ok,Sem.run_pure]
  rfl
 .have hc:(#[Operand.const (.func (.yield w1.heap.size) #[] #[])]:Array Operand).map a.eval= #[.func (.yield w1.heap.size) #[] #[]]:=by simp[Act.eval]
  simp only[resolve,hU,Deferred.ofValue,hc];rfl
 .simp only[invoke]
  rw[zi h.1];congr 2;apply Array.ext';simp
 .refine AK.2 (j.mono ?_)
  rintro e w3 ⟨V,v,Z,μ2,rfl,q1,q2,q3,r2,e2,q4,q5,q6,q7⟩;have Y:st.mem.length<(st.mem++[afq.loop ⟨.ready,none,st.env,N,ps,assign,body⟩]).length:=by simp
  have hμ2:(μ2 st.mem.length).blk=w1.heap.size:=by rw[q3.agree _ Y,hμb]
  have G:=q2.slot _ _ q4;simp only[afD] at G;obtain⟨L2,g1,g2,g3⟩:=G;obtain⟨k1,k2,J⟩:=wT (P:=P) (r' :={ r2 with st:=.exhausted }) (L' :={ L2 with state:=.exhausted }) q2 q4 g1 { g3 with st:=rfl };rw[hμ2] at k1 k2 J g1;have F:st.mem.length<=Z.length:=QQd (by simp) q3.len;have I:=M.trans (q3.mono (m0:=st.mem.length) (by simp));have H:=I.trans (J.mono F);have X:∃T' μ',afA base μ' T'.mem { w3 with heap:=w3.heap.setIfInBounds w1.heap.size (.loop { L2 with state:=.exhausted }) }/\afU μ' T'.mem.length T'.env a.tmps/\a.tmps.size=N/\
    MOk P base h0 { w3 with heap:=w3.heap.setIfInBounds w1.heap.size (.loop { L2 with state:=.exhausted }) } ({ target:=.collected w.heap.size,args:= #[] }::a.defers)/\m0<=T'.mem.length/\
    Step m0 μ st.mem w μ' T'.mem { w3 with heap:=w3.heap.setIfInBounds w1.heap.size (.loop { L2 with state:=.exhausted }) }/\Q e2 T' :=by
   refine⟨_,μ2,k2,?_,hN,(hM.step O q3).step q2 J,?_,H.mono C,q7⟩
   .show afU μ2 (Z.set st.mem.length _).length st.env a.tmps
    rw[QQh];exact hR.mono F fun b hb=>by rw[q3.agree b (by simp;omega),xm hb]
   .show m0<=(Z.set st.mem.length _).length
    rw[QQh];omega
  refine⟨r2.agt,{ w3 with heap:=w3.heap.setIfInBounds w1.heap.size (.loop { L2 with state:=.exhausted }) },?_,?_⟩
  .simp only[Instr.endLoop,Sem.run_bind,jf g1,Result.andThen_ok]
   rw[g3.st];have hb:(r2.st==LoopState.busy)=false:=by cases hx:r2.st<;>first | rfl | exact absurd hx q5
   rw[hb];have adW:L2.pending=r2.agt:=g3.agt;simp only[Bool.false_eq_true,if_false,Sem.run_bind,Sem.run_pure,k1,Result.andThen_ok];rw[adW]
  .cases hp:r2.agt with
   |none=>
    rw[hp] at q6;simp only[zm,Pi] at q6;subst q6;exact X
   |some c=>
    rw[hp] at q6;cases c<;>simp only[zm,Pi,reduceCtorEq] at q6
    .subst q6;exact wpIn_exit X
    .subst q6;exact wpIn_ret X
end
end Go.Eng
namespace Go.Eng
structure afl where
 v:AV
 pre:Option Mem
 new:Mem
def afl.mem(r:afl)(mem:Mem):Mem:=(r.pre.getD mem)++r.new
inductive Callee where
 |fn (f:FuncId)
 |yld (b:Nat)
abbrev y9:=Callee->List AV->Mem->Option afl
def kJ(env:Env):Op->Option (Callee×List AV)
 |.call { callee:=.value x,args,argTypes:=_ }=>match get env x with
  |.func f Z=>some (.fn f,XN env args++Z)
  |.yield b=>some (.yld b,XN env args)
  |_=>none
 |_=>none
structure XS where
 env:Env
 mem:Mem
 afH:Bool
def Uy:AV->List Nat
 |.ptr b _=>[b]
 |_=>[]
def cN:AV->List Nat
 |.slice b _ _ _=>[b]
 |_=>[]
def OV:AV->List Nat
 |.map b=>[b]
 |_=>[]
def xp(env:Env):Op->List Nat
 |.store _ a _=>Uy (get env a)
 |.call { callee:=.builtin .append,args:=⟨[s,_]⟩,argTypes:=_ }=>cN (get env s)
 |.call { callee:=.builtin .unsafeString,args:=⟨[x,_]⟩,argTypes:=_ }=>Uy (get env x)
 |.call { callee:=.builtin .clear,args:=⟨[x]⟩,argTypes:=_ }=>cN (get env x)
 |.mapUpdate _ m _ _=>OV (get env m)
 |.mapEntry _ m _=>OV (get env m)
 |.entryStore _ m _ _=>OV (get env m)
 |_=>[]
def Wa(T:TypeId->Option TyI)(O:y9)(m0:Nat)(env:Env)(mem:Mem)(H:Bool)(o:Oper):Option (AV×Mem×Bool):=
 match aOp T env mem o.op with
 |some (v,m)=>some (v,m,H||(xp env o.op).any fun b=>decide (b<m0))
 |none=>match kJ env o.op with
  |some (c,args)=>match O c args mem with
   |some r=>some (r.v,r.mem mem,H||r.pre.isSome)
   |none=>none
  |none=>none
def fz(T:TypeId->Option TyI)(O:y9)(N m0:Nat)(ops:Array Oper):List Oper->XS->Option XS
 | [],s=>some s
 |o::os,s=>
  if Ee N o then
   match sI ops s.env o with
   |some true=>match Wa T O m0 s.env s.mem s.afH o with
    |some (v,m,dt)=>fz T O N m0 ops os ⟨age s.env o.dst v,m,dt⟩
    |none=>none
   |some false=>fz T O N m0 ops os ⟨age s.env o.dst (.tuple []),s.mem,s.afH⟩
   |none=>none
  else none
def dT(ops:List Oper):List Nat:=
 ops.foldl (fun acc o=>acc++[o.after.toList.foldl (fun s e=>if Region.binds .any e then s ||| 2 ^ e.on ||| acc.getD e.on 0 else s) 0]) []
def bef(H:List Nat)(i j:Nat):Bool:=(H.getD j 0).testBit i
def nQ(ops:Array Oper)(H:List Nat):Bool:=
 let n:=ops.size
 (List.range n).all fun j=>match ops[j]? with
  |none=>true
  |some o=>
   o.after.toList.all (fun e=> !Region.binds .any e||decide (e.on<j))&&
   (List.range n).all fun i=>(!bef H i j||o.after.toList.any fun e=>Region.binds .any e&&(e.on==i||bef H i e.on))&&(i==j||bef H i j||bef H j i||match ops[i]? with
    |none=>true
    |some oi=>match oi.dst with
     |none=>true
     |some t=> !(o.looksAt ops).contains t&& !(o.dst==some t))
def OE(env:Env):Op->Option (List Nat)
 |.load _ a=>match get env a with
  |.ptr b _=>some [b]
  |_=>some []
 |.store _ a _=>match get env a with
  |.ptr b _=>some [b]
  |_=>some []
 |.slice _ x _ _ _=>match get env x with
  |.slice b _ _ _=>some [b]
  |_=>some []
 |.lookup _ m _ _=>match get env m with
  |.map b=>some [b]
  |_=>some []
 |.mapUpdate _ m _ _=>match get env m with
  |.map b=>some [b]
  |_=>some []
 |.mapEntry _ m _=>match get env m with
  |.map b=>some [b]
  |_=>some []
 |.entryStore _ m _ _=>match get env m with
  |.map b=>some [b]
  |_=>some []
 |.call { callee:=.builtin .len,args:=⟨[x]⟩,argTypes:=_ }=>match get env x with
  |.map b=>some [b]
  |_=>some []
 |.call { callee:=.builtin .append,args:=⟨[s,x]⟩,argTypes:=_ }=>
  some ((match get env s with | .slice b _ _ _=>[b] | _=>[])++(match get env x with | .slice b _ _ _=>[b] | _=>[]))
 |.call { callee:=.builtin .unsafeSliceData,args:=⟨[x]⟩,argTypes:=_ }=>match get env x with
  |.slice b _ _ _=>some [b]
  |_=>some []
 |.call { callee:=.builtin .clear,args:=⟨[x]⟩,argTypes:=_ }=>match get env x with
  |.slice b _ _ _=>some [b]
  |_=>some []
 |.call { callee:=.builtin .unsafeString,args:=⟨[x,_]⟩,argTypes:=_ }=>match get env x with
  |.ptr b _=>some [b]
  |_=>some []
 |.call { callee:=.builtin _,args:=_,argTypes:=_ }=>some []
 |.call _=>none
 |_=>some []
structure Rec where
 env:Env
 en:Env
 mem:Mem
 tm:Mem
 v:AV
 m' :Mem
 nx:Mem
 wb:Bool
 wr:List Nat
def bP(H:Nat->Bool):Nat->Mem->Mem
 |_,[]=>[]
 |i,s::r=>(if H i then s else .qK)::bP H (i+1) r
def bw(wr:List Nat):Nat->Mem->Mem->Mem
 |_,[],m' =>m'
 |_,_::_,[]=>[]
 |i,s::r,s' ::r' =>(if wr.contains i then s' else s)::bw wr (i+1) r r'
def fJ(mem:Mem)(b:Nat):Bool:=match mem[b]? with
 |some .qK=>false
 |some _=>true
 |none=>false
def eV:Nat->Mem->List Nat
 |_,[]=>[]
 |i,.qK::r=>eV (i+1) r
 |i,_::r=>i::eV (i+1) r
def xk(H:List Nat)(j:Nat):Nat->List Rec->List Rec
 |_,[]=>[]
 |i,r::rs=>if bef H i j then xk H j (i-1) rs else r::xk H j (i-1) rs
def Xn(H:List Nat)(j:Nat)(acc:List Rec):Option (List Nat)->Nat->Bool
 |some l=>fun b=>l.contains b
 |none=>let un:=xk H j (j-1) acc;fun b=> !un.any fun f=>decide (f.mem.length<=b/\b<f.nx.length)
def V9(H:Mem):Option Mem->List Nat
 |some _=>eV 0 H
 |none=>[]
def Hf(T:TypeId->Option TyI)(O:y9)(N:Nat)(ops:Array Oper)(H:List Nat)(j:Nat)(o:Oper)(env:Env)(mem:Mem)(acc:List Rec):Option Rec:=
 if Ee N o then
  let en:=(o.looksAt ops).map fun t=>(t,ad env t)
  match sI ops en o with
  |none=>none
  |some false=>some ⟨env,en,mem,bP (fun _=>false) 0 mem,.tuple [],bP (fun _=>false) 0 mem,mem,false,[]⟩
  |some true=>
   let tm:=bP (Xn H j acc (OE en o.op)) 0 mem
   match aOp T en tm o.op with
   |some (v,m)=>let wr:=xp en o.op;some ⟨env,en,mem,tm,v,m,bw wr 0 mem m,true,wr⟩
   |none=>match kJ en o.op with
    |none=>none
    |some (c,args)=>match O c args tm with
     |none=>none
     |some r=>let wr:=V9 tm r.pre
      some ⟨env,en,mem,tm,r.v,r.mem tm,bw wr 0 mem (r.mem tm),true,wr⟩
 else none
def nr(T:TypeId->Option TyI)(O:y9)(N:Nat)(ops:Array Oper)(H:List Nat):Nat->List Oper->Env->Mem->List Rec->Option (List Rec×Env×Mem)
 |_,[],env,mem,acc=>some (acc.reverse,env,mem)
 |j,o::os,env,mem,acc=>match Hf T O N ops H j o env mem acc with
  |none=>none
  |some r=>nr T O N ops H (j+1) os (age env o.dst r.v) r.nx (r::acc)
def jj(top:Nat)(un:List (Nat×Rec))(b:Nat):Bool:=
 decide (b<top)&&un.all fun f=> !decide (f.2.mem.length<=b/\b<f.2.nx.length)
def br:Nat->List Rec->List (Nat×Rec)
 |_,[]=>[]
 |i,r::rs=>(i,r)::br (i+1) rs
def iY(H:List Nat)(R:List (Nat×Rec))(j:Nat)(r:Rec):Bool:=
 let un:=R.filter fun f=>decide (f.1<j)&& !bef H f.1 j
 r.wr.all (fun b=>fJ r.tm b)&&
 r.v.afm (jj r.nx.length un)&&
 r.wr.all (fun b=>match r.nx[b]? with | some s=>s.afm (jj r.nx.length un) | none=>true)&&
 (r.nx.drop r.mem.length).all (fun s=>(s.own||match s with | .qK=>true | _=>false)&&s.afm (jj r.nx.length un))&&
 un.all fun f=>f.2.wr.all (fun b=> !fJ r.tm b)&&r.wr.all (fun b=> !fJ f.2.tm b)&&
  ((r.tm.drop f.2.mem.length).take (f.2.nx.length-f.2.mem.length)).all fun s=>match s with | .qK=>true | _=>false
def aR(T:TypeId->Option TyI)(O:y9)(N m0:Nat)(ops:Array Oper)(s:XS):Option XS:=
 let bs:=dT ops.toList
 match nr T O N ops bs 0 ops.toList s.env s.mem [] with
 |none=>none
 |some (R,env,mem)=>
  let nR:=br 0 R
  if nR.all fun f=>iY bs nR f.1 f.2 then some ⟨env,mem,s.afH||R.any fun r=>r.wr.any fun b=>decide (b<m0)⟩ else none
def cY:Code->Bool
 |.region _ ops true=>nQ ops (dT ops.toList)
 |.seq a b=>cY a&&cY b
 |.cond _ a b=>cY a&&cY b
 |.block _ b=>cY b
 |.loop b=>cY b
 |.scope b=>cY b
 |.rangeFunc _ _ a b=>cY a&&cY b
 |_=>true
def aa:Code->List Nat
 |.region _ ops _=>ops.toList.filterMap (·.dst)
 |.seq a b=>aa a++aa b
 |.cond _ a b=>aa a++aa b
 |.block _ b=>aa b
 |.loop b=>aa b
 |.scope b=>aa b
 |_=>[]
def an(lv wr:List Nat)(H env:Env):Env:=lv.map (fun t=>(t,ad env t))++((wr.filter fun t=> !lv.contains t).map fun t=>(t,AV.undef))++H
mutual
def AV.refs(m0:Nat):AV->List Nat
 |.ptr b _=>if b<m0 then [] else [b]
 |.slice b _ _ _=>if b<m0 then [] else [b]
 |.map b=>if b<m0 then [] else [b]
 |.yield b=>if b<m0 then [] else [b]
 |.func _ Z=>AV.afE m0 Z
 |.iface _ v=>v.refs m0
 |.agg Z=>AV.afE m0 Z
 |.tuple Z=>AV.afE m0 Z
 |_=>[]
def AV.afE(m0:Nat):List AV->List Nat
 | []=>[]
 |v::vs=>v.refs m0++AV.afE m0 vs
end
def afq.refs(m0:Nat):afq->List Nat
 |.qK=>[]
 |.cells _ _ cs=>AV.afE m0 cs
 |.map es=>es.flatMap fun e=>e.1.refs m0++e.2.refs m0
 |.afX es=>es.flatMap fun e=>e.1.refs m0++e.2.refs m0
 |.loop r=>r.env.flatMap fun e=>e.2.refs m0
def qv(m0:Nat)(mem:Mem):Nat->List Nat->List Nat->List Nat
 |0,_,seen=>seen
 |_,[],seen=>seen
 |k+1,b::todo,seen=>if seen.contains b then qv m0 mem k todo seen else qv m0 mem k (todo++(mem.getD b .qK).refs m0) (seen++[b])
def Tg:List Nat->Bool
 |a::b::_=>a==b
 |_=>false
def mY:List Nat->Bool
 |a::b::c::_=>a==b&&b==c
 |_=>false
def Ma(lv wr:List Nat)(I:Env)(H:Nat)(s:XS):XS:=
 let ks:=qv H s.mem 1000 ((lv.flatMap fun t=>(ad s.env t).refs H)++(s.mem.take H).flatMap (afq.refs H)) []
 if Ei H s.mem.length ks then
  ⟨(lv.filter fun t=>wr.contains t).map (fun t=>(t,(ad s.env t).ren (rho H ks)))++((wr.filter fun t=> !lv.contains t).map fun t=>(t,AV.undef))++I,(s.mem.take H).map (afq.ren (rho H ks))++aga H ks s.mem,true⟩
 else⟨an lv wr I s.env,s.mem,s.afH⟩
def jP(lv wr:List Nat)(I:Env)(H:Nat)(s:XS):XS:=
 if mY lv=true\/s.mem.length<=H then⟨an lv wr I s.env,s.mem,s.afH⟩ else
  let ks:=qv H s.mem 1000 (lv.flatMap fun t=>(ad s.env t).refs H) []
  if Ei H s.mem.length ks&&(s.mem.take H).all fun s=>(s.refs H).isEmpty then
   ⟨(lv.filter fun t=>wr.contains t).map (fun t=>(t,(ad s.env t).ren (rho H ks)))++((wr.filter fun t=> !lv.contains t).map fun t=>(t,AV.undef))++I,s.mem.take H++aga H ks s.mem,s.afH⟩
  else if Tg lv then Ma lv wr I H s
  else⟨an lv wr I s.env,s.mem,s.afH⟩
def fj(lv wr:List Nat)(H:Env)(I:Nat)(f:XS->Option (Exit×XS)):Nat->XS->Option (Exit×XS)
 |0,_=>none
 |k+1,s=>match f s with
  |some (.normal,s')=>fj lv wr H I f k (jP lv wr H I s')
  |r=>r
def aL(T:TypeId->Option TyI)(lv:Code->List Nat)(O:y9)(K N m0:Nat)(tp:Bool):Code->XS->Option (Exit×XS)
 |.skip,s=>some (.normal,s)
 |.region _ ops false,s=>match fz T O N m0 ops ops.toList s with
  |some s' =>some (.normal,s')
  |none=>none
 |.region _ ops true,s=>match aR T O N m0 ops s with
  |some s' =>some (.normal,s')
  |none=>none
 |.seq a b,s=>match aL T lv O K N m0 tp a s with
  |some (.normal,s')=>aL T lv O K N m0 tp b s'
  |r=>r
 |.cond c a b,s=>match get s.env c with
  |.bool true=>aL T lv O K N m0 tp a s
  |.bool false=>aL T lv O K N m0 tp b s
  |_=>none
 |.block id b,s=>match aL T lv O K N m0 tp b s with
  |some (.exit i,s')=>if i=id then some (.normal,s') else some (.exit i,s')
  |r=>r
 |.loop b,s=>fj (lv b) (aa b) s.env s.mem.length (aL T lv O K N m0 tp b) K ⟨an (lv b) (aa b) s.env s.env,s.mem,s.afH⟩
 |.exit id,s=>some (.exit id,s)
 |.ret,s=>some (.ret,s)
 |.rangeFunc g ps Zx body,s=>
  if tp then
   match get s.env g with
   |.func f caps=>match O (.fn f) (.yield s.mem.length::caps) (s.mem++[.loop ⟨.ready,none,s.env,N,ps,Zx,body⟩]) with
    |some r=>
     let aaw:=r.mem (s.mem++[.loop ⟨.ready,none,s.env,N,ps,Zx,body⟩])
     match aaw[s.mem.length]? with
     |some (.loop r2)=>if r2.st== .busy then none else match zm r2.agt with
      |some e=>some (e,⟨s.env,aaw.set s.mem.length (.loop { r2 with st:=.exhausted }),s.afH||r.pre.isSome⟩)
      |none=>none
     |_=>none
    |none=>none
   |_=>none
  else none
 |_,_=>none
def ae(T:TypeId->Option TyI)(lv:Code->List Nat)(G:FuncId->Option Func)(O:y9)(K:Nat)(f:FuncId)(args:List AV)(mem:Mem):Option afl:=
 match G f with
 |none=>none
 |some fn=>match fn.body with
  |none=>none
  |some c=>
   if args.length<=fn.ntmps then
    match aL T lv O K fn.ntmps mem.length true c ⟨dN 0 args,mem,false⟩ with
    |some (e,s)=>
     match e with
     |.normal | .ret=>
      match jS T fn.results.toList s.env s.mem with
      |some v=>
       let m0:=mem.length
       if s.afH then
        let ks:=qv m0 s.mem 1000 (v.refs m0++(s.mem.take m0).flatMap (afq.refs m0)) []
        if Ei m0 s.mem.length ks then
         some ⟨v.ren (rho m0 ks),some ((s.mem.take m0).map (afq.ren (rho m0 ks))),aga m0 ks s.mem⟩
        else none
       else
        let ks:=qv m0 s.mem 1000 (v.refs m0) []
        if Ei m0 s.mem.length ks then
         some ⟨v.ren (rho m0 ks),none,aga m0 ks s.mem⟩
        else none
      |none=>none
     |_=>none
    |none=>none
   else none
def xZ(T:TypeId->Option TyI)(lv:Code->List Nat)(O:y9)(K:Nat)(b:Nat)(args:List AV)(mem:Mem):Option afl:=
 match mem[b]? with
 |some (.loop r)=>
  if r.st== .ready&&decide (args.length=r.ps.toList.length)&&r.ps.toList.all (fun t=>decide (t<r.N))&&cY r.assign&&cY r.body then
   match aL T lv O K r.N mem.length false r.assign ⟨zh r.ps.toList args r.env,mem,true⟩ with
   |some (.normal,s1)=>match s1.mem[b]? with
    |some (.loop r1)=>
     if r1.st== .ready then
      match aL T lv O K r.N mem.length false r.body ⟨s1.env,s1.mem.set b (.loop { r1 with st:=.busy }),true⟩ with
      |some (e,s2)=>match rZ e,s2.mem[b]? with
       |some j,some (.loop r2)=>
        let m0:=mem.length
        let m3:=s2.mem.set b (.loop { r2 with st:=np j,agt:=j })
        let ks:=qv m0 m3 1000 ((m3.take m0).flatMap (afq.refs m0)) []
        if Ei m0 s2.mem.length ks then
         some ⟨.bool j.isNone,some ((m3.take m0).map (afq.ren (rho m0 ks))),aga m0 ks m3⟩
        else none
       |_,_=>none
      |none=>none
     else none
    |_=>none
   |_=>none
  else none
 |_=>none
def Ec(T:TypeId->Option TyI)(lv:Code->List Nat)(G:FuncId->Option Func)(O:y9)(K:Nat):Nat->y9
 |0=>O
 |n+1=>fun c Z mem=>match O c Z mem with
  |some r=>some r
  |none=>match c with
   |.fn f=>ae T lv G (Ec T lv G O K n) K f Z mem
   |.yld b=>xZ T lv (Ec T lv G O K n) K b Z mem
structure qS (P:Program)(O:y9):Prop where
 fn:∀f args mem r,O (.fn f) args mem=some r->kO P f args mem r.v (r.mem mem)
 yld:∀b args mem r,O (.yld b) args mem=some r->gG P b args mem r.v (r.mem mem)
 pre:∀c args mem r p,O c args mem=some r->r.pre=some p->p.length=mem.length
variable{args:List AV}{c:Callee}{d:Bool}{k m x:AV}{l:List Nat}{o:Oper}{op:Op}
section
variable {P:Program}{T:TypeId->Option TyI}{O:y9}{mem mem' :Mem}{env:Env}
def afV(wr:List Nat) (mem mem' :Mem):Prop:=mem.length<=mem'.length/\∀b:Nat,b<mem.length->b∉wr->mem'[b]? =mem[b]?
theorem afV.refl(wr:List Nat)(mem:Mem):afV wr mem mem:=⟨L9 _,fun _ _ _=>rfl⟩
theorem afV.push(wr:List Nat)(mem l:Mem):afV wr mem (mem++l):=⟨by simp,fun b Z _=>GT Z⟩
theorem afV.set(b0:Nat)(s:afq)(mem:Mem):afV [b0] mem (mem.set b0 s):=
 ⟨by simp,fun b _ Z=>QQe (fun e=>Z (by simp[e]))⟩
theorem afV.ahc(b0:Nat)(s:afq)(mem l:Mem):afV [b0] mem (mem.set b0 s++l):=
 ⟨by simp,fun b Z X=>by rw[GT (by simpa using Z)];exact QQe (fun e=>X (by simp[e]))⟩
theorem wG{t t2:TypeId}{s x v:AV}(h:pr T mem t t2 s x=some (v,mem')):afV (cN s) mem mem' :=by
 unfold pr at h
 repeat' split at h
 all_goals first
  |(cases h;done)
  |(cases h;exact .refl _ _)
  |(cases h;exact .push _ _ _)
  |(cases h;exact .set _ _ _)
  |(cases h;exact .ahc _ _ _ _)
theorem Ld{t:TypeId}{v:AV}(h:tQ T mem t x v=some mem'):afV (Uy x) mem mem' :=by
 unfold tQ at h
 repeat' split at h
 all_goals first
  |(cases h;done)
  |(cases h;rename_i Z _ _ _;exact .set _ _ _)
theorem At{t:TypeId}{v:AV}(h:fP T mem t m k v=some mem'):afV (OV m) mem mem' :=by
 unfold fP at h
 repeat' split at h
 all_goals first
  |(cases h;done)
  |(cases h;exact .set _ _ _)
theorem BZ{t:TypeId}{v:AV}(h:rK T mem t m k=some (v,mem')):afV (OV m) mem mem' :=by
 unfold rK at h
 repeat' split at h
 all_goals first
  |(cases h;done)
  |(cases h;exact .set _ _ _)
theorem xU{m s v:AV}(h:lO mem m s v=some mem'):afV (OV m) mem mem' :=by
 unfold lO at h
 repeat' split at h
 all_goals first
  |(cases h;done)
  |(cases h;exact .set _ _ _)
theorem KW{e:TypeId}{v:AV}(h:tN T mem e=some (v,mem')):afV l mem mem' :=by unfold tN at h;split at h<;>cases h;exact .push _ _ _
theorem Q6{v:AV}(h:XE mem x=some (v,mem')):afV l mem mem' :=by unfold XE at h;split at h<;>cases h;exact .push _ _ _
theorem xS{t:TypeId}{n:Nat}{ps}{v:AV}{l:List Nat}(h:gA T mem t n ps=some (v,mem')):afV l mem mem' :=by
 unfold gA at h
 repeat' split at h
 all_goals first
  |(cases h;done)
  |(cases h;exact .push _ _ _)
theorem Aq{t:TypeId}{y:AV}{v:AV}(h:lC T mem t x y=some (v,mem')):afV l mem mem' :=by
 unfold lC at h
 repeat' split at h
 all_goals first
  |(cases h;done)
  |(cases h;exact .push _ _ _)
theorem GI{pt:TypeId}{l v:AV}(h:xW T mem pt x l=some (v,mem')):afV (Uy x) mem mem' :=by
 unfold xW at h
 repeat' split at h
 all_goals first
  |(cases h;done)
  |(cases h;exact .set _ _ _)
theorem Al{s d:TypeId}{v:AV}(h:nH T mem s d x=some (v,mem')):afV l mem mem' :=by
 unfold nH at h
 repeat' split at h
 all_goals first
  |(cases h;done)
  |(cases h;exact .push _ _ _)
theorem Lb{v:AV}(h:aOp T env mem op=some (v,mem')):afV (xp env op) mem mem' :=by
 unfold aOp at h
 repeat' split at h
 all_goals first
  |(cases h;done)
  |(cases h;exact .refl _ _)
  |exact KW h
  |exact Q6 h
  |exact xS h
  |exact Aq h
  |exact wG h
  |(rename_i Z;cases h;exact wG Z)
  |exact Al h
  |exact GI h
  |exact BZ h
  |(cases h;exact .push _ _ _)
  |(rename_i Z;cases h;first | exact Ld Z | exact At Z | exact xU Z)
theorem nJ{wr:List Nat}{m0:Nat}(h:(wr.any fun b=>decide (b<m0))=false){b:Nat}(H:b<m0):b∉wr:=by intro Z;have:=List.any_eq_false.1 h b Z;simp[H] at this
theorem vz{m0:Nat}(h1:m0<=mem.length)(h2:m0<=mem'.length)(h:∀b,b<m0->mem'[b]? =mem[b]?):mem'.take m0=mem.take m0:=by
 apply List.ext_getElem?;intro b;by_cases Z:b<m0
 .rw[QQa Z,QQa Z,h b Z]
 .rw[List.getElem?_eq_none (by simp;omega),List.getElem?_eq_none (by simp;omega)]
def Clean(m0:Nat)(mem:Mem)(d:Bool) (mem' :Mem) (d' :Bool):Prop:=m0<=mem.length->m0<=mem'.length/\(d' =false->d=false/\mem'.take m0=mem.take m0)
theorem Clean.refl(m0:Nat)(mem:Mem)(d:Bool):Clean m0 mem d mem d:=fun h=>⟨h,fun e=>⟨e,rfl⟩⟩
theorem Clean.trans{m0:Nat}{H m2 I:Mem}{d1 d2 d3:Bool}(h:Clean m0 H d1 m2 d2)(h' :Clean m0 m2 d2 I d3):Clean m0 H d1 I d3:=fun Z=>by obtain⟨X,V⟩:=h Z;obtain⟨U,S⟩:=h' X;refine⟨U,fun e=>?_⟩;obtain⟨R,N⟩:=S e;obtain⟨M,L⟩:=V R;exact⟨M,N.trans L⟩
theorem afV.clean{wr:List Nat}{m0:Nat}(h:afV wr mem mem'):Clean m0 mem d mem' (d||wr.any fun b=>decide (b<m0)):=fun Z=>by have X:=QQd Z h.1;refine⟨X,fun e=>?_⟩;simp only[Bool.or_eq_false_iff] at e;exact⟨e.1,vz Z X fun b V=>h.2 b (by omega) (nJ e.2 V)⟩
theorem Lg{f:FuncId}(h:kJ env op=some (.fn f,args)):GP env op=some (f,args):=by
 unfold kJ at h;split at h
 .split at h
  .cases h;rename_i Z;simp[GP,Z]
  .cases h
  .cases h
 .cases h
theorem GK{b:Nat}(h:kJ env op=some (.yld b,args)):A6 env op=some (b,args):=by
 unfold kJ at h;split at h
 .split at h
  .cases h
  .cases h;rename_i Z;simp[A6,Z]
  .cases h
 .cases h
section
variable (hO:qS P O)
include hO
theorem CR{r:afl}(hc:kJ env o.op=some (c,args))(h:O c args mem=some r):
  xr P T env mem o r.v (r.mem mem):=by
 cases c with
 |fn f=>exact .inr (.inl ⟨f,args,Lg hc,hO.fn _ _ _ _ h⟩)
 |yld b=>exact .inr (.inr ⟨b,args,GK hc,hO.yld _ _ _ _ h⟩)
theorem yv{r:afl}(h:O c args mem=some r):mem.length<=(r.mem mem).length:=by
 unfold afl.mem;cases hp:r.pre with
 |none=>simp
 |some p=>have:=hO.pre _ _ _ _ p h hp;simp;omega
theorem OK{m0:Nat}{d' :Bool}{v:AV}(h:Wa T O m0 env mem d o=some (v,mem',d')):
  xr P T env mem o v mem' /\Clean m0 mem d mem' d' :=by
 unfold Wa at h;split at h
 .rename_i S R Z
  cases h;exact⟨.inl Z,(Lb Z).clean⟩
 .split at h
  .rename_i c args U
   split at h
   .rename_i r X
    cases h;refine⟨CR hO U X,fun V=>⟨QQd V (yv hO X),fun e=>?_⟩⟩;simp only[Bool.or_eq_false_iff,Option.isSome_eq_false_iff,Option.isNone_iff_eq_none] at e;refine⟨e.1,?_⟩;unfold afl.mem;rw[e.2];simp[QXd V]
   .cases h
  .cases h
end
theorem kZ(H:qS P O){N m0:Nat}{ops:Array Oper}:∀{l:List Oper}{s s' :XS},fz T O N m0 ops l s=some s' ->
  mZ P T N ops l ⟨s.env,s.mem⟩ ⟨s'.env,s'.mem⟩/\Clean m0 s.mem s.afH s'.mem s'.afH
 | [],s,s',h=>by cases h;exact⟨rfl,.refl _ _ _⟩
 |o::os,s,s',h=>by
  unfold fz at h;split at h
  .rename_i U
   split at h
   .rename_i Z
    split at h
    .rename_i v m L S
     obtain⟨R,M⟩:=OK H S;obtain⟨X,V⟩:=kZ H h;exact⟨⟨true,Z,U,(fun e=>by cases e),fun _=>⟨v,m,R,X⟩⟩,M.trans V⟩
    .cases h
   .rename_i Z
    obtain⟨X,V⟩:=kZ H h;exact⟨⟨false,Z,U,(fun _=>X),(fun e=>by cases e)⟩,V⟩
   .cases h
  .cases h
end
end Go.Eng
namespace Go.Eng
section
variable {P:Program}{T:TypeId->Option TyI}{O:y9}{N:Nat}{ops:Array Oper}
theorem iG(H:Nat->Bool):∀(i:Nat) (m:Mem),(bP H i m).length=m.length
 |_,[]=>rfl
 |i,s::r=>by simp[bP,iG H (i+1) r]
theorem lF(H:Nat->Bool):∀(i:Nat) (m:Mem) (b:Nat),(bP H i m)[b]? =m[b]? \/(bP H i m)[b]? =some .qK
 |_,[],b=>.inl rfl
 |i,s::r,0=>by
  simp only[bP,List.getElem?_cons_zero];split
  .exact .inl rfl
  .exact .inr rfl
 |i,s::r,b+1=>by simp only[bP,List.getElem?_cons_succ];exact lF H (i+1) r b
theorem CJ:∀(i:Nat) (m:Mem) (b:Nat),¬jb (bP (fun _=>false) i m) b
 |_,[],b=>by rintro ⟨s,h,_⟩;simp[bP] at h
 |i,s::r,0=>by rintro ⟨s,h,Z⟩;simp[bP] at h;exact Z h.symm
 |i,s::r,b+1=>by rintro ⟨s,h,Z⟩;simp only[bP,List.getElem?_cons_succ] at h;exact CJ (i+1) r b ⟨s,h,Z⟩
theorem nq(wr:List Nat):∀(i:Nat) (m H :Mem),m.length<=H.length->(bw wr i m H).length=H.length
 |_,[],H,_=>rfl
 |_,_::_,[],h=>by simp at h
 |i,s::r,s' ::r',h=>by simp only[bw,List.length_cons] at h |-;rw[nq wr (i+1) r r' (by omega)]
theorem vm(wr:List Nat):∀(i:Nat) (m H :Mem) (b:Nat),m.length<=H.length->(bw wr i m H)[b]? =if i+b∈wr\/m.length<=b then H[b]? else m[b]?
 |_,[],H,b,_=>by simp[bw]
 |_,_::_,[],_,h=>by simp at h
 |i,s::r,s' ::r',0,h=>by simp only[bw,List.getElem?_cons_zero,List.contains_iff_mem,Nat.add_zero,List.length_cons,Nat.le_zero_eq,Nat.add_one_ne_zero,or_false];split<;>rfl
 |i,s::r,s' ::r',b+1,h=>by simp only[List.length_cons] at h;simp only[bw,List.getElem?_cons_succ];rw[vm wr (i+1) r r' b (by omega)];simp only[List.length_cons,Nat.add_le_add_iff_right];rw[show i+1+b=i+(b+1) by omega]
theorem vf{m:Mem}{b:Nat}:fJ m b=true↔jb m b:=by
 unfold fJ jb;cases h:m[b]? with
 |none=>simp
 |some s=>cases s<;>simp
theorem Ek:∀(i:Nat) (m:Mem) (b:Nat),i+b∈eV i m↔jb m b:=by
 intro i m;induction m generalizing i with
 |nil=>intro b;simp[eV,jb]
 |cons s r ih=>
  intro b;have Z:∀(i:Nat) (m:Mem) (x:Nat),x∈eV i m->i<=x:=by
   intro i m;induction m generalizing i with
   |nil=>intro x h;simp[eV] at h
   |cons s r ih=>
    intro x h;have:x∈eV (i+1) r\/x=i:=by cases s<;>simp only[eV,List.mem_cons] at h<;>first | exact .inl h | exact h.symm
    rcases this with h | h
    .have:=ih (i+1) x h;omega
    .omega
  cases b with
  |zero=>
   have X:¬(i+0∈eV (i+1) r):=fun h=>by have:=Z _ _ _ h;omega
   cases s<;>simp[eV,jb]<;>simpa using X
  |succ b=>
   have:=ih (i+1) b;rw[show i+1+b=i+(b+1) by omega] at this;have V:jb (s::r) (b+1)↔jb r b:=by simp[jb]
   rw[V,<-this];cases s<;>simp[eV]
structure agS (P:Program)(T:TypeId->Option TyI)(N:Nat)(ops:Array Oper)(r:Rec)(o:Oper):Prop where
 dst:Ee N o=true
 wanted:sI ops r.en o=some r.wb
 en:r.en=(o.looksAt ops).map fun t=>(t,ad r.env t)
 step:r.wb=true->xr P T r.en r.tm o r.v r.m'
 skip:r.wb=false->r.v=.tuple []/\r.m' =r.tm
 ag7:r.tm.length=r.mem.length
 ag8:∀b:Nat,r.tm[b]? =r.mem[b]? \/r.tm[b]? =some .qK
 mono:r.mem.length<=r.m'.length
 agT:r.nx.length=r.m'.length
 nx:∀b:Nat,r.nx[b]? =if b∈r.wr\/r.mem.length<=b then r.m'[b]? else r.mem[b]?
 aga:∀b:Nat,b<r.mem.length->b∉r.wr->jb r.tm b->r.m'[b]? =r.mem[b]?
theorem EC{mem H:Mem}(h:∀b:Nat,H[b]? =mem[b]? \/H[b]? =some .qK){b:Nat}(I:jb H b):H[b]? =mem[b]? :=by
 rcases h b with e | e
 .exact e
 .obtain⟨s,Z,X⟩:=I
  rw[Z] at e;cases e;exact absurd rfl X
theorem Hg(H:qS P O){I:List Nat}{j:Nat}{o:Oper}{env:Env}{mem:Mem}{acc:List Rec}{r:Rec}(h:Hf T O N ops I j o env mem acc=some r):
  r.env=env/\r.mem=mem/\agS P T N ops r o:=by
 unfold Hf at h;split at h
 .rename_i L
  simp only at h;split at h
  .cases h
  .rename_i S
   cases h;refine⟨rfl,rfl,L,S,rfl,(fun e=>by cases e),(fun _=>⟨rfl,rfl⟩),iG _ _ _,(fun b=>lF _ _ _ _),by simp[iG],by simp[iG],fun b=>?_,fun b _ _ V=>absurd V (CJ _ _ _)⟩;simp only[List.not_mem_nil,false_or];split
   .rename_i G
    rw[List.getElem?_eq_none G,List.getElem?_eq_none (by rw[iG];exact G)]
   .rfl
  .rename_i S
   generalize Xn I j acc (OE (List.map (fun t=>(t,ad env t)) (o.looksAt ops)) o.op)=see at h;have Z:(bP see 0 mem).length=mem.length:=iG _ _ _;split at h
   .rename_i v m F
    cases h;have U:=Lb F;rw[afV,Z] at U;refine⟨rfl,rfl,L,S,rfl,fun _=>.inl F,(fun e=>by cases e),Z,fun b=>lF _ _ _ _,U.1,nq _ _ _ _ U.1,fun b=>?_,fun b V K R=>?_⟩
    .have:=vm (xp (List.map (fun t=>(t,ad env t)) (o.looksAt ops)) o.op) 0 mem m b U.1
     rw[QQb] at this;exact this
    .rw[U.2 b V K];exact EC (fun b=>lF see 0 mem b) R
   .split at h
    .cases h
    .rename_i c C u
     split at h
     .cases h
     .rename_i X B
      simp only[Pi] at h;subst h;have M:=yv H B;rw[Z] at M;refine⟨rfl,rfl,L,S,rfl,fun _=>CR H u B,(fun e=>by cases e),Z,fun b=>lF _ _ _ _,M,nq _ _ _ _ M,fun b=>?_,fun b V K R=>?_⟩
      .have:=vm (V9 (bP see 0 mem) X.pre) 0 mem (X.mem (bP see 0 mem)) b M
       rw[QQb] at this;exact this
      .cases hp:X.pre with
       |some p=>
        exfalso;apply K;show b∈V9 (bP see 0 mem) X.pre
        rw[hp];show b∈eV 0 (bP see 0 mem)
        have:=(Ek 0 (bP see 0 mem) b).2 R
        rwa [QQb] at this
       |none=>
        show(X.mem (bP see 0 mem))[b]? =mem[b]?
        unfold afl.mem;rw[hp];simp only[Option.getD_none];rw[GT (by rw[Z];exact V)];exact EC (fun b=>lF see 0 mem b) R
 .cases h
def mC(P:Program)(T:TypeId->Option TyI)(N:Nat)(ops:Array Oper):List Oper->Env->Mem->List Rec->Env->Mem->Prop
 | [],env,mem,[],D',mem' =>D' =env/\mem' =mem
 |o::os,env,mem,r::rs,D',mem' =>r.env=env/\r.mem=mem/\agS P T N ops r o/\mC P T N ops os (age env o.dst r.v) r.nx rs D' mem'
 |_,_,_,_,_,_=>False
theorem pY(J:qS P O){Y:List Nat}:∀{l:List Oper} {j:Nat} {env:Env} {mem:Mem} {acc R:List Rec}{I :Env}{H :Mem},
  nr T O N ops Y j l env mem acc=some (R,I,H)->∃Z,R=acc.reverse++Z/\mC P T N ops l env mem Z I H
 | [],j,env,mem,acc,R,I,H,h=>by simp only[nr,Pi,Prod.mk.injEq] at h;obtain⟨rfl,rfl,rfl⟩:=h;exact⟨[],by simp,rfl,rfl⟩
 |o::os,j,env,mem,acc,R,I,H,h=>by
  unfold nr at h;split at h
  .cases h
  .rename_i r X
   obtain⟨V,U,h3⟩:=Hg J X;obtain⟨Z,e,S⟩:=pY J h;exact⟨r::Z,by rw[e];simp,V,U,h3,S⟩
def RS(R:List Rec)(H:Env×Mem)(j:Nat):Env×Mem:=match R[j]? with
 |some r=>(r.env,r.mem)
 |none=>H
theorem zz:∀{l:List Oper} {env:Env} {mem:Mem} {R:List Rec}{I :Env}{H :Mem},mC P T N ops l env mem R I H ->R.length=l.length
 | [],_,_,[],_,_,_=>rfl
 |_::_,_,_,_::_,_,_,h=>by simp only[List.length_cons];rw[zz h.2.2.2]
 | [],_,_,_::_,_,_,h=>h.elim
 |_::_,_,_,[],_,_,h=>h.elim
theorem xc:∀{l:List Oper} {env:Env} {mem:Mem} {R:List Rec}{I :Env}{H :Mem},mC P T N ops l env mem R I H ->RS R (I,H) 0=(env,mem)
 | [],_,_,[],_,_,h=>by obtain⟨rfl,rfl⟩:=h;rfl
 |_::_,_,_,_::_,_,_,h=>by obtain⟨rfl,rfl,_⟩:=h;rfl
 | [],_,_,_::_,_,_,h=>h.elim
 |_::_,_,_,[],_,_,h=>h.elim
theorem CY:∀{l:List Oper} {env:Env} {mem:Mem} {R:List Rec}{I :Env}{H :Mem},mC P T N ops l env mem R I H ->∀(j:Nat) (o:Oper),l[j]? =some o->
  ∃r,R[j]? =some r/\agS P T N ops r o/\RS R (I,H) (j+1)=(age r.env o.dst r.v,r.nx)
 |o::os,_,_,r::rs,I,H,h,0,o',ho=>by cases ho;obtain⟨rfl,rfl,h3,Z⟩:=h;exact⟨r,rfl,h3,xc Z⟩
 |o::os,_,_,r::rs,I,H,h,j+1,o',ho=>by obtain⟨_,_,_,Z⟩:=h;obtain⟨X,V,U,g3⟩:=CY Z j o' ho;exact⟨X,V,U,g3⟩
 | [],_,_,_,_,_,_,j,_,ho=>by simp at ho
 |_::_,_,_,[],_,_,h,_,_,_=>h.elim
theorem mP:∀(i:Nat) (R:List Rec) (j:Nat) (r:Rec),R[j]? =some r->(i+j,r)∈br i R
 |i,x::xs,0,r,h=>by cases h;simp[br]
 |i,x::xs,j+1,r,h=>by simp only[List.getElem?_cons_succ] at h;have:=mP (i+1) xs j r h;rw[show i+1+j=i+(j+1) by omega] at this;simp[br,this]
 |_,[],_,_,h=>by simp at h
end
variable{R:List Rec}{bs:List Nat}{j:Nat}
section
variable {P:Program}{T:TypeId->Option TyI}{O:y9}{N:Nat}{ops:Array Oper}
def Wm(bs:List Nat)(R:List Rec)(j:Nat):List (Nat×Rec):=(br 0 R).filter fun f=>decide (f.1<j)&& !bef bs f.1 j
def pE(n:Nat)(bs:List Nat)(R:List Rec)(H:Env×Mem):afW where
 E j:=(RS R H j).1
 M j:=(RS R H j).2
 En j:=match R[j]? with | some r=>r.en | none=>[]
 Tm j:=match R[j]? with | some r=>r.tm | none=>[]
 M' j:=match R[j]? with | some r=>r.m' | none=>[]
 v j:=match R[j]? with | some r=>r.v | none=>.undef
 wb j:=match R[j]? with | some r=>r.wb | none=>false
 af7 j b:=match R[j]? with | some r=>decide (b∈r.wr)||decide (r.mem.length<=b) | none=>false
 ok j b:=match R[j]? with | some r=>jj r.nx.length (Wm bs R j) b | none=>false
 cl i j:=decide (i<n)&&bef bs i j
theorem Ck(h:nQ ops bs=true){o:Oper}(H:ops[j]? =some o):
  (∀e∈o.after,Region.binds .any e=true->e.on<j)/\
  (∀i,i<ops.size->bef bs i j=true->∃e∈o.after,Region.binds .any e=true/\(e.on=i\/bef bs i e.on=true))/\
  ∀(i:Nat) X t,ops[i]? =some X->i≠j->X.dst=some t->(t∈o.looksAt ops\/o.dst=some t)->bef bs i j=true\/bef bs j i=true:=by
 have F:j<ops.size:=(Nm.1 H).1;unfold nQ at h;have:=List.all_eq_true.1 h j (by simpa using F);simp only[H,Es,List.all_eq_true,List.mem_range] at this;obtain⟨C,K⟩:=this;refine⟨fun e V U=>?_,fun i Z U=>?_,fun i X t Z B u S=>?_⟩
 .have:=C e (by simpa using V)
  simpa [U] using this
 .have:=(K i Z).1
  simp only[U,Bool.not_true,Bool.false_or,List.any_eq_true] at this;obtain⟨e,V,M⟩:=this;simp only[Es,QXa,beq_iff_eq] at M;exact⟨e,by simpa using V,M.1,M.2⟩
 .have L:i<ops.size:=(Nm.1 Z).1
  have:=(K i L).2;simp only[Z,u,QXa,beq_iff_eq,B,false_or,Es,Bool.not_eq_true',List.contains_eq_mem,decide_eq_false_iff_not] at this;rcases this with (h3 | h3) | ⟨h3,G⟩
  .exact .inl h3
  .exact .inr h3
  .rcases S with h5 | h5
   .exact absurd h5 h3
   .rw[h5] at G;simp at G
structure agB (bs:List Nat)(R:List Rec)(j:Nat)(r:Rec):Prop where
 wr:∀b∈r.wr,jb r.tm b
 aha:r.v.afm (jj r.nx.length (Wm bs R j))=true
 ahQ:∀(b:Nat) s,b∈r.wr->r.nx[b]? =some s->s.afm (jj r.nx.length (Wm bs R j))=true
 fresh:∀(b:Nat) s,r.mem.length<=b->r.nx[b]? =some s->(s≠ .qK->s.own=true)/\s.afm (jj r.nx.length (Wm bs R j))=true
 ahs:∀(i:Nat) f,i<j->R[i]? =some f->bef bs i j=false->(∀b∈f.wr,¬jb r.tm b)/\(∀b∈r.wr,¬jb f.tm b)/\∀b,f.mem.length<=b->b<f.nx.length->¬jb r.tm b
theorem GS{r:Rec}(h:iY bs (br 0 R) j r=true):agB bs R j r:=by
 unfold iY at h;simp only[Es] at h;obtain⟨⟨⟨⟨M,L⟩,h3⟩,K⟩,G⟩:=h;refine⟨fun b Z=>vf.1 (List.all_eq_true.1 M b Z),L,fun b s Z X=>?_,fun b s Z X=>?_,fun i f F C Z=>?_⟩
 .have:=List.all_eq_true.1 h3 b Z
  rw[X] at this;exact this
 .have U:s∈r.nx.drop r.mem.length:=by apply J1 (i:=b-r.mem.length);rw[QQf,<-X];congr 1;omega
  have:=List.all_eq_true.1 K s U;simp only[Es,QXa] at this;refine⟨fun B=>?_,this.2⟩;rcases this.1 with h | h
  .exact h
  .cases s<;>simp_all
 .have S:(i,f)∈Wm bs R j:=by unfold Wm;rw[List.mem_filter];have:=mP 0 R i f C;rw[QQb] at this;exact⟨this,by simp[F,Z]⟩
  have:=List.all_eq_true.1 G (i,f) S;simp only[Es,List.all_eq_true,Bool.not_eq_true'] at this;obtain⟨⟨u,o⟩,m⟩:=this;refine⟨fun b Z V=>?_,fun b Z V=>?_,fun b Y J V=>?_⟩
  .have:=u b Z;rw[vf.2 V] at this;cases this
  .have:=o b Z;rw[vf.2 V] at this;cases this
  .obtain⟨s,X,B⟩:=V
   have U:s∈(r.tm.drop f.mem.length).take (f.nx.length-f.mem.length):=by apply J1 (i:=b-f.mem.length);rw[QQa (by omega),QQf,<-X];congr 1;omega
   have:=m s U;cases s<;>simp_all
theorem EX{env:Env}:∀(l:List Tmp) (t:Nat),(t∈l/\ad (l.map fun t=>(t,ad env t)) t=ad env t)\/(t∉l/\ad (l.map fun t=>(t,ad env t)) t=.undef)
 | [],t=>.inr ⟨by simp,rfl⟩
 |x::xs,t=>by
  simp only[List.map_cons,ad];by_cases Z:x=t
  .subst Z;exact .inl ⟨by simp,by simp⟩
  .simp only[Z,if_false]
   rcases EX (env:=env) xs t with⟨X,V⟩ | ⟨X,V⟩
   .exact .inl ⟨by simp[X],V⟩
   .exact .inr ⟨by simp[X,Ne.symm Z],V⟩
theorem VE{m:Mem}{b:Nat}(h:jb m b):b<m.length:=by obtain⟨s,h,_⟩:=h;exact(gL h)
theorem Vz{env I :Env}{mem H :Mem}(hs:nQ ops bs=true)(hR:mC P T N ops ops.toList env mem R I H)(hC:∀(j:Nat) r,R[j]? =some r->agB bs R j r):tz P T N ops (pE ops.size bs R (I,H)):=by
 have Y:∀(j:Nat) o,ops[j]? =some o->∃r,R[j]? =some r/\agS P T N ops r o/\RS R (I,H) (j+1)=(age r.env o.dst r.v,r.nx):=
  fun j o ho=>CY hR j o (by simpa using ho)
 have M_at:∀(j:Nat) r,R[j]? =some r->(pE ops.size bs R (I,H)).M j=r.mem:=fun j r h=>by simp[pE,RS,h]
 have lens:∀(i:Nat) U L,ops[i]? =some L->R[i]? =some U->∀(k j:Nat) u oj,j=i+1+k->ops[j]? =some oj->R[j]? =some u->U.nx.length<=u.mem.length:=by
  intro i U L X Z k;induction k with
  |zero=>
   intro j u oj hj hoj J;obtain⟨r,g1,g2,g3⟩:=Y i L X;rw[Z] at g1;cases g1;have:RS R (I,H) (i+1)=(u.env,u.mem):=by rw[show i+1=j by omega];simp[RS,J]
   rw[this] at g3;have:=congrArg Prod.snd g3;simp only at this;rw[this];exact L9 _
  |succ k ih=>
   intro j u oj hj hoj J;have hjs:j<ops.size:=(Nm.1 hoj).1;obtain⟨op,hop⟩:=AA (ops:=ops) (j:=j-1) (by omega);obtain⟨r,g1,g2,g3⟩:=Y (j-1) op hop;have h1:=ih (j-1) r op (by omega) hop g1;have:RS R (I,H) (j-1+1)=(u.env,u.mem):=by rw[show j-1+1=j by omega];simp[RS,J]
   rw[this] at g3;have e:=congrArg Prod.snd g3;simp only at e;have:=g2.agT;have:=g2.mono;rw[e];omega
 have abx :∀(i j:Nat) U u L oj,i<j->ops[i]? =some L->ops[j]? =some oj->R[i]? =some U->R[j]? =some u->U.nx.length<=u.mem.length:=
  fun i j U u L oj hij X hoj Z J=>lens i U L X Z (j-i-1) j u oj (by omega) hoj J
 intro j o ho;obtain⟨r,G,K,ab5⟩:=Y j o ho;have C:=hC j r G;have S:=Ck hs ho;have hjs:j<ops.size:=(Nm.1 ho).1;have eM:(pE ops.size bs R (I,H)).M j=r.mem:=M_at j r G;have F:(pE ops.size bs R (I,H)).M (j+1)=r.nx:=by simp[pE,ab5]
 have eE:(pE ops.size bs R (I,H)).E j=r.env:=by simp[pE,RS,G]
 have eE1:(pE ops.size bs R (I,H)).E (j+1)=age r.env o.dst r.v:=by simp[pE,ab5]
 have eEn:(pE ops.size bs R (I,H)).En j=r.en:=by simp[pE,G]
 have eT:(pE ops.size bs R (I,H)).Tm j=r.tm:=by simp[pE,G]
 have eM' :(pE ops.size bs R (I,H)).M' j=r.m' :=by simp[pE,G]
 have ev:(pE ops.size bs R (I,H)).v j=r.v:=by simp[pE,G]
 have ew:(pE ops.size bs R (I,H)).wb j=r.wb:=by simp[pE,G]
 have m:∀b,(pE ops.size bs R (I,H)).af7 j b=true↔b∈r.wr\/r.mem.length<=b:=fun b=>by simp[pE,G]
 have aaV:∀b,(pE ops.size bs R (I,H)).af7 j b=false↔b∉r.wr/\b<r.mem.length:=fun b=>by simp[pE,G]
 have eok:(pE ops.size bs R (I,H)).ok j=jj r.nx.length (Wm bs R j):=by funext b;simp[pE,G]
 have B:∀i k,i<ops.size->(pE ops.size bs R (I,H)).cl i k=bef bs i k:=fun i k hi=>by simp[pE,hi]
 have ab6:r.mem.length<=r.nx.length:=by rw[K.agT];exact K.mono
 refine⟨by rw[eEn,ew];exact K.wanted,K.dst,?_,?_,by rw[eE1,eE,ev],?_,?_,by rw[eT,eM];exact K.ag7,by rw[eT,eM];exact K.ag8,by rw[F,eM'];exact K.agT,by rw[eM,F];exact ab6,
  ?_,?_,?_,?_,?_,?_,?_,?_,?_,?_,S.1,?_⟩
 .rw[ew,eEn,eT,ev,eM'];exact K.step
 .rw[ew,ev,eM',eT];exact K.skip
 .intro t
  rw[eEn,eE,K.en];rcases EX (env:=r.env) (o.looksAt ops) t with⟨h1,h2⟩ | ⟨h1,h2⟩
  .refine .inr ⟨h2,fun i L hi J' ht=>?_⟩
   rw[B i j (Nm.1 hi).1,B j i hjs];exact S.2.2 i L t hi J' ht (.inl h1)
  .exact .inl h2
 .intro i L t hi J' h1 h2
  rw[B i j (Nm.1 hi).1,B j i hjs];exact S.2.2 i L t hi J' h2 (.inr h1)
 .intro b V
  rw[F,eM',K.nx b,if_pos ((m b).1 V)]
 .intro b V ht
  rw[eM] at V;rw[F,eM,K.nx b,if_neg];rw[aaV] at ht;rintro (h | h)
  .exact ht.1 h
  .omega
 .intro b V ht hB
  rw[eM] at V;rw[eM',eM];rw[aaV] at ht;rw[eT] at hB;exact K.aga b V ht.1 hB
 .intro b V
  rw[eM] at V;exact(m b).2 (.inr V)
 .intro b ht V
  rw[eM] at V;rw[eT];rcases (m b).1 ht with h | h
  .exact C.wr b h
  .omega
 .
  intro i L b X hij hbi hti hor;obtain⟨U,Z,Ki,hni⟩:=Y i L X;have Ci:=hC i U Z;have eMi:(pE ops.size bs R (I,H)).M (i+1)=U.nx:=by simp[pE,hni]
  rw[eMi] at hbi;have adl :b∈U.wr\/U.mem.length<=b:=by simpa [pE,Z] using hti
  rw[F,eT] at hor;rw[B i j (Nm.1 X).1,B j i hjs];by_cases FS:i<j
  .cases V:bef bs i j with
   |true=>exact .inl rfl
   |false=>
    exfalso;obtain⟨p1,p2,p3⟩:=C.ahs i U FS Z V;have hl:=abx i j U r L o FS X ho Z G;have adm:¬jb r.tm b:=by
     rcases adl with h | h
     .exact p1 b h
     .exact p3 b h hbi
    rcases hor with⟨g1,g2⟩ | g
    .rcases (m b).1 g2 with h | h
     .exact adm (C.wr b h)
     .omega
    .exact adm g
  .cases V:bef bs j i with
   |true=>exact .inr rfl
   |false=>
    exfalso;obtain⟨p1,p2,p3⟩:=Ci.ahs j r (by omega) G V;have hl:=abx j i r U o L (by omega) ho X G Z;have htl:=K.ag7;rcases adl with h | h
    .rcases hor with⟨g1,g2⟩ | g
     .rcases (m b).1 g2 with h' | h'
      .exact p2 b h (C.wr b h')
      .exact p3 b h' g1 (Ci.wr b h)
     .exact p2 b h g
    .rcases hor with⟨g1,g2⟩ | g
     .omega
     .have:=VE g;omega
 .
  intro i b L X ZF h1 h2;obtain⟨U,Z,Ki,hni⟩:=Y i L X;have eMi:(pE ops.size bs R (I,H)).M (i+1)=U.nx:=by simp[pE,hni]
  rw[M_at i U Z] at h1;rw[eMi] at h2;rw[eok] at ZF;unfold jj at ZF;simp only[Es,GE,List.all_eq_true,Bool.not_eq_true',decide_eq_false_iff_not] at ZF;by_cases hij:i=j
  .exact .inl hij
  .refine .inr ?_
   rw[B i j (Nm.1 X).1];by_cases FS:i<j
   .cases V:bef bs i j with
    |true=>rfl
    |false=>
     exfalso;have aat:(i,U)∈Wm bs R j:=by unfold Wm;rw[List.mem_filter];have:=mP 0 R i U Z;rw[QQb] at this;exact⟨this,by simp[FS,V]⟩
     exact ZF.2 (i,U) aat ⟨h1,h2⟩
   .exfalso
    have hl:=abx j i r U o L (by omega) ho X G Z;omega
 .rw[ev,eok];exact C.aha
 .intro b s ht hs
  rw[F] at hs;rw[eok];rcases (m b).1 ht with h | h
  .exact C.ahQ b s h hs
  .exact(C.fresh b s h hs).2
 .intro b s V hs J'
  rw[eM] at V;rw[F] at hs |-;exact⟨s,hs,(C.fresh b s V hs).1 J'⟩
 .intro i V
  simp only[pE,Es,GE] at V;obtain⟨e,h1,h2,h3⟩:=S.2.1 i V.1 V.2;refine⟨e,h1,h2,?_⟩;rcases h3 with h | h
  .exact .inl h
  .exact .inr (by simp[pE,V.1,h])
theorem Hk(H:P.follows .mixedOrders=true)(hT:dQ P T)(I:qS P O){m0:Nat}{s s' :XS}(J:nQ ops (dT ops.toList)=true)(h:aR T O N m0 ops s=some s'):
  (∀(tp:Bool) (id:Nat) (Q:Exit->St->Prop),Q .normal ⟨s'.env,s'.mem⟩->AWP P tp N m0 (.region id ops true) ⟨s.env,s.mem⟩ Q)/\Clean m0 s.mem s.afH s'.mem s'.afH:=by
 unfold aR at h;simp only at h
 .split at h
  .cases h
  .rename_i R env mem B
   split at h
   .rename_i u
    cases h;obtain⟨Z,e,V⟩:=pY I B;simp only[List.reverse_nil,List.nil_append] at e;subst e;have Y:∀(j:Nat) r,R[j]? =some r->agB (dT ops.toList) R j r:=by intro j r hj;have:=mP 0 R j r hj;rw[QQb] at this;exact GS (List.all_eq_true.1 u _ this)
    have hA:=Vz J V Y;have C:=xc V;have G':=zz V;have U:RS R (env,mem) ops.size=(env,mem):=by unfold RS;rw[List.getElem?_eq_none (by rw[G'];simp)]
    refine⟨fun tp id Q hq=>Cc H hT (d:=pE ops.size (dT ops.toList) R (env,mem)) hA (by simp[pE,C]) (by simp[pE,C]) (by simp[pE,U]) hq,?_⟩;have S:∀(l:List Oper) (e:Env) (m:Mem) (Z:List Rec),mC P T N ops l e m Z env mem->m0<=m.length->m0<=mem.length/\((Z.any fun r=>r.wr.any fun b=>decide (b<m0))=false->mem.take m0=m.take m0):=by
     intro l;induction l with
     |nil=>
      intro e m Z h X;cases Z with
      |nil=>obtain⟨rfl,rfl⟩:=h;exact⟨X,fun _=>rfl⟩
      |cons=>exact h.elim
     |cons o os ih=>
      intro e m Z h X;cases Z with
      |nil=>exact h.elim
      |cons r Z=>
       obtain⟨rfl,rfl,K,h4⟩:=h;have ab6:r.mem.length<=r.nx.length:=by rw[K.agT];exact K.mono
       obtain⟨M,L⟩:=ih _ _ _ h4 (by omega);refine⟨M,fun G=>?_⟩;simp only[List.any_cons,Bool.or_eq_false_iff] at G;rw[L G.2];refine vz X (by omega) fun b hb=>?_
       rw[K.nx b,if_neg];rintro (h | h)
       .exact nJ G.1 hb h
       .omega
    intro X;obtain⟨M,L⟩:=S _ _ _ _ V X;refine⟨M,fun F=>?_⟩;simp only[Bool.or_eq_false_iff] at F;exact⟨F.1,L F.2⟩
   .cases h
end
end Go.Eng
namespace Go.Eng
variable{e AC:Env}
section
variable {P:Program}{T:TypeId->Option TyI}{lv:Code->List Nat}{O:y9}{K N m0:Nat}{tp:Bool}
def YG(P:Program)(tp:Bool)(N m0:Nat)(c:Code)(s:XS)(e:Exit) (s' :XS):Prop:=
 (∀Q:Exit->St->Prop,Q e ⟨s'.env,s'.mem⟩->AWP P tp N m0 c ⟨s.env,s.mem⟩ Q)/\Clean m0 s.mem s.afH s'.mem s'.afH
def af3(wr:List Nat) (e H :Env):Prop:=∀t,t∉wr->ad H t=ad e t
theorem af3.refl(wr:List Nat)(e:Env):af3 wr e e:=fun _ _=>rfl
theorem af3.trans{wr:List Nat}{H I J:Env}(h:af3 wr H I)(h' :af3 wr I J):af3 wr H J:=fun t Z=>(h' t Z).trans (h t Z)
theorem af3.mono{wr wr' :List Nat}{H :Env}(h:af3 wr e H)(I:∀t,t∈wr->t∈wr'):af3 wr' e H :=fun t Z=>h t fun X=>Z (I t X)
theorem jh(a b:Env)(t:Nat)(h:∀e∈a,e.1≠t):ad (a++b) t=ad b t:=by
 induction a with
 |nil=>rfl
 |cons e r ih=>
  obtain⟨k,v⟩:=e;simp only[List.cons_append,ad];rw[if_neg (h (k,v) (by simp))];exact ih fun e Z=>h e (by simp[Z])
theorem il(l:List Nat)(g:Nat->AV)(b:Env)(t:Nat)(h:t∈l):ad (l.map (fun t=>(t,g t))++b) t=g t:=by
 induction l with
 |nil=>cases h
 |cons x r ih=>
  simp only[List.map_cons,List.cons_append,ad];by_cases Z:x=t
  .subst Z;rw[if_pos rfl]
  .rw[if_neg Z]
   exact ih (by cases h with
    |head=>exact absurd rfl Z
    |tail _ h=>exact h)
theorem sX{lv wr:List Nat}{env:Env}(h:af3 wr AC env)(t:Nat):ad (an lv wr AC env) t=ad env t\/ad (an lv wr AC env) t=.undef:=by
 unfold an;rw[QQQ];by_cases X:t∈lv
 .rw[il lv (fun t=>ad env t) _ t X];exact .inl rfl
 .rw[jh _ _ t (by intro e Z;simp only[QQm] at Z;obtain⟨x,V,rfl⟩:=Z;intro e;exact X (e▸V))]
  by_cases U:t∈wr
  .rw[il (wr.filter fun t=> !lv.contains t) (fun _=>AV.undef) _ t (by rw[List.mem_filter];exact⟨U,by simpa using X⟩)];exact .inr rfl
  .rw[jh _ _ t (by intro e Z;simp only[QQm,List.mem_filter] at Z;obtain⟨x,V,rfl⟩:=Z;intro e;exact U (e▸V.1))]
   exact .inl (h t U).symm
theorem ov{lv wr:List Nat}{env:Env}(H:af3 wr AC env):af3 wr AC (an lv wr AC env):=by
 intro t V;unfold an;rw[QQQ];by_cases U:t∈lv
 .rw[il lv (fun t=>ad env t) _ t U];exact H t V
 .rw[jh _ _ t (by intro e Z;simp only[QQm] at Z;obtain⟨x,X,rfl⟩:=Z;intro e;exact U (e▸X)),
   jh _ _ t (by intro e Z;simp only[QQm,List.mem_filter] at Z;obtain⟨x,X,rfl⟩:=Z;intro e;exact V (e▸X.1))]
theorem Df{wr:List Nat}{o:Oper}{v:AV}(h:∀d,o.dst=some d->d∈wr):af3 wr e (age e o.dst v):=by intro t Z;exact LX fun X=>Z (h t X)
theorem pX{m0:Nat}{ops:Array Oper}:∀{l:List Oper}{s s' :XS},fz T O N m0 ops l s=some s' ->af3 (l.filterMap (·.dst)) s.env s'.env
 | [],s,s',h=>by cases h;exact .refl _ _
 |o::os,s,s',h=>by
  have X:∀t,t∈os.filterMap (·.dst)->t∈(o::os).filterMap (·.dst):=fun t V=>by
   rw[List.filterMap_cons];split
   .exact V
   .exact List.mem_cons_of_mem _ V
  have Z:∀d,o.dst=some d->d∈(o::os).filterMap (·.dst):=fun d Z=>by rw[List.filterMap_cons];simp[Z]
  unfold fz at h;split at h
  .split at h
   .split at h
    .exact(Df Z).trans ((pX h).mono X)
    .cases h
   .exact(Df Z).trans ((pX h).mono X)
   .cases h
  .cases h
theorem Mi{ops:Array Oper}:∀{l:List Oper} {env:Env} {mem:Mem} {R:List Rec}{I :Env}{H :Mem},mC P T N ops l env mem R I H ->af3 (l.filterMap (·.dst)) env I
 | [],_,_,[],_,_,h=>by obtain⟨rfl,_⟩:=h;exact .refl _ _
 |o::os,_,_,r::rs,_,_,h=>by
  obtain⟨rfl,_,_,V⟩:=h;have U:∀t,t∈os.filterMap (·.dst)->t∈(o::os).filterMap (·.dst):=fun t X=>by
   rw[List.filterMap_cons];split
   .exact X
   .exact List.mem_cons_of_mem _ X
  have Z:∀d,o.dst=some d->d∈(o::os).filterMap (·.dst):=fun d Z=>by rw[List.filterMap_cons];simp[Z]
  exact(Df Z).trans ((Mi V).mono U)
 | [],_,_,_::_,_,_,h=>h.elim
 |_::_,_,_,[],_,_,h=>h.elim
theorem Mo(H:qS P O){m0:Nat}{ops:Array Oper}{s s' :XS}(h:aR T O N m0 ops s=some s'):af3 (ops.toList.filterMap (·.dst)) s.env s'.env:=by
 unfold aR at h;simp only at h;split at h
 .cases h
 .rename_i R env mem Z
  split at h
  .cases h
   obtain⟨V,e,X⟩:=pY H Z;exact Mi X
  .cases h
mutual
theorem afn.refs{μ:Nat->Place}{n:Nat}:∀{v V},afn μ n v V->v.refs n=[]
 |.undef,_,_=>rfl
 |.bool _,_,_=>rfl
 |.int _ _,_,_=>rfl
 |.str _,_,_=>rfl
 |.ptr b o,V,h=>by simp only[afn] at h;simp[AV.refs,h.1]
 |.afB,_,_=>rfl
 |.slice b o l c,V,h=>by simp only[afn] at h;simp[AV.refs,h.1]
 |.qF,_,_=>rfl
 |.map b,V,h=>by simp only[afn] at h;simp[AV.refs,h.1]
 |.yield b,V,h=>by simp only[afn] at h;simp[AV.refs,h.1]
 |.afL,_,_=>rfl
 |.func f Z,V,h=>by simp only[afn] at h;obtain⟨X,_,h⟩:=h;simp[AV.refs,afo.refs h]
 |.nilFunc,_,_=>rfl
 |.iface t v,V,h=>by simp only[afn] at h;obtain⟨U,_,h⟩:=h;simp[AV.refs,afn.refs h]
 |.nilIface,_,_=>rfl
 |.agg Z,V,h=>by simp only[afn] at h;obtain⟨X,_,h⟩:=h;simp[AV.refs,afo.refs h]
 |.tuple Z,V,h=>by simp only[afn] at h;obtain⟨X,_,h⟩:=h;simp[AV.refs,afo.refs h]
theorem afo.refs{μ:Nat->Place}{n:Nat}:∀{vs Us},afo μ n vs Us->AV.afE n vs=[]
 | [],_,_=>rfl
 |v::vs,_,h=>by simp only[afo] at h;obtain⟨U,V,_,Z,X⟩:=h;simp[AV.afE,afn.refs Z,afo.refs X]
end
mutual
theorem AV.afF{H:Nat}{ks:List Nat}:∀{v:AV},v.refs H=[]->v.ren (rho H ks)=v
 |.undef,_=>rfl
 |.bool _,_=>rfl
 |.int _ _,_=>rfl
 |.str _,_=>rfl
 |.ptr b o,h=>by
  have Z:b<H:=by
   by_cases Z:b<H
   .exact Z
   .simp[AV.refs,Z] at h
  simp[AV.ren,rho,Z]
 |.afB,_=>rfl
 |.slice b o l c,h=>by
  have Z:b<H:=by
   by_cases Z:b<H
   .exact Z
   .simp[AV.refs,Z] at h
  simp[AV.ren,rho,Z]
 |.qF,_=>rfl
 |.map b,h=>by
  have Z:b<H:=by
   by_cases Z:b<H
   .exact Z
   .simp[AV.refs,Z] at h
  simp[AV.ren,rho,Z]
 |.yield b,h=>by
  have Z:b<H:=by
   by_cases Z:b<H
   .exact Z
   .simp[AV.refs,Z] at h
  simp[AV.ren,rho,Z]
 |.afL,_=>rfl
 |.func f X,h=>by simp only[AV.refs] at h;simp[AV.ren,AV.af4 h]
 |.nilFunc,_=>rfl
 |.iface t v,h=>by simp only[AV.refs] at h;simp[AV.ren,AV.afF h]
 |.nilIface,_=>rfl
 |.agg X,h=>by simp only[AV.refs] at h;simp[AV.ren,AV.af4 h]
 |.tuple X,h=>by simp only[AV.refs] at h;simp[AV.ren,AV.af4 h]
theorem AV.af4{H:Nat}{ks:List Nat}:∀{vs:List AV},AV.afE H vs=[]->AV.afI (rho H ks) vs=vs
 | [],_=>rfl
 |v::vs,h=>by simp only[AV.afE,List.append_eq_nil_iff] at h;simp[AV.afI,AV.afF h.1,AV.af4 h.2]
end
variable{ks:List Nat}{m1:Nat}
theorem afq.afF{s:afq}(h:s.refs m1=[]):s.ren (rho m1 ks)=s:=by
 cases s with
 |qK=>rfl
 |cells own es cs=>simp only[afq.refs] at h;simp only[afq.ren,AV.af4 h]
 |map es=>
  simp only[afq.refs,List.flatMap_eq_nil_iff] at h;simp only[afq.ren];congr 1;conv=>rhs;rw[<-List.map_id es]
  apply List.map_congr_left;intro e Z;have:=h e Z;rw[List.append_eq_nil_iff] at this;rw[AV.afF this.1,AV.afF this.2];rfl
 |afX es=>
  simp only[afq.refs,List.flatMap_eq_nil_iff] at h;simp only[afq.ren];congr 1;conv=>rhs;rw[<-List.map_id es]
  apply List.map_congr_left;intro e Z;have:=h e Z;rw[List.append_eq_nil_iff] at this;rw[AV.afF this.1,AV.afF this.2];rfl
 |loop r=>
  simp only[afq.refs,List.flatMap_eq_nil_iff] at h;simp only[afq.ren,sB];congr 1;have:r.env.map (fun e=>(e.1,e.2.ren (rho m1 ks)))=r.env:=by
   conv=>rhs;rw[<-List.map_id r.env]
   apply List.map_congr_left;intro e Z;rw[AV.afF (h e Z)];rfl
  rw[this]
variable{Q:Exit->St->Prop}
theorem AWP.assume{c:Code}{H:St}(h:m0<=H.mem.length->(∀t,(ad H.env t).refs H.mem.length=[])->AWP P tp N m0 c H Q):AWP P tp N m0 c H Q:=
 fun ro h0 base μ w a hro h1 h2 h3 h4 h5=>h h5 (fun t=>(h2 t).refs) ro h0 base μ w a hro h1 h2 h3 h4 h5
theorem LA{mem:Mem}(h:(mem.take m1).all (fun s=>(s.refs m1).isEmpty)=true):afz m1 ks mem=mem.take m1++aga m1 ks mem:=by
 unfold afz;congr 1;conv=>rhs;rw[<-List.map_id (mem.take m1)]
 apply List.map_congr_left;intro s Z;have:=List.all_eq_true.1 h s Z;rw[List.isEmpty_iff] at this;rw[afq.afF this];rfl
variable{lw:List Nat}
section
variable{wr:List Nat}
include wr
theorem sY{g:Nat->AV}(t:Nat):
  ad ((lw.filter fun t=>wr.contains t).map (fun t=>(t,g t))++((wr.filter fun t=> !lw.contains t).map fun t=>(t,AV.undef))++AC) t=
   if t∈wr then (if t∈lw then g t else .undef) else ad AC t:=by
 rw[QQQ];by_cases X:t∈wr
 .by_cases V:t∈lw
  .rw[if_pos X,if_pos V]
   exact il _ g _ t (by rw[List.mem_filter];exact⟨V,by simpa using X⟩)
  .rw[if_pos X,if_neg V,jh _ _ t (by intro e Z;simp only[QQm,List.mem_filter] at Z;obtain⟨x,U,rfl⟩:=Z;intro e;exact V (e▸U.1))]
   exact il (wr.filter fun t=> !lw.contains t) (fun _=>AV.undef) _ t (by rw[List.mem_filter];exact⟨X,by simpa using V⟩)
 .rw[if_neg X,jh _ _ t (by intro e Z;simp only[QQm,List.mem_filter] at Z;obtain⟨x,U,rfl⟩:=Z;intro e;exact X (e▸by simpa using U.2)),
   jh _ _ t (by intro e Z;simp only[QQm,List.mem_filter] at Z;obtain⟨x,U,rfl⟩:=Z;intro e;exact X (e▸U.1))]
theorem RN{s:XS}(h:af3 wr AC s.env):af3 wr AC (Ma lw wr AC m1 s).env:=by
 unfold Ma;simp only;split
 .intro t Z
  simp only;rw[sY,if_neg Z]
 .exact ov h
theorem Fc{s:XS}(h:af3 wr AC s.env):af3 wr AC (jP lw wr AC m1 s).env:=by
 unfold jP;split
 .exact ov h
 .simp only
  split
  .intro t Z
   simp only;rw[sY,if_neg Z]
  .split
   .exact RN h
   .exact ov h
theorem Od{s:XS}(H:m0<=m1):Clean m0 s.mem s.afH (jP lw wr AC m1 s).mem (jP lw wr AC m1 s).afH:=by
 unfold jP;split
 .exact .refl _ _ _
 .rename_i Z
  have Z:=fun h=>Z (.inr h)
  simp only;split
  .intro h
   refine⟨by simp only[Qs,SP];omega,fun e=>⟨e,?_⟩⟩;simp only;rw[QXd (by simp only[SP];omega),List.take_take];congr 1;omega
  .split
   .unfold Ma
    simp only;split
    .intro h
     exact⟨by show m0<=(afz m1 _ s.mem).length;rw[gb (by omega)];omega,fun e=>by cases e⟩
    .exact .refl _ _ _
   .exact .refl _ _ _
theorem R1{s:XS}(h:af3 wr AC s.env)(h0:∀t,(ad AC t).refs m1=[])(H:m0<=m1)(I:m1<=s.mem.length):
  agk m0 ⟨s.env,s.mem⟩ ⟨(Ma lw wr AC m1 s).env,(Ma lw wr AC m1 s).mem⟩:=by
 unfold Ma;simp only;split
 .rename_i U
  obtain⟨ks,V⟩:=xE (qv m1 s.mem 1000 ((lw.flatMap fun t=>(ad s.env t).refs m1)++(s.mem.take m1).flatMap (afq.refs m1)) []);rw[<-V] at U |-;have S:agk m0 ⟨s.env,s.mem⟩ ⟨sB (rho m1 ks) s.env,afz m1 ks s.mem⟩:=by intro base μ w tmps Z X h3;obtain⟨μ1,R,M,L,G⟩:=agk.afz (env:=s.env) _ U base μ w tmps Z X I;exact⟨μ1,R,M,QQd H L,G.mono H⟩
  refine S.trans (agk.env fun t=>?_);rw[sY,ji];by_cases Z:t∈wr
  .rw[if_pos Z]
   by_cases X:t∈lw
   .rw[if_pos X];exact .inl rfl
   .rw[if_neg X];exact .inr rfl
  .rw[if_neg Z,h t Z,AV.afF (h0 t)];exact .inl rfl
 .exact agk.env fun t=>sX h t
theorem R2{s:XS}(h:af3 wr AC s.env)(h0:∀t,(ad AC t).refs m1=[])(H:m0<=m1):
  agk m0 ⟨s.env,s.mem⟩ ⟨(jP lw wr AC m1 s).env,(jP lw wr AC m1 s).mem⟩:=by
 unfold jP;split
 .exact agk.env fun t=>sX h t
 .rename_i U
  have U:=fun h=>U (.inr h)
  simp only;split
  .rename_i S
   rw[Es] at S;obtain⟨M,L⟩:=S;have R:agk m0 ⟨s.env,s.mem⟩ ⟨sB (rho m1 (qv m1 s.mem 1000 (lw.flatMap fun t=>(ad s.env t).refs m1) [])) s.env,afz m1 (qv m1 s.mem 1000 (lw.flatMap fun t=>(ad s.env t).refs m1) []) s.mem⟩:=by
    intro base μ w tmps Z X h3;have V :m1<=s.mem.length:=by omega
    obtain⟨μ1,G,F,C,B⟩:=agk.afz (env:=s.env) _ M base μ w tmps Z X V;exact⟨μ1,G,F,QQd H C,B.mono H⟩
   rw[LA L] at R;refine R.trans (agk.env fun t=>?_);rw[sY,ji];by_cases Z:t∈wr
   .rw[if_pos Z]
    by_cases X:t∈lw
    .rw[if_pos X];exact .inl rfl
    .rw[if_neg X];exact .inr rfl
   .rw[if_neg Z,h t Z,AV.afF (h0 t)];exact .inl rfl
  .split
   .exact R1 h h0 H (by omega)
   .exact agk.env fun t=>sX h t
end
variable{f:XS->Option (Exit×XS)}
theorem TE{b:Code}(hf:∀s e s',f s=some (e,s')->af3 (aa b) s.env s'.env):
  ∀(k:Nat) (s:XS) (e:Exit) (s' :XS),af3 (aa b) AC s.env->fj lw (aa b) AC m1 f k s=some (e,s')->af3 (aa b) AC s'.env:=by
 intro k;induction k with
 |zero=>intro s e s' _ h;cases h
 |succ k ih=>
  intro s e s' Z h;unfold fj at h;split at h
  .rename_i V X
   exact ih _ _ _ (Fc (Z.trans (hf _ _ _ X))) h
  .exact Z.trans (hf _ _ _ h)
theorem Ru{b:Code}(hf:∀s e s',f s=some (e,s')->YG P tp N m0 b s e s')(H:m0<=m1):
  ∀(k:Nat) (s:XS) (e:Exit) (s' :XS),fj lw (aa b) AC m1 f k s=some (e,s')->Clean m0 s.mem s.afH s'.mem s'.afH:=by
 intro k;induction k with
 |zero=>intro s e s' h;cases h
 |succ k ih=>
  intro s e s' h;unfold fj at h;split at h
  .rename_i V Z
   obtain⟨_,X⟩:=hf _ _ _ Z;exact(X.trans (Od H)).trans (ih _ _ _ h)
  .exact(hf _ _ _ h).2
theorem Rv{b:Code}(hf:∀s e s',f s=some (e,s')->YG P tp N m0 b s e s' /\af3 (aa b) s.env s'.env)(h0:∀t,(ad AC t).refs m1=[])(I:m0<=m1)(k:Nat)(s:XS)(e:Exit)(s' :XS)(H:af3 (aa b) AC s.env)(h:fj lw (aa b) AC m1 f k s=some (e,s'))(hq:Q e ⟨s'.env,s'.mem⟩):AWP P tp N m0 (.loop b) ⟨s.env,s.mem⟩ Q:=by
 refine VB (σ:=Nat) (fun k S=>∃s,S=⟨s.env,s.mem⟩/\af3 (aa b) AC s.env/\fj lw (aa b) AC m1 f k s=some (e,s')) id (s:=k) ⟨s,rfl,H,h⟩ ?_;rintro k S ⟨s,rfl,H,hk⟩;cases k with
 |zero=>cases hk
 |succ k=>
  unfold fj at hk;split at hk
  .rename_i X M
   obtain⟨⟨L,_⟩,R⟩:=hf _ _ _ M;refine AWP.ahL (L (fun e Z=>e=.normal/\Z=⟨X.env,X.mem⟩) ⟨rfl,rfl⟩) ?_;rintro V Z ⟨rfl,rfl⟩;exact⟨⟨(jP lw (aa b) AC m1 X).env,(jP lw (aa b) AC m1 X).mem⟩,R2 (H.trans R) h0 I,k,⟨_,rfl,Fc (H.trans R),hk⟩,Nat.lt_succ_self k⟩
  .rename_i G
   have U :e≠ .normal:=by rintro rfl;exact G s' hk
   refine((hf _ _ _ hk).1.1 (fun V Z=>V=e/\Z=⟨s'.env,s'.mem⟩) ⟨rfl,rfl⟩).mono ?_;rintro V Z ⟨rfl,rfl⟩;cases V<;>first | exact absurd rfl U | exact hq
theorem gn(H:qS P O):∀{c:Code} {s:XS} {e:Exit}{s' :XS},aL T lv O K N m0 tp c s=some (e,s')->af3 (aa c) s.env s'.env
 |.skip,s,e,s',h=>by simp only[aL,Pi,Prod.mk.injEq] at h;obtain⟨_,rfl⟩:=h;exact .refl _ _
 |.exit id,s,e,s',h=>by simp only[aL,Pi,Prod.mk.injEq] at h;obtain⟨_,rfl⟩:=h;exact .refl _ _
 |.ret,s,e,s',h=>by simp only[aL,Pi,Prod.mk.injEq] at h;obtain⟨_,rfl⟩:=h;exact .refl _ _
 |.region id ops false,s,e,s',h=>by
  unfold aL at h;split at h
  next V X=>cases h;exact pX X
  .cases h
 |.region id ops true,s,e,s',h=>by
  unfold aL at h;split at h
  next V X=>cases h;exact Mo H X
  .cases h
 |.seq x y,s,e,s',h=>by
  unfold aL at h;split at h
  .rename_i V X
   exact((gn H X).mono fun t Z=>by simp[aa,Z]).trans ((gn H h).mono fun t Z=>by simp[aa,Z])
  .exact(gn H h).mono fun t Z=>by simp[aa,Z]
 |.cond c x y,s,e,s',h=>by
  unfold aL at h;split at h
  .exact(gn H h).mono fun t Z=>by simp[aa,Z]
  .exact(gn H h).mono fun t Z=>by simp[aa,Z]
  .cases h
 |.block id b,s,e,s',h=>by
  show af3 (aa b) s.env s'.env
  unfold aL at h;split at h
  .rename_i i V X
   split at h
   .cases h;exact gn H X
   .cases h;exact gn H X
  .exact gn H h
 |.loop b,s,e,s',h=>by
  show af3 (aa b) s.env s'.env
  unfold aL at h;exact TE (fun s e s' h=>gn H h) _ _ _ _ (ov (.refl _ _)) h
 |.rangeFunc g ps Zx body,s,e,s',h=>by
  unfold aL at h;split at h
  .split at h
   .split at h
    .simp only at h
     split at h
     .split at h
      .cases h
      .split at h
       .cases h;exact .refl _ _
       .cases h
     .cases h
    .cases h
   .cases h
  .cases h
 |.label _,s,e,s',h=>by cases h
 |.goto _,s,e,s',h=>by cases h
 |.scope _,s,e,s',h=>by cases h
 |.refuse _,s,e,s',h=>by cases h
theorem dJ(I:P.follows .mixedOrders=true)(hT:dQ P T)(H:qS P O):∀{c:Code} {s:XS} {e:Exit}{s' :XS},cY c=true->aL T lv O K N m0 tp c s=some (e,s')->YG P tp N m0 c s e s'
 |.skip,s,e,s',Zy,h=>by simp only[aL,Pi,Prod.mk.injEq] at h;obtain⟨rfl,rfl⟩:=h;exact⟨fun Q Z=>VC Z,.refl _ _ _⟩
 |.exit id,s,e,s',Zy,h=>by simp only[aL,Pi,Prod.mk.injEq] at h;obtain⟨rfl,rfl⟩:=h;exact⟨fun Q Z=>VA Z,.refl _ _ _⟩
 |.ret,s,e,s',Zy,h=>by simp only[aL,Pi,Prod.mk.injEq] at h;obtain⟨rfl,rfl⟩:=h;exact⟨fun Q Z=>WV Z,.refl _ _ _⟩
 |.region id ops false,s,e,s',Zy,h=>by
  unfold aL at h;split at h
  .rename_i R U
   cases h;obtain⟨X,V⟩:=kZ H U;exact⟨fun Q Z=>Re hT X Z,V⟩
  .cases h
 |.region id ops true,s,e,s',Zy,h=>by
  unfold aL at h;split at h
  .rename_i R U
   cases h;obtain⟨X,V⟩:=Hk I hT H Zy U;exact⟨fun Q Z=>X tp id Q Z,V⟩
  .cases h
 |.seq x y,s,e,s',Zy,h=>by
  unfold aL at h;split at h
  .rename_i R U
   simp only[cY,Es] at Zy;obtain⟨X,V⟩:=dJ I hT H Zy.1 U;obtain⟨b1,b2⟩:=dJ I hT H Zy.2 h;exact⟨fun Q Z=>xY (X _ (b1 Q Z)),V.trans b2⟩
  .rename_i M
   simp only[cY,Es] at Zy;obtain⟨X,V⟩:=dJ I hT H Zy.1 h;refine⟨fun Q Z=>xY (X _ ?_),V⟩;cases e<;>first | exact absurd h (M s') | exact Z
 |.cond c x y,s,e,s',Zy,h=>by
  unfold aL at h;split at h
  .rename_i L
   simp only[cY,Es] at Zy;obtain⟨X,V⟩:=dJ I hT H Zy.1 h;exact⟨fun Q Z=>O4 L (fun _=>X Q Z) (fun e=>by cases e),V⟩
  .rename_i L
   simp only[cY,Es] at Zy;obtain⟨X,V⟩:=dJ I hT H Zy.2 h;exact⟨fun Q Z=>O4 L (fun e=>by cases e) (fun _=>X Q Z),V⟩
  .cases h
 |.block id b,s,e,s',Zy,h=>by
  unfold aL at h;split at h
  .rename_i i R U
   obtain⟨X,V⟩:=dJ I hT H (by simpa only[cY] using Zy) U;split at h
   .rename_i G
    cases h;exact⟨fun Q Z=>Cb (X _ (by simp only[O6];rw[if_pos G];exact Z)),V⟩
   .rename_i G
    cases h;exact⟨fun Q Z=>Cb (X _ (by simp only[O6];rw[if_neg G];exact Z)),V⟩
  .rename_i M
   obtain⟨X,V⟩:=dJ I hT H (by simpa only[cY] using Zy) h;refine⟨fun Q Z=>Cb (X _ ?_),V⟩;cases e<;>first | exact absurd h (M _ s') | exact Z
 |.loop b,s,e,s',Zy,h=>by
  unfold aL at h;have u:∀s e s',aL T lv O K N m0 tp b s=some (e,s')->YG P tp N m0 b s e s' /\af3 (aa b) s.env s'.env:=fun s e s' h=>⟨dJ I hT H (by simpa only[cY] using Zy) h,gn H h⟩
  refine⟨fun Q Z=>AWP.assume fun S F=>VD (agk.env fun t=>sX (.refl _ _) t) (Rv u F S _ _ _ _ (ov (.refl _ _)) h Z),fun S=>?_⟩;exact Ru (fun s e s' h=>(u s e s' h).1) S _ ⟨an (lv b) (aa b) s.env s.env,s.mem,s.afH⟩ _ _ h S
 |.rangeFunc g ps Zx body,s,e,s',Zy,h=>by
  unfold aL at h;split at h
  .rename_i C
   subst C;split at h
   .rename_i f o hg
    split at h
    .rename_i r j
     simp only at h;split at h
     .rename_i r2 ZX
      split at h
      .cases h
      .rename_i Y
       split at h
       .rename_i e1 F
        cases h;have J:=yv H j;refine⟨fun Q Z=>GM hg ((H.fn _ _ _ _ j).mono ?_),fun S=>⟨?_,fun B=>?_⟩⟩
        .rintro v m ⟨rfl,rfl⟩
         exact⟨r2,e,ZX,fun e=>Y (by rw[e];rfl),F,Z⟩
        .simp only[QQh]
         simp only[Qs] at J;omega
        .simp only[Bool.or_eq_false_iff,Option.isSome_eq_false_iff,Option.isNone_iff_eq_none] at B
         refine⟨B.1,vz S ?_ fun b Y=>?_⟩
         .simp only[QQh]
          simp only[Qs] at J;omega
         .have Zu :b<s.mem.length:=by omega
          show((r.mem _).set s.mem.length _)[b]? =_
          rw[QQe (by omega)];unfold afl.mem;rw[B.2];simp only[Option.getD_none];rw[QQQ,GT Zu]
       .cases h
     .cases h
    .cases h
   .cases h
  .cases h
 |.label _,s,e,s',Zy,h=>by cases h
 |.goto _,s,e,s',Zy,h=>by cases h
 |.scope _,s,e,s',Zy,h=>by cases h
 |.refuse _,s,e,s',Zy,h=>by cases h
structure agG (P:Program)(G:FuncId->Option Func):Prop where
 fn:∀f fn,G f=some fn->P.funcs[f]? =some fn/\(fn.name == "runtime.NumGoroutine")=false/\∀c,fn.body=some c->cY c=true
section
variable (hm:P.follows .mixedOrders=true)(hT:dQ P T)(hO:qS P O)
include hm hT hO
theorem aB{G:FuncId->Option Func}(H:agG P G){f:FuncId}{args:List AV}{mem:Mem}{r:afl}(h:ae T lv G O K f args mem=some r):kO P f args mem r.v (r.mem mem)/\∀p,r.pre=some p->p.length=mem.length:=by
 unfold ae at h;split at h
 .cases h
 .rename_i fn S
  obtain⟨L,F,g3⟩:=H.fn _ _ S;split at h
  .cases h
  .rename_i c R
   split at h
   .rename_i C
    split at h
    .rename_i e s o
     obtain⟨B,m⟩:=dJ hm hT hO (g3 c R) o;obtain⟨J,j⟩:=m (L9 _);have X:(e=.normal\/e=.ret)->(match jS T fn.results.toList s.env s.mem with
      |some v=>
       let m0:=mem.length
       if s.afH then
        let ks:=qv m0 s.mem 1000 (v.refs m0++(s.mem.take m0).flatMap (afq.refs m0)) []
        if Ei m0 s.mem.length ks then
         some ⟨v.ren (rho m0 ks),some ((s.mem.take m0).map (afq.ren (rho m0 ks))),aga m0 ks s.mem⟩
        else none
       else
        let ks:=qv m0 s.mem 1000 (v.refs m0) []
        if Ei m0 s.mem.length ks then
         some ⟨v.ren (rho m0 ks),none,aga m0 ks s.mem⟩
        else none
      |none=>none:Option afl)=some r->kO P f args mem r.v (r.mem mem)/\∀p,r.pre=some p->p.length=mem.length:=by
      intro V h;split at h
      .rename_i v u
       simp only at h;split at h
       .split at h
        .rename_i Z
         cases h;refine⟨afZ.intro hT L R F C (B _ ⟨V,v,u,_,Z,.inr ⟨rfl,rfl⟩⟩),fun p M=>?_⟩;cases M;simp only[QXf,SP];omega
        .cases h
       .rename_i Y
        split at h
        .rename_i Z
         cases h;have U :=(j (by simpa using Y)).2;rw[B5 (L9 _)] at U;exact⟨afZ.intro hT L R F C (B _ ⟨V,v,u,_,Z,.inl ⟨U,rfl,rfl⟩⟩),fun p M=>by cases M⟩
        .cases h
      .cases h
     split at h
     .exact X (.inl rfl) h
     .exact X (.inr rfl) h
     .cases h
    .cases h
   .cases h
theorem pD{b:Nat}{args:List AV}{mem:Mem}{r:afl}(h:xZ T lv O K b args mem=some r):gG P b args mem r.v (r.mem mem)/\∀p,r.pre=some p->p.length=mem.length:=by
 unfold xZ at h;split at h
 .rename_i lp X
  split at h
  .rename_i R
   simp only[Es,GE,List.all_eq_true] at R;obtain⟨⟨⟨⟨M,L⟩,G⟩,F⟩,C⟩:=R;have Z:∀{x:LoopState},(x== .ready)=true->x=.ready:=fun {x} h=>by cases x<;>first | rfl | cases h
   split at h
   .rename_i s1 B
    obtain⟨u,o⟩:=dJ hm hT hO F B;split at h
    .rename_i r1 V
     split at h
     .rename_i U
      split at h
      .rename_i e s2 m
       obtain⟨Y,J⟩:=dJ hm hT hO C m;split at h
       .rename_i j r2 I H
        simp only at h;split at h
        .rename_i S
         cases h;obtain⟨d1,_⟩:=o (L9 _);obtain⟨d2,_⟩:=J (by simpa using d1);refine⟨af9.intro X (Z M) L G (u _ ⟨rfl,r1,V,Z U,Y _ ⟨r2,j,_,I,H,S,rfl,rfl⟩⟩),fun p hp=>?_⟩;cases hp;simp only[QXf,SP,QQh];omega
        .cases h
       .cases h
      .cases h
     .cases h
    .cases h
   .cases h
  .cases h
 .cases h
end
theorem pB(H:P.follows .mixedOrders=true)(hT:dQ P T){G:FuncId->Option Func}(J:agG P G)(I:qS P O):∀n,qS P (Ec T lv G O K n)
 |0=>I
 |n+1=>by
  have V:=pB H hT J I n;have X:∀c Z mem r,Ec T lv G O K (n+1) c Z mem=some r->O c Z mem=some r\/(match c with
   |.fn f=>ae T lv G (Ec T lv G O K n) K f Z mem
   |.yld b=>xZ T lv (Ec T lv G O K n) K b Z mem)=some r:=by
   intro c Z mem r h;unfold Ec at h;split at h
   next R S=>cases h;exact .inl S
   .exact .inr h
  refine⟨fun f Z mem r h=>?_,fun b Z mem r h=>?_,fun c Z mem r p h U=>?_⟩
  .rcases X _ _ _ _ h with h | h
   .exact I.fn _ _ _ _ h
   .exact(aB H hT V J h).1
  .rcases X _ _ _ _ h with h | h
   .exact I.yld _ _ _ _ h
   .exact(pD H hT V h).1
  .rcases X _ _ _ _ h with h | h
   .exact I.pre _ _ _ _ _ h U
   .cases c with
    |fn f=>exact(aB H hT V J h).2 p U
    |yld b=>exact(pD H hT V h).2 p U
end
end Go.Eng
namespace Go.Eng
def aX(P:Program)(t:TypeId):Option TyI:=
 match P.info? t,P.underlying t with
 |some i,some d=>match i.zero with
  |some z=>if z.cells.size=i.size then some ⟨d,i.size,i.bytes,z,!P.stoodInHeld t&& !P.eqGuardType P.depth t⟩ else none
  |none=>none
 |_,_=>none
theorem aI(P:Program):dQ P (aX P):=by
 intro t i h;unfold aX at h;split at h
 .rename_i f d X V
  split at h
  .rename_i z U
   split at h
   .rename_i S
    cases h;refine⟨V,⟨f,X,rfl,rfl,U⟩,S,fun Z=>?_⟩;simp only[Es,Bool.not_eq_true'] at Z;exact Z
   .cases h
  .cases h
 .cases h
def aZ(P:Program)(f:FuncId):Option Func:=match P.funcs[f]? with
 |some fn=>if fn.name == "runtime.NumGoroutine" then none else match fn.body with
  |some c=>if cY c then some fn else none
  |none=>some fn
 |none=>none
theorem aQ(P:Program):agG P (aZ P):=by
 refine⟨fun f fn h=>?_⟩;unfold aZ at h;split at h
 .rename_i S V
  split at h
  .cases h
  .rename_i U
   split at h
   .rename_i c X
    split at h
    .rename_i R
     cases h;refine⟨V,by simpa using U,fun O Z=>?_⟩;rw[X] at Z;cases Z;exact R
    .cases h
   .rename_i X
    cases h;refine⟨V,by simpa using U,fun O Z=>?_⟩;rw[X] at Z;cases Z
 .cases h
def cO:y9:=fun _ _ _=>none
theorem az(P:Program):qS P cO:=⟨(fun _ _ _ _ h=>by cases h),(fun _ _ _ _ h=>by cases h),(fun _ _ _ _ _ h=>by cases h)⟩
structure afS (w w' :World):Prop where
 size:w.heap.size<=w'.heap.size
 heap:∀k,k<w.heap.size->w'.heap[k]? =w.heap[k]?
 os:w'.os=w.os
 tape:w'.tape=w.tape
 output:w'.output=w.output
 drawn:w.drawn<=w'.drawn
section
variable {P:Program}{μ:Nat->Place}{mem:Mem}{base:Nat}{w w' :World}
theorem afS.refl(w:World):afS w w:=⟨L9 _,fun _ _=>rfl,rfl,rfl,rfl,L9 _⟩
theorem afS.ah2(h:afS w w')(H:afA base μ mem w):afA base μ mem w' :=by refine⟨QQd H.afx h.size,fun b s Z=>?_,H.sep⟩;exact(H.slot b s Z).mono (L9 _) (fun _ _=>rfl) fun X=>h.heap _ ((H.slot b s Z).af8 X)
theorem afS.step(h:afS w w'){m0:Nat}(H:m0<=mem.length):Step m0 μ mem w μ mem w' :=
 ⟨H,fun _ _=>rfl,h.os,h.tape,h.output,h.size,fun k Z _=>h.heap k Z,fun b X _=>⟨b,X,rfl⟩,h.drawn⟩
theorem kO.af2{f:FuncId}{args:List AV}{Vs:List Value}{v:AV}{V:Value}(hf:UJ P f)(H:∀μ n Us,afo μ n args Us->Us=Vs)(I:∀μ n,afn μ n v V)(h:∀base w,GOk P base w->Calls P f ⟨Vs⟩ w fun e w' =>e=.returned V/\afS w w')(mem:Mem):kO P f args mem v mem:=by refine⟨hf,fun base μ w Us hG hH hV=>?_⟩;rw[H _ _ _ hV];refine(h base w hG).mono ?_;rintro e w' ⟨rfl,hg⟩;exact⟨V,v,mem,μ,rfl,I _ _,hg.ah2 hH,hg.step (L9 _),rfl,rfl⟩
theorem afS.grow(w:World)(k:Nat)(os:Array Obj):afS w { w with heap:=w.heap++os,drawn:=w.drawn+k }:=by
 refine⟨by simp,fun i hi=>?_,rfl,rfl,rfl,Nat.le_add_right _ _⟩;show(w.heap++os)[i]? =_
 rw[Array.getElem?_append_left hi]
mutual
def AV.closed:AV->Bool
 |.ptr _ _=>false
 |.slice _ _ _ _=>false
 |.map _=>false
 |.yield _=>false
 |.func _ Z=>AV.afr Z
 |.iface _ v=>v.closed
 |.agg Z=>AV.afr Z
 |.tuple Z=>AV.afr Z
 |_=>true
def AV.afr:List AV->Bool
 | []=>true
 |v::vs=>v.closed&&AV.afr vs
end
mutual
theorem afn.closed{μ μ' :Nat->Place}{n n' :Nat}:∀{v V},v.closed=true->afn μ n v V->afn μ' n' v V
 |.undef,V,_,_=>by simp[afn]
 |.bool b,V,_,h=>by simpa [afn] using h
 |.int k i,V,_,h=>by simpa [afn] using h
 |.str s,V,_,h=>by simpa [afn] using h
 |.ptr b o,V,hc,_=>by simp[AV.closed] at hc
 |.afB,V,_,h=>by simpa [afn] using h
 |.slice b o l c,V,hc,_=>by simp[AV.closed] at hc
 |.qF,V,_,h=>by simpa [afn] using h
 |.map b,V,hc,_=>by simp[AV.closed] at hc
 |.yield b,V,hc,_=>by simp[AV.closed] at hc
 |.afL,V,_,h=>by simpa [afn] using h
 |.func f X,V,hc,h=>by simp only[afn] at h |-;simp only[AV.closed] at hc;obtain⟨Z,rfl,h⟩:=h;exact⟨Z,rfl,afo.closed hc h⟩
 |.nilFunc,V,_,h=>by simpa [afn] using h
 |.iface t v,V,hc,h=>by simp only[afn] at h |-;simp only[AV.closed] at hc;obtain⟨U,rfl,h⟩:=h;exact⟨U,rfl,afn.closed hc h⟩
 |.nilIface,V,_,h=>by simpa [afn] using h
 |.agg X,V,hc,h=>by simp only[afn] at h |-;simp only[AV.closed] at hc;obtain⟨Z,rfl,h⟩:=h;exact⟨Z,rfl,afo.closed hc h⟩
 |.tuple X,V,hc,h=>by simp only[afn] at h |-;simp only[AV.closed] at hc;obtain⟨Z,rfl,h⟩:=h;exact⟨Z,rfl,afo.closed hc h⟩
theorem afo.closed{μ μ' :Nat->Place}{n n' :Nat}:∀{vs Us},AV.afr vs=true->afo μ n vs Us->afo μ' n' vs Us
 | [],Us,_,h=>by simpa [afo] using h
 |v::vs,Us,hc,h=>by simp only[AV.afr,Es] at hc;simp only[afo] at h |-;obtain⟨U,Z,rfl,X,V⟩:=h;exact⟨U,Z,rfl,afn.closed hc.1 X,afo.closed hc.2 V⟩
end
theorem kO.lift{f:FuncId}{args:List AV}{v:AV}(H:AV.afr args=true)(I:v.closed=true)(h:kO P f args [] v [])(mem:Mem):kO P f args mem v mem:=by refine⟨h.1,fun base μ w Us hG hH hV=>?_⟩;have S:afA base μ [] w:=⟨hH.afx,fun b s Z=>by simp at Z,fun b O N X=>by obtain⟨s,Z,_⟩:=X;simp at Z⟩;refine(h.2 base μ w Us hG S (afo.closed H hV)).mono ?_;rintro e w' ⟨V,v',m',μ',rfl,q1,q2,q3,rfl,rfl⟩;have U:afS w w' :=⟨q3.size,fun k R=>q3.frame k R fun b X=>by obtain⟨s,Z,_⟩:=X;simp at Z,q3.os,q3.tape,q3.output,q3.drawn⟩;exact⟨V,v',mem,μ,rfl,afn.closed I q1,U.ah2 hH,U.step (L9 _),rfl,rfl⟩
variable{O:y9}
theorem kO.aht{T:TypeId->Option TyI}{G:FuncId->Option Func}{K:Nat}(H:P.follows .mixedOrders=true)(hT:dQ P T)(I:qS P O)(J:agG P G){f:FuncId}{args:List AV}{v:AV}(Y:AV.afr args=true)(hv:v.closed=true){lv:Code->List Nat}(h:ae T lv G O K f args []=some ⟨v,none,[]⟩)(mem:Mem):kO P f args mem v mem:=
 kO.lift Y hv (aB H hT I J h).1 mem
def y9.or(O H :y9):y9:=fun c Z mem=>match O c Z mem with
 |some r=>some r
 |none=>H c Z mem
theorem qS.or{H :y9}(h:qS P O)(h' :qS P H):qS P (O.or H):=by
 have U:∀c Z mem r,O.or H c Z mem=some r->O c Z mem=some r\/H c Z mem=some r:=by
  intro c Z mem r V;unfold y9.or at V;split at V
  next R X=>cases V;exact .inl X
  .exact .inr V
 refine⟨fun f Z mem r V=>?_,fun b Z mem r V=>?_,fun c Z mem r p V S=>?_⟩
 .rcases U _ _ _ _ V with X | X
  .exact h.fn _ _ _ _ X
  .exact h'.fn _ _ _ _ X
 .rcases U _ _ _ _ V with X | X
  .exact h.yld _ _ _ _ X
  .exact h'.yld _ _ _ _ X
 .rcases U _ _ _ _ V with X | X
  .exact h.pre _ _ _ _ _ X S
  .exact h'.pre _ _ _ _ _ X S
def ah(F:FuncId->List AV->Option AV):y9:=fun c Z _=>match c with
 |.fn f=>match F f Z with
  |some v=>some ⟨v,none,[]⟩
  |none=>none
 |.yld _=>none
theorem bM{F:FuncId->List AV->Option AV}(h:∀f Z v,F f Z=some v->∀mem,kO P f Z mem v mem):qS P (ah F):=by
 refine⟨fun f Z mem r X=>?_,(fun b Z mem r X=>by cases X),fun c Z mem r p X V=>?_⟩
 .unfold ah at X
  simp only at X;split at X
  .rename_i v U
   cases X;have:=h f Z v U mem;simpa [afl.mem] using this
  .cases X
 .unfold ah at X
  split at X
  .split at X
   .cases X;cases V
   .cases X
  .cases X
end
end Go.Eng
