/- See H38. -/
import Derived.Test.YthpgbelancmpjaaGreatDoorH02
set_option linter.all false
namespace Go.Eng
mutual
def AV.aft(ok:Nat->Bool):AV->Bool
 |.ptr b _=>ok b
 |.slice b _ _ _=>ok b
 |.map b=>ok b
 |.yield b=>ok b
 |.func _ Z=>AV.afD ok Z
 |.iface _ v=>v.aft ok
 |.agg Z=>AV.afD ok Z
 |.tuple Z=>AV.afD ok Z
 |_=>true
def AV.afD(ok:Nat->Bool):List AV->Bool
 | []=>true
 |v::vs=>v.aft ok&&AV.afD ok vs
end
def afz.aft(ok:Nat->Bool):afz->Bool
 |.y9=>true
 |.cells _ _ cs=>AV.afD ok cs
 |.map es=>es.all fun e=>e.1.aft ok&&e.2.aft ok
 |.af6 es=>es.all fun e=>e.1.aft ok&&e.2.aft ok
 |.loop r=>r.env.all fun e=>e.2.aft ok
theorem Dw{ok:Nat->Bool}:∀{env:Env},(env.all fun e=>e.2.aft ok)=true->∀t,(aa env t).aft ok=true
 | [],_,_=>rfl
 |(k,v)::r,h,t=>by
  simp only[QQX,Ar] at h;simp only[aa];split
  .exact h.1
  .exact Dw h.2 t
mutual
theorem afx.change{μ μ' :Nat->Place}{n:Nat}{ok:Nat->Bool}(hμ:∀b,b<n->ok b=true->μ' b=μ b):
  ∀{v V},v.aft ok=true->afx μ n v V->afx μ' n v V
 |.undef,_,_,_=>by simp[afx]
 |.bool _,_,_,h=>by simpa [afx] using h
 |.int _ _,_,_,h=>by simpa [afx] using h
 |.str _,_,_,h=>by simpa [afx] using h
 |.ptr b o,V,hk,h=>by simp only[afx] at h |-;simp only[AV.aft] at hk;exact⟨h.1,by rw[hμ b h.1 hk];exact h.2⟩
 |.afL,_,_,h=>by simpa [afx] using h
 |.slice b o l c,V,hk,h=>by simp only[afx] at h |-;simp only[AV.aft] at hk;exact⟨h.1,by rw[hμ b h.1 hk];exact h.2⟩
 |.kO,_,_,h=>by simpa [afx] using h
 |.map b,V,hk,h=>by simp only[afx] at h |-;simp only[AV.aft] at hk;exact⟨h.1,by rw[hμ b h.1 hk];exact h.2⟩
 |.yield b,V,hk,h=>by simp only[afx] at h |-;simp only[AV.aft] at hk;exact⟨h.1,by rw[hμ b h.1 hk];exact h.2⟩
 |.afV,_,_,h=>by simpa [afx] using h
 |.func f X,V,hk,h=>by simp only[afx] at h |-;simp only[AV.aft] at hk;obtain⟨Z,e,h⟩:=h;exact⟨Z,e,afy.change hμ hk h⟩
 |.nilFunc,_,_,h=>by simpa [afx] using h
 |.iface t v,V,hk,h=>by simp only[afx] at h |-;simp only[AV.aft] at hk;obtain⟨U,e,h⟩:=h;exact⟨U,e,afx.change hμ hk h⟩
 |.nilIface,_,_,h=>by simpa [afx] using h
 |.agg X,V,hk,h=>by simp only[afx] at h |-;simp only[AV.aft] at hk;obtain⟨Z,e,h⟩:=h;exact⟨Z,e,afy.change hμ hk h⟩
 |.tuple X,V,hk,h=>by simp only[afx] at h |-;simp only[AV.aft] at hk;obtain⟨Z,e,h⟩:=h;exact⟨Z,e,afy.change hμ hk h⟩
theorem afy.change{μ μ' :Nat->Place}{n:Nat}{ok:Nat->Bool}(hμ:∀b,b<n->ok b=true->μ' b=μ b):
  ∀{vs Us},AV.afD ok vs=true->afy μ n vs Us->afy μ' n vs Us
 | [],_,_,h=>by simpa [afy] using h
 |v::vs,Us,hk,h=>by simp only[afy] at h |-;simp only[AV.afD,Ar] at hk;obtain⟨U,Z,e,X,V⟩:=h;exact⟨U,Z,e,afx.change hμ hk.1 X,afy.change hμ hk.2 V⟩
end
variable{s:afz}
theorem afM.change{μ μ' :Nat->Place}{n base:Nat}{w:World}{p:Place}{ok:Nat->Bool}(hμ:∀b,b<n->ok b=true->μ' b=μ b)(H:s.aft ok=true)(h:afM μ n base w p s):afM μ' n base w p s:=by
 cases s with
 |y9=>trivial
 |cells own es cs=>
  simp only[afM] at h |-;simp only[afz.aft] at H;obtain⟨N,e,fr,Z,X,h3,Q,F⟩:=h;refine⟨N,e,fr,Z,X,h3,fun j v R=>?_,F⟩;obtain⟨V,hV,D⟩:=Q j v R;refine⟨V,hV,D.change hμ ?_⟩;have:∀(l:List AV),AV.afD ok l=true->∀v∈l,v.aft ok=true:=by
   intro l;induction l with
   |nil=>intro _ v R;cases R
   |cons x xs ih=>
    intro hl v R;simp only[AV.afD,Ar] at hl;cases R with
    |head=>exact hl.1
    |tail _ hm=>exact ih hl.2 v hm
  exact this cs H v (Lo R)
 |map es=>
  simp only[afM] at h |-;simp only[afz.aft,List.all_eq_true,Ar] at H;obtain⟨M,K,Z,X,h3,Q⟩:=h;refine⟨M,K,Z,X,h3,fun j e O=>?_⟩;obtain⟨E,G,U,S⟩:=Q j e O;have:=H e (Lo O);exact⟨E,G,U.change hμ this.1,S.change hμ this.2⟩
 |af6 es=>
  simp only[afM] at h |-;simp only[afz.aft,List.all_eq_true,Ar] at H;obtain⟨M,K,Z,X,h3,Q⟩:=h;refine⟨M,K,Z,X,h3,fun j e O=>?_⟩;obtain⟨E,G,U,S⟩:=Q j e O;have:=H e (Lo O);exact⟨E,G,U.change hμ this.1,S.change hμ this.2⟩
 |loop r=>
  simp only[afM] at h |-;obtain⟨L,Z,X,h3⟩:=h;exact⟨L,Z,X,{ h3 with tmps:=fun t=>(h3.tmps t).change hμ (Dw H t) }⟩
structure af4 where
 E:Nat->Env
 En:Nat->Env
 M:Nat->Mem
 Tm:Nat->Mem
 M' :Nat->Mem
 v:Nat->AV
 wb:Nat->Bool
 agh:Nat->Nat->Bool
 ok:Nat->Nat->Bool
 cl:Nat->Nat->Bool
def iM(mem:Mem)(b:Nat):Prop:=∃s,mem[b]? =some s/\s≠ .y9
structure ahD (P:Program)(T:TypeId->Option TyI)(N:Nat)(ops:Array Oper)(d:af4)(j:Nat)(o:Oper):Prop where
 wanted:sL ops (d.En j) o=some (d.wb j)
 dst:EF N o=true
 step:d.wb j=true->xG P T (d.En j) (d.Tm j) o (d.v j) (d.M' j)
 skip:d.wb j=false->d.v j=.tuple []/\d.M' j=d.Tm j
 env:d.E (j+1)=agm (d.E j) o.dst (d.v j)
 named:∀t,aa (d.En j) t=.undef\/(aa (d.En j) t=aa (d.E j) t/\∀(i:Nat) oi,ops[i]? =some oi->i≠j->oi.dst=some t->d.cl i j=true\/d.cl j i=true)
 aic:∀(i:Nat) oi t,ops[i]? =some oi->i≠j->o.dst=some t->oi.dst=some t->d.cl i j=true\/d.cl j i=true
 ahh:(d.Tm j).length=(d.M j).length
 ahi:∀b:Nat,(d.Tm j)[b]? =(d.M j)[b]? \/(d.Tm j)[b]? =some .y9
 ahR:(d.M (j+1)).length=(d.M' j).length
 ahj:(d.M j).length<=(d.M (j+1)).length
 ahS:∀b:Nat,d.agh j b=true->(d.M (j+1))[b]? =(d.M' j)[b]?
 ahW:∀b:Nat,b<(d.M j).length->d.agh j b=false->(d.M (j+1))[b]? =(d.M j)[b]?
 ahX:∀b:Nat,b<(d.M j).length->d.agh j b=false->iM (d.Tm j) b->(d.M' j)[b]? =(d.M j)[b]?
 ahY:∀b:Nat,(d.M j).length<=b->d.agh j b=true
 ahE:∀b:Nat,d.agh j b=true->b<(d.M j).length->iM (d.Tm j) b
 sep:∀(i:Nat) oi (b:Nat),ops[i]? =some oi->i≠j->b<(d.M (i+1)).length->d.agh i b=true->(b<(d.M (j+1)).length/\d.agh j b=true)\/iM (d.Tm j) b->d.cl i j=true\/d.cl j i=true
 okc:∀(i:Nat) (b:Nat) oi,ops[i]? =some oi->d.ok j b=true->(d.M i).length<=b->b<(d.M (i+1)).length->i=j\/d.cl i j=true
 ahk:(d.v j).aft (d.ok j)=true
 ahZ:∀(b:Nat) s,d.agh j b=true->(d.M (j+1))[b]? =some s->s.aft (d.ok j)=true
 ahF:∀(b:Nat) s,(d.M j).length<=b->(d.M (j+1))[b]? =some s->s≠ .y9->eH (d.M (j+1)) b
 ahT:∀e∈o.after,Region.binds .any e=true->e.on<j
 ahG:∀i,d.cl i j=true->∃e∈o.after,Region.binds .any e=true/\(e.on=i\/d.cl i e.on=true)
variable{b t:Nat}
section
variable {P:Program}{T:TypeId->Option TyI}{N:Nat}{ops:Array Oper}{d:af4}
def tF(P:Program)(T:TypeId->Option TyI)(N:Nat)(ops:Array Oper)(d:af4):Prop:=∀(j:Nat) o,ops[j]? =some o->ahD P T N ops d j o
def Tch(d:af4)(i b:Nat):Prop:=d.agh i b=true/\b<(d.M (i+1)).length
theorem AB{j:Nat}(h:j<ops.size):∃o,ops[j]? =some o:=⟨ops[j],by simp[h]⟩
theorem LG{env:Env}{H:Option Tmp}{v:AV}(h:H≠some t):aa (agm env H v) t=aa env t:=by
 cases H with
 |none=>rfl
 |some x=>
  have:¬x=t:=fun e=>h (by rw[e])
  simp[agm,aa,this]
section
variable (hA:tF P T N ops d)
include hA
theorem Fj(t:Nat)(j:Nat):∀k,j<=k->k<=ops.size->(∀(i:Nat) V,j<=i->i<k->ops[i]? =some V->V.dst≠some t)->aa (d.E k) t=aa (d.E j) t:=by
 intro k Z;induction Z with
 |refl=>intro _ _;rfl
 | @step k Z ih=>
  intro R X;obtain⟨o,U⟩:=AB (ops:=ops) (j:=k) (by omega);rw[(hA k o U).env,LG (X k o Z (Nat.lt_succ_self k) U)];exact ih (by omega) fun i V S Q h3=>X i V S (by omega) h3
theorem AW(j:Nat):∀k,j<=k->k<=ops.size->(d.M j).length<=(d.M k).length:=by
 intro k Z;induction Z with
 |refl=>intro _;exact Es _
 | @step k Z ih=>
  intro V;obtain⟨o,X⟩:=AB (ops:=ops) (j:=k) (by omega);exact Y2 (ih (by omega)) (hA k o X).ahj
theorem FC(b:Nat)(j:Nat):∀k,j<=k->k<=ops.size->(∀i,j<=i->i<k->¬Tch d i b)->(d.M k)[b]? =(d.M j)[b]? :=by
 intro k Z;induction Z with
 |refl=>intro _ _;rfl
 | @step k Z ih=>
  intro O X;obtain⟨o,V⟩:=AB (ops:=ops) (j:=k) (by omega);have U:=ih (by omega) fun i U K=>X i U (by omega)
  have Q:=X k Z (Nat.lt_succ_self k);rw[<-U];by_cases S:b<(d.M k).length
  .have:d.agh k b=false:=by
    cases R:d.agh k b with
    |false=>rfl
    |true=>exact absurd ⟨R,QQi S (hA k o V).ahj⟩ Q
   exact(hA k o V).ahW b S this
  .have R:=(hA k o V).ahY b (by omega)
   have:¬b<(d.M (k+1)).length:=fun h=>Q ⟨R,h⟩
   exact(List.getElem?_eq_none (Nat.le_of_not_lt this)).trans (List.getElem?_eq_none (Nat.le_of_not_lt S)).symm
end
structure ahe (d:af4)(ops:Array Oper)(base:Nat) (μ0:Nat->Place)(w0:World)(S:Nat->Prop) (μ:Nat->Place)(kb kt:Nat->Nat)(tmps:Array Value)(w:World):Prop where
 afF:base<=w.heap.size
 agV:∀b,kb b<=ops.size
 agA:∀b i,i<ops.size->Tch d i b->(S i↔i<kb b)
 agW:∀b,kb b=0\/Tch d (kb b-1) b
 slot:∀(b:Nat) s,(d.M (kb b))[b]? =some s->afM μ (d.M (kb b)).length base w (μ b) s
 sep:∀b b' s',eH (d.M (kb b)) b->(d.M (kb b'))[b']? =some s' ->s' ≠ .y9->b≠b' ->(μ b).blk≠(μ b').blk
 ahl:∀t,kt t<=ops.size
 agB:∀(t i:Nat) oi,ops[i]? =some oi->oi.dst=some t->(S i↔i<kt t)
 agX:∀t,kt t=0\/∃oi,ops[kt t-1]? =some oi/\oi.dst=some t
 tmp:∀t,afx μ (d.M (kt t)).length (aa (d.E (kt t)) t) (tmps.getD t undef)
 agree:∀b,b<(d.M 0).length->μ b=μ0 b
 os:w.os=w0.os
 tape:w.tape=w0.tape
 drawn:w0.drawn<=w.drawn
 output:w.output=w0.output
 size:w0.heap.size<=w.heap.size
 frame:∀k,k<w0.heap.size->(∀b,eH (d.M 0) b->(μ0 b).blk≠k)->w.heap[k]? =w0.heap[k]?
 owner:∀b,eH (d.M (kb b)) b->(μ b).blk<w0.heap.size->∃b0,eH (d.M 0) b0/\(μ0 b0).blk=(μ b).blk
theorem YC(H:tF P T N ops d):∀(j i:Nat),j<ops.size->d.cl i j=true->i<j:=by
 intro j;induction j using Nat.strongRecOn with
 |_ j ih=>
  intro i V h;obtain⟨o,X⟩:=AB V;obtain⟨e,U,S,hc⟩:=(H j o X).ahG i h;have Z:=(H j o X).ahT e U S;rcases hc with rfl | hc
  .exact Z
  .exact Nat.lt_trans (ih e.on Z i (by omega) hc) Z
def vO(ops:Array Oper)(S:Nat->Prop):Prop:=∀(j:Nat) o,ops[j]? =some o->S j->∀e∈o.after,Region.binds .any e=true->S e.on
section
variable (hA:tF P T N ops d){S:Nat->Prop}(hS:vO ops S)
include hA S hS
theorem T1:∀(j:Nat) o,ops[j]? =some o->(∀e∈o.after,Region.binds .any e=true->S e.on)->∀i,d.cl i j=true->S i:=by
 intro j;induction j using Nat.strongRecOn with
 |_ j ih=>
  intro o V O i h;have M:j<ops.size:=(J1.1 V).1;obtain⟨e,U,R,hc⟩:=(hA j o V).ahG i h;have K:=(hA j o V).ahT e U R;have Z:=O e U R;rcases hc with rfl | hc
  .exact Z
  .obtain⟨Q,X⟩:=AB (ops:=ops) (j:=e.on) (by omega)
   exact ih e.on K Q X (hS e.on Q X Z) i hc
theorem oh{j:Nat}{o:Oper}(H:ops[j]? =some o)(hr:∀e∈o.after,Region.binds .any e=true->S e.on)(J:¬S j){i:Nat}(I:i<ops.size)(h:d.cl i j=true\/d.cl j i=true):S i↔i<j:=by
 have X:j<ops.size:=(J1.1 H).1;obtain⟨U,Z⟩:=AB I;rcases h with h | h
 .exact⟨fun _=>YC hA j i X h,fun _=>T1 hA hS j o H hr i h⟩
 .have R:=YC hA i j I h
  constructor
  .intro V
   exact absurd (T1 hA hS i U Z (hS i U Z V) j h) J
  .intro;omega
end
section step
variable {base:Nat}{μ0:Nat->Place}{w0:World}{S:Nat->Prop}{μ:Nat->Place}{kb kt:Nat->Nat}{a:Act}{w:World}{j:Nat}{o:Oper}
section
variable (hA:tF P T N ops d)(hI:ahe d ops base μ0 w0 S μ kb kt a.tmps w)(hS:vO ops S)(ho:ops[j]? =some o)(hr:∀e∈o.after,Region.binds .any e=true->S e.on)(hj:¬S j)
include hA hI hS ho hr hj
theorem WI(H:∀(i:Nat) Z,ops[i]? =some Z->i≠j->Z.dst=some t->d.cl i j=true\/d.cl j i=true):
  kt t<=j/\aa (d.E j) t=aa (d.E (kt t)) t:=by
 have O:j<ops.size:=(J1.1 ho).1;have X:kt t<=j:=by
  rcases hI.agX t with M | ⟨Z,U,R⟩
  .omega
  .have K:=(hI.agB t (kt t-1) Z U R)
   by_cases M:kt t=0
   .omega
   .have V:S (kt t-1):=K.2 (by omega)
    have G:kt t-1≠j:=fun e=>hj (e▸V)
    have F:kt t-1<ops.size:=(J1.1 U).1;have:=(oh hA hS ho hr hj F (H _ Z U G R)).1 V;omega
 refine⟨X,Fj hA t (kt t) j X (by omega) fun i Z U R h3 Q=>?_⟩;have:=(oh hA hS ho hr hj (by omega) (H i Z h3 (by omega) Q)).2 R;have:=(hI.agB t i Z h3 Q).1 this;omega
theorem yF(H:iM (d.Tm j) b):kb b<=j/\(d.M j)[b]? =(d.M (kb b))[b]? :=by
 have F:j<ops.size:=(J1.1 ho).1;have Z:∀i,i<ops.size->i≠j->Tch d i b->(S i↔i<j):=by intro i O U K;obtain⟨D,R⟩:=AB O;exact oh hA hS ho hr hj O ((hA j o ho).sep i D b R U K.2 K.1 (.inr H))
 have X:kb b<=j:=by
  rcases hI.agW b with C | Q
  .omega
  .by_cases C:kb b=0
   .omega
   .have G:kb b-1<ops.size:=by have:=hI.agV b;omega
    have V:S (kb b-1):=(hI.agA b _ G Q).2 (by omega);have U:kb b-1≠j:=fun e=>hj (e▸V)
    have:=(Z _ G U Q).1 V;omega
 refine⟨X,FC hA b (kb b) j X (by omega) fun i Q B h3=>?_⟩;have:=(Z i (by omega) (by omega) h3).2 B;have:=(hI.agA b i (by omega) h3).1 this;omega
end
theorem rL(H:tF P T N ops d)(I:ops[j]? =some o)(h:(d.Tm j)[b]? =some s)(hs:s≠ .y9):(d.M j)[b]? =some s:=by
 rcases (H j o I).ahi b with e | e
 .rw[<-e];exact h
 .rw[h] at e;cases e;exact absurd rfl hs
theorem mi{mem:Mem}(h:eH mem b):iM mem b:=by obtain⟨s,h,Z⟩:=h;exact⟨s,h,afz.af7 Z⟩
theorem mj{m H :Mem}(h:m[b]? =H[b]?):eH m b↔eH H b:=by simp[eH,h]
section
variable (hA:tF P T N ops d)(hI:ahe d ops base μ0 w0 S μ kb kt a.tmps w)(hS:vO ops S)(ho:ops[j]? =some o)(hr:∀e∈o.after,Region.binds .any e=true->S e.on)(hj:¬S j)
include hA hI hS ho hr hj
theorem U6:afJ base μ (d.Tm j) w:=by
 have D:j<ops.size:=(J1.1 ho).1;refine⟨hI.afF,fun b s O=>?_,fun b C M K Z V U=>?_⟩
 .by_cases R:s=.y9
  .subst R;trivial
  .have B:iM (d.Tm j) b:=⟨s,O,R⟩
   obtain⟨G,Q⟩:=yF hA hI hS ho hr hj B;have F:=rL hA ho O R;rw[Q] at F;rw[(hA j o ho).ahh];exact(hI.slot b s F).mono (AW hA _ j G (by omega)) (fun _ _=>rfl) fun _=>rfl
 .obtain⟨G,Q⟩:=yF hA hI hS ho hr hj (mi K)
  obtain⟨u,y⟩:=yF hA hI hS ho hr hj ⟨M,Z,V⟩;refine hI.sep b C M ?_ ?_ V U
  .refine(mj Q).1 ?_
   obtain⟨s,h,X⟩:=K;exact⟨s,rL hA ho h (afz.af7 X),X⟩
  .rw[<-y];exact rL hA ho Z V
theorem U7:af2 μ (d.Tm j).length (d.En j) a.tmps:=by
 have Z:j<ops.size:=(J1.1 ho).1;intro t;rcases (hA j o ho).named t with h | ⟨h,X⟩
 .rw[h];simp[afx]
 .obtain⟨V,U⟩:=WI hA hI hS ho hr hj X
  rw[h,U,(hA j o ho).ahh];exact(hI.tmp t).mono (AW hA _ j V (by omega)) fun _ _=>rfl
end
end step
end
end Go.Eng
namespace Go.Eng
section
variable {P:Program}{T:TypeId->Option TyI}{N:Nat}{ops:Array Oper}{d:af4}
variable {base:Nat}{μ0:Nat->Place}{w0:World}{S:Nat->Prop}{μ μ' :Nat->Place}{kb kt:Nat->Nat}{a:Act}{w w' :World}{j:Nat}{o:Oper}{V:Value}
open Classical in
theorem WE(J:tF P T N ops d)(H:ahe d ops base μ0 w0 S μ kb kt a.tmps w)(hS:vO ops S)(W:ops[j]? =some o)(hr:∀e∈o.after,Region.binds .any e=true->S e.on)(hj:¬S j)(hN:a.tmps.size=N)(hV:afx μ' (d.M' j).length (d.v j) V)(hH:afJ base μ' (d.M' j) w')(I:Step (d.Tm j).length μ (d.Tm j) w μ' (d.M' j) w'):
  ∃μ2 kb2 kt2,ahe d ops base μ0 w0 (fun i=>S i\/i=j) μ2 kb2 kt2 (a.put o.dst V).tmps w' :=by
 have hjs:j<ops.size:=(J1.1 W).1;have D:=J j o W;have hlj:∀k,k<=j->(d.M k).length<=(d.M j).length:=fun k hk=>AW J k j hk (by omega)
 have hl1:=D.ahj;have h0j:=hlj 0 (Nat.zero_le _);have hag:∀b,b<(d.M j).length->μ' b=μ b:=fun b X=>I.agree b (by rw[D.ahh];exact X)
 let μ2:Nat->Place:=fun b=>if b<(d.M (j+1)).length then μ' b else μ b
 have F:∀b,b<(d.M j).length->μ2 b=μ b:=by
  intro b X;show(if b<(d.M (j+1)).length then μ' b else μ b)=μ b
  rw[if_pos (by omega),hag b X]
 have aby:∀b,b<(d.M (j+1)).length->μ2 b=μ' b:=by
  intro b X;show(if b<(d.M (j+1)).length then μ' b else μ b)=μ' b
  rw[if_pos X]
 have acx:∀b,¬b<(d.M (j+1)).length->μ2 b=μ b:=by
  intro b X;show(if b<(d.M (j+1)).length then μ' b else μ b)=μ b
  rw[if_neg X]
 have adJ:∀k,0<k->S (k-1)->k-1<ops.size->∀b,d.ok (k-1) b=true->μ2 b=μ b:=by
  intro k hk hSk hks b X;by_cases h1:b<(d.M j).length
  .exact F b h1
  .by_cases G:b<(d.M (j+1)).length
   .obtain⟨ok,hok⟩:=AB hks
    rcases (J _ ok hok).okc j b o W X (by omega) G with e | e
    .exact absurd (e▸hSk) hj
    .exact absurd (T1 J hS _ ok hok (hS _ ok hok hSk) j e) hj
   .exact acx b G
 let kb2:Nat->Nat:=fun b=>if Tch d j b then j+1 else kb b
 let kt2:Nat->Nat:=fun t=>if o.dst=some t then j+1 else kt t
 have ace:∀b,Tch d j b->kb2 b=j+1:=fun b X=>if_pos X
 have acf:∀b,¬Tch d j b->kb2 b=kb b:=fun b X=>if_neg X
 have kbS:∀b,kb b=0\/(0<kb b/\S (kb b-1)/\kb b-1<ops.size/\Tch d (kb b-1) b):=by
  intro b;rcases P1 (kb b) with h0 | h0
  .exact .inl h0
  .rcases H.agW b with h1 | h1
   .exact .inl h1
   .have K:kb b-1<ops.size:=by have:=H.agV b;omega
    exact .inr ⟨h0,(H.agA b _ K h1).2 (by omega),K,h1⟩
 have adu:∀b,¬Tch d j b->b<(d.M j).length\/¬b<(d.M (j+1)).length:=by
  intro b X;by_cases h1:b<(d.M j).length
  .exact .inl h1
  .refine .inr fun G=>X ⟨D.ahY b (by omega),G⟩
 have adK:∀b,¬Tch d j b->μ2 b=μ b:=by
  intro b X;rcases adu b X with h | h
  .exact F b h
  .exact acx b h
 have acy:∀b,iM (d.Tm j) b->¬Tch d j b->kb b<=j/\b<(d.M j).length/\(d.M' j)[b]? =(d.M (kb b))[b]? /\(d.M (kb b))[b]? =(d.M j)[b]? :=by
  intro b X hnt;obtain⟨m,y⟩:=yF J H hS W hr hj X;obtain⟨s,Q,u⟩:=X;have K:b<(d.M j).length:=by have:=gL Q;rw[D.ahh] at this;exact this
  have hf:d.agh j b=false:=by
   cases Z:d.agh j b with
   |false=>rfl
   |true=>exact absurd ⟨Z,by omega⟩ hnt
  exact⟨m,K,(D.ahX b K hf ⟨s,Q,u⟩).trans y,y.symm⟩
 have adL:∀b s,(d.M (kb2 b))[b]? =some s->s≠ .y9->((d.M' j)[b]? =some s/\μ2 b=μ' b/\b<(d.M (j+1)).length/\(Tch d j b\/iM (d.Tm j) b))\/
   ((d.M (kb b))[b]? =some s/\¬iM (d.Tm j) b/\¬Tch d j b/\μ2 b=μ b):=by
  intro b s Q u;by_cases Z:Tch d j b
  .rw[ace b Z] at Q
   exact .inl ⟨by rw[<-D.ahS b Z.1];exact Q,aby b Z.2,Z.2,.inl Z⟩
  .rw[acf b Z] at Q
   by_cases X:iM (d.Tm j) b
   .obtain⟨m,y,k3,k4⟩:=acy b X Z
    exact .inl ⟨by rw[k3];exact Q,by rw[F b y,hag b y],by omega,.inr X⟩
   .exact .inr ⟨Q,X,Z,adK b Z⟩
 have abm:∀b,eH (d.M (kb2 b)) b->(eH (d.M' j) b/\μ2 b=μ' b/\b<(d.M (j+1)).length/\(Tch d j b\/iM (d.Tm j) b))\/
   (eH (d.M (kb b)) b/\¬iM (d.Tm j) b/\¬Tch d j b/\μ2 b=μ b):=by
  intro b X;obtain⟨s,h,U⟩:=X;rcases adL b _ h (afz.af7 U) with⟨g1,g2⟩ | ⟨g1,g2⟩
  .exact .inl ⟨⟨s,g1,U⟩,g2⟩
  .exact .inr ⟨⟨s,g1,U⟩,g2⟩
 have aat:∀b,eH (d.Tm j) b->eH (d.M (kb b)) b:=by intro b X;obtain⟨m,y⟩:=yF J H hS W hr hj (mi X);refine(mj y).1 ?_;obtain⟨s,h,U⟩:=X;exact⟨s,rL J W h (afz.af7 U),U⟩
 have acz:∀b s,(d.M (kb b))[b]? =some s->s≠ .y9->(μ b).blk<w.heap.size:=fun b s Q u=>(H.slot b s Q).agi u
 refine⟨μ2,kb2,kt2,⟨Y2 H.afF I.size,?_,?_,?_,?_,?_,?_,?_,?_,?_,?_,I.os.trans H.os,I.tape.trans H.tape,Y2 H.drawn I.drawn,I.output.trans H.output,Y2 H.size I.size,?_,?_⟩⟩
 .
  intro b;by_cases Z:Tch d j b
  .rw[ace b Z];omega
  .rw[acf b Z];exact H.agV b
 .
  intro b i hi hti;obtain⟨oi,C⟩:=AB hi;by_cases Z:Tch d j b
  .rw[ace b Z]
   by_cases R:i=j
   .subst R;simp
   .have:=oh J hS W hr hj hi (D.sep i oi b C R hti.2 hti.1 (.inl ⟨Z.2,Z.1⟩))
    constructor
    .rintro (h | h)
     .have:=this.1 h;omega
     .omega
    .intro h;exact .inl (this.2 (by omega))
  .rw[acf b Z]
   have R:i≠j:=fun e=>Z (e▸hti)
   rw[<-H.agA b i hi hti];constructor
   .rintro (h | h)
    .exact h
    .exact absurd h R
   .exact .inl
 .
  intro b;by_cases Z:Tch d j b
  .rw[ace b Z];exact .inr Z
  .rw[acf b Z];exact H.agW b
 .
  intro b s Q;by_cases h0:s=.y9
  .subst h0;trivial
  by_cases Z:Tch d j b
  .rw[ace b Z] at Q |-
   have h1:=hH.slot b s (by rw[<-D.ahS b Z.1];exact Q);rw[aby b Z.2,D.ahR];exact h1.mono (Es _) (fun x Y=>aby x (by rw[D.ahR];exact Y)) fun _=>rfl
  .rw[acf b Z] at Q |-
   have B:=H.slot b s Q;rw[adK b Z];by_cases X:iM (d.Tm j) b
   .obtain⟨m,y,k3,k4⟩:=acy b X Z
    have h1:=hH.slot b s (by rw[k3];exact Q);rw[hag b y] at h1;have hlk:=hlj (kb b) m;have G:=B.lower (fun x Y=>hag x (by omega)) h1;exact G.mono (Es _) (fun x Y=>F x (by omega)) fun _=>rfl
   .have adv:w'.heap[(μ b).blk]? =w.heap[(μ b).blk]? :=by
     refine I.frame _ (B.agi h0) fun b1 hb1=>?_
     refine H.sep b1 b s (aat b1 hb1) Q h0 ?_;rintro rfl;exact X (mi hb1)
    have G:afM μ (d.M (kb b)).length base w' (μ b) s:=B.mono (Es _) (fun _ _=>rfl) fun _=>adv
    rcases kbS b with h3 | ⟨h3,h4,h5,h6⟩
    .refine G.mono (Es _) (fun x Y=>F x ?_) fun _=>rfl
     rw[h3] at Y;omega
    .obtain⟨ok,hok⟩:=AB h5
     have hk1:kb b-1+1=kb b:=by omega
     refine G.change (ok:=d.ok (kb b-1)) (fun x _ Y=>adJ (kb b) h3 h4 h5 x Y) ?_;exact(J _ ok hok).ahZ b s h6.1 (by rw[hk1];exact Q)
 .
  intro b O s' X hb' u hbb;rcases abm b X with⟨g1,g2,_,_⟩ | ⟨g1,g2,g3,g4⟩<;>rcases adL O s' hb' u with⟨m,y,k3,k4⟩ | ⟨m,y,k3,k4⟩
  .rw[g2,y];exact hH.sep b O s' g1 m u hbb
  .rw[g2,k4]
   have K:=acz O s' m u;by_cases hlt2:(μ' b).blk<w.heap.size
   .obtain⟨b0,h0,h1⟩:=I.owner b g1 hlt2
    rw[<-h1];refine H.sep b0 O s' (aat b0 h0) m u ?_;rintro rfl;exact y (mi h0)
   .omega
  .rw[g4,y]
   by_cases K:O <(d.M j).length
   .have P':iM (d.Tm j) O :=by
     rcases k4 with Z | hb1
     .exact D.ahE O Z.1 K
     .exact hb1
    obtain⟨q1,q2⟩:=yF J H hS W hr hj P';obtain⟨s0,hs0,adN⟩:=P';rw[hag O K];exact H.sep b O s0 g1 (by rw[<-q2];exact rL J W hs0 adN) adN hbb
   .have ht' :=D.ahY O (by omega)
    have hM1:(d.M (j+1))[O]? =some s' :=by rw[D.ahS O ht'];exact m
    have aaw:=D.ahF O s' (by omega) hM1 u;have acv :eH (d.M' j) O :=(mj (D.ahS O ht')).1 aaw;have hbl:(μ b).blk<w.heap.size:=by obtain⟨s,h,U⟩:=g1;exact acz b _ h (afz.af7 U)
    by_cases hlt2:(μ' O).blk<w.heap.size
    .obtain⟨b0,h0,h1⟩:=I.owner O acv hlt2
     rw[<-h1];have hob:=aat b0 h0;have aem:b≠b0:=by rintro rfl;exact g2 (mi h0)
     obtain⟨s,h,U⟩:=hob;exact H.sep b b0 _ g1 h (afz.af7 U) aem
    .omega
  .rw[g4,k4];exact H.sep b O s' g1 m u hbb
 .
  intro t;show(if o.dst=some t then j+1 else kt t)<=ops.size
  split
  .omega
  .exact H.ahl t
 .
  intro t i oi C hd;show(S i\/i=j)↔i<(if o.dst=some t then j+1 else kt t)
  have hi:i<ops.size:=(J1.1 C).1;by_cases Z:o.dst=some t
  .rw[if_pos Z]
   by_cases R:i=j
   .subst R;simp
   .have:=oh J hS W hr hj hi (D.aic i oi t C R Z hd)
    constructor
    .rintro (h | h)
     .have:=this.1 h;omega
     .omega
    .intro h;exact .inl (this.2 (by omega))
  .rw[if_neg Z]
   have R:i≠j:=by rintro rfl;rw[W] at C;cases C;exact Z hd
   rw[<-H.agB t i oi C hd];constructor
   .rintro (h | h)
    .exact h
    .exact absurd h R
   .exact .inl
 .
  intro t;show(if o.dst=some t then j+1 else kt t)=0\/∃oi,ops[(if o.dst=some t then j+1 else kt t)-1]? =some oi/\oi.dst=some t
  by_cases Z:o.dst=some t
  .rw[if_pos Z];exact .inr ⟨o,by simpa using W,Z⟩
  .rw[if_neg Z];exact H.agX t
 .
  intro t;show afx μ2 (d.M (if o.dst=some t then j+1 else kt t)).length (aa (d.E (if o.dst=some t then j+1 else kt t)) t) ((a.put o.dst V).tmps.getD t undef)
  by_cases Z:o.dst=some t
  .rw[if_pos Z,D.env,Z]
   have K:t<a.tmps.size:=by have:=D.dst;unfold EF at this;rw[Z] at this;simp only[Cs] at this;rw[hN];exact this
   have e1:aa (agm (d.E j) (some t) (d.v j)) t=d.v j:=by simp[agm,aa]
   have e2:(a.put (some t) V).tmps.getD t undef=V:=by simp[Act.put,K]
   rw[e1,e2,D.ahR];exact hV.mono (Es _) fun x Y=>aby x (by rw[D.ahR];exact Y)
  .rw[if_neg Z]
   have e2:(a.put o.dst V).tmps.getD t undef=a.tmps.getD t undef:=by
    cases hd:o.dst with
    |none=>rfl
    |some x=>
     have u:x≠t:=by rintro rfl;exact Z hd
     simp[Act.put,P3 u]
   rw[e2];have B:=H.tmp t;rcases P1 (kt t) with h0 | h0
   .rw[h0] at B |-
    exact B.mono (Es _) fun x Y=>F x (by omega)
   .rcases H.agX t with h1 | ⟨oi,h1,G⟩
    .omega
    .have hSk:S (kt t-1):=(H.agB t _ oi h1 G).2 (by omega)
     have hks:kt t-1<ops.size:=(J1.1 h1).1;refine B.change (ok:=d.ok (kt t-1)) (fun x _ Y=>adJ (kt t) h0 hSk hks x Y) ?_;have he:=(J _ oi h1).env;have hk1:kt t-1+1=kt t:=by omega
     rw[hk1,G] at he;rw[he];simp only[agm,aa,if_true];exact(J _ oi h1).ahk
 .
  intro b X;rw[F b (by omega)];exact H.agree b X
 .
  intro k hk hf;rw[I.frame k (QQi hk H.size) ?_,H.frame k hk hf];intro b X he;obtain⟨b0,h1,G⟩:=H.owner b (aat b X) (by rw[he];exact hk);exact hf b0 h1 (G.trans he)
 .
  intro b X K;rcases abm b X with⟨g1,g2,_,_⟩ | ⟨g1,g2,g3,g4⟩
  .rw[g2] at K |-
   obtain⟨b0,h0,h1⟩:=I.owner b g1 (QQi K H.size);obtain⟨b1,G,h3⟩:=H.owner b0 (aat b0 h0) (by rw[h1];exact K);exact⟨b1,G,h3.trans h1⟩
  .rw[g4] at K |-
   exact H.owner b g1 K
end
variable{listed:Array Bool}
section
variable {P:Program}{T:TypeId->Option TyI}{tp:Bool}{N m0:Nat}{ops:Array Oper}{d:af4}
def left(ops:Array Oper)(listed:Array Bool):Nat:=((List.range ops.size).filter fun i=> !listed.getD i true).length
def uc(listed:Array Bool)(i:Nat):Prop:=listed.getD i false=true
theorem Az{l:List Nat}{p q:Nat->Bool}(h:∀i∈l,q i=true->p i=true){j:Nat}(H:j∈l)(h1:p j=true)(h2:q j=false):(l.filter q).length<(l.filter p).length:=by
 induction l with
 |nil=>cases H
 |cons x xs ih=>
  have X:∀(l:List Nat),(∀i∈l,q i=true->p i=true)->(l.filter q).length<=(l.filter p).length:=by
   intro l V;induction l with
   |nil=>simp
   |cons y ys ih2=>
    have:=ih2 (fun i Z=>V i (by simp[Z]));have S:=V y (by simp);simp only[List.filter_cons];cases hq:q y<;>cases hp:p y<;>simp_all<;>omega
  have U:=X xs (fun i Z=>h i (by simp[Z]));have R:=h x (by simp);simp only[List.filter_cons];cases H with
  |head=>rw[h1,h2];simp;omega
  |tail _ hm=>
   have:=ih (fun i Z=>h i (by simp[Z])) hm;cases hq:q x<;>cases hp:p x<;>simp_all<;>omega
theorem U8{i:Nat}(H:i<listed.size):uc (listed.setIfInBounds i true)=fun k=>uc listed k\/k=i:=by
 funext k;apply propext;unfold uc;by_cases Z:i=k
 .subst Z;simp[H]
 .rw[getD_set_ne false Z]
  constructor
  .exact .inl
  .rintro (h | h)
   .exact h
   .exact absurd h.symm Z
theorem Q4(H:tF P T N ops d)(I:listed.size=ops.size)(h:Region.ready .any ops listed=[]):∀i,i<ops.size->uc listed i:=by
 intro i;induction i using Nat.strongRecOn with
 |_ i ih=>
  intro U;obtain⟨o,Z⟩:=AB U;cases hl:listed.getD i true with
  |true=>
   unfold uc;simp only[Array.getD_eq_getD_getElem?] at hl |-;rw[Array.getElem?_eq_getElem (by omega)] at hl |-;exact hl
  |false=>
   exfalso;have:i∈Region.ready .any ops listed:=mem_ready.2 ⟨hl,o,Z,fun e X V=>ih e.on ((H i o Z).ahT e X V) (by have:=(H i o Z).ahT e X V;omega)⟩;rw[h] at this;cases this
theorem Wv(J:tF P T N ops d){I:Nat}{μ0 μ:Nat->Place}{w0 w:World}{S:Nat->Prop}{W Y:Nat->Nat}{tmps:Array Value}(hm0:m0<=(d.M 0).length)(H:ahe d ops I μ0 w0 S μ W Y tmps w)(hS:∀i,i<ops.size->S i):
  afJ I μ (d.M ops.size) w/\af2 μ (d.M ops.size).length (d.E ops.size) tmps/\m0<=(d.M ops.size).length/\Step m0 μ0 (d.M 0) w0 μ (d.M ops.size) w:=by
 have X:∀b,(d.M ops.size)[b]? =(d.M (W b))[b]? :=fun b=>FC J b (W b) _ (H.agV b) (Es _) fun i O V h3=>by have:=(H.agA b i V h3).1 (hS i V);omega
 have U:∀k,k<=ops.size->(d.M k).length<=(d.M ops.size).length:=fun k K=>AW J k _ K (Es _)
 have m:=U 0 (Nat.zero_le _);refine⟨⟨H.afF,fun b s G=>?_,fun b F D Z R C Q=>?_⟩,fun t=>?_,by omega,⟨by omega,fun b Z=>H.agree b (by omega),H.os,H.tape,H.output,H.size,H.frame,fun b Z B=>?_,H.drawn⟩⟩
 .exact(H.slot b s (by rw[<-X];exact G)).mono (U _ (H.agV b)) (fun _ _=>rfl) fun _=>rfl
 .exact H.sep b F D ((mj (X b)).1 Z) (by rw[<-X];exact R) C Q
 .have y:=Fj J t (Y t) ops.size (H.ahl t) (Es _) fun i u O V h3 o=>by have:=(H.agB t i u h3 o).1 (hS i V);omega
  rw[y];exact(H.tmp t).mono (U _ (H.ahl t)) fun _ _=>rfl
 .exact H.owner b ((mj (X b)).1 Z) B
theorem CC(hm:P.follows .mixedOrders=true)(hT:dS P T){id:Nat}{st H :St}{Q:Exit->St->Prop}(hA:tF P T N ops d)(hE:d.E 0=st.env)(J:d.M 0=st.mem)(I :H =⟨d.E ops.size,d.M ops.size⟩)(hq:Q .normal H):
  AWP P tp N m0 (.region id ops true) st Q:=by
 intro ro h0 base μ0 w0 a0 hro hH hR hN hdf hm0;refine wpIn_region_any hm ?_;have C:∀(listed:Array Bool) (a:Act) (w:World) μ kb kt,listed.size=ops.size->a.tmps.size=N->a.defers=a0.defers->
   ahe d ops base μ0 w0 (uc listed) μ kb kt a.tmps w->Region.ready .any ops listed=[]->
   ∃H μ',afJ base μ' H.mem w/\af2 μ' H.mem.length H.env a.tmps/\a.tmps.size=N/\MOk P base h0 w a.defers/\m0<=H.mem.length/\Step m0 μ0 st.mem w0 μ' H.mem w/\Q .normal H :=by
  intro listed a w μ kb kt hsz ha hd hI hr;obtain⟨X,h2,h3,h4⟩:=Wv (m0:=m0) hA (by rw[J];exact hm0) hI (Q4 hA hsz hr);rw[J] at h4;exact⟨H,μ,by rw[I];exact X,by rw[I];exact h2,ha,by rw[hd];exact hdf.step hH h4,by rw[I];exact h3,by rw[I];exact h4,hq⟩
 have key:∀(Z:Nat) (listed:Array Bool) (a:Act) (w:World) μ kb kt,listed.size=ops.size->left ops listed<=Z->a.tmps.size=N->a.defers=a0.defers->
   vO ops (uc listed)->ahe d ops base μ0 w0 (uc listed) μ kb kt a.tmps w->
   wpAnyIn (Fr ro) 0 P .any ops (fun e R w' =>∃H μ',afJ base μ' H.mem w' /\af2 μ' H.mem.length H.env R.tmps/\R.tmps.size=N/\MOk P base h0 w' R.defers/\m0<=H.mem.length/\
    Step m0 μ0 st.mem w0 μ' H.mem w' /\Q e H) Z listed a w:=by
  intro Z;induction Z with
  |zero=>
   intro listed a w μ kb kt hsz hl ha hd hC hI;have hr:Region.ready .any ops listed=[]:=by
    apply List.eq_nil_iff_forall_not_mem.2;intro i hi;obtain⟨X,o,U,_⟩:=mem_ready.1 hi;have B:i<ops.size:=(J1.1 U).1;have:i∈(List.range ops.size).filter fun i=> !listed.getD i true:=by rw[List.mem_filter];exact⟨by simpa using B,by rw[X];rfl⟩
    have h0:((List.range ops.size).filter fun i=> !listed.getD i true)=[]:=GT (Nat.le_zero.1 hl);rw[h0] at this;cases this
   exact⟨hr,C listed a w μ kb kt hsz ha hd hI hr⟩
  |succ Z ih=>
   intro listed a w μ kb kt hsz hl ha hd hC hI;refine⟨C listed a w μ kb kt hsz ha hd hI,fun i hi=>?_⟩;obtain⟨X,o,U,S⟩:=mem_ready.1 hi;have B:i<ops.size:=(J1.1 U).1;have O:¬uc listed i:=by unfold uc;simp only[Array.getD_eq_getD_getElem?] at X |-;rw[Array.getElem?_eq_getElem (by omega)] at X |-;simp only[Option.getD_some] at X |-;rw[X];simp
   have y:=U8 (listed:=listed) (i:=i) (by omega);have hC' :vO ops (uc (listed.setIfInBounds i true)):=by
    rw[y];intro j oj K G e he hb;rcases G with G | rfl
    .exact .inl (hC j oj K G e he hb)
    .rw[U] at K;cases K;exact .inl (S e he hb)
   have adw:left ops (listed.setIfInBounds i true)<=Z:=by
    have:left ops (listed.setIfInBounds i true)<left ops listed:=by
     unfold left;refine Az (fun k _ hk=>?_) (j:=i) (by simpa using B) (by rw[X];rfl) (by simp[hsz,B]);by_cases u:i=k
     .subst u;simp[hsz,B] at hk
     .rw[getD_set_ne true u] at hk;exact hk
    omega
   have D:=hA i o U;have m:=U6 hA hI hC U S O;have hGw:GOk P base w:=by
    refine⟨hdf.agH.below,?_⟩;have:=hdf.agH.tab;unfold Lib.TabIs at this |-;rw[<-this];refine Pf fun k hk=>hI.frame k ?_ fun b hb=>?_
    .have:=hdf.agH.below;have:=hH.afF;omega
    .rw[J] at hb
     have:=O2 hH hb;have:=hdf.agH.below;omega
   have Y:=U7 hA hI hC U S O;have next:∀V w' μ',afx μ' (d.M' i).length (d.v i) V->afJ base μ' (d.M' i) w' ->Step (d.Tm i).length μ (d.Tm i) w μ' (d.M' i) w' ->
     wpAnyIn (Fr ro) 0 P .any ops (fun e R w' =>∃H μ',afJ base μ' H.mem w' /\af2 μ' H.mem.length H.env R.tmps/\R.tmps.size=N/\MOk P base h0 w' R.defers/\m0<=H.mem.length/\
      Step m0 μ0 st.mem w0 μ' H.mem w' /\Q e H) Z (listed.setIfInBounds i true) (a.put o.dst V) w' :=by
    intro V w' μ' q1 q2 q3;obtain⟨μ2,kb2,kt2,W⟩:=WE hA hI hC U S O ha q1 q2 q3;rw[<-y] at W;exact ih _ _ _ μ2 kb2 kt2 (by simp[hsz]) adw (by rw[fF];exact ha) (by rw[fW];exact hd) hC' W
   unfold wpOpIn;simp only[U];rw[qs Y D.wanted];cases hw:d.wb i with
   |false=>
    obtain⟨e1,e2⟩:=D.skip hw;simp only[Bool.false_eq_true,if_false];exact⟨fun _ _=>trivial,next undef w μ (by rw[e1];simp[afx,afy,undef]) (by rw[e2];exact m) (by rw[e2];exact .refl (Es _))⟩
   |true=>
    simp only[if_true];exact su hT hGw m Y ha D.dst (D.step hw) fun V w' μ' q1 q2 q3 q4=>next V w' μ' q1 q2 q4
 have hI0:ahe d ops base μ0 w0 (uc (Array.replicate ops.size false)) μ0 (fun _=>0) (fun _=>0) a0.tmps { w0 with drawn:=w0.drawn+1 }:=by
  have hno:∀i,¬uc (Array.replicate ops.size false) i:=by intro i;unfold uc;simp only[Array.getD_eq_getD_getElem?,Array.getElem?_replicate];split<;>simp
  have F :afJ base μ0 (d.M 0) { w0 with drawn:=w0.drawn+1 }:=by rw[J];exact hH.agL rfl
  refine⟨F.afF,fun _=>Nat.zero_le _,fun b i _ _=>⟨fun h=>absurd h (hno i),fun h=>by omega⟩,fun _=>.inl rfl,fun b s hs=>F.slot b s hs,
   fun b b' s' =>F.sep b b' s',fun _=>Nat.zero_le _,fun t i oi _ _=>⟨fun h=>absurd h (hno i),fun h=>by omega⟩,fun _=>.inl rfl,fun t=>?_,fun _ _=>rfl,
   rfl,rfl,Nat.le_succ _,rfl,Es _,fun _ _ _=>rfl,fun b hb _=>⟨b,hb,rfl⟩⟩
  rw[J,hE];exact hR t
 refine key ops.size _ a0 _ μ0 _ _ (by simp) ?_ hN rfl ?_ hI0
 .unfold left
  exact Y2 (List.length_filter_le _ _) (by simp)
 .intro j o _ hS
  exfalso;unfold uc at hS;simp only[Array.getD_eq_getD_getElem?,Array.getElem?_replicate] at hS;split at hS<;>simp at hS
end
end Go.Eng
namespace Go.Eng
def sc:Exit->Option (Option Code)
 |.normal=>some none
 |.ret=>some (some .ret)
 |.exit id=>some (some (.exit id))
 |_=>none
def zn:Option Code->Option Exit
 |none=>some .normal
 |some .ret=>some .ret
 |some (.exit id)=>some (.exit id)
 |_=>none
def nC(j:Option Code):LoopState:=if j.isNone then .ready else .done
def zh:List Tmp->List AV->Env->Env
 |t::ts,v::vs,env=>zh ts vs ((t,v)::env)
 |_,_,env=>env
variable{L:Loop}{m0:Nat}{r:agz}
section
variable {P:Program}{T:TypeId->Option TyI}{μ:Nat->Place}{mem:Mem}{base:Nat}{w:World}
theorem afJ.alloc(H:afJ base μ mem w)(o:Obj):afJ base μ mem (w.alloc o):=by refine⟨by simp;have:=H.afF;omega,fun b s Z=>?_,H.sep⟩;exact(H.slot b s Z).mono (Es _) (fun _ _=>rfl) fun X=>ij w o ((H.slot b s Z).agi X)
theorem Step.alloc(h:m0<=mem.length)(o:Obj):Step m0 μ mem w μ mem (w.alloc o):=
 ⟨h,fun _ _=>rfl,rfl,rfl,rfl,by simp,fun k Z _=>ij w o Z,fun b X _=>⟨b,X,rfl⟩,Es _⟩
theorem G4{n:Nat}:∀{ts:List Tmp} {vs:List AV} {Vs:List Value} {env:Env} {tmps:Array Value},afy μ n vs Vs->af2 μ n env tmps->vs.length=ts.length->(∀t∈ts,t<tmps.size)->
  af2 μ n (zh ts vs env) ((ts.zip Vs).foldl (fun tmps (t,a)=>tmps.setIfInBounds t a) tmps)/\((ts.zip Vs).foldl (fun tmps (t,a)=>tmps.setIfInBounds t a) tmps).size=tmps.size
 | [],[],Vs,env,tmps,hv,ht,_,_=>by exact⟨ht,rfl⟩
 |t::ts,v::vs,Vs,env,tmps,hv,ht,hl,hb=>by simp only[afy] at hv;obtain⟨U,S,rfl,Z,X⟩:=hv;simp only[zh,List.zip_cons_cons,List.foldl_cons];have:=af2.put (a:={ tmps:=tmps,defers:=[] }) ht (hb t (by simp)) Z;simp only[Act.put] at this;have r:=G4 (env:=(t,v)::env) (tmps:=tmps.setIfInBounds t U) X this (by simpa using hl) (fun x V=>by simpa using hb x (by simp[V]));exact⟨r.1,r.2.trans (by simp)⟩
 | [],_::_,_,_,_,_,_,hl,_=>by simp at hl
 |_::_,[],_,_,_,_,_,hl,_=>by simp at hl
theorem iS{l:Nat}(h:w.heap[l]? =some (.loop L)):(Instr.getLoop l).run P w=.ok L w:=by
 have Z:(getObj l).run P w=.ok (.loop L) w:=by simp[getObj,Sem.run,h]
 simp only[Instr.getLoop,Sem.run_bind,Z,Result.andThen_ok];rfl
theorem xc{base:Nat}{b:Nat}{r' :agz}{L' :Loop}(H:afJ base μ mem w)(hb:mem[b]? =some (.loop r))(I:w.heap[(μ b).blk]? =some (.loop L))(hr:agT μ mem.length r' L'):
  (setObj (μ b).blk (.loop L')).run P w=.ok () { w with heap:=w.heap.setIfInBounds (μ b).blk (.loop L') }/\
  afJ base μ (mem.set b (.loop r')) { w with heap:=w.heap.setIfInBounds (μ b).blk (.loop L') }/\
  Step mem.length μ mem w μ (mem.set b (.loop r')) { w with heap:=w.heap.setIfInBounds (μ b).blk (.loop L') }:=by
 have X:=(J1.1 I).1;have Z:=gL hb;refine⟨tE I (by intro c e f h;cases h),H.write hb (Rv hb) (fun _=>⟨_,QQQ Z,rfl⟩) rfl rfl rfl rfl (by simp) (fun k V=>P3 (Ne.symm V)) ?_⟩;simp only[afM];have:=H.slot b _ hb;simp only[afM] at this;obtain⟨_,_,U,_⟩:=this;exact⟨L',by simp[X],U,hr⟩
theorem agj.intro{b:Nat}{args:List AV}{R:AV->Mem->Prop}(hb:mem[b]? =some (.loop r))(I:r.st=.ready)(hl:args.length=r.ps.toList.length)(H:∀t∈r.ps.toList,t<r.N)(h:AWP P false r.N mem.length r.assign ⟨zh r.ps.toList args r.env,mem⟩ fun e Z=>e=.normal/\∃r1,Z.mem[b]? =some (.loop r1)/\r1.st=.ready/\
   AWP P false r.N mem.length r.body ⟨Z.env,Z.mem.set b (.loop { r1 with st:=.busy })⟩ fun e X=>∃r2 j M,sc e=some j/\X.mem[b]? =some (.loop r2)/\EI mem.length X.mem.length M=true/\
    R (.bool j.isNone) (afH mem.length M (X.mem.set b (.loop { r2 with st:=nC j,agx:=j })))):
  agj P b args mem R:=by
 intro base μ w Vs hG hH hV hbl;have U:=hH.slot b _ hb;simp only[afM] at U;obtain⟨L,m,h2,h3⟩:=U;have Y:Vs.length=L.params.size:=by rw[hV.length,hl,h3.ps];simp
 refine⟨L.fn,(L.params.zip ⟨Vs⟩).foldl (fun tmps (t,a)=>tmps.setIfInBounds t a) L.tmps,L.assign,L.body,?_,?_⟩
 .simp only[Instr.yield,Sem.run_bind,iS m,Result.andThen_ok]
  rw[if_neg (by simp[Y])];rfl
 .refine roundIn_of_wpIn (F:=Fence.wide) trivial ?_
  have S:(L.params.zip ⟨Vs⟩).foldl (fun tmps (t,a)=>tmps.setIfInBounds t a) L.tmps=(r.ps.toList.zip Vs).foldl (fun tmps (t,a)=>tmps.setIfInBounds t a) L.tmps:=by rw[h3.ps,<-Array.foldl_toList];simp
  have C:=G4 (ts:=r.ps.toList) hV h3.tmps hl (fun t W=>by rw[h3.size];exact H t W);rw[h3.assign,h3.body];refine wpIn_mono (F:=Fr (some (μ b).blk)) (h (some (μ b).blk) w.heap.size base μ w ⟨_,[]⟩ (fun h=>by cases h) hH (by rw[S];exact C.1) (by rw[S,C.2];exact h3.size) (MOk.nil w hG hH.afF (Es _)) (Es _)) ?_;rintro e a1 w1 ⟨Z,μ1,c1,c2,c3,c4,c5,c6,rfl,r1,c7,c8,hbody⟩;have Q:=c1.slot b _ c7;simp only[afM] at Q;obtain⟨L1,d1,d2,d3⟩:=Q;have hμ:μ1 b=μ b:=c6.agree b hbl;rw[hμ] at d1;obtain⟨B,y,K⟩:=xc (P:=P) (r' :={ r1 with st:=.busy }) (L' :={ L1 with state:=.busy }) c1 c7 (by rw[hμ];exact d1) { d3 with st:=rfl };rw[hμ] at B y K;refine⟨_,?_,wpIn_mono (F:=Fr (some (μ b).blk)) (hbody (some (μ b).blk) w.heap.size base μ1 _ a1 (fun h=>by cases h) y (by rw[QQZ];exact c2) c3 (c4.step c1 K) (by rw[QQZ];exact c5)) ?_⟩
  .simp only[Instr.beginRound,Sem.run_bind,iS d1,Result.andThen_ok,B]
   rw[d3.st,c8];rfl
  .rintro e a2 w2 ⟨X,μ2,f1,f2,f3,f4,f5,f6,r2,j,M,f7,f8,f9,f10⟩
   have O:=f1.slot b _ f8;simp only[afM] at O;obtain⟨L2,g1,g2,g3⟩:=O;have hμ2:μ2 b=μ b:=by rw[f6.agree b hbl,hμ]
   rw[hμ2] at g1;obtain⟨G,u,o⟩:=xc (P:=P) (r' :={ r2 with st:=nC j,agx:=j }) (L' :={ L2 with state:=nC j,pending:=j }) f1 f8 (by rw[hμ2];exact g1) { g3 with st:=rfl,agx:=rfl };rw[hμ2] at G u o;have J:(Instr.endRound (μ b).blk j).run P w2=.ok (.bool j.isNone) { w2 with heap:=w2.heap.setIfInBounds (μ b).blk (.loop { L2 with state:=nC j,pending:=j }) }:=by unfold nC at G |-;simp only[Instr.endRound,Sem.run_bind,iS g1,Result.andThen_ok,G];rfl
   obtain⟨p1,p2,p3⟩:=u.afH (by rw[QQZ];exact f5) (by rw[QQZ];exact f9);have hS:Step mem.length μ mem w _ _ _:=((c6.trans (K.mono c5)).trans f6).trans ((o.mono f5).trans p3);have D:∃V v mem' μ',(Ending.returned (.bool j.isNone):Ending)=.returned V/\afx μ' mem'.length v V/\afJ base μ' mem' { w2 with heap:=w2.heap.setIfInBounds (μ b).blk (.loop { L2 with state:=nC j,pending:=j }) }/\
     Step mem.length μ mem w μ' mem' { w2 with heap:=w2.heap.setIfInBounds (μ b).blk (.loop { L2 with state:=nC j,pending:=j }) }/\R v mem' :=
    ⟨_,.bool j.isNone,_,_,rfl,by simp[afx],p1,hS,f10⟩
   cases e<;>simp only[sc,Mp,reduceCtorEq] at f7<;>subst f7<;>exact⟨_,_,J,D⟩
theorem GY{N:Nat}{g:Operand}{ps:Array Tmp}{assign body:Code}{st:St}{Q:Exit->St->Prop}{f:FuncId}{caps:List AV}(hg:get st.env g=.func f caps)(h:af8 P f (.yield st.mem.length::caps) (st.mem++[.loop ⟨.ready,none,st.env,N,ps,assign,body⟩]) fun _ Z=>∃r2 e,Z[st.mem.length]? =some (.loop r2)/\r2.st≠ .busy/\zn r2.agx=some e/\
   Q e ⟨st.env,Z.set st.mem.length (.loop { r2 with st:=.exhausted })⟩):
  AWP P true N m0 (.rangeFunc g ps assign body) st Q:=by
 intro ro h0 base μ w a hro hH hR hN hdf D;cases hro rfl;have S:=bY hR g;rw[hg] at S;simp only[afx] at S;obtain⟨C,hU,B⟩:=S;refine wpIn_rangeFunc fun fn _=>?_
 let o1:Obj:=.deferred (some [])
 let w1:=w.alloc o1
 let L:Loop:={ state:=.ready,pending:=none,fn,tmps:=a.tmps,params:=ps,assign,body,defers:=w.heap.size }
 have R:afJ base μ st.mem w1:=hH.alloc o1;have y:Step st.mem.length μ st.mem w μ st.mem w1:=.alloc (Es _) o1;have hsz:w1.heap.size=w.heap.size+1:=by simp[w1]
 obtain⟨O,u⟩:=R.push (.loop L) (.loop ⟨.ready,none,st.env,N,ps,assign,body⟩) ⟨w1.heap.size,0,0,0⟩ rfl (by simp only[afM];exact⟨L,heap_alloc_new w1 _,R.afF,rfl,rfl,rfl,rfl,rfl,hN,hR.mono (Nat.le_succ _) fun b hb=>xz hb⟩)
 have M:=y.trans u;have hμb:(upd μ st.mem.length ⟨w1.heap.size,0,0,0⟩ st.mem.length).blk=w1.heap.size:=by rw[fq]
 have I:MOk P base h0 (w1.alloc (.loop L)) ({ target:=.collected w.heap.size,args:= #[] }::a.defers):=by
  have U:=(hdf.step hH M);refine⟨U.agH,U.afF,U.le,fun d K=>?_,?_⟩
  .rcases List.mem_cons.1 K with rfl | K
   .refine⟨w.heap.size,rfl,hdf.le,?_⟩
    rw[ij w1 _ (by omega)];exact heap_alloc_new w o1
   .exact U.each d K
  .simp only[List.map_cons,List.nodup_cons]
   refine⟨?_,hdf.nodup⟩;intro D;obtain⟨d,K,H⟩:=QQd.1 D;obtain⟨r,e,_,h2⟩:=hdf.each d K;rw[e] at H;simp only[Target.collected.injEq] at H;have:=(J1.1 h2).1;omega
 have o:=h.2 base _ (w1.alloc (.loop L)) (.func (.yield w1.heap.size) #[] #[]::C) I.agH O
  (bW.2 ⟨by simp only[afx,hμb];exact⟨by simp,trivial⟩,B.mono (by simp) fun b hb=>xz hb⟩)
 refine⟨w1.heap.size,[{ target:=.collected w.heap.size,args:= #[] }],w1.alloc (.loop L),{ target:=.fn (.func f) ⟨C⟩,args:= #[]++ #[.func (.yield w1.heap.size) #[] #[]] },w1.alloc (.loop L),f,⟨.func (.yield w1.heap.size) #[] #[]::C⟩,w1.alloc (.loop L),?_,?_,fun _ _=>trivial,?_,fun h=>by simp[Fence.wide] at h,?_⟩
 .simp only[Instr.enterLoop,Sem.run_bind,run_newObj,Result.andThen_ok,Sem.run_pure]
  rfl
 .have hc:(#[Operand.const (.func (.yield w1.heap.size) #[] #[])]:Array Operand).map a.eval= #[.func (.yield w1.heap.size) #[] #[]]:=by simp[Act.eval]
  simp only[resolve,hU,Deferred.ofValue,hc];rfl
 .simp only[invoke]
  rw[zi h.1];congr 2;apply Array.ext';simp
 .refine AL.2 (o.mono ?_)
  rintro e w3 ⟨V,v,Z,μ2,rfl,q1,q2,q3,r2,e2,q4,q5,q6,q7⟩;have m:st.mem.length<(st.mem++[afz.loop ⟨.ready,none,st.env,N,ps,assign,body⟩]).length:=by simp
  have hμ2:(μ2 st.mem.length).blk=w1.heap.size:=by rw[q3.agree _ m,hμb]
  have G:=q2.slot _ _ q4;simp only[afM] at G;obtain⟨L2,g1,g2,g3⟩:=G;obtain⟨k1,k2,j⟩:=xc (P:=P) (r' :={ r2 with st:=.exhausted }) (L' :={ L2 with state:=.exhausted }) q2 q4 g1 { g3 with st:=rfl };rw[hμ2] at k1 k2 j g1;have F:st.mem.length<=Z.length:=Y2 (by simp) q3.len;have Y:=M.trans (q3.mono (m0:=st.mem.length) (by simp));have W:=Y.trans (j.mono F);have X:∃UV μ',afJ base μ' UV.mem { w3 with heap:=w3.heap.setIfInBounds w1.heap.size (.loop { L2 with state:=.exhausted }) }/\af2 μ' UV.mem.length UV.env a.tmps/\a.tmps.size=N/\
    MOk P base h0 { w3 with heap:=w3.heap.setIfInBounds w1.heap.size (.loop { L2 with state:=.exhausted }) } ({ target:=.collected w.heap.size,args:= #[] }::a.defers)/\m0<=UV.mem.length/\
    Step m0 μ st.mem w μ' UV.mem { w3 with heap:=w3.heap.setIfInBounds w1.heap.size (.loop { L2 with state:=.exhausted }) }/\Q e2 UV :=by
   refine⟨_,μ2,k2,?_,hN,(I.step O q3).step q2 j,?_,W.mono D,q7⟩
   .show af2 μ2 (Z.set st.mem.length _).length st.env a.tmps
    rw[QQZ];exact hR.mono F fun b hb=>by rw[q3.agree b (by simp;omega),xz hb]
   .show m0<=(Z.set st.mem.length _).length
    rw[QQZ];omega
  refine⟨r2.agx,{ w3 with heap:=w3.heap.setIfInBounds w1.heap.size (.loop { L2 with state:=.exhausted }) },?_,?_⟩
  .simp only[Instr.endLoop,Sem.run_bind,iS g1,Result.andThen_ok]
   rw[g3.st];have hb:(r2.st==LoopState.busy)=false:=by cases hx:r2.st<;>first | rfl | exact absurd hx q5
   rw[hb];have J:L2.pending=r2.agx:=g3.agx;simp only[Bool.false_eq_true,if_false,Sem.run_bind,Sem.run_pure,k1,Result.andThen_ok];rw[J]
  .cases hp:r2.agx with
   |none=>
    rw[hp] at q6;simp only[zn,Mp] at q6;subst q6;exact X
   |some c=>
    rw[hp] at q6;cases c<;>simp only[zn,Mp,reduceCtorEq] at q6
    .subst q6;exact wpIn_exit X
    .subst q6;exact wpIn_ret X
end
end Go.Eng
namespace Go.Eng
structure afw where
 v:AV
 pre:Option Mem
 new:Mem
def afw.mem(r:afw)(mem:Mem):Mem:=(r.pre.getD mem)++r.new
inductive Callee where
 |fn (f:FuncId)
 |yld (b:Nat)
abbrev afu:=Callee->List AV->Mem->Option afw
def kH(env:Env):Op->Option (Callee×List AV)
 |.call { callee:=.value x,args,argTypes:=_ }=>match get env x with
  |.func f Z=>some (.fn f,Yx env args++Z)
  |.yield b=>some (.yld b,Yx env args)
  |_=>none
 |_=>none
structure XS where
 env:Env
 mem:Mem
 afS:Bool
def Vi:AV->List Nat
 |.ptr b _=>[b]
 |_=>[]
def ay:AV->List Nat
 |.slice b _ _ _=>[b]
 |_=>[]
def Oq:AV->List Nat
 |.map b=>[b]
 |_=>[]
def xD(env:Env):Op->List Nat
 |.store _ a _=>Vi (get env a)
 |.call { callee:=.builtin .append,args:=⟨[s,_]⟩,argTypes:=_ }=>ay (get env s)
 |.call { callee:=.builtin .unsafeString,args:=⟨[x,_]⟩,argTypes:=_ }=>Vi (get env x)
 |.call { callee:=.builtin .clear,args:=⟨[x]⟩,argTypes:=_ }=>ay (get env x)
 |.mapUpdate _ m _ _=>Oq (get env m)
 |.mapEntry _ m _=>Oq (get env m)
 |.entryStore _ m _ _=>Oq (get env m)
 |_=>[]
def WS(T:TypeId->Option TyI)(O:afu)(m0:Nat)(env:Env)(mem:Mem)(H:Bool)(o:Oper):Option (AV×Mem×Bool):=
 match aOp T env mem o.op with
 |some (v,m)=>some (v,m,H||(xD env o.op).any fun b=>decide (b<m0))
 |none=>match kH env o.op with
  |some (c,args)=>match O c args mem with
   |some r=>some (r.v,r.mem mem,H||r.pre.isSome)
   |none=>none
  |none=>none
def cr(T:TypeId->Option TyI)(O:afu)(N m0:Nat)(ops:Array Oper):List Oper->XS->Option XS
 | [],s=>some s
 |o::os,s=>
  if EF N o then
   match sL ops s.env o with
   |some true=>match WS T O m0 s.env s.mem s.afS o with
    |some (v,m,dt)=>cr T O N m0 ops os ⟨agm s.env o.dst v,m,dt⟩
    |none=>none
   |some false=>cr T O N m0 ops os ⟨agm s.env o.dst (.tuple []),s.mem,s.afS⟩
   |none=>none
  else none
def eW(ops:List Oper):List Nat:=
 ops.foldl (fun acc o=>acc++[o.after.toList.foldl (fun s e=>if Region.binds .any e then s ||| 2 ^ e.on ||| acc.getD e.on 0 else s) 0]) []
def bef(H:List Nat)(i j:Nat):Bool:=(H.getD j 0).testBit i
def oo(ops:Array Oper)(H:List Nat):Bool:=
 let n:=ops.size
 (List.range n).all fun j=>match ops[j]? with
  |none=>true
  |some o=>
   o.after.toList.all (fun e=> !Region.binds .any e||decide (e.on<j))&&
   (List.range n).all fun i=>(!bef H i j||o.after.toList.any fun e=>Region.binds .any e&&(e.on==i||bef H i e.on))&&(i==j||bef H i j||bef H j i||match ops[i]? with
    |none=>true
    |some oi=>match oi.dst with
     |none=>true
     |some t=> !(o.looksAt ops).contains t&& !(o.dst==some t))
def N8(env:Env):Op->Option (List Nat)
 |.load _ a=>match get env a with
  |.ptr b _=>some [b]
  |_=>some []
 |.store _ a _=>match get env a with
  |.ptr b _=>some [b]
  |_=>some []
 |.slice _ x _ _ _=>match get env x with
  |.slice b _ _ _=>some [b]
  |_=>some []
 |.lookup _ m _ _=>match get env m with
  |.map b=>some [b]
  |_=>some []
 |.mapUpdate _ m _ _=>match get env m with
  |.map b=>some [b]
  |_=>some []
 |.mapEntry _ m _=>match get env m with
  |.map b=>some [b]
  |_=>some []
 |.entryStore _ m _ _=>match get env m with
  |.map b=>some [b]
  |_=>some []
 |.call { callee:=.builtin .len,args:=⟨[x]⟩,argTypes:=_ }=>match get env x with
  |.map b=>some [b]
  |_=>some []
 |.call { callee:=.builtin .append,args:=⟨[s,x]⟩,argTypes:=_ }=>
  some ((match get env s with | .slice b _ _ _=>[b] | _=>[])++(match get env x with | .slice b _ _ _=>[b] | _=>[]))
 |.call { callee:=.builtin .unsafeSliceData,args:=⟨[x]⟩,argTypes:=_ }=>match get env x with
  |.slice b _ _ _=>some [b]
  |_=>some []
 |.call { callee:=.builtin .clear,args:=⟨[x]⟩,argTypes:=_ }=>match get env x with
  |.slice b _ _ _=>some [b]
  |_=>some []
 |.call { callee:=.builtin .unsafeString,args:=⟨[x,_]⟩,argTypes:=_ }=>match get env x with
  |.ptr b _=>some [b]
  |_=>some []
 |.call { callee:=.builtin _,args:=_,argTypes:=_ }=>some []
 |.call _=>none
 |_=>some []
structure Rec where
 env:Env
 en:Env
 mem:Mem
 tm:Mem
 v:AV
 m' :Mem
 nx:Mem
 wb:Bool
 wr:List Nat
def bB(H:Nat->Bool):Nat->Mem->Mem
 |_,[]=>[]
 |i,s::r=>(if H i then s else .y9)::bB H (i+1) r
def bb(wr:List Nat):Nat->Mem->Mem->Mem
 |_,[],m' =>m'
 |_,_::_,[]=>[]
 |i,s::r,s' ::r' =>(if wr.contains i then s' else s)::bb wr (i+1) r r'
def dj(mem:Mem)(b:Nat):Bool:=match mem[b]? with
 |some .y9=>false
 |some _=>true
 |none=>false
def eF:Nat->Mem->List Nat
 |_,[]=>[]
 |i,.y9::r=>eF (i+1) r
 |i,_::r=>i::eF (i+1) r
def xx(H:List Nat)(j:Nat):Nat->List Rec->List Rec
 |_,[]=>[]
 |i,r::rs=>if bef H i j then xx H j (i-1) rs else r::xx H j (i-1) rs
def XY(H:List Nat)(j:Nat)(acc:List Rec):Option (List Nat)->Nat->Bool
 |some l=>fun b=>l.contains b
 |none=>let un:=xx H j (j-1) acc;fun b=> !un.any fun f=>decide (f.mem.length<=b/\b<f.nx.length)
def WR(H:Mem):Option Mem->List Nat
 |some _=>eF 0 H
 |none=>[]
def Hq(T:TypeId->Option TyI)(O:afu)(N:Nat)(ops:Array Oper)(H:List Nat)(j:Nat)(o:Oper)(env:Env)(mem:Mem)(acc:List Rec):Option Rec:=
 if EF N o then
  let en:=(o.looksAt ops).map fun t=>(t,aa env t)
  match sL ops en o with
  |none=>none
  |some false=>some ⟨env,en,mem,bB (fun _=>false) 0 mem,.tuple [],bB (fun _=>false) 0 mem,mem,false,[]⟩
  |some true=>
   let tm:=bB (XY H j acc (N8 en o.op)) 0 mem
   match aOp T en tm o.op with
   |some (v,m)=>let wr:=xD en o.op;some ⟨env,en,mem,tm,v,m,bb wr 0 mem m,true,wr⟩
   |none=>match kH en o.op with
    |none=>none
    |some (c,args)=>match O c args tm with
     |none=>none
     |some r=>let wr:=WR tm r.pre
      some ⟨env,en,mem,tm,r.v,r.mem tm,bb wr 0 mem (r.mem tm),true,wr⟩
 else none
def mx(T:TypeId->Option TyI)(O:afu)(N:Nat)(ops:Array Oper)(H:List Nat):Nat->List Oper->Env->Mem->List Rec->Option (List Rec×Env×Mem)
 |_,[],env,mem,acc=>some (acc.reverse,env,mem)
 |j,o::os,env,mem,acc=>match Hq T O N ops H j o env mem acc with
  |none=>none
  |some r=>mx T O N ops H (j+1) os (agm env o.dst r.v) r.nx (r::acc)
def iu(top:Nat)(un:List (Nat×Rec))(b:Nat):Bool:=
 decide (b<top)&&un.all fun f=> !decide (f.2.mem.length<=b/\b<f.2.nx.length)
def aP:Nat->List Rec->List (Nat×Rec)
 |_,[]=>[]
 |i,r::rs=>(i,r)::aP (i+1) rs
def gO(H:List Nat)(R:List (Nat×Rec))(j:Nat)(r:Rec):Bool:=
 let un:=R.filter fun f=>decide (f.1<j)&& !bef H f.1 j
 r.wr.all (fun b=>dj r.tm b)&&
 r.v.aft (iu r.nx.length un)&&
 r.wr.all (fun b=>match r.nx[b]? with | some s=>s.aft (iu r.nx.length un) | none=>true)&&
 (r.nx.drop r.mem.length).all (fun s=>(s.own||match s with | .y9=>true | _=>false)&&s.aft (iu r.nx.length un))&&
 un.all fun f=>f.2.wr.all (fun b=> !dj r.tm b)&&r.wr.all (fun b=> !dj f.2.tm b)&&
  ((r.tm.drop f.2.mem.length).take (f.2.nx.length-f.2.mem.length)).all fun s=>match s with | .y9=>true | _=>false
def aN(T:TypeId->Option TyI)(O:afu)(N m0:Nat)(ops:Array Oper)(s:XS):Option XS:=
 let bs:=eW ops.toList
 match mx T O N ops bs 0 ops.toList s.env s.mem [] with
 |none=>none
 |some (R,env,mem)=>
  let nR:=aP 0 R
  if nR.all fun f=>gO bs nR f.1 f.2 then some ⟨env,mem,s.afS||R.any fun r=>r.wr.any fun b=>decide (b<m0)⟩ else none
def dm:Code->Bool
 |.region _ ops true=>oo ops (eW ops.toList)
 |.seq a b=>dm a&&dm b
 |.cond _ a b=>dm a&&dm b
 |.block _ b=>dm b
 |.loop b=>dm b
 |.scope b=>dm b
 |.rangeFunc _ _ a b=>dm a&&dm b
 |_=>true
def ae:Code->List Nat
 |.region _ ops _=>ops.toList.filterMap (·.dst)
 |.seq a b=>ae a++ae b
 |.cond _ a b=>ae a++ae b
 |.block _ b=>ae b
 |.loop b=>ae b
 |.scope b=>ae b
 |_=>[]
def au(lv wr:List Nat)(H env:Env):Env:=lv.map (fun t=>(t,aa env t))++((wr.filter fun t=> !lv.contains t).map fun t=>(t,AV.undef))++H
mutual
def AV.refs(m0:Nat):AV->List Nat
 |.ptr b _=>if b<m0 then [] else [b]
 |.slice b _ _ _=>if b<m0 then [] else [b]
 |.map b=>if b<m0 then [] else [b]
 |.yield b=>if b<m0 then [] else [b]
 |.func _ Z=>AV.afN m0 Z
 |.iface _ v=>v.refs m0
 |.agg Z=>AV.afN m0 Z
 |.tuple Z=>AV.afN m0 Z
 |_=>[]
def AV.afN(m0:Nat):List AV->List Nat
 | []=>[]
 |v::vs=>v.refs m0++AV.afN m0 vs
end
def afz.refs(m0:Nat):afz->List Nat
 |.y9=>[]
 |.cells _ _ cs=>AV.afN m0 cs
 |.map es=>es.flatMap fun e=>e.1.refs m0++e.2.refs m0
 |.af6 es=>es.flatMap fun e=>e.1.refs m0++e.2.refs m0
 |.loop r=>r.env.flatMap fun e=>e.2.refs m0
def qM(m0:Nat)(mem:Mem):Nat->List Nat->List Nat->List Nat
 |0,_,seen=>seen
 |_,[],seen=>seen
 |k+1,b::todo,seen=>if seen.contains b then qM m0 mem k todo seen else qM m0 mem k (todo++(mem.getD b .y9).refs m0) (seen++[b])
def T9:List Nat->Bool
 |a::b::_=>a==b
 |_=>false
def xv:List Nat->Bool
 |a::b::c::_=>a==b&&b==c
 |_=>false
def LN(lv wr:List Nat)(I:Env)(H:Nat)(s:XS):XS:=
 let ks:=qM H s.mem 1000 ((lv.flatMap fun t=>(aa s.env t).refs H)++(s.mem.take H).flatMap (afz.refs H)) []
 if EI H s.mem.length ks then
  ⟨(lv.filter fun t=>wr.contains t).map (fun t=>(t,(aa s.env t).ren (rho H ks)))++((wr.filter fun t=> !lv.contains t).map fun t=>(t,AV.undef))++I,(s.mem.take H).map (afz.ren (rho H ks))++agp H ks s.mem,true⟩
 else⟨au lv wr I s.env,s.mem,s.afS⟩
def nH(lv wr:List Nat)(I:Env)(H:Nat)(s:XS):XS:=
 if xv lv=true\/s.mem.length<=H then⟨au lv wr I s.env,s.mem,s.afS⟩ else
  let ks:=qM H s.mem 1000 (lv.flatMap fun t=>(aa s.env t).refs H) []
  if EI H s.mem.length ks&&(s.mem.take H).all fun s=>(s.refs H).isEmpty then
   ⟨(lv.filter fun t=>wr.contains t).map (fun t=>(t,(aa s.env t).ren (rho H ks)))++((wr.filter fun t=> !lv.contains t).map fun t=>(t,AV.undef))++I,s.mem.take H++agp H ks s.mem,s.afS⟩
  else if T9 lv then LN lv wr I H s
  else⟨au lv wr I s.env,s.mem,s.afS⟩
def ga(lv wr:List Nat)(H:Env)(I:Nat)(f:XS->Option (Exit×XS)):Nat->XS->Option (Exit×XS)
 |0,_=>none
 |k+1,s=>match f s with
  |some (.normal,s')=>ga lv wr H I f k (nH lv wr H I s')
  |r=>r
def aO(T:TypeId->Option TyI)(lv:Code->List Nat)(O:afu)(K N m0:Nat)(tp:Bool):Code->XS->Option (Exit×XS)
 |.skip,s=>some (.normal,s)
 |.region _ ops false,s=>match cr T O N m0 ops ops.toList s with
  |some s' =>some (.normal,s')
  |none=>none
 |.region _ ops true,s=>match aN T O N m0 ops s with
  |some s' =>some (.normal,s')
  |none=>none
 |.seq a b,s=>match aO T lv O K N m0 tp a s with
  |some (.normal,s')=>aO T lv O K N m0 tp b s'
  |r=>r
 |.cond c a b,s=>match get s.env c with
  |.bool true=>aO T lv O K N m0 tp a s
  |.bool false=>aO T lv O K N m0 tp b s
  |_=>none
 |.block id b,s=>match aO T lv O K N m0 tp b s with
  |some (.exit i,s')=>if i=id then some (.normal,s') else some (.exit i,s')
  |r=>r
 |.loop b,s=>ga (lv b) (ae b) s.env s.mem.length (aO T lv O K N m0 tp b) K ⟨au (lv b) (ae b) s.env s.env,s.mem,s.afS⟩
 |.exit id,s=>some (.exit id,s)
 |.ret,s=>some (.ret,s)
 |.rangeFunc g ps asg body,s=>
  if tp then
   match get s.env g with
   |.func f caps=>match O (.fn f) (.yield s.mem.length::caps) (s.mem++[.loop ⟨.ready,none,s.env,N,ps,asg,body⟩]) with
    |some r=>
     let aaZ:=r.mem (s.mem++[.loop ⟨.ready,none,s.env,N,ps,asg,body⟩])
     match aaZ[s.mem.length]? with
     |some (.loop r2)=>if r2.st== .busy then none else match zn r2.agx with
      |some e=>some (e,⟨s.env,aaZ.set s.mem.length (.loop { r2 with st:=.exhausted }),s.afS||r.pre.isSome⟩)
      |none=>none
     |_=>none
    |none=>none
   |_=>none
  else none
 |_,_=>none
def ad(T:TypeId->Option TyI)(lv:Code->List Nat)(G:FuncId->Option Func)(O:afu)(K:Nat)(f:FuncId)(args:List AV)(mem:Mem):Option afw:=
 match G f with
 |none=>none
 |some fn=>match fn.body with
  |none=>none
  |some c=>
   if args.length<=fn.ntmps then
    match aO T lv O K fn.ntmps mem.length true c ⟨dQ 0 args,mem,false⟩ with
    |some (e,s)=>
     match e with
     |.normal | .ret=>
      match jG T fn.results.toList s.env s.mem with
      |some v=>
       let m0:=mem.length
       if s.afS then
        let ks:=qM m0 s.mem 1000 (v.refs m0++(s.mem.take m0).flatMap (afz.refs m0)) []
        if EI m0 s.mem.length ks then
         some ⟨v.ren (rho m0 ks),some ((s.mem.take m0).map (afz.ren (rho m0 ks))),agp m0 ks s.mem⟩
        else none
       else
        let ks:=qM m0 s.mem 1000 (v.refs m0) []
        if EI m0 s.mem.length ks then
         some ⟨v.ren (rho m0 ks),none,agp m0 ks s.mem⟩
        else none
      |none=>none
     |_=>none
    |none=>none
   else none
def yv(T:TypeId->Option TyI)(lv:Code->List Nat)(O:afu)(K:Nat)(b:Nat)(args:List AV)(mem:Mem):Option afw:=
 match mem[b]? with
 |some (.loop r)=>
  if r.st== .ready&&decide (args.length=r.ps.toList.length)&&r.ps.toList.all (fun t=>decide (t<r.N))&&dm r.assign&&dm r.body then
   match aO T lv O K r.N mem.length false r.assign ⟨zh r.ps.toList args r.env,mem,true⟩ with
   |some (.normal,s1)=>match s1.mem[b]? with
    |some (.loop r1)=>
     if r1.st== .ready then
      match aO T lv O K r.N mem.length false r.body ⟨s1.env,s1.mem.set b (.loop { r1 with st:=.busy }),true⟩ with
      |some (e,s2)=>match sc e,s2.mem[b]? with
       |some j,some (.loop r2)=>
        let m0:=mem.length
        let m3:=s2.mem.set b (.loop { r2 with st:=nC j,agx:=j })
        let ks:=qM m0 m3 1000 ((m3.take m0).flatMap (afz.refs m0)) []
        if EI m0 s2.mem.length ks then
         some ⟨.bool j.isNone,some ((m3.take m0).map (afz.ren (rho m0 ks))),agp m0 ks m3⟩
        else none
       |_,_=>none
      |none=>none
     else none
    |_=>none
   |_=>none
  else none
 |_=>none
def EC(T:TypeId->Option TyI)(lv:Code->List Nat)(G:FuncId->Option Func)(O:afu)(K:Nat):Nat->afu
 |0=>O
 |n+1=>fun c Z mem=>match O c Z mem with
  |some r=>some r
  |none=>match c with
   |.fn f=>ad T lv G (EC T lv G O K n) K f Z mem
   |.yld b=>yv T lv (EC T lv G O K n) K b Z mem
structure afs (P:Program)(O:afu):Prop where
 fn:∀f args mem r,O (.fn f) args mem=some r->bz P f args mem r.v (r.mem mem)
 yld:∀b args mem r,O (.yld b) args mem=some r->gp P b args mem r.v (r.mem mem)
 pre:∀c args mem r p,O c args mem=some r->r.pre=some p->p.length=mem.length
variable{args:List AV}{c:Callee}{d:Bool}{k m x:AV}{l:List Nat}{o:Oper}{op:Op}
section
variable {P:Program}{T:TypeId->Option TyI}{O:afu}{mem mem' :Mem}{env:Env}
def af3(wr:List Nat) (mem mem' :Mem):Prop:=mem.length<=mem'.length/\∀b:Nat,b<mem.length->b∉wr->mem'[b]? =mem[b]?
theorem af3.refl(wr:List Nat)(mem:Mem):af3 wr mem mem:=⟨Es _,fun _ _ _=>rfl⟩
theorem af3.push(wr:List Nat)(mem l:Mem):af3 wr mem (mem++l):=⟨by simp,fun b Z _=>GE Z⟩
theorem af3.set(H:Nat)(s:afz)(mem:Mem):af3 [H] mem (mem.set H s):=
 ⟨by simp,fun b _ Z=>QQK (fun e=>Z (by simp[e]))⟩
theorem af3.ahm(H:Nat)(s:afz)(mem l:Mem):af3 [H] mem (mem.set H s++l):=
 ⟨by simp,fun b Z X=>by rw[GE (by simpa using Z)];exact QQK (fun e=>X (by simp[e]))⟩
theorem wM{t t2:TypeId}{s x v:AV}(h:pP T mem t t2 s x=some (v,mem')):af3 (ay s) mem mem' :=by
 unfold pP at h
 repeat' split at h
 all_goals first
  |(cases h;done)
  |(cases h;exact .refl _ _)
  |(cases h;exact .push _ _ _)
  |(cases h;exact .set _ _ _)
  |(cases h;exact .ahm _ _ _ _)
theorem KT{t:TypeId}{v:AV}(h:tT T mem t x v=some mem'):af3 (Vi x) mem mem' :=by
 unfold tT at h
 repeat' split at h
 all_goals first
  |(cases h;done)
  |(cases h;rename_i Z _ _ _;exact .set _ _ _)
theorem Av{t:TypeId}{v:AV}(h:fz T mem t m k v=some mem'):af3 (Oq m) mem mem' :=by
 unfold fz at h
 repeat' split at h
 all_goals first
  |(cases h;done)
  |(cases h;exact .set _ _ _)
theorem Cu{t:TypeId}{v:AV}(h:rK T mem t m k=some (v,mem')):af3 (Oq m) mem mem' :=by
 unfold rK at h
 repeat' split at h
 all_goals first
  |(cases h;done)
  |(cases h;exact .set _ _ _)
theorem yk{m s v:AV}(h:lS mem m s v=some mem'):af3 (Oq m) mem mem' :=by
 unfold lS at h
 repeat' split at h
 all_goals first
  |(cases h;done)
  |(cases h;exact .set _ _ _)
theorem KM{e:TypeId}{v:AV}(h:tQ T mem e=some (v,mem')):af3 l mem mem' :=by unfold tQ at h;split at h<;>cases h;exact .push _ _ _
theorem QX{v:AV}(h:Yu mem x=some (v,mem')):af3 l mem mem' :=by unfold Yu at h;split at h<;>cases h;exact .push _ _ _
theorem yi{t:TypeId}{n:Nat}{ps}{v:AV}{l:List Nat}(h:gf T mem t n ps=some (v,mem')):af3 l mem mem' :=by
 unfold gf at h
 repeat' split at h
 all_goals first
  |(cases h;done)
  |(cases h;exact .push _ _ _)
theorem At{t:TypeId}{y:AV}{v:AV}(h:lz T mem t x y=some (v,mem')):af3 l mem mem' :=by
 unfold lz at h
 repeat' split at h
 all_goals first
  |(cases h;done)
  |(cases h;exact .push _ _ _)
theorem GV{pt:TypeId}{l v:AV}(h:yp T mem pt x l=some (v,mem')):af3 (Vi x) mem mem' :=by
 unfold yp at h
 repeat' split at h
 all_goals first
  |(cases h;done)
  |(cases h;exact .set _ _ _)
theorem wN{t:TypeId}{v:AV}{H I:Option AV}(h:yn T mem t x H I=some (v,mem')):af3 l mem mem' :=by
 unfold yn at h
 repeat' split at h
 all_goals first
  |(cases h;done)
  |(cases h;exact .push _ _ _)
theorem KR{v:AV}(h:aOp T env mem op=some (v,mem')):af3 (xD env op) mem mem' :=by
 unfold aOp at h
 repeat' split at h
 all_goals first
  |(cases h;done)
  |(cases h;exact .refl _ _)
  |exact wN h
  |(rename_i Z;cases h;exact wN Z)
  |exact KM h
  |exact QX h
  |exact yi h
  |exact At h
  |exact wM h
  |(rename_i Z;cases h;exact wM Z)
  |exact GV h
  |exact Cu h
  |(cases h;exact .push _ _ _)
  |(rename_i Z;cases h;first | exact KT Z | exact Av Z | exact yk Z)
theorem nZ{wr:List Nat}{m0:Nat}(h:(wr.any fun b=>decide (b<m0))=false){b:Nat}(H:b<m0):b∉wr:=by intro Z;have:=List.any_eq_false.1 h b Z;simp[H] at this
theorem vH{m0:Nat}(h1:m0<=mem.length)(h2:m0<=mem'.length)(h:∀b,b<m0->mem'[b]? =mem[b]?):mem'.take m0=mem.take m0:=by
 apply List.ext_getElem?;intro b;by_cases Z:b<m0
 .rw[V2 Z,V2 Z,h b Z]
 .rw[List.getElem?_eq_none (by simp;omega),List.getElem?_eq_none (by simp;omega)]
def Clean(m0:Nat)(mem:Mem)(d:Bool) (mem' :Mem) (d' :Bool):Prop:=m0<=mem.length->m0<=mem'.length/\(d' =false->d=false/\mem'.take m0=mem.take m0)
theorem Clean.refl(m0:Nat)(mem:Mem)(d:Bool):Clean m0 mem d mem d:=fun h=>⟨h,fun e=>⟨e,rfl⟩⟩
theorem Clean.trans{m0:Nat}{H m2 I:Mem}{d1 d2 d3:Bool}(h:Clean m0 H d1 m2 d2)(h' :Clean m0 m2 d2 I d3):Clean m0 H d1 I d3:=fun Z=>by obtain⟨X,V⟩:=h Z;obtain⟨U,S⟩:=h' X;refine⟨U,fun e=>?_⟩;obtain⟨R,Q⟩:=S e;obtain⟨N,M⟩:=V R;exact⟨N,Q.trans M⟩
theorem af3.clean{wr:List Nat}{m0:Nat}(h:af3 wr mem mem'):Clean m0 mem d mem' (d||wr.any fun b=>decide (b<m0)):=fun Z=>by have X:=Y2 Z h.1;refine⟨X,fun e=>?_⟩;simp only[Bool.or_eq_false_iff] at e;exact⟨e.1,vH Z X fun b V=>h.2 b (by omega) (nZ e.2 V)⟩
theorem KW{f:FuncId}(h:kH env op=some (.fn f,args)):G5 env op=some (f,args):=by
 unfold kH at h;split at h
 .split at h
  .cases h;rename_i Z;simp[G5,Z]
  .cases h
  .cases h
 .cases h
theorem GX{b:Nat}(h:kH env op=some (.yld b,args)):Be env op=some (b,args):=by
 unfold kH at h;split at h
 .split at h
  .cases h
  .cases h;rename_i Z;simp[Be,Z]
  .cases h
 .cases h
section
variable (hO:afs P O)
include hO
theorem Dn{r:afw}(hc:kH env o.op=some (c,args))(h:O c args mem=some r):
  xG P T env mem o r.v (r.mem mem):=by
 cases c with
 |fn f=>exact .inr (.inl ⟨f,args,KW hc,hO.fn _ _ _ _ h⟩)
 |yld b=>exact .inr (.inr ⟨b,args,GX hc,hO.yld _ _ _ _ h⟩)
theorem yH{r:afw}(h:O c args mem=some r):mem.length<=(r.mem mem).length:=by
 unfold afw.mem;cases hp:r.pre with
 |none=>simp
 |some p=>have:=hO.pre _ _ _ _ p h hp;simp;omega
theorem Oe{m0:Nat}{d' :Bool}{v:AV}(h:WS T O m0 env mem d o=some (v,mem',d')):
  xG P T env mem o v mem' /\Clean m0 mem d mem' d' :=by
 unfold WS at h;split at h
 .rename_i S R Z
  cases h;exact⟨.inl Z,(KR Z).clean⟩
 .split at h
  .rename_i c args U
   split at h
   .rename_i r X
    cases h;refine⟨Dn hO U X,fun V=>⟨Y2 V (yH hO X),fun e=>?_⟩⟩;simp only[Bool.or_eq_false_iff,Option.isSome_eq_false_iff,Option.isNone_iff_eq_none] at e;refine⟨e.1,?_⟩;unfold afw.mem;rw[e.2];simp[QXY V]
   .cases h
  .cases h
end
theorem kR(H:afs P O){N m0:Nat}{ops:Array Oper}:∀{l:List Oper}{s s' :XS},cr T O N m0 ops l s=some s' ->
  nq P T N ops l ⟨s.env,s.mem⟩ ⟨s'.env,s'.mem⟩/\Clean m0 s.mem s.afS s'.mem s'.afS
 | [],s,s',h=>by cases h;exact⟨rfl,.refl _ _ _⟩
 |o::os,s,s',h=>by
  unfold cr at h;split at h
  .rename_i U
   split at h
   .rename_i Z
    split at h
    .rename_i v m M S
     obtain⟨R,Q⟩:=Oe H S;obtain⟨X,V⟩:=kR H h;exact⟨⟨true,Z,U,(fun e=>by cases e),fun _=>⟨v,m,R,X⟩⟩,Q.trans V⟩
    .cases h
   .rename_i Z
    obtain⟨X,V⟩:=kR H h;exact⟨⟨false,Z,U,(fun _=>X),(fun e=>by cases e)⟩,V⟩
   .cases h
  .cases h
end
end Go.Eng
namespace Go.Eng
section
variable {P:Program}{T:TypeId->Option TyI}{O:afu}{N:Nat}{ops:Array Oper}
theorem ir(H:Nat->Bool):∀(i:Nat) (m:Mem),(bB H i m).length=m.length
 |_,[]=>rfl
 |i,s::r=>by simp[bB,ir H (i+1) r]
theorem lG(H:Nat->Bool):∀(i:Nat) (m:Mem) (b:Nat),(bB H i m)[b]? =m[b]? \/(bB H i m)[b]? =some .y9
 |_,[],b=>.inl rfl
 |i,s::r,0=>by
  simp only[bB,List.getElem?_cons_zero];split
  .exact .inl rfl
  .exact .inr rfl
 |i,s::r,b+1=>by simp only[bB,List.getElem?_cons_succ];exact lG H (i+1) r b
theorem Df:∀(i:Nat) (m:Mem) (b:Nat),¬iM (bB (fun _=>false) i m) b
 |_,[],b=>by rintro ⟨s,h,_⟩;simp[bB] at h
 |i,s::r,0=>by rintro ⟨s,h,Z⟩;simp[bB] at h;exact Z h.symm
 |i,s::r,b+1=>by rintro ⟨s,h,Z⟩;simp only[bB,List.getElem?_cons_succ] at h;exact Df (i+1) r b ⟨s,h,Z⟩
theorem nG(wr:List Nat):∀(i:Nat) (m H :Mem),m.length<=H.length->(bb wr i m H).length=H.length
 |_,[],H,_=>rfl
 |_,_::_,[],h=>by simp at h
 |i,s::r,s' ::r',h=>by simp only[bb,List.length_cons] at h |-;rw[nG wr (i+1) r r' (by omega)]
theorem vp(wr:List Nat):∀(i:Nat) (m H :Mem) (b:Nat),m.length<=H.length->(bb wr i m H)[b]? =if i+b∈wr\/m.length<=b then H[b]? else m[b]?
 |_,[],H,b,_=>by simp[bb]
 |_,_::_,[],_,h=>by simp at h
 |i,s::r,s' ::r',0,h=>by simp only[bb,List.getElem?_cons_zero,List.contains_iff_mem,Nat.add_zero,List.length_cons,Nat.le_zero_eq,Nat.add_one_ne_zero,or_false];split<;>rfl
 |i,s::r,s' ::r',b+1,h=>by simp only[List.length_cons] at h;simp only[bb,List.getElem?_cons_succ];rw[vp wr (i+1) r r' b (by omega)];simp only[List.length_cons,Nat.add_le_add_iff_right];rw[show i+1+b=i+(b+1) by omega]
theorem vl{m:Mem}{b:Nat}:dj m b=true↔iM m b:=by
 unfold dj iM;cases h:m[b]? with
 |none=>simp
 |some s=>cases s<;>simp
theorem EK:∀(i:Nat) (m:Mem) (b:Nat),i+b∈eF i m↔iM m b:=by
 intro i m;induction m generalizing i with
 |nil=>intro b;simp[eF,iM]
 |cons s r ih=>
  intro b;have Z:∀(i:Nat) (m:Mem) (x:Nat),x∈eF i m->i<=x:=by
   intro i m;induction m generalizing i with
   |nil=>intro x h;simp[eF] at h
   |cons s r ih=>
    intro x h;have:x∈eF (i+1) r\/x=i:=by cases s<;>simp only[eF,List.mem_cons] at h<;>first | exact .inl h | exact h.symm
    rcases this with h | h
    .have:=ih (i+1) x h;omega
    .omega
  cases b with
  |zero=>
   have X:¬(i+0∈eF (i+1) r):=fun h=>by have:=Z _ _ _ h;omega
   cases s<;>simp[eF,iM]<;>simpa using X
  |succ b=>
   have:=ih (i+1) b;rw[show i+1+b=i+(b+1) by omega] at this;have V:iM (s::r) (b+1)↔iM r b:=by simp[iM]
   rw[V,<-this];cases s<;>simp[eF]
structure ag0 (P:Program)(T:TypeId->Option TyI)(N:Nat)(ops:Array Oper)(r:Rec)(o:Oper):Prop where
 dst:EF N o=true
 wanted:sL ops r.en o=some r.wb
 en:r.en=(o.looksAt ops).map fun t=>(t,aa r.env t)
 step:r.wb=true->xG P T r.en r.tm o r.v r.m'
 skip:r.wb=false->r.v=.tuple []/\r.m' =r.tm
 ahh:r.tm.length=r.mem.length
 ahi:∀b:Nat,r.tm[b]? =r.mem[b]? \/r.tm[b]? =some .y9
 mono:r.mem.length<=r.m'.length
 ag1:r.nx.length=r.m'.length
 nx:∀b:Nat,r.nx[b]? =if b∈r.wr\/r.mem.length<=b then r.m'[b]? else r.mem[b]?
 agp:∀b:Nat,b<r.mem.length->b∉r.wr->iM r.tm b->r.m'[b]? =r.mem[b]?
theorem Fb{mem H:Mem}(h:∀b:Nat,H[b]? =mem[b]? \/H[b]? =some .y9){b:Nat}(I:iM H b):H[b]? =mem[b]? :=by
 rcases h b with e | e
 .exact e
 .obtain⟨s,Z,X⟩:=I
  rw[Z] at e;cases e;exact absurd rfl X
theorem Hr(H:afs P O){I:List Nat}{j:Nat}{o:Oper}{env:Env}{mem:Mem}{acc:List Rec}{r:Rec}(h:Hq T O N ops I j o env mem acc=some r):
  r.env=env/\r.mem=mem/\ag0 P T N ops r o:=by
 unfold Hq at h;split at h
 .rename_i G
  simp only at h;split at h
  .cases h
  .rename_i Q
   cases h;refine⟨rfl,rfl,G,Q,rfl,(fun e=>by cases e),(fun _=>⟨rfl,rfl⟩),ir _ _ _,(fun b=>lG _ _ _ _),by simp[ir],by simp[ir],fun b=>?_,fun b _ _ V=>absurd V (Df _ _ _)⟩;simp only[List.not_mem_nil,false_or];split
   .rename_i U
    rw[List.getElem?_eq_none U,List.getElem?_eq_none (by rw[ir];exact U)]
   .rfl
  .rename_i Q
   generalize XY I j acc (N8 (List.map (fun t=>(t,aa env t)) (o.looksAt ops)) o.op)=see at h;have Z:(bB see 0 mem).length=mem.length:=ir _ _ _;split at h
   .rename_i v m D
    cases h;have S:=KR D;rw[af3,Z] at S;refine⟨rfl,rfl,G,Q,rfl,fun _=>.inl D,(fun e=>by cases e),Z,fun b=>lG _ _ _ _,S.1,nG _ _ _ _ S.1,fun b=>?_,fun b V F M=>?_⟩
    .have:=vp (xD (List.map (fun t=>(t,aa env t)) (o.looksAt ops)) o.op) 0 mem m b S.1
     rw[QQY] at this;exact this
    .rw[S.2 b V F];exact Fb (fun b=>lG see 0 mem b) M
   .split at h
    .cases h
    .rename_i c C B
     split at h
     .cases h
     .rename_i X R
      simp only[Mp] at h;subst h;have K:=yH H R;rw[Z] at K;refine⟨rfl,rfl,G,Q,rfl,fun _=>Dn H B R,(fun e=>by cases e),Z,fun b=>lG _ _ _ _,K,nG _ _ _ _ K,fun b=>?_,fun b V F M=>?_⟩
      .have:=vp (WR (bB see 0 mem) X.pre) 0 mem (X.mem (bB see 0 mem)) b K
       rw[QQY] at this;exact this
      .cases hp:X.pre with
       |some p=>
        exfalso;apply F;show b∈WR (bB see 0 mem) X.pre
        rw[hp];show b∈eF 0 (bB see 0 mem)
        have:=(EK 0 (bB see 0 mem) b).2 M
        rwa [QQY] at this
       |none=>
        show(X.mem (bB see 0 mem))[b]? =mem[b]?
        unfold afw.mem;rw[hp];simp only[Option.getD_none];rw[GE (by rw[Z];exact V)];exact Fb (fun b=>lG see 0 mem b) M
 .cases h
def mH(P:Program)(T:TypeId->Option TyI)(N:Nat)(ops:Array Oper):List Oper->Env->Mem->List Rec->Env->Mem->Prop
 | [],env,mem,[],AC,mem' =>AC =env/\mem' =mem
 |o::os,env,mem,r::rs,AC,mem' =>r.env=env/\r.mem=mem/\ag0 P T N ops r o/\mH P T N ops os (agm env o.dst r.v) r.nx rs AC mem'
 |_,_,_,_,_,_=>False
theorem qo(J:afs P O){W:List Nat}:∀{l:List Oper} {j:Nat} {env:Env} {mem:Mem} {acc R:List Rec}{I :Env}{H :Mem},
  mx T O N ops W j l env mem acc=some (R,I,H)->∃Z,R=acc.reverse++Z/\mH P T N ops l env mem Z I H
 | [],j,env,mem,acc,R,I,H,h=>by simp only[mx,Mp,Prod.mk.injEq] at h;obtain⟨rfl,rfl,rfl⟩:=h;exact⟨[],by simp,rfl,rfl⟩
 |o::os,j,env,mem,acc,R,I,H,h=>by
  unfold mx at h;split at h
  .cases h
  .rename_i r X
   obtain⟨V,U,h3⟩:=Hr J X;obtain⟨Z,e,S⟩:=qo J h;exact⟨r::Z,by rw[e];simp,V,U,h3,S⟩
def RK(R:List Rec)(H:Env×Mem)(j:Nat):Env×Mem:=match R[j]? with
 |some r=>(r.env,r.mem)
 |none=>H
theorem zC:∀{l:List Oper} {env:Env} {mem:Mem} {R:List Rec}{I :Env}{H :Mem},mH P T N ops l env mem R I H ->R.length=l.length
 | [],_,_,[],_,_,_=>rfl
 |_::_,_,_,_::_,_,_,h=>by simp only[List.length_cons];rw[zC h.2.2.2]
 | [],_,_,_::_,_,_,h=>h.elim
 |_::_,_,_,[],_,_,h=>h.elim
theorem xl:∀{l:List Oper} {env:Env} {mem:Mem} {R:List Rec}{I :Env}{H :Mem},mH P T N ops l env mem R I H ->RK R (I,H) 0=(env,mem)
 | [],_,_,[],_,_,h=>by obtain⟨rfl,rfl⟩:=h;rfl
 |_::_,_,_,_::_,_,_,h=>by obtain⟨rfl,rfl,_⟩:=h;rfl
 | [],_,_,_::_,_,_,h=>h.elim
 |_::_,_,_,[],_,_,h=>h.elim
theorem Dv:∀{l:List Oper} {env:Env} {mem:Mem} {R:List Rec}{I :Env}{H :Mem},mH P T N ops l env mem R I H ->∀(j:Nat) (o:Oper),l[j]? =some o->
  ∃r,R[j]? =some r/\ag0 P T N ops r o/\RK R (I,H) (j+1)=(agm r.env o.dst r.v,r.nx)
 |o::os,_,_,r::rs,I,H,h,0,o',ho=>by cases ho;obtain⟨rfl,rfl,h3,Z⟩:=h;exact⟨r,rfl,h3,xl Z⟩
 |o::os,_,_,r::rs,I,H,h,j+1,o',ho=>by obtain⟨_,_,_,Z⟩:=h;obtain⟨X,g1,V,g3⟩:=Dv Z j o' ho;exact⟨X,g1,V,g3⟩
 | [],_,_,_,_,_,_,j,_,ho=>by simp at ho
 |_::_,_,_,[],_,_,h,_,_,_=>h.elim
theorem na:∀(i:Nat) (R:List Rec) (j:Nat) (r:Rec),R[j]? =some r->(i+j,r)∈aP i R
 |i,x::xs,0,r,h=>by cases h;simp[aP]
 |i,x::xs,j+1,r,h=>by simp only[List.getElem?_cons_succ] at h;have:=na (i+1) xs j r h;rw[show i+1+j=i+(j+1) by omega] at this;simp[aP,this]
 |_,[],_,_,h=>by simp at h
end
variable{R:List Rec}{bs:List Nat}{j:Nat}
section
variable {P:Program}{T:TypeId->Option TyI}{O:afu}{N:Nat}{ops:Array Oper}
def W7(bs:List Nat)(R:List Rec)(j:Nat):List (Nat×Rec):=(aP 0 R).filter fun f=>decide (f.1<j)&& !bef bs f.1 j
def pU(n:Nat)(bs:List Nat)(R:List Rec)(H:Env×Mem):af4 where
 E j:=(RK R H j).1
 M j:=(RK R H j).2
 En j:=match R[j]? with | some r=>r.en | none=>[]
 Tm j:=match R[j]? with | some r=>r.tm | none=>[]
 M' j:=match R[j]? with | some r=>r.m' | none=>[]
 v j:=match R[j]? with | some r=>r.v | none=>.undef
 wb j:=match R[j]? with | some r=>r.wb | none=>false
 agh j b:=match R[j]? with | some r=>decide (b∈r.wr)||decide (r.mem.length<=b) | none=>false
 ok j b:=match R[j]? with | some r=>iu r.nx.length (W7 bs R j) b | none=>false
 cl i j:=decide (i<n)&&bef bs i j
theorem CM(h:oo ops bs=true){o:Oper}(H:ops[j]? =some o):
  (∀e∈o.after,Region.binds .any e=true->e.on<j)/\
  (∀i,i<ops.size->bef bs i j=true->∃e∈o.after,Region.binds .any e=true/\(e.on=i\/bef bs i e.on=true))/\
  ∀(i:Nat) X t,ops[i]? =some X->i≠j->X.dst=some t->(t∈o.looksAt ops\/o.dst=some t)->bef bs i j=true\/bef bs j i=true:=by
 have F:j<ops.size:=(J1.1 H).1;unfold oo at h;have:=List.all_eq_true.1 h j (by simpa using F);simp only[H,Ar,List.all_eq_true,List.mem_range] at this;obtain⟨D,K⟩:=this;refine⟨fun e V U=>?_,fun i Z U=>?_,fun i X t Z C B S=>?_⟩
 .have:=D e (by simpa using V)
  simpa [U] using this
 .have:=(K i Z).1
  simp only[U,Bool.not_true,Bool.false_or,List.any_eq_true] at this;obtain⟨e,V,Q⟩:=this;simp only[Ar,QQj,beq_iff_eq] at Q;exact⟨e,by simpa using V,Q.1,Q.2⟩
 .have M:i<ops.size:=(J1.1 Z).1
  have:=(K i M).2;simp only[Z,B,QQj,beq_iff_eq,C,false_or,Ar,Bool.not_eq_true',List.contains_eq_mem,decide_eq_false_iff_not] at this;rcases this with (h3 | h3) | ⟨h3,G⟩
  .exact .inl h3
  .exact .inr h3
  .rcases S with h5 | h5
   .exact absurd h5 h3
   .rw[h5] at G;simp at G
structure agI (bs:List Nat)(R:List Rec)(j:Nat)(r:Rec):Prop where
 wr:∀b∈r.wr,iM r.tm b
 ahk:r.v.aft (iu r.nx.length (W7 bs R j))=true
 ah0:∀(b:Nat) s,b∈r.wr->r.nx[b]? =some s->s.aft (iu r.nx.length (W7 bs R j))=true
 fresh:∀(b:Nat) s,r.mem.length<=b->r.nx[b]? =some s->(s≠ .y9->s.own=true)/\s.aft (iu r.nx.length (W7 bs R j))=true
 ahH:∀(i:Nat) f,i<j->R[i]? =some f->bef bs i j=false->(∀b∈f.wr,¬iM r.tm b)/\(∀b∈r.wr,¬iM f.tm b)/\∀b,f.mem.length<=b->b<f.nx.length->¬iM r.tm b
theorem G8{r:Rec}(h:gO bs (aP 0 R) j r=true):agI bs R j r:=by
 unfold gO at h;simp only[Ar] at h;obtain⟨⟨⟨⟨Q,M⟩,h3⟩,K⟩,G⟩:=h;refine⟨fun b Z=>vl.1 (List.all_eq_true.1 Q b Z),M,fun b s Z X=>?_,fun b s Z X=>?_,fun i f F D Z=>?_⟩
 .have:=List.all_eq_true.1 h3 b Z
  rw[X] at this;exact this
 .have U:s∈r.nx.drop r.mem.length:=by apply Lo (i:=b-r.mem.length);rw[QQJ,<-X];congr 1;omega
  have:=List.all_eq_true.1 K s U;simp only[Ar,QQj] at this;refine⟨fun C=>?_,this.2⟩;rcases this.1 with h | h
  .exact h
  .cases s<;>simp_all
 .have S:(i,f)∈W7 bs R j:=by unfold W7;rw[List.mem_filter];have:=na 0 R i f D;rw[QQY] at this;exact⟨this,by simp[F,Z]⟩
  have:=List.all_eq_true.1 G (i,f) S;simp only[Ar,List.all_eq_true,Bool.not_eq_true'] at this;obtain⟨⟨B,y⟩,u⟩:=this;refine⟨fun b Z V=>?_,fun b Z V=>?_,fun b o m V=>?_⟩
  .have:=B b Z;rw[vl.2 V] at this;cases this
  .have:=y b Z;rw[vl.2 V] at this;cases this
  .obtain⟨s,X,C⟩:=V
   have U:s∈(r.tm.drop f.mem.length).take (f.nx.length-f.mem.length):=by apply Lo (i:=b-f.mem.length);rw[V2 (by omega),QQJ,<-X];congr 1;omega
   have:=u s U;cases s<;>simp_all
theorem Fv{env:Env}:∀(l:List Tmp) (t:Nat),(t∈l/\aa (l.map fun t=>(t,aa env t)) t=aa env t)\/(t∉l/\aa (l.map fun t=>(t,aa env t)) t=.undef)
 | [],t=>.inr ⟨by simp,rfl⟩
 |x::xs,t=>by
  simp only[List.map_cons,aa];by_cases Z:x=t
  .subst Z;exact .inl ⟨by simp,by simp⟩
  .simp only[Z,if_false]
   rcases Fv (env:=env) xs t with⟨X,V⟩ | ⟨X,V⟩
   .exact .inl ⟨by simp[X],V⟩
   .exact .inr ⟨by simp[X,Ne.symm Z],V⟩
theorem Wr{m:Mem}{b:Nat}(h:iM m b):b<m.length:=by obtain⟨s,h,_⟩:=h;exact(gL h)
theorem Wl{env I :Env}{mem H :Mem}(hs:oo ops bs=true)(hR:mH P T N ops ops.toList env mem R I H)(hC:∀(j:Nat) r,R[j]? =some r->agI bs R j r):tF P T N ops (pU ops.size bs R (I,H)):=by
 have u:∀(j:Nat) o,ops[j]? =some o->∃r,R[j]? =some r/\ag0 P T N ops r o/\RK R (I,H) (j+1)=(agm r.env o.dst r.v,r.nx):=
  fun j o ho=>Dv hR j o (by simpa using ho)
 have M_at:∀(j:Nat) r,R[j]? =some r->(pU ops.size bs R (I,H)).M j=r.mem:=fun j r h=>by simp[pU,RK,h]
 have lens:∀(i:Nat) U Q,ops[i]? =some Q->R[i]? =some U->∀(k j:Nat) B oj,j=i+1+k->ops[j]? =some oj->R[j]? =some B->U.nx.length<=B.mem.length:=by
  intro i U Q X Z k;induction k with
  |zero=>
   intro j B oj hj hoj m;obtain⟨r,g1,g2,g3⟩:=u i Q X;rw[Z] at g1;cases g1;have:RK R (I,H) (i+1)=(B.env,B.mem):=by rw[show i+1=j by omega];simp[RK,m]
   rw[this] at g3;have:=congrArg Prod.snd g3;simp only at this;rw[this];exact Es _
  |succ k ih=>
   intro j B oj hj hoj m;have hjs:j<ops.size:=(J1.1 hoj).1;obtain⟨op,hop⟩:=AB (ops:=ops) (j:=j-1) (by omega);obtain⟨r,g1,g2,g3⟩:=u (j-1) op hop;have J:=ih (j-1) r op (by omega) hop g1;have:RK R (I,H) (j-1+1)=(B.env,B.mem):=by rw[show j-1+1=j by omega];simp[RK,m]
   rw[this] at g3;have e:=congrArg Prod.snd g3;simp only at e;have:=g2.ag1;have:=g2.mono;rw[e];omega
 have ab0 :∀(i j:Nat) U B Q oj,i<j->ops[i]? =some Q->ops[j]? =some oj->R[i]? =some U->R[j]? =some B->U.nx.length<=B.mem.length:=
  fun i j U B Q oj hij X hoj Z m=>lens i U Q X Z (j-i-1) j B oj (by omega) hoj m
 intro j o ho;obtain⟨r,G,K,acA⟩:=u j o ho;have C:=hC j r G;have S:=CM hs ho;have hjs:j<ops.size:=(J1.1 ho).1;have eM:(pU ops.size bs R (I,H)).M j=r.mem:=M_at j r G;have F:(pU ops.size bs R (I,H)).M (j+1)=r.nx:=by simp[pU,acA]
 have eE:(pU ops.size bs R (I,H)).E j=r.env:=by simp[pU,RK,G]
 have eE1:(pU ops.size bs R (I,H)).E (j+1)=agm r.env o.dst r.v:=by simp[pU,acA]
 have eEn:(pU ops.size bs R (I,H)).En j=r.en:=by simp[pU,G]
 have eT:(pU ops.size bs R (I,H)).Tm j=r.tm:=by simp[pU,G]
 have Y :(pU ops.size bs R (I,H)).M' j=r.m' :=by simp[pU,G]
 have ev:(pU ops.size bs R (I,H)).v j=r.v:=by simp[pU,G]
 have ew:(pU ops.size bs R (I,H)).wb j=r.wb:=by simp[pU,G]
 have y:∀b,(pU ops.size bs R (I,H)).agh j b=true↔b∈r.wr\/r.mem.length<=b:=fun b=>by simp[pU,G]
 have abn:∀b,(pU ops.size bs R (I,H)).agh j b=false↔b∉r.wr/\b<r.mem.length:=fun b=>by simp[pU,G]
 have eok:(pU ops.size bs R (I,H)).ok j=iu r.nx.length (W7 bs R j):=by funext b;simp[pU,G]
 have D:∀i k,i<ops.size->(pU ops.size bs R (I,H)).cl i k=bef bs i k:=fun i k hi=>by simp[pU,hi]
 have acB:r.mem.length<=r.nx.length:=by rw[K.ag1];exact K.mono
 refine⟨by rw[eEn,ew];exact K.wanted,K.dst,?_,?_,by rw[eE1,eE,ev],?_,?_,by rw[eT,eM];exact K.ahh,by rw[eT,eM];exact K.ahi,by rw[F,Y];exact K.ag1,by rw[eM,F];exact acB,
  ?_,?_,?_,?_,?_,?_,?_,?_,?_,?_,S.1,?_⟩
 .rw[ew,eEn,eT,ev,Y];exact K.step
 .rw[ew,ev,Y,eT];exact K.skip
 .intro t
  rw[eEn,eE,K.en];rcases Fv (env:=r.env) (o.looksAt ops) t with⟨J,h2⟩ | ⟨J,h2⟩
  .refine .inr ⟨h2,fun i Q hi G' W=>?_⟩
   rw[D i j (J1.1 hi).1,D j i hjs];exact S.2.2 i Q t hi G' W (.inl J)
  .exact .inl h2
 .intro i Q t hi G' J h2
  rw[D i j (J1.1 hi).1,D j i hjs];exact S.2.2 i Q t hi G' h2 (.inr J)
 .intro b V
  rw[F,Y,K.nx b,if_pos ((y b).1 V)]
 .intro b V W
  rw[eM] at V;rw[F,eM,K.nx b,if_neg];rw[abn] at W;rintro (h | h)
  .exact W.1 h
  .omega
 .intro b V W hB
  rw[eM] at V;rw[Y,eM];rw[abn] at W;rw[eT] at hB;exact K.agp b V W.1 hB
 .intro b V
  rw[eM] at V;exact(y b).2 (.inr V)
 .intro b W V
  rw[eM] at V;rw[eT];rcases (y b).1 W with h | h
  .exact C.wr b h
  .omega
 .
  intro i Q b X hij hbi hti hor;obtain⟨U,Z,Ki,hni⟩:=u i Q X;have Ci:=hC i U Z;have eMi:(pU ops.size bs R (I,H)).M (i+1)=U.nx:=by simp[pU,hni]
  rw[eMi] at hbi;have adP :b∈U.wr\/U.mem.length<=b:=by simpa [pU,Z] using hti
  rw[F,eT] at hor;rw[D i j (J1.1 X).1,D j i hjs];by_cases A':i<j
  .cases V:bef bs i j with
   |true=>exact .inl rfl
   |false=>
    exfalso;obtain⟨p1,p2,p3⟩:=C.ahH i U A' Z V;have hl:=ab0 i j U r Q o A' X ho Z G;have adQ:¬iM r.tm b:=by
     rcases adP with h | h
     .exact p1 b h
     .exact p3 b h hbi
    rcases hor with⟨g1,g2⟩ | g
    .rcases (y b).1 g2 with h | h
     .exact adQ (C.wr b h)
     .omega
    .exact adQ g
  .cases V:bef bs j i with
   |true=>exact .inr rfl
   |false=>
    exfalso;obtain⟨p1,p2,p3⟩:=Ci.ahH j r (by omega) G V;have hl:=ab0 j i r U o Q (by omega) ho X G Z;have htl:=K.ahh;rcases adP with h | h
    .rcases hor with⟨g1,g2⟩ | g
     .rcases (y b).1 g2 with h' | h'
      .exact p2 b h (C.wr b h')
      .exact p3 b h' g1 (Ci.wr b h)
     .exact p2 b h g
    .rcases hor with⟨g1,g2⟩ | g
     .omega
     .have:=Wr g;omega
 .
  intro i b Q X hok J h2;obtain⟨U,Z,Ki,hni⟩:=u i Q X;have eMi:(pU ops.size bs R (I,H)).M (i+1)=U.nx:=by simp[pU,hni]
  rw[M_at i U Z] at J;rw[eMi] at h2;rw[eok] at hok;unfold iu at hok;simp only[Ar,Cs,List.all_eq_true,Bool.not_eq_true',decide_eq_false_iff_not] at hok;by_cases hij:i=j
  .exact .inl hij
  .refine .inr ?_
   rw[D i j (J1.1 X).1];by_cases A':i<j
   .cases V:bef bs i j with
    |true=>rfl
    |false=>
     exfalso;have aaW:(i,U)∈W7 bs R j:=by unfold W7;rw[List.mem_filter];have:=na 0 R i U Z;rw[QQY] at this;exact⟨this,by simp[A',V]⟩
     exact hok.2 (i,U) aaW ⟨J,h2⟩
   .exfalso
    have hl:=ab0 j i r U o Q (by omega) ho X G Z;omega
 .rw[ev,eok];exact C.ahk
 .intro b s W hs
  rw[F] at hs;rw[eok];rcases (y b).1 W with h | h
  .exact C.ah0 b s h hs
  .exact(C.fresh b s h hs).2
 .intro b s V hs G'
  rw[eM] at V;rw[F] at hs |-;exact⟨s,hs,(C.fresh b s V hs).1 G'⟩
 .intro i V
  simp only[pU,Ar,Cs] at V;obtain⟨e,J,h2,h3⟩:=S.2.1 i V.1 V.2;refine⟨e,J,h2,?_⟩;rcases h3 with h | h
  .exact .inl h
  .exact .inr (by simp[pU,V.1,h])
theorem Hv(I:P.follows .mixedOrders=true)(hT:dS P T)(J:afs P O){m0:Nat}{s s' :XS}(H:oo ops (eW ops.toList)=true)(h:aN T O N m0 ops s=some s'):
  (∀(tp:Bool) (id:Nat) (Q:Exit->St->Prop),Q .normal ⟨s'.env,s'.mem⟩->AWP P tp N m0 (.region id ops true) ⟨s.env,s.mem⟩ Q)/\Clean m0 s.mem s.afS s'.mem s'.afS:=by
 unfold aN at h;simp only at h
 .split at h
  .cases h
  .rename_i R env mem B
   split at h
   .rename_i y
    cases h;obtain⟨X,e,V⟩:=qo J B;simp only[List.reverse_nil,List.nil_append] at e;subst e;have u:∀(j:Nat) r,R[j]? =some r->agI (eW ops.toList) R j r:=by intro j r Y;have:=na 0 R j r Y;rw[QQY] at this;exact G8 (List.all_eq_true.1 y _ this)
    have W:=Wl H V u;have C:=xl V;have C':=zC V;have U:RK R (env,mem) ops.size=(env,mem):=by unfold RK;rw[List.getElem?_eq_none (by rw[C'];simp)]
    refine⟨fun tp id Q hq=>CC I hT (d:=pU ops.size (eW ops.toList) R (env,mem)) W (by simp[pU,C]) (by simp[pU,C]) (by simp[pU,U]) hq,?_⟩;have S:∀(l:List Oper) (e:Env) (m:Mem) (X:List Rec),mH P T N ops l e m X env mem->m0<=m.length->m0<=mem.length/\((X.any fun r=>r.wr.any fun b=>decide (b<m0))=false->mem.take m0=m.take m0):=by
     intro l;induction l with
     |nil=>
      intro e m X h Z;cases X with
      |nil=>obtain⟨rfl,rfl⟩:=h;exact⟨Z,fun _=>rfl⟩
      |cons=>exact h.elim
     |cons o os ih=>
      intro e m X h Z;cases X with
      |nil=>exact h.elim
      |cons r X=>
       obtain⟨rfl,rfl,K,h4⟩:=h;have acB:r.mem.length<=r.nx.length:=by rw[K.ag1];exact K.mono
       obtain⟨M,G⟩:=ih _ _ _ h4 (by omega);refine⟨M,fun F=>?_⟩;simp only[List.any_cons,Bool.or_eq_false_iff] at F;rw[G F.2];refine vH Z (by omega) fun b hb=>?_
       rw[K.nx b,if_neg];rintro (h | h)
       .exact nZ F.1 hb h
       .omega
    intro Z;obtain⟨M,G⟩:=S _ _ _ _ V Z;refine⟨M,fun D=>?_⟩;simp only[Bool.or_eq_false_iff] at D;exact⟨D.1,G D.2⟩
   .cases h
end
end Go.Eng
namespace Go.Eng
variable{e z':Env}
section
variable {P:Program}{T:TypeId->Option TyI}{lv:Code->List Nat}{O:afu}{K N m0:Nat}{tp:Bool}
def Zl(P:Program)(tp:Bool)(N m0:Nat)(c:Code)(s:XS)(e:Exit) (s' :XS):Prop:=
 (∀Q:Exit->St->Prop,Q e ⟨s'.env,s'.mem⟩->AWP P tp N m0 c ⟨s.env,s.mem⟩ Q)/\Clean m0 s.mem s.afS s'.mem s'.afS
def agc(wr:List Nat) (e H :Env):Prop:=∀t,t∉wr->aa H t=aa e t
theorem agc.refl(wr:List Nat)(e:Env):agc wr e e:=fun _ _=>rfl
theorem agc.trans{wr:List Nat}{e1 e2 e3:Env}(h:agc wr e1 e2)(h' :agc wr e2 e3):agc wr e1 e3:=fun t Z=>(h' t Z).trans (h t Z)
theorem agc.mono{wr wr' :List Nat}{H :Env}(h:agc wr e H)(I:∀t,t∈wr->t∈wr'):agc wr' e H :=fun t Z=>h t fun X=>Z (I t X)
theorem iV(a b:Env)(t:Nat)(h:∀e∈a,e.1≠t):aa (a++b) t=aa b t:=by
 induction a with
 |nil=>rfl
 |cons e r ih=>
  obtain⟨k,v⟩:=e;simp only[List.cons_append,aa];rw[if_neg (h (k,v) (by simp))];exact ih fun e Z=>h e (by simp[Z])
theorem gR(l:List Nat)(g:Nat->AV)(b:Env)(t:Nat)(h:t∈l):aa (l.map (fun t=>(t,g t))++b) t=g t:=by
 induction l with
 |nil=>cases h
 |cons x r ih=>
  simp only[List.map_cons,List.cons_append,aa];by_cases Z:x=t
  .subst Z;rw[if_pos rfl]
  .rw[if_neg Z]
   exact ih (by cases h with
    |head=>exact absurd rfl Z
    |tail _ h=>exact h)
theorem sX{lv wr:List Nat}{env:Env}(h:agc wr z' env)(t:Nat):aa (au lv wr z' env) t=aa env t\/aa (au lv wr z' env) t=.undef:=by
 unfold au;rw[S2];by_cases X:t∈lv
 .rw[gR lv (fun t=>aa env t) _ t X];exact .inl rfl
 .rw[iV _ _ t (by intro e Z;simp only[QQd] at Z;obtain⟨x,V,rfl⟩:=Z;intro e;exact X (e▸V))]
  by_cases U:t∈wr
  .rw[gR (wr.filter fun t=> !lv.contains t) (fun _=>AV.undef) _ t (by rw[List.mem_filter];exact⟨U,by simpa using X⟩)];exact .inr rfl
  .rw[iV _ _ t (by intro e Z;simp only[QQd,List.mem_filter] at Z;obtain⟨x,V,rfl⟩:=Z;intro e;exact U (e▸V.1))]
   exact .inl (h t U).symm
theorem oM{lv wr:List Nat}{env:Env}(H:agc wr z' env):agc wr z' (au lv wr z' env):=by
 intro t V;unfold au;rw[S2];by_cases U:t∈lv
 .rw[gR lv (fun t=>aa env t) _ t U];exact H t V
 .rw[iV _ _ t (by intro e Z;simp only[QQd] at Z;obtain⟨x,X,rfl⟩:=Z;intro e;exact U (e▸X)),
   iV _ _ t (by intro e Z;simp only[QQd,List.mem_filter] at Z;obtain⟨x,X,rfl⟩:=Z;intro e;exact V (e▸X.1))]
theorem DG{wr:List Nat}{o:Oper}{v:AV}(h:∀d,o.dst=some d->d∈wr):agc wr e (agm e o.dst v):=by intro t Z;exact LG fun X=>Z (h t X)
theorem qm{m0:Nat}{ops:Array Oper}:∀{l:List Oper}{s s' :XS},cr T O N m0 ops l s=some s' ->agc (l.filterMap (·.dst)) s.env s'.env
 | [],s,s',h=>by cases h;exact .refl _ _
 |o::os,s,s',h=>by
  have X:∀t,t∈os.filterMap (·.dst)->t∈(o::os).filterMap (·.dst):=fun t V=>by
   rw[List.filterMap_cons];split
   .exact V
   .exact List.mem_cons_of_mem _ V
  have Z:∀d,o.dst=some d->d∈(o::os).filterMap (·.dst):=fun d Z=>by rw[List.filterMap_cons];simp[Z]
  unfold cr at h;split at h
  .split at h
   .split at h
    .exact(DG Z).trans ((qm h).mono X)
    .cases h
   .exact(DG Z).trans ((qm h).mono X)
   .cases h
  .cases h
theorem LY{ops:Array Oper}:∀{l:List Oper} {env:Env} {mem:Mem} {R:List Rec}{I :Env}{H :Mem},mH P T N ops l env mem R I H ->agc (l.filterMap (·.dst)) env I
 | [],_,_,[],_,_,h=>by obtain⟨rfl,_⟩:=h;exact .refl _ _
 |o::os,_,_,r::rs,_,_,h=>by
  obtain⟨rfl,_,_,V⟩:=h;have U:∀t,t∈os.filterMap (·.dst)->t∈(o::os).filterMap (·.dst):=fun t X=>by
   rw[List.filterMap_cons];split
   .exact X
   .exact List.mem_cons_of_mem _ X
  have Z:∀d,o.dst=some d->d∈(o::os).filterMap (·.dst):=fun d Z=>by rw[List.filterMap_cons];simp[Z]
  exact(DG Z).trans ((LY V).mono U)
 | [],_,_,_::_,_,_,h=>h.elim
 |_::_,_,_,[],_,_,h=>h.elim
theorem L7(H:afs P O){m0:Nat}{ops:Array Oper}{s s' :XS}(h:aN T O N m0 ops s=some s'):agc (ops.toList.filterMap (·.dst)) s.env s'.env:=by
 unfold aN at h;simp only at h;split at h
 .cases h
 .rename_i R env mem Z
  split at h
  .cases h
   obtain⟨V,e,X⟩:=qo H Z;exact LY X
  .cases h
mutual
theorem afx.refs{μ:Nat->Place}{n:Nat}:∀{v V},afx μ n v V->v.refs n=[]
 |.undef,_,_=>rfl
 |.bool _,_,_=>rfl
 |.int _ _,_,_=>rfl
 |.str _,_,_=>rfl
 |.ptr b o,V,h=>by simp only[afx] at h;simp[AV.refs,h.1]
 |.afL,_,_=>rfl
 |.slice b o l c,V,h=>by simp only[afx] at h;simp[AV.refs,h.1]
 |.kO,_,_=>rfl
 |.map b,V,h=>by simp only[afx] at h;simp[AV.refs,h.1]
 |.yield b,V,h=>by simp only[afx] at h;simp[AV.refs,h.1]
 |.afV,_,_=>rfl
 |.func f Z,V,h=>by simp only[afx] at h;obtain⟨X,_,h⟩:=h;simp[AV.refs,afy.refs h]
 |.nilFunc,_,_=>rfl
 |.iface t v,V,h=>by simp only[afx] at h;obtain⟨U,_,h⟩:=h;simp[AV.refs,afx.refs h]
 |.nilIface,_,_=>rfl
 |.agg Z,V,h=>by simp only[afx] at h;obtain⟨X,_,h⟩:=h;simp[AV.refs,afy.refs h]
 |.tuple Z,V,h=>by simp only[afx] at h;obtain⟨X,_,h⟩:=h;simp[AV.refs,afy.refs h]
theorem afy.refs{μ:Nat->Place}{n:Nat}:∀{vs Us},afy μ n vs Us->AV.afN n vs=[]
 | [],_,_=>rfl
 |v::vs,_,h=>by simp only[afy] at h;obtain⟨U,V,_,Z,X⟩:=h;simp[AV.afN,afx.refs Z,afy.refs X]
end
mutual
theorem AV.afP{H:Nat}{ks:List Nat}:∀{v:AV},v.refs H=[]->v.ren (rho H ks)=v
 |.undef,_=>rfl
 |.bool _,_=>rfl
 |.int _ _,_=>rfl
 |.str _,_=>rfl
 |.ptr b o,h=>by
  have Z:b<H:=by
   by_cases Z:b<H
   .exact Z
   .simp[AV.refs,Z] at h
  simp[AV.ren,rho,Z]
 |.afL,_=>rfl
 |.slice b o l c,h=>by
  have Z:b<H:=by
   by_cases Z:b<H
   .exact Z
   .simp[AV.refs,Z] at h
  simp[AV.ren,rho,Z]
 |.kO,_=>rfl
 |.map b,h=>by
  have Z:b<H:=by
   by_cases Z:b<H
   .exact Z
   .simp[AV.refs,Z] at h
  simp[AV.ren,rho,Z]
 |.yield b,h=>by
  have Z:b<H:=by
   by_cases Z:b<H
   .exact Z
   .simp[AV.refs,Z] at h
  simp[AV.ren,rho,Z]
 |.afV,_=>rfl
 |.func f X,h=>by simp only[AV.refs] at h;simp[AV.ren,AV.agd h]
 |.nilFunc,_=>rfl
 |.iface t v,h=>by simp only[AV.refs] at h;simp[AV.ren,AV.afP h]
 |.nilIface,_=>rfl
 |.agg X,h=>by simp only[AV.refs] at h;simp[AV.ren,AV.agd h]
 |.tuple X,h=>by simp only[AV.refs] at h;simp[AV.ren,AV.agd h]
theorem AV.agd{H:Nat}{ks:List Nat}:∀{vs:List AV},AV.afN H vs=[]->AV.afR (rho H ks) vs=vs
 | [],_=>rfl
 |v::vs,h=>by simp only[AV.afN,List.append_eq_nil_iff] at h;simp[AV.afR,AV.afP h.1,AV.agd h.2]
end
variable{ks:List Nat}{m1:Nat}
theorem afz.afP{s:afz}(h:s.refs m1=[]):s.ren (rho m1 ks)=s:=by
 cases s with
 |y9=>rfl
 |cells own es cs=>simp only[afz.refs] at h;simp only[afz.ren,AV.agd h]
 |map es=>
  simp only[afz.refs,List.flatMap_eq_nil_iff] at h;simp only[afz.ren];congr 1;conv=>rhs;rw[<-List.map_id es]
  apply List.map_congr_left;intro e Z;have:=h e Z;rw[List.append_eq_nil_iff] at this;rw[AV.afP this.1,AV.afP this.2];rfl
 |af6 es=>
  simp only[afz.refs,List.flatMap_eq_nil_iff] at h;simp only[afz.ren];congr 1;conv=>rhs;rw[<-List.map_id es]
  apply List.map_congr_left;intro e Z;have:=h e Z;rw[List.append_eq_nil_iff] at this;rw[AV.afP this.1,AV.afP this.2];rfl
 |loop r=>
  simp only[afz.refs,List.flatMap_eq_nil_iff] at h;simp only[afz.ren,sD];congr 1;have:r.env.map (fun e=>(e.1,e.2.ren (rho m1 ks)))=r.env:=by
   conv=>rhs;rw[<-List.map_id r.env]
   apply List.map_congr_left;intro e Z;rw[AV.afP (h e Z)];rfl
  rw[this]
variable{Q:Exit->St->Prop}
theorem AWP.assume{c:Code}{H:St}(h:m0<=H.mem.length->(∀t,(aa H.env t).refs H.mem.length=[])->AWP P tp N m0 c H Q):AWP P tp N m0 c H Q:=
 fun ro h0 base μ w a hro h1 h2 h3 h4 h5=>h h5 (fun t=>(h2 t).refs) ro h0 base μ w a hro h1 h2 h3 h4 h5
theorem Lh{mem:Mem}(h:(mem.take m1).all (fun s=>(s.refs m1).isEmpty)=true):afH m1 ks mem=mem.take m1++agp m1 ks mem:=by
 unfold afH;congr 1;conv=>rhs;rw[<-List.map_id (mem.take m1)]
 apply List.map_congr_left;intro s Z;have:=List.all_eq_true.1 h s Z;rw[List.isEmpty_iff] at this;rw[afz.afP this];rfl
variable{lw:List Nat}
section
variable{wr:List Nat}
include wr
theorem sY{g:Nat->AV}(t:Nat):
  aa ((lw.filter fun t=>wr.contains t).map (fun t=>(t,g t))++((wr.filter fun t=> !lw.contains t).map fun t=>(t,AV.undef))++z') t=
   if t∈wr then (if t∈lw then g t else .undef) else aa z' t:=by
 rw[S2];by_cases X:t∈wr
 .by_cases V:t∈lw
  .rw[if_pos X,if_pos V]
   exact gR _ g _ t (by rw[List.mem_filter];exact⟨V,by simpa using X⟩)
  .rw[if_pos X,if_neg V,iV _ _ t (by intro e Z;simp only[QQd,List.mem_filter] at Z;obtain⟨x,U,rfl⟩:=Z;intro e;exact V (e▸U.1))]
   exact gR (wr.filter fun t=> !lw.contains t) (fun _=>AV.undef) _ t (by rw[List.mem_filter];exact⟨X,by simpa using V⟩)
 .rw[if_neg X,iV _ _ t (by intro e Z;simp only[QQd,List.mem_filter] at Z;obtain⟨x,U,rfl⟩:=Z;intro e;exact X (e▸by simpa using U.2)),
   iV _ _ t (by intro e Z;simp only[QQd,List.mem_filter] at Z;obtain⟨x,U,rfl⟩:=Z;intro e;exact X (e▸U.1))]
theorem RD{s:XS}(h:agc wr z' s.env):agc wr z' (LN lw wr z' m1 s).env:=by
 unfold LN;simp only;split
 .intro t Z
  simp only;rw[sY,if_neg Z]
 .exact oM h
theorem FI{s:XS}(h:agc wr z' s.env):agc wr z' (nH lw wr z' m1 s).env:=by
 unfold nH;split
 .exact oM h
 .simp only
  split
  .intro t Z
   simp only;rw[sY,if_neg Z]
  .split
   .exact RD h
   .exact oM h
theorem NJ{s:XS}(H:m0<=m1):Clean m0 s.mem s.afS (nH lw wr z' m1 s).mem (nH lw wr z' m1 s).afS:=by
 unfold nH;split
 .exact .refl _ _ _
 .rename_i Z
  have Z:=fun h=>Z (.inr h)
  simp only;split
  .intro h
   refine⟨by simp only[Nm,M0];omega,fun e=>⟨e,?_⟩⟩;simp only;rw[QXY (by simp only[M0];omega),List.take_take];congr 1;omega
  .split
   .unfold LN
    simp only;split
    .intro h
     exact⟨by show m0<=(afH m1 _ s.mem).length;rw[fI (by omega)];omega,fun e=>by cases e⟩
    .exact .refl _ _ _
   .exact .refl _ _ _
theorem RR{s:XS}(h:agc wr z' s.env)(h0:∀t,(aa z' t).refs m1=[])(H:m0<=m1)(I:m1<=s.mem.length):
  agr m0 ⟨s.env,s.mem⟩ ⟨(LN lw wr z' m1 s).env,(LN lw wr z' m1 s).mem⟩:=by
 unfold LN;simp only;split
 .rename_i U
  obtain⟨ks,V⟩:=xE (qM m1 s.mem 1000 ((lw.flatMap fun t=>(aa s.env t).refs m1)++(s.mem.take m1).flatMap (afz.refs m1)) []);rw[<-V] at U |-;have S:agr m0 ⟨s.env,s.mem⟩ ⟨sD (rho m1 ks) s.env,afH m1 ks s.mem⟩:=by intro base μ w tmps Z X h3;obtain⟨μ1,R,M,G,F⟩:=agr.afH (env:=s.env) _ U base μ w tmps Z X I;exact⟨μ1,R,M,Y2 H G,F.mono H⟩
  refine S.trans (agr.env fun t=>?_);rw[sY,iW];by_cases Z:t∈wr
  .rw[if_pos Z]
   by_cases X:t∈lw
   .rw[if_pos X];exact .inl rfl
   .rw[if_neg X];exact .inr rfl
  .rw[if_neg Z,h t Z,AV.afP (h0 t)];exact .inl rfl
 .exact agr.env fun t=>sX h t
theorem RS{s:XS}(h:agc wr z' s.env)(h0:∀t,(aa z' t).refs m1=[])(H:m0<=m1):
  agr m0 ⟨s.env,s.mem⟩ ⟨(nH lw wr z' m1 s).env,(nH lw wr z' m1 s).mem⟩:=by
 unfold nH;split
 .exact agr.env fun t=>sX h t
 .rename_i U
  have U:=fun h=>U (.inr h)
  simp only;split
  .rename_i S
   rw[Ar] at S;obtain⟨M,G⟩:=S;have R:agr m0 ⟨s.env,s.mem⟩ ⟨sD (rho m1 (qM m1 s.mem 1000 (lw.flatMap fun t=>(aa s.env t).refs m1) [])) s.env,afH m1 (qM m1 s.mem 1000 (lw.flatMap fun t=>(aa s.env t).refs m1) []) s.mem⟩:=by
    intro base μ w tmps Z X h3;have V :m1<=s.mem.length:=by omega
    obtain⟨μ1,F,D,C,B⟩:=agr.afH (env:=s.env) _ M base μ w tmps Z X V;exact⟨μ1,F,D,Y2 H C,B.mono H⟩
   rw[Lh G] at R;refine R.trans (agr.env fun t=>?_);rw[sY,iW];by_cases Z:t∈wr
   .rw[if_pos Z]
    by_cases X:t∈lw
    .rw[if_pos X];exact .inl rfl
    .rw[if_neg X];exact .inr rfl
   .rw[if_neg Z,h t Z,AV.afP (h0 t)];exact .inl rfl
  .split
   .exact RR h h0 H (by omega)
   .exact agr.env fun t=>sX h t
end
variable{f:XS->Option (Exit×XS)}
theorem Uw{b:Code}(hf:∀s e s',f s=some (e,s')->agc (ae b) s.env s'.env):
  ∀(k:Nat) (s:XS) (e:Exit) (s' :XS),agc (ae b) z' s.env->ga lw (ae b) z' m1 f k s=some (e,s')->agc (ae b) z' s'.env:=by
 intro k;induction k with
 |zero=>intro s e s' _ h;cases h
 |succ k ih=>
  intro s e s' Z h;unfold ga at h;split at h
  .rename_i V X
   exact ih _ _ _ (FI (Z.trans (hf _ _ _ X))) h
  .exact Z.trans (hf _ _ _ h)
theorem Rh{b:Code}(hf:∀s e s',f s=some (e,s')->Zl P tp N m0 b s e s')(H:m0<=m1):
  ∀(k:Nat) (s:XS) (e:Exit) (s' :XS),ga lw (ae b) z' m1 f k s=some (e,s')->Clean m0 s.mem s.afS s'.mem s'.afS:=by
 intro k;induction k with
 |zero=>intro s e s' h;cases h
 |succ k ih=>
  intro s e s' h;unfold ga at h;split at h
  .rename_i V Z
   obtain⟨_,X⟩:=hf _ _ _ Z;exact(X.trans (NJ H)).trans (ih _ _ _ h)
  .exact(hf _ _ _ h).2
theorem Ri{b:Code}(hf:∀s e s',f s=some (e,s')->Zl P tp N m0 b s e s' /\agc (ae b) s.env s'.env)(h0:∀t,(aa z' t).refs m1=[])(I:m0<=m1)(k:Nat)(s:XS)(e:Exit)(s' :XS)(H:agc (ae b) z' s.env)(h:ga lw (ae b) z' m1 f k s=some (e,s'))(hq:Q e ⟨s'.env,s'.mem⟩):AWP P tp N m0 (.loop b) ⟨s.env,s.mem⟩ Q:=by
 refine Wn (σ:=Nat) (fun k S=>∃s,S=⟨s.env,s.mem⟩/\agc (ae b) z' s.env/\ga lw (ae b) z' m1 f k s=some (e,s')) id (s:=k) ⟨s,rfl,H,h⟩ ?_;rintro k S ⟨s,rfl,H,hk⟩;cases k with
 |zero=>cases hk
 |succ k=>
  unfold ga at hk;split at hk
  .rename_i X M
   obtain⟨⟨G,_⟩,R⟩:=hf _ _ _ M;refine AWP.ahV (G (fun e Z=>e=.normal/\Z=⟨X.env,X.mem⟩) ⟨rfl,rfl⟩) ?_;rintro V Z ⟨rfl,rfl⟩;exact⟨⟨(nH lw (ae b) z' m1 X).env,(nH lw (ae b) z' m1 X).mem⟩,RS (H.trans R) h0 I,k,⟨_,rfl,FI (H.trans R),hk⟩,Nat.lt_succ_self k⟩
  .rename_i F
   have U :e≠ .normal:=by rintro rfl;exact F s' hk
   refine((hf _ _ _ hk).1.1 (fun V Z=>V=e/\Z=⟨s'.env,s'.mem⟩) ⟨rfl,rfl⟩).mono ?_;rintro V Z ⟨rfl,rfl⟩;cases V<;>first | exact absurd rfl U | exact hq
theorem fT(H:afs P O):∀{c:Code} {s:XS} {e:Exit}{s' :XS},aO T lv O K N m0 tp c s=some (e,s')->agc (ae c) s.env s'.env
 |.skip,s,e,s',h=>by simp only[aO,Mp,Prod.mk.injEq] at h;obtain⟨_,rfl⟩:=h;exact .refl _ _
 |.exit id,s,e,s',h=>by simp only[aO,Mp,Prod.mk.injEq] at h;obtain⟨_,rfl⟩:=h;exact .refl _ _
 |.ret,s,e,s',h=>by simp only[aO,Mp,Prod.mk.injEq] at h;obtain⟨_,rfl⟩:=h;exact .refl _ _
 |.region id ops false,s,e,s',h=>by
  unfold aO at h;split at h
  next V X=>cases h;exact qm X
  .cases h
 |.region id ops true,s,e,s',h=>by
  unfold aO at h;split at h
  next V X=>cases h;exact L7 H X
  .cases h
 |.seq x y,s,e,s',h=>by
  unfold aO at h;split at h
  .rename_i V X
   exact((fT H X).mono fun t Z=>by simp[ae,Z]).trans ((fT H h).mono fun t Z=>by simp[ae,Z])
  .exact(fT H h).mono fun t Z=>by simp[ae,Z]
 |.cond c x y,s,e,s',h=>by
  unfold aO at h;split at h
  .exact(fT H h).mono fun t Z=>by simp[ae,Z]
  .exact(fT H h).mono fun t Z=>by simp[ae,Z]
  .cases h
 |.block id b,s,e,s',h=>by
  show agc (ae b) s.env s'.env
  unfold aO at h;split at h
  .rename_i i V X
   split at h
   .cases h;exact fT H X
   .cases h;exact fT H X
  .exact fT H h
 |.loop b,s,e,s',h=>by
  show agc (ae b) s.env s'.env
  unfold aO at h;exact Uw (fun s e s' h=>fT H h) _ _ _ _ (oM (.refl _ _)) h
 |.rangeFunc g ps asg body,s,e,s',h=>by
  unfold aO at h;split at h
  .split at h
   .split at h
    .simp only at h
     split at h
     .split at h
      .cases h
      .split at h
       .cases h;exact .refl _ _
       .cases h
     .cases h
    .cases h
   .cases h
  .cases h
 |.label _,s,e,s',h=>by cases h
 |.goto _,s,e,s',h=>by cases h
 |.scope _,s,e,s',h=>by cases h
 |.refuse _,s,e,s',h=>by cases h
theorem dN(I:P.follows .mixedOrders=true)(hT:dS P T)(H:afs P O):∀{c:Code} {s:XS} {e:Exit}{s' :XS},dm c=true->aO T lv O K N m0 tp c s=some (e,s')->Zl P tp N m0 c s e s'
 |.skip,s,e,s',hst,h=>by simp only[aO,Mp,Prod.mk.injEq] at h;obtain⟨rfl,rfl⟩:=h;exact⟨fun Q Z=>Wo Z,.refl _ _ _⟩
 |.exit id,s,e,s',hst,h=>by simp only[aO,Mp,Prod.mk.injEq] at h;obtain⟨rfl,rfl⟩:=h;exact⟨fun Q Z=>Wm Z,.refl _ _ _⟩
 |.ret,s,e,s',hst,h=>by simp only[aO,Mp,Prod.mk.injEq] at h;obtain⟨rfl,rfl⟩:=h;exact⟨fun Q Z=>XD Z,.refl _ _ _⟩
 |.region id ops false,s,e,s',hst,h=>by
  unfold aO at h;split at h
  .rename_i R S
   cases h;obtain⟨X,V⟩:=kR H S;exact⟨fun Q Z=>Q5 hT X Z,V⟩
  .cases h
 |.region id ops true,s,e,s',hst,h=>by
  unfold aO at h;split at h
  .rename_i R S
   cases h;obtain⟨X,V⟩:=Hv I hT H hst S;exact⟨fun Q Z=>X tp id Q Z,V⟩
  .cases h
 |.seq x y,s,e,s',hst,h=>by
  unfold aO at h;split at h
  .rename_i R S
   simp only[dm,Ar] at hst;obtain⟨X,V⟩:=dN I hT H hst.1 S;obtain⟨b1,b2⟩:=dN I hT H hst.2 h;exact⟨fun Q Z=>yr (X _ (b1 Q Z)),V.trans b2⟩
  .rename_i M
   simp only[dm,Ar] at hst;obtain⟨X,V⟩:=dN I hT H hst.1 h;refine⟨fun Q Z=>yr (X _ ?_),V⟩;cases e<;>first | exact absurd h (M s') | exact Z
 |.cond c x y,s,e,s',hst,h=>by
  unfold aO at h;split at h
  .rename_i G
   simp only[dm,Ar] at hst;obtain⟨X,V⟩:=dN I hT H hst.1 h;exact⟨fun Q Z=>OA G (fun _=>X Q Z) (fun e=>by cases e),V⟩
  .rename_i G
   simp only[dm,Ar] at hst;obtain⟨X,V⟩:=dN I hT H hst.2 h;exact⟨fun Q Z=>OA G (fun e=>by cases e) (fun _=>X Q Z),V⟩
  .cases h
 |.block id b,s,e,s',hst,h=>by
  unfold aO at h;split at h
  .rename_i i R S
   obtain⟨X,V⟩:=dN I hT H (by simpa only[dm] using hst) S;split at h
   .rename_i F
    cases h;exact⟨fun Q Z=>CB (X _ (by simp only[OC];rw[if_pos F];exact Z)),V⟩
   .rename_i F
    cases h;exact⟨fun Q Z=>CB (X _ (by simp only[OC];rw[if_neg F];exact Z)),V⟩
  .rename_i M
   obtain⟨X,V⟩:=dN I hT H (by simpa only[dm] using hst) h;refine⟨fun Q Z=>CB (X _ ?_),V⟩;cases e<;>first | exact absurd h (M _ s') | exact Z
 |.loop b,s,e,s',hst,h=>by
  unfold aO at h;have j:∀s e s',aO T lv O K N m0 tp b s=some (e,s')->Zl P tp N m0 b s e s' /\agc (ae b) s.env s'.env:=fun s e s' h=>⟨dN I hT H (by simpa only[dm] using hst) h,fT H h⟩
  refine⟨fun Q Z=>AWP.assume fun U D=>Wp (agr.env fun t=>sX (.refl _ _) t) (Ri j D U _ _ _ _ (oM (.refl _ _)) h Z),fun U=>?_⟩;exact Rh (fun s e s' h=>(j s e s' h).1) U _ ⟨au (lv b) (ae b) s.env s.env,s.mem,s.afS⟩ _ _ h U
 |.rangeFunc g ps asg body,s,e,s',hst,h=>by
  unfold aO at h;split at h
  .rename_i C
   subst C;split at h
   .rename_i f Y hg
    split at h
    .rename_i r W
     simp only at h;split at h
     .rename_i r2 B
      split at h
      .cases h
      .rename_i J
       split at h
       .rename_i e1 D
        cases h;have C':=yH H W;refine⟨fun Q Z=>GY hg ((H.fn _ _ _ _ W).mono ?_),fun U=>⟨?_,fun u=>?_⟩⟩
        .rintro v m ⟨rfl,rfl⟩
         exact⟨r2,e,B,fun e=>J (by rw[e];rfl),D,Z⟩
        .simp only[QQZ]
         simp only[Nm] at C';omega
        .simp only[Bool.or_eq_false_iff,Option.isSome_eq_false_iff,Option.isNone_iff_eq_none] at u
         refine⟨u.1,vH U ?_ fun b J=>?_⟩
         .simp only[QQZ]
          simp only[Nm] at C';omega
         .have o :b<s.mem.length:=by omega
          show((r.mem _).set s.mem.length _)[b]? =_
          rw[QQK (by omega)];unfold afw.mem;rw[u.2];simp only[Option.getD_none];rw[S2,GE o]
       .cases h
     .cases h
    .cases h
   .cases h
  .cases h
 |.label _,s,e,s',hst,h=>by cases h
 |.goto _,s,e,s',hst,h=>by cases h
 |.scope _,s,e,s',hst,h=>by cases h
 |.refuse _,s,e,s',hst,h=>by cases h
structure agQ (P:Program)(G:FuncId->Option Func):Prop where
 fn:∀f fn,G f=some fn->P.funcs[f]? =some fn/\(fn.name == "runtime.NumGoroutine")=false/\∀c,fn.body=some c->dm c=true
section
variable (hm:P.follows .mixedOrders=true)(hT:dS P T)(hO:afs P O)
include hm hT hO
theorem aB{G:FuncId->Option Func}(H:agQ P G){f:FuncId}{args:List AV}{mem:Mem}{r:afw}(h:ad T lv G O K f args mem=some r):bz P f args mem r.v (r.mem mem)/\∀p,r.pre=some p->p.length=mem.length:=by
 unfold ad at h;split at h
 .cases h
 .rename_i fn S
  obtain⟨g1,F,g3⟩:=H.fn _ _ S;split at h
  .cases h
  .rename_i c R
   split at h
   .rename_i D
    split at h
    .rename_i e s y
     obtain⟨C,u⟩:=dN hm hT hO (g3 c R) y;obtain⟨j,o⟩:=u (Es _);have X:(e=.normal\/e=.ret)->(match jG T fn.results.toList s.env s.mem with
      |some v=>
       let m0:=mem.length
       if s.afS then
        let ks:=qM m0 s.mem 1000 (v.refs m0++(s.mem.take m0).flatMap (afz.refs m0)) []
        if EI m0 s.mem.length ks then
         some ⟨v.ren (rho m0 ks),some ((s.mem.take m0).map (afz.ren (rho m0 ks))),agp m0 ks s.mem⟩
        else none
       else
        let ks:=qM m0 s.mem 1000 (v.refs m0) []
        if EI m0 s.mem.length ks then
         some ⟨v.ren (rho m0 ks),none,agp m0 ks s.mem⟩
        else none
      |none=>none:Option afw)=some r->bz P f args mem r.v (r.mem mem)/\∀p,r.pre=some p->p.length=mem.length:=by
      intro V h;split at h
      .rename_i v B
       simp only at h;split at h
       .split at h
        .rename_i Z
         cases h;refine⟨af8.intro hT g1 R F D (C _ ⟨V,v,B,_,Z,.inr ⟨rfl,rfl⟩⟩),fun p M=>?_⟩;cases M;simp only[QQm,M0];omega
        .cases h
       .rename_i m
        split at h
        .rename_i Z
         cases h;have U :=(o (by simpa using m)).2;rw[An (Es _)] at U;exact⟨af8.intro hT g1 R F D (C _ ⟨V,v,B,_,Z,.inl ⟨U,rfl,rfl⟩⟩),fun p M=>by cases M⟩
        .cases h
      .cases h
     split at h
     .exact X (.inl rfl) h
     .exact X (.inr rfl) h
     .cases h
    .cases h
   .cases h
theorem pT{b:Nat}{args:List AV}{mem:Mem}{r:afw}(h:yv T lv O K b args mem=some r):gp P b args mem r.v (r.mem mem)/\∀p,r.pre=some p->p.length=mem.length:=by
 unfold yv at h;split at h
 .rename_i H X
  split at h
  .rename_i M
   simp only[Ar,Cs,List.all_eq_true] at M;obtain⟨⟨⟨⟨G,F⟩,D⟩,C⟩,B⟩:=M;have Z:∀{x:LoopState},(x== .ready)=true->x=.ready:=fun {x} h=>by cases x<;>first | rfl | cases h
   split at h
   .rename_i s1 y
    obtain⟨u,o⟩:=dN hm hT hO C y;split at h
    .rename_i r1 V
     split at h
     .rename_i U
      split at h
      .rename_i e s2 m
       obtain⟨Y,W⟩:=dN hm hT hO B m;split at h
       .rename_i j r2 J S
        simp only at h;split at h
        .rename_i R
         cases h;obtain⟨d1,_⟩:=o (Es _);obtain⟨d2,_⟩:=W (by simpa using d1);refine⟨agj.intro X (Z G) F D (u _ ⟨rfl,r1,V,Z U,Y _ ⟨r2,j,_,J,S,R,rfl,rfl⟩⟩),fun p I=>?_⟩;cases I;simp only[QQm,M0,QQZ];omega
        .cases h
       .cases h
      .cases h
     .cases h
    .cases h
   .cases h
  .cases h
 .cases h
end
theorem pS(H:P.follows .mixedOrders=true)(hT:dS P T){G:FuncId->Option Func}(J:agQ P G)(I:afs P O):∀n,afs P (EC T lv G O K n)
 |0=>I
 |n+1=>by
  have V:=pS H hT J I n;have X:∀c Z mem r,EC T lv G O K (n+1) c Z mem=some r->O c Z mem=some r\/(match c with
   |.fn f=>ad T lv G (EC T lv G O K n) K f Z mem
   |.yld b=>yv T lv (EC T lv G O K n) K b Z mem)=some r:=by
   intro c Z mem r h;unfold EC at h;split at h
   next R S=>cases h;exact .inl S
   .exact .inr h
  refine⟨fun f Z mem r h=>?_,fun b Z mem r h=>?_,fun c Z mem r p h U=>?_⟩
  .rcases X _ _ _ _ h with h | h
   .exact I.fn _ _ _ _ h
   .exact(aB H hT V J h).1
  .rcases X _ _ _ _ h with h | h
   .exact I.yld _ _ _ _ h
   .exact(pT H hT V h).1
  .rcases X _ _ _ _ h with h | h
   .exact I.pre _ _ _ _ _ h U
   .cases c with
    |fn f=>exact(aB H hT V J h).2 p U
    |yld b=>exact(pT H hT V h).2 p U
end
end Go.Eng
namespace Go.Eng
def aL(P:Program)(t:TypeId):Option TyI:=
 match P.info? t,P.underlying t with
 |some i,some d=>match i.zero with
  |some z=>if z.cells.size=i.size then some ⟨d,i.size,i.bytes,z,!P.stoodInHeld t&& !P.eqGuardType P.depth t⟩ else none
  |none=>none
 |_,_=>none
theorem aI(P:Program):dS P (aL P):=by
 intro t i h;unfold aL at h;split at h
 .rename_i f d X V
  split at h
  .rename_i z U
   split at h
   .rename_i S
    cases h;refine⟨V,⟨f,X,rfl,rfl,U⟩,S,fun Z=>?_⟩;simp only[Ar,Bool.not_eq_true'] at Z;exact Z
   .cases h
  .cases h
 .cases h
def bq(P:Program)(f:FuncId):Option Func:=match P.funcs[f]? with
 |some fn=>if fn.name == "runtime.NumGoroutine" then none else match fn.body with
  |some c=>if dm c then some fn else none
  |none=>some fn
 |none=>none
theorem aQ(P:Program):agQ P (bq P):=by
 refine⟨fun f fn h=>?_⟩;unfold bq at h;split at h
 .rename_i S V
  split at h
  .cases h
  .rename_i U
   split at h
   .rename_i c X
    split at h
    .rename_i R
     cases h;refine⟨V,by simpa using U,fun Q Z=>?_⟩;rw[X] at Z;cases Z;exact R
    .cases h
   .rename_i X
    cases h;refine⟨V,by simpa using U,fun Q Z=>?_⟩;rw[X] at Z;cases Z
 .cases h
def bC:afu:=fun _ _ _=>none
theorem ar(P:Program):afs P bC:=⟨(fun _ _ _ _ h=>by cases h),(fun _ _ _ _ h=>by cases h),(fun _ _ _ _ _ h=>by cases h)⟩
structure afZ (w w' :World):Prop where
 size:w.heap.size<=w'.heap.size
 heap:∀k,k<w.heap.size->w'.heap[k]? =w.heap[k]?
 os:w'.os=w.os
 tape:w'.tape=w.tape
 output:w'.output=w.output
 drawn:w.drawn<=w'.drawn
section
variable {P:Program}{μ:Nat->Place}{mem:Mem}{base:Nat}{w w' :World}
theorem afZ.refl(w:World):afZ w w:=⟨Es _,fun _ _=>rfl,rfl,rfl,rfl,Es _⟩
theorem afZ.ah8(h:afZ w w')(H:afJ base μ mem w):afJ base μ mem w' :=by refine⟨Y2 H.afF h.size,fun b s Z=>?_,H.sep⟩;exact(H.slot b s Z).mono (Es _) (fun _ _=>rfl) fun X=>h.heap _ ((H.slot b s Z).agi X)
theorem afZ.step(h:afZ w w'){m0:Nat}(H:m0<=mem.length):Step m0 μ mem w μ mem w' :=
 ⟨H,fun _ _=>rfl,h.os,h.tape,h.output,h.size,fun k Z _=>h.heap k Z,fun b X _=>⟨b,X,rfl⟩,h.drawn⟩
theorem bz.aga{f:FuncId}{args:List AV}{Vs:List Value}{v:AV}{V:Value}(hf:Ms P f)(H:∀μ n Us,afy μ n args Us->Us=Vs)(I:∀μ n,afx μ n v V)(h:∀base w,GOk P base w->Calls P f ⟨Vs⟩ w fun e w' =>e=.returned V/\afZ w w')(mem:Mem):bz P f args mem v mem:=by refine⟨hf,fun base μ w Us hG hH hV=>?_⟩;rw[H _ _ _ hV];refine(h base w hG).mono ?_;rintro e w' ⟨rfl,hg⟩;exact⟨V,v,mem,μ,rfl,I _ _,hg.ah8 hH,hg.step (Es _),rfl,rfl⟩
theorem afZ.grow(w:World)(k:Nat)(os:Array Obj):afZ w { w with heap:=w.heap++os,drawn:=w.drawn+k }:=by
 refine⟨by simp,fun i hi=>?_,rfl,rfl,rfl,Nat.le_add_right _ _⟩;show(w.heap++os)[i]? =_
 rw[Array.getElem?_append_left hi]
mutual
def AV.closed:AV->Bool
 |.ptr _ _=>false
 |.slice _ _ _ _=>false
 |.map _=>false
 |.yield _=>false
 |.func _ Z=>AV.afA Z
 |.iface _ v=>v.closed
 |.agg Z=>AV.afA Z
 |.tuple Z=>AV.afA Z
 |_=>true
def AV.afA:List AV->Bool
 | []=>true
 |v::vs=>v.closed&&AV.afA vs
end
mutual
theorem afx.closed{μ μ' :Nat->Place}{n n' :Nat}:∀{v V},v.closed=true->afx μ n v V->afx μ' n' v V
 |.undef,V,_,_=>by simp[afx]
 |.bool b,V,_,h=>by simpa [afx] using h
 |.int k i,V,_,h=>by simpa [afx] using h
 |.str s,V,_,h=>by simpa [afx] using h
 |.ptr b o,V,hc,_=>by simp[AV.closed] at hc
 |.afL,V,_,h=>by simpa [afx] using h
 |.slice b o l c,V,hc,_=>by simp[AV.closed] at hc
 |.kO,V,_,h=>by simpa [afx] using h
 |.map b,V,hc,_=>by simp[AV.closed] at hc
 |.yield b,V,hc,_=>by simp[AV.closed] at hc
 |.afV,V,_,h=>by simpa [afx] using h
 |.func f X,V,hc,h=>by simp only[afx] at h |-;simp only[AV.closed] at hc;obtain⟨Z,rfl,h⟩:=h;exact⟨Z,rfl,afy.closed hc h⟩
 |.nilFunc,V,_,h=>by simpa [afx] using h
 |.iface t v,V,hc,h=>by simp only[afx] at h |-;simp only[AV.closed] at hc;obtain⟨U,rfl,h⟩:=h;exact⟨U,rfl,afx.closed hc h⟩
 |.nilIface,V,_,h=>by simpa [afx] using h
 |.agg X,V,hc,h=>by simp only[afx] at h |-;simp only[AV.closed] at hc;obtain⟨Z,rfl,h⟩:=h;exact⟨Z,rfl,afy.closed hc h⟩
 |.tuple X,V,hc,h=>by simp only[afx] at h |-;simp only[AV.closed] at hc;obtain⟨Z,rfl,h⟩:=h;exact⟨Z,rfl,afy.closed hc h⟩
theorem afy.closed{μ μ' :Nat->Place}{n n' :Nat}:∀{vs Us},AV.afA vs=true->afy μ n vs Us->afy μ' n' vs Us
 | [],Us,_,h=>by simpa [afy] using h
 |v::vs,Us,hc,h=>by simp only[AV.afA,Ar] at hc;simp only[afy] at h |-;obtain⟨U,Z,rfl,X,V⟩:=h;exact⟨U,Z,rfl,afx.closed hc.1 X,afy.closed hc.2 V⟩
end
theorem bz.lift{f:FuncId}{args:List AV}{v:AV}(H:AV.afA args=true)(I:v.closed=true)(h:bz P f args [] v [])(mem:Mem):bz P f args mem v mem:=by refine⟨h.1,fun base μ w Us hG hH hV=>?_⟩;have S:afJ base μ [] w:=⟨hH.afF,fun b s Z=>by simp at Z,fun b Q O X=>by obtain⟨s,Z,_⟩:=X;simp at Z⟩;refine(h.2 base μ w Us hG S (afy.closed H hV)).mono ?_;rintro e w' ⟨V,v',m',μ',rfl,q1,q2,q3,rfl,rfl⟩;have U:afZ w w' :=⟨q3.size,fun k R=>q3.frame k R fun b X=>by obtain⟨s,Z,_⟩:=X;simp at Z,q3.os,q3.tape,q3.output,q3.drawn⟩;exact⟨V,v',mem,μ,rfl,afx.closed I q1,U.ah8 hH,U.step (Es _),rfl,rfl⟩
variable{O:afu}
theorem bz.ahI{T:TypeId->Option TyI}{G:FuncId->Option Func}{K:Nat}(H:P.follows .mixedOrders=true)(hT:dS P T)(I:afs P O)(J:agQ P G){f:FuncId}{args:List AV}{v:AV}(W:AV.afA args=true)(Y:v.closed=true){lv:Code->List Nat}(h:ad T lv G O K f args []=some ⟨v,none,[]⟩)(mem:Mem):bz P f args mem v mem:=
 bz.lift W Y (aB H hT I J h).1 mem
def afu.or(O H :afu):afu:=fun c Z mem=>match O c Z mem with
 |some r=>some r
 |none=>H c Z mem
theorem afs.or{H :afu}(h:afs P O)(h' :afs P H):afs P (O.or H):=by
 have U:∀c Z mem r,O.or H c Z mem=some r->O c Z mem=some r\/H c Z mem=some r:=by
  intro c Z mem r V;unfold afu.or at V;split at V
  next R X=>cases V;exact .inl X
  .exact .inr V
 refine⟨fun f Z mem r V=>?_,fun b Z mem r V=>?_,fun c Z mem r p V S=>?_⟩
 .rcases U _ _ _ _ V with X | X
  .exact h.fn _ _ _ _ X
  .exact h'.fn _ _ _ _ X
 .rcases U _ _ _ _ V with X | X
  .exact h.yld _ _ _ _ X
  .exact h'.yld _ _ _ _ X
 .rcases U _ _ _ _ V with X | X
  .exact h.pre _ _ _ _ _ X S
  .exact h'.pre _ _ _ _ _ X S
def ai(F:FuncId->List AV->Option AV):afu:=fun c Z _=>match c with
 |.fn f=>match F f Z with
  |some v=>some ⟨v,none,[]⟩
  |none=>none
 |.yld _=>none
theorem bT{F:FuncId->List AV->Option AV}(h:∀f Z v,F f Z=some v->∀mem,bz P f Z mem v mem):afs P (ai F):=by
 refine⟨fun f Z mem r X=>?_,(fun b Z mem r X=>by cases X),fun c Z mem r p X V=>?_⟩
 .unfold ai at X
  simp only at X;split at X
  .rename_i v U
   cases X;have:=h f Z v U mem;simpa [afw.mem] using this
  .cases X
 .unfold ai at X
  split at X
  .split at X
   .cases X;cases V
   .cases X
  .cases X
end
end Go.Eng
