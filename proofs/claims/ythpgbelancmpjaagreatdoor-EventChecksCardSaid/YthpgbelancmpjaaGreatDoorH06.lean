/- See H38. -/
import Derived.Test.YthpgbelancmpjaaGreatDoorH04
import Derived.Lib.Atoi
import Derived.Lib.Strings
import Derived.Lib.Bytealg
import Derived.Lib.IndexLaws
set_option linter.all false
namespace Go.Eng
def T6(k:Nat):UInt8:=UInt8.ofNat (48+k)
def isD(c:UInt8):Bool:=decide (48<=c.toNat)&&decide (c.toNat<=57)
def WK:Nat->Nat->List UInt8->List UInt8
 |0,_,acc=>acc
 |f+1,u,acc=>if u<10 then T6 u::acc else WK f (u / 10) (T6 (u%10)::acc)
def aj(u:Nat):List UInt8:=WK (u.log2+1) u []
theorem O1:∀(f u:Nat) (acc:List UInt8),u<2 ^ f->0<f->WK f u acc=Lib.decDigits u++acc
 |0,u,acc,_,h=>by omega
 |f+1,u,acc,h,_=>by
  unfold WK;by_cases Z:u<10
  .rw[if_pos Z,Lib.decDigits,dif_pos Z];rfl
  .rw[if_neg Z,Lib.decDigits,dif_neg Z]
   have X:0<f:=by
    cases f with
    |zero=>simp at h;omega
    |succ f=>omega
   rw[O1 f (u / 10) _ (by rw[Nat.pow_succ] at h;omega) X];simp[T6]
theorem vt(u:Nat):aj u=Lib.decDigits u:=by unfold aj;rw[O1 _ _ _ Nat.lt_log2_self (by omega)];simp
variable{u:Nat}
theorem gH(h:u<10):aj u=[T6 u]:=by rw[vt,Lib.decDigits,dif_pos h];rfl
theorem td(h:¬u<10):aj u=aj (u / 10)++[T6 (u%10)]:=by
 have e:Lib.decDigits u=Lib.decDigits (u / 10)++[UInt8.ofNat (48+u%10)]:=by
  conv=>lhs;rw[Lib.decDigits]
  rw[dif_neg h]
 unfold T6;rw[vt u,vt (u / 10),e]
def vN(a:Nat)(l:List UInt8):Nat:=l.foldl (fun a c=>10*a+(c.toNat-48)) a
theorem dR(a:Nat):vN a []=a:=by unfold vN;rw[List.foldl_nil]
theorem eR(a:Nat)(c:UInt8)(r:List UInt8):vN a (c::r)=vN (10*a+(c.toNat-48)) r:=by unfold vN;rw[List.foldl_cons]
def eP(l:List UInt8):Nat:=vN 0 l
theorem vJ:∀(l r:List UInt8) (a:Nat),vN a (l++r)=vN (vN a l) r
 | [],_,a=>by rw[List.nil_append,dR]
 |c::l,r,a=>by rw[List.cons_append,eR,eR,vJ l r]
theorem oP(l:List UInt8)(c:UInt8):eP (l++[c])=10*eP l+(c.toNat-48):=by unfold eP;rw[vJ,eR,dR]
variable{k:Nat}
theorem sQ(h:k<10):(T6 k).toNat=48+k:=by unfold T6;simp[UInt8.toNat_ofNat'];omega
theorem OH(h:k<10):isD (T6 k)=true:=by unfold isD;rw[sQ h];simp;omega
variable{c:UInt8}
theorem CK(h:isD c=true):T6 (c.toNat-48)=c:=by unfold isD at h;simp only[Ar,Cs] at h;unfold T6;apply UInt8.toNat_inj.1;simp[UInt8.toNat_ofNat'];omega
theorem tW(h:isD c=true):c.toNat-48<10:=by unfold isD at h;simp only[Ar,Cs] at h;omega
theorem xh{p:Nat->Prop}(h0:∀u,u<10->p u)(h1:∀u,¬u<10->p (u / 10)->p u)(u:Nat):p u:=by
 induction u using Nat.strongRecOn with
 |_ u ih=>
  by_cases h:u<10
  .exact h0 u h
  .exact h1 u h (ih (u / 10) (by omega))
theorem dP(u:Nat):eP (aj u)=u:=by
 induction u using xh with
 |h0 u h=>
  rw[gH h];unfold eP;rw[eR,dR,sQ h];omega
 |h1 u h ih=>rw[td h,oP,ih,sQ (by omega)];omega
theorem dM(u:Nat):(aj u).all isD=true:=by
 induction u using xh with
 |h0 u h=>rw[gH h];simp[OH h]
 |h1 u h ih=>rw[td h,List.all_append,ih];simp[OH (show u%10<10 by omega)]
theorem jC(u:Nat):aj u≠[]:=by
 induction u using xh with
 |h0 u h=>rw[gH h];simp
 |h1 u h ih=>rw[td h];simp
theorem mZ(u:Nat):0<(aj u).length:=List.length_pos_iff.2 (jC u)
theorem xg(u:Nat)(H:0<u):(aj u).head? ≠some 48:=by
 induction u using xh with
 |h0 u h=>
  rw[gH h];simp only[List.head?_cons,ne_eq,Mp];intro e;have:=congrArg UInt8.toNat e;rw[sQ h] at this;simp at this;omega
 |h1 u h ih=>
  rw[td h,List.head?_append];have:=ih (by omega);cases hh:(aj (u / 10)).head? with
  |none=>exact absurd (List.head?_eq_none_iff.1 hh) (jC _)
  |some x=>rw[hh] at this;simpa using this
theorem iI:aj 0=[48]:=by rw[gH (by omega)];rfl
def gA(l:List UInt8):Bool:=match l with
 | []=>false
 |c::r=>isD c&&r.all isD&&(!(c==48)||r.isEmpty)
theorem NF(u:Nat):gA (aj u)=true:=by
 have Z:=dM u;have X:=jC u;by_cases V:u=0
 .subst V;rw[iI];rfl
 .have h3:=xg u (by omega)
  cases hl:aj u with
  |nil=>exact absurd hl X
  |cons c r=>
   rw[hl] at Z h3;simp only[QQX,Ar] at Z;simp only[List.head?_cons,ne_eq,Mp] at h3;simp[gA,Z.1,Z.2,h3]
variable{l:List UInt8}
theorem ND(H:l≠[])(h:gA (l++[c])=true):gA l=true/\isD c=true/\l≠[48]:=by
 cases l with
 |nil=>exact absurd rfl H
 |cons x r=>
  simp only[List.cons_append,gA,List.all_append,QQX,List.all_nil,Bool.and_true,Ar] at h;obtain⟨⟨V,U,h3⟩,Z⟩:=h;have X:(x==48)=false:=by
   cases hx:x==48 with
   |false=>rfl
   |true=>rw[hx] at Z;simp at Z
  refine⟨by simp[gA,V,U,X],h3,?_⟩;intro e;cases e;simp at X
theorem Yj{p:List UInt8->Prop}(h0:p [])(h1:∀l c,p l->p (l++[c]))(l:List UInt8):p l:=by
 have:∀n (l:List UInt8),l.length=n->p l:=by
  intro n;induction n with
  |zero=>intro l Z;rw[GT Z];exact h0
  |succ n ih=>
   intro l Z;have X:l≠[]:=by intro e;rw[e] at Z;simp at Z
   rw[<-List.dropLast_concat_getLast X];exact h1 _ _ (ih _ (by simp[Z]))
 exact this _ l rfl
theorem sn(h:gA l=true):aj (eP l)=l:=by
 induction l using Yj with
 |h0=>cases h
 |h1 l c ih=>
  by_cases X:l=[]
  .subst X
   simp only[List.nil_append,gA,List.all_nil,Bool.and_true,List.isEmpty_nil,Bool.or_true] at h;unfold eP;rw[List.nil_append,eR,dR,Nat.mul_zero,QQY,gH (tW h),CK h]
  .obtain⟨h1,V,h3⟩:=ND X h
   have Z:=ih h1;have U:eP l≠0:=by intro e;rw[e,iI] at Z;exact h3 Z.symm
   have S:=tW V;rw[oP,td (by omega),show(10*eP l+(c.toNat-48)) / 10=eP l by omega,show(10*eP l+(c.toNat-48))%10=c.toNat-48 by omega,Z,CK V]
def xF(l:List UInt8):Option Nat:=if gA l then some (eP l) else none
theorem bu(u:Nat):xF (aj u)=some u:=by unfold xF;rw[if_pos (NF u),dP]
theorem gB(h:xF l=some u):l=aj u:=by
 unfold xF at h;split at h
 next Z=>cases h;exact(sn Z).symm
 .cases h
variable{v:Nat}
theorem AY(h:aj u=aj v):u=v:=by rw[<-dP u,h,dP]
theorem Dq(u:Nat)(H:0<u):10 ^ ((aj u).length-1)<=u:=by
 induction u using xh with
 |h0 u h=>rw[gH h];simp;omega
 |h1 u h ih=>
  rw[td h];have:=ih (by omega);have Z:=mZ (u / 10);simp only[Nm,List.length_singleton,Nat.add_sub_cancel];have e:10 ^ (aj (u / 10)).length=10 ^ ((aj (u / 10)).length-1)*10:=by rw[<-Nat.pow_succ];congr 1;omega
  rw[e];omega
theorem cf(u:Nat):u<10 ^ (aj u).length:=by rw[vt,Lib.decDigits_length];exact Lib.lt_pow_nDigits u
theorem ba(H:0<k)(h:u<10 ^ k):(aj u).length<=k:=by
 by_cases Z:u=0
 .subst Z;rw[iI];exact H
 .have V:=Dq u (by omega)
  have X:10 ^ ((aj u).length-1)<10 ^ k:=by omega
  have:=(Nat.pow_lt_pow_iff_right (by omega:1<10)).1 X;omega
def bH(n:Int):List UInt8:=match n with
 |.ofNat u=>aj u
 |.negSucc u=>45::aj (u+1)
theorem Ur(n:Int):bH n=Lib.itoa n:=by
 unfold Lib.itoa;cases n with
 |ofNat u=>rw[if_neg (by simp)];simp[bH,vt]
 |negSucc u=>rw[if_pos (Int.negSucc_lt_zero u)];simp[bH,vt]
def im(l:List UInt8):Option Int:=match l with
 |45::r=>match xF r with
  |some (u+1)=>some (.negSucc u)
  |_=>none
 |l=>match xF l with
  |some u=>some (.ofNat u)
  |none=>none
theorem qd(u:Nat):(aj u).head? ≠some 45:=by
 cases hl:aj u with
 |nil=>simp
 |cons c r=>
  have:=dM u;rw[hl] at this;simp only[QQX,Ar] at this;simp only[List.head?_cons,ne_eq,Mp];rintro rfl;exact absurd this.1 (by decide)
theorem ax(n:Int):im (bH n)=some n:=by
 cases n with
 |ofNat u=>
  have h:=qd u;simp only[bH];unfold im;split
  .rename_i r Z
   rw[Z] at h;simp at h
  .rw[bu]
 |negSucc u=>simp[bH,im,bu]
theorem bK{n:Int}(h:im l=some n):l=bH n:=by
 unfold im at h;split at h
 .split at h
  .rename_i Z
   cases h;simp[bH,gB Z]
  .cases h
 .split at h
  .rename_i Z
   cases h;simp[bH,gB Z]
  .cases h
theorem WD{m n:Int}(h:bH m=bH n):m=n:=by have:=ax m;rw[h,ax] at this;exact(QQc this).symm
theorem aR(n:Int):Lib.hasPrefix (bH n) [45]=decide (n<0):=by
 cases n with
 |ofNat u=>
  have h:=qd u;simp only[bH];cases hl:aj u with
  |nil=>exact absurd hl (jC u)
  |cons c r=>
   rw[hl] at h;simp only[List.head?_cons,ne_eq,Mp] at h;rw[show decide (Int.ofNat u<0)=false by simp];have Z :¬(45:UInt8)=c:=fun e=>h e.symm
   simp[Lib.hasPrefix,List.isPrefixOf,Z]
 |negSucc u=>simp[bH,Lib.hasPrefix,List.isPrefixOf,Int.negSucc_lt_zero]
theorem aC(n:Int):Lib.trimPrefix (bH n) [45]=aj n.natAbs:=by
 unfold Lib.trimPrefix;rw[aR];cases n with
 |ofNat u=>
  rw[show decide (Int.ofNat u<0)=false by simp];rfl
 |negSucc u=>simp[bH,Int.negSucc_lt_zero,Int.natAbs]
theorem Lk(h:isD c=true):Lib.digitVal c=some (c.toNat-48):=by unfold isD at h;simp only[Ar,Cs] at h;unfold Lib.digitVal;rw[if_pos h]
theorem zk:∀(l:List UInt8) (a:Nat),l.all isD=true->Lib.decFrom a l=some (vN a l)
 | [],a,_=>by rw[dR];rfl
 |c::r,a,h=>by simp only[QQX,Ar] at h;unfold Lib.decFrom;rw[Lk h.1,eR];simp only;rw[zk r _ h.2,SP]
theorem CJ(u:Nat):Lib.decNat (aj u)=some u:=by
 unfold Lib.decNat
 have h:(aj u).isEmpty=false:=by
  cases hl:aj u with
  |nil=>exact absurd hl (jC u)
  |cons=>rfl
 rw[h];simp only[Bool.false_eq_true,if_false];rw[zk _ _ (dM u)];exact congrArg some (dP u)
theorem n8(n:Int):Lib.atoi (bH n)=some n:=by
 cases n with
 |ofNat u=>
  have Z:=qd u;have X:=dM u;have h3:=CJ u;simp only[bH];cases hl:aj u with
  |nil=>exact absurd hl (jC u)
  |cons c r=>
   rw[hl] at Z X h3;simp only[List.head?_cons,ne_eq,Mp] at Z;simp only[QQX,Ar] at X;have V:¬c=43:=by rintro rfl;exact absurd X.1 (by decide)
   simp[Lib.atoi,Z,V,h3]
 |negSucc u=>
  simp[bH,Lib.atoi,CJ,Int.negSucc_eq]
theorem oJ(h:(aj u).length<(aj v).length):u<v:=by
 have X:=cf u;have Z:0<v:=by
  by_cases Z:v=0
  .subst Z
   rw[iI] at h;have:=mZ u;simp only[List.length_singleton] at h;omega
  .omega
 have V:=Dq v Z;have h3:10 ^ (aj u).length<=10 ^ ((aj v).length-1):=L9 (by omega) (by omega);exact QQi X (Y2 h3 V)
def j9(u v:Nat):Int:=if u<v then -1 else if v<u then 1 else 0
theorem vK:∀(l:List UInt8) (a:Nat),l.all isD=true->vN a l<(a+1)*10 ^ l.length
 | [],a,_=>by rw[dR];simp
 |c::r,a,h=>by simp only[QQX,Ar] at h;have Z:=tW h.1;have:=vK r (10*a+(c.toNat-48)) h.2;rw[eR];refine QQi this ?_;rw[List.length_cons,Nat.pow_succ,SP (10 ^ r.length) 10,<-QQk];exact QQe _ (by omega)
theorem UD:∀(l:List UInt8) (a:Nat),a*10 ^ l.length<=vN a l
 | [],a=>by rw[dR];simp
 |c::r,a=>by have:=UD r (10*a+(c.toNat-48));rw[eR];refine Y2 ?_ this;rw[List.length_cons,Nat.pow_succ,SP (10 ^ r.length) 10,<-QQk];exact QQe _ (by omega)
theorem om:∀(l r:List UInt8) (a:Nat),l.length=r.length->l.all isD=true->r.all isD=true->Lib.compareBytes l r=j9 (vN a l) (vN a r)
 | [],[],a,_,_,_=>by
  rw[dR];show(0:Int)=j9 a a
  unfold j9;rw[if_neg (by omega),if_neg (by omega)]
 | [],_::_,_,h,_,_=>by simp at h
 |_::_,[],_,h,_,_=>by simp at h
 |c::l,d::r,a,h,h1,h2=>by
  simp only[List.length_cons,Nat.add_right_cancel_iff] at h;simp only[QQX,Ar] at h1 h2;have V:∀{x y:UInt8}{l r:List UInt8},isD x=true->isD y=true->l.all isD=true->l.length=r.length->x<y->vN (10*a+(x.toNat-48)) l<vN (10*a+(y.toNat-48)) r:=by intro x y l r R Q O U S;have N:=vK l (10*a+(x.toNat-48)) O;have F:=UD r (10*a+(y.toNat-48));have M :x.toNat<y.toNat:=S;unfold isD at R Q;simp only[Ar,Cs] at R Q;rw[U] at N;have:(10*a+(x.toNat-48)+1)*10 ^ r.length<=(10*a+(y.toNat-48))*10 ^ r.length:=QQe _ (by omega);omega
  unfold Lib.compareBytes;rw[eR,eR];by_cases Z:c<d
  .rw[if_pos Z]
   have:=V h1.1 h2.1 h1.2 h Z;unfold j9;rw[if_pos this]
  .rw[if_neg Z]
   by_cases X:d<c
   .rw[if_pos X]
    have:=V h2.1 h1.1 h2.2 h.symm X;unfold j9;rw[if_neg (by omega),if_pos this]
   .rw[if_neg X]
    have K:¬c.toNat<d.toNat:=Z;have G:¬d.toNat<c.toNat:=X;have e:c.toNat=d.toNat:=by omega
    rw[e];exact om l r _ h h1.2 h2.2
theorem yy(h:(aj u).length=(aj v).length):Lib.compareBytes (aj u) (aj v)=j9 u v:=by
 have:=om (aj u) (aj v) 0 h (dM u) (dM v);rw[this];show j9 (eP (aj u)) (eP (aj v))=_
 rw[dP,dP]
def jI(n:Int):Int:=if n<0 then -1 else if n=0 then 0 else 1
def Mq(m n:Int):Int:=if m<n then -1 else if n<m then 1 else 0
theorem Ut(n:Int):bH n=[48]↔n=0:=by
 constructor
 .intro h;exact WD (h.trans (by rfl))
 .rintro rfl;rfl
theorem fD(n:Int):(bH n==[48])=decide (n=0):=by rw[Bool.eq_iff_iff];simp[Ut]
theorem rY(n:Int):0<(bH n).length:=by
 cases n with
 |ofNat u=>exact mZ u
 |negSucc u=>simp[bH]
theorem kL{n:Int}(h:0<n):bH (-n)=45::bH n:=by
 cases n with
 |ofNat u=>
  cases u with
  |zero=>simp at h
  |succ u=>rfl
 |negSucc u=>exact absurd h (by have:=Int.negSucc_lt_zero u;omega)
theorem Hg{n:Int}(h:n<0):(bH n).drop 1=bH (-n):=by have:=kL (n:= -n) (by omega);rw[Int.neg_neg] at this;rw[this];rfl
theorem gj{n:Int}(h:0<=n):bH n=aj n.natAbs:=by
 cases n with
 |ofNat u=>rfl
 |negSucc u=>exact absurd h (by have:=Int.negSucc_lt_zero u;omega)
theorem XE(a b:Int):Mq a b=if jI a≠jI b then (if jI a<jI b then -1 else 1) else
  if (aj a.natAbs).length≠(aj b.natAbs).length then (if (aj a.natAbs).length<(aj b.natAbs).length then-jI a else jI a) else jI a*j9 a.natAbs b.natAbs:=by
 by_cases Z:jI a≠jI b
 .rw[if_pos Z]
  unfold jI at Z |-;unfold Mq
  repeat' split
  all_goals first | rfl | omega
 .rw[if_neg Z]
  by_cases V:(aj a.natAbs).length≠(aj b.natAbs).length
  .rw[if_pos V]
   by_cases X:(aj a.natAbs).length<(aj b.natAbs).length
   .rw[if_pos X]
    have:=oJ X;unfold jI at Z |-;unfold Mq
    repeat' split
    all_goals first | rfl | omega
   .rw[if_neg X]
    have:=oJ (u:=b.natAbs) (v:=a.natAbs) (by omega);unfold jI at Z |-;unfold Mq
    repeat' split
    all_goals first | rfl | omega
  .rw[if_neg V]
   unfold jI at Z |-;unfold Mq j9
   repeat' split
   all_goals first | rfl | omega
def aJ(q:Rat):List UInt8:=if q.den=1 then bH q.num else bH q.num++47::aj q.den
theorem xi(u:Nat):(47:UInt8)∉aj u:=by intro h;have:=List.all_eq_true.1 (dM u) _ h;exact absurd this (by decide)
theorem iq(n:Int):(47:UInt8)∉bH n:=by
 cases n with
 |ofNat u=>exact xi u
 |negSucc u=>
  simp only[bH,List.mem_cons,not_or];exact⟨by decide,xi _⟩
theorem oz:∀(l:List UInt8) (c:UInt8),c∉l->Lib.indexByte l c= -1
 | [],_,_=>rfl
 |b::l,c,h=>by simp only[List.mem_cons,not_or] at h;unfold Lib.indexByte;rw[if_neg (by simpa using fun e=>h.1 e.symm),oz l c h.2];rfl
theorem zr:∀(l r:List UInt8) (c:UInt8),c∉l->Lib.indexByte (l++c::r) c=l.length
 | [],r,c,_=>by simp[Lib.indexByte]
 |b::l,r,c,h=>by
  simp only[List.mem_cons,not_or] at h;rw[List.cons_append];unfold Lib.indexByte;rw[if_neg (by simpa using fun e=>h.1 e.symm),zr l r c h.2];have Z:¬(((l.length:Int)== -1)=true):=by rw[beq_iff_eq];omega
  rw[if_neg Z];rfl
theorem EH(q:Rat):Lib.indexByte (aJ q) 47=if q.den=1 then -1 else ((bH q.num).length:Int):=by
 unfold aJ;split
 .exact oz _ _ (iq _)
 .exact zr _ _ _ (iq _)
def Rx(n:Int)(d:Nat):Option Rat:=if h:1<d/\n.natAbs.gcd d=1 then some ⟨n,d,by omega,h.2⟩ else none
def dZ(l:List UInt8):Option Rat:=match l.idxOf? 47 with
 |none=>match im l with
  |some n=>some ⟨n,1,by decide,Nat.gcd_one_right _⟩
  |none=>none
 |some i=>match im (l.take i),xF (l.drop (i+1)) with
  |some n,some d=>Rx n d
  |_,_=>none
theorem Fm(h:c∉l):l.idxOf? c=none:=List.idxOf?_eq_none_iff.2 h
theorem OR{r:List UInt8}(h:c∉l):(l++c::r).idxOf? c=some l.length:=by rw[List.idxOf?_eq_some_iff];refine⟨by simp,by simp,fun j Z=>?_⟩;rw[List.getElem_append_left Z];intro e;exact h (e▸List.getElem_mem Z)
theorem aE(q:Rat):dZ (aJ q)=some q:=by
 unfold dZ aJ;by_cases h:q.den=1
 .rw[if_pos h,Fm (iq _)]
  simp only[ax];congr 1;apply Rat.ext
  .rfl
  .exact h.symm
 .have Z:List.drop ((bH q.num).length+1) (bH q.num++47::aj q.den)=aj q.den:=by rw[List.drop_append];simp
  have X:List.take (bH q.num).length (bH q.num++47::aj q.den)=bH q.num:=List.take_left' rfl;have V:1<q.den:=by have:=q.den_nz;omega
  have U:q.num.natAbs.gcd q.den=1:=q.reduced;rw[if_neg h,OR (iq _)];simp only;rw[Z,X,ax,bu];simp only[Rx];rw[dif_pos ⟨V,U⟩]
variable{q:Rat}
theorem aF(h:dZ l=some q):l=aJ q:=by
 unfold dZ at h;split at h
 .split at h
  .rename_i n Z
   cases h;unfold aJ;rw[if_pos rfl];exact bK Z
  .cases h
 .rename_i i V
  split at h
  .rename_i n d Z U
   unfold Rx at h;split at h
   .rename_i R
    cases h;unfold aJ;rw[if_neg (by show¬d=1;omega)];obtain⟨S,X,_⟩:=List.idxOf?_eq_some_iff.1 V;show l=bH n++47::aj d
    rw[<-bK Z,<-gB U];have:l.drop i=47::l.drop (i+1):=by rw[LU S,X]
    rw[<-this,List.take_append_drop]
   .cases h
  .cases h
theorem Ba{p:Rat}(h:aJ p=aJ q):p=q:=by have:=aE p;rw[h,aE] at this;exact(QQc this).symm
theorem ml(q:Rat):aJ q=[48]↔q=0:=by
 constructor
 .intro h;exact Ba (h.trans (by rfl))
 .rintro rfl;rfl
theorem bk(q:Rat):(aJ q==[48])=decide (q=0):=by rw[Bool.eq_iff_iff];simp[ml]
theorem neg_num(q:Rat):(-q).num= -q.num:=rfl
theorem XU(q:Rat):(-q).den=q.den:=rfl
theorem nh(h:0<q.num):aJ (-q)=45::aJ q:=by unfold aJ;rw[neg_num,XU,kL h];split<;>rfl
theorem iX(h:q.num<0):aJ q=45::aJ (-q):=by
 have:=nh (q:= -q) (by rw[neg_num];omega)
 rwa [Rat.neg_neg] at this
theorem qe:q.num=0↔q=0:=by
 constructor
 .intro h
  apply Rat.ext
  .exact h
  .have:=q.reduced
   rw[h] at this;simpa [Nat.Coprime] using this
 .rintro rfl;rfl
theorem kP(h:0<=q.num):∃c r,aJ q=c::r/\isD c=true:=by
 have X:∃c r,bH q.num=c::r/\isD c=true:=by
  rw[gj h];have:=dM q.num.natAbs;cases hl:aj q.num.natAbs with
  |nil=>exact absurd hl (jC _)
  |cons c r=>
   rw[hl] at this;simp only[QQX,Ar] at this;exact⟨c,r,rfl,this.1⟩
 obtain⟨c,r,e,Z⟩:=X;unfold aJ;split
 .exact⟨c,r,e,Z⟩
 .exact⟨c,r++47::aj q.den,by rw[e];rfl,Z⟩
theorem ff(h:isD c=true):¬((c.toNat:Int)=45):=by unfold isD at h;simp only[Ar,Cs] at h;omega
def kU(q:Rat):Int:=jI q.num
def big(k:Nat)(q:Rat):Prop:=q.num.natAbs<10 ^ k/\q.den<10 ^ k
variable{m:Nat}
theorem big.mono(h:big k q)(H:k<=m):big m q:=by have:10 ^ k<=10 ^ m:=L9 (by omega) H;exact⟨by have:=h.1;omega,by have:=h.2;omega⟩
variable{d:Nat}
theorem O0(n:Int)(hd:d≠0):(mkRat n d).num.natAbs<=n.natAbs/\(mkRat n d).den<=d:=by rw[Rat.num_mkRat,Rat.den_mkRat,if_neg hd,if_neg hd];refine⟨?_,Nat.div_le_self _ _⟩;exact Int.natAbs_ediv_le_natAbs _ _
variable{b:Nat}
theorem Rs{a:Nat}(h1:a<10 ^ k)(h2:b<10 ^ k):a*b<10 ^ (2*k):=by
 have:a*b<10 ^ k*10 ^ k:=Nat.mul_lt_mul'' h1 h2
 rwa [<-Nat.pow_add,show k+k=2*k by omega] at this
theorem du(n:Int):(bH n).length<=(aj n.natAbs).length+1:=by
 cases n with
 |ofNat u=>simp[bH]
 |negSucc u=>simp[bH]
theorem Fa(H:0<k)(h:big k q):(aJ q).length<=2*k+2:=by
 have Z:=ba H h.1;have X:=ba H h.2;have h3:=du q.num;unfold aJ;split
 .omega
 .simp only[Nm,List.length_cons];omega
theorem GZ(h:(aJ q).length<=k):big k q:=by
 have V:=cf q.num.natAbs;have U:=cf q.den;have h3:(aj q.num.natAbs).length<=(bH q.num).length:=by
  cases q.num with
  |ofNat u=>exact Es _
  |negSucc u=>simp[bH]
 have S:=rY q.num;have Z:(aj q.num.natAbs).length<=k/\(aj q.den).length<=k:=by
  unfold aJ at h;split at h
  .rename_i X
   refine⟨by omega,?_⟩;rw[X];show 1<=k
   omega
  .simp only[Nm,List.length_cons] at h
   omega
 have R:10 ^ (aj q.num.natAbs).length<=10 ^ k:=L9 (by omega) Z.1;have Q:10 ^ (aj q.den).length<=10 ^ k:=L9 (by omega) Z.2;exact⟨by omega,by omega⟩
def N7(l:List (Rat×Rat))(u:Rat):Nat:=match l with
 | []=>0
 |k::r=>(if k.1<=u then 1 else 0)+N7 r u
def Xu(a b:Rat×Rat):Rat:=(b.2-a.2) / (b.1-a.1)
def YW(l:List (Rat×Rat))(n:Nat):Rat×Rat:=
 if l=[] then (0,0) else if n=0 then ((l.getD 0 (0,0)).2,0) else if n=l.length then ((l.getD (n-1) (0,0)).2,0) else
  ((l.getD (n-1) (0,0)).2-Xu (l.getD (n-1) (0,0)) (l.getD n (0,0))*(l.getD (n-1) (0,0)).1,Xu (l.getD (n-1) (0,0)) (l.getD n (0,0)))
def Vh(l:List (Rat×Rat))(u:Rat):Rat:=(YW l (N7 l u)).1+(YW l (N7 l u)).2*u
theorem sJ(h:(aJ q).length<=40):q.num.natAbs<10 ^ 40/\q.den<10 ^ 38:=by
 have V:=cf q.num.natAbs;have U:=cf q.den;have h3:(aj q.num.natAbs).length<=(bH q.num).length:=by
  cases q.num with
  |ofNat u=>exact Es _
  |negSucc u=>simp[bH]
 have S:=mZ q.num.natAbs;have Z:(aj q.num.natAbs).length<=40/\((aj q.den).length<=38\/q.den=1):=by
  unfold aJ at h;split at h
  .rename_i X
   exact⟨by omega,.inr X⟩
  .simp only[Nm,List.length_cons] at h
   omega
 have R:10 ^ (aj q.num.natAbs).length<=10 ^ 40:=L9 (by omega) Z.1;refine⟨by omega,?_⟩;rcases Z.2 with h6 | h6
 .have Q:10 ^ (aj q.den).length<=10 ^ 38:=L9 (by omega) h6
  omega
 .rw[h6];decide
variable{x:Int}
theorem fE{y:Int}{a:Nat}(h1:x.natAbs<a)(h2:y.natAbs<b):(x*y).natAbs<a*b:=by rw[QQf];exact Nat.mul_lt_mul'' h1 h2
def dg(n d:Nat)(q:Rat):Prop:=q.num.natAbs<10 ^ n/\q.den<10 ^ d
variable{d' n n' :Nat}
theorem dg.mono(h:dg n d q)(H:n<=n')(hd:d<=d'):dg n' d' q:=by have Z:10 ^ n<=10 ^ n' :=L9 (by omega) H;have X:10 ^ d<=10 ^ d' :=L9 (by omega) hd;exact⟨by have:=h.1;omega,by have:=h.2;omega⟩
theorem AO{y:Nat}(H:y≠0)(h1:x.natAbs<10 ^ n)(h2:y<10 ^ d):dg n d (mkRat x y):=by have:=O0 x H;exact⟨by omega,by omega⟩
theorem oH{a:Nat}(h1:a<10 ^ k)(h2:b<10 ^ m):a*b<10 ^ (k+m):=by rw[Nat.pow_add];exact Nat.mul_lt_mul'' h1 h2
variable{a:Rat}
theorem rO{b:Rat}(H:dg n d a)(I:dg n' d' b):dg (n+n') (d+d') (a*b):=by rw[Rat.mul_def'];refine AO (Nat.mul_ne_zero a.den_nz b.den_nz) ?_ (oH H.2 I.2);rw[QQf];exact oH H.1 I.1
theorem zl{b:Rat}(H:dg n d a)(I:dg n' d' b)(h1:n+d' <=m)(h2:n' +d<=m):dg (m+1) (d+d') (a+b):=by rw[Rat.add_def'];refine AO (Nat.mul_ne_zero a.den_nz b.den_nz) ?_ (oH H.2 I.2);have X:=oH H.1 I.2;have V:=oH I.1 H.2;have Z:=Int.natAbs_add_le (a.num*b.den) (b.num*a.den);rw[QQf,QQf,Int.natAbs_natCast,Int.natAbs_natCast] at Z;have U:10 ^ (n+d')<=10 ^ m:=L9 (by omega) h1;have S:10 ^ (n' +d)<=10 ^ m:=L9 (by omega) h2;have R:10 ^ (m+1)=10 ^ m*10:=Nat.pow_succ ..;omega
theorem YD(H:dg n d a):dg n d (-a):=by refine⟨?_,H.2⟩;rw[Rat.neg_num,Int.natAbs_neg];exact H.1
theorem OG{b:Rat}(H:dg n d a)(I:dg n' d' b)(h1:n+d' <=m)(h2:n' +d<=m):dg (m+1) (d+d') (a-b):=by rw[Rat.sub_eq_add_neg];exact zl H (YD I) h1 h2
theorem Lj(h:x.natAbs<10 ^ n):dg n 1 (x:Rat):=⟨by simpa using h,by show(1:Nat)<10;decide⟩
theorem dg.lens(h:dg n d q)(H:0<n)(hd:0<d):(aj q.num.natAbs).length<=n/\(aj q.den).length<=d:=
 ⟨ba H h.1,ba hd h.2⟩
def stC(l:List (List UInt8)):List AV:=l.map .str
theorem eu(l:List (List UInt8)):(stC l).length=l.length:=by simp[stC]
theorem fY:∀l:List (List UInt8),AV.afA (stC l)=true
 | []=>rfl
 |x::l=>by have:=fY l;simp only[stC] at this;simp[stC,AV.afA,AV.closed,this]
variable{i:Nat}
theorem qD{l:List (List UInt8)}{s:List UInt8}(h:l[i]? =some s):(stC l)[i]? =some (.str s):=by simp[stC,h]
def stP:List AV->Option (List (List UInt8))
 | []=>some []
 |.str a::l=>match stP l with
  |some r=>some (a::r)
  |none=>none
 |_=>none
theorem Vc:∀L:List (List UInt8),stP (stC L)=some L
 | []=>rfl
 |k::L=>by have:=Vc L;simp only[stC] at this;simp[stC,stP,this]
theorem O9:∀{cs:List AV} {L:List (List UInt8)},stP cs=some L->cs=stC L
 | [],L,h=>by cases h;rfl
 |v::l,L,h=>by
  unfold stP at h;split at h
  next Z=>cases Z
  .rename_i a V Z
   cases Z;split at h
   .rename_i r X
    cases h;have:=O9 X;simp only[stC] at this |-;rw[this];rfl
   .cases h
  .cases h
def sts(M:Mem)(x:AV):Option (List (List UInt8)):=match Lb 1 M x with
 |some cs=>stP cs
 |none=>none
theorem W1{M:Mem}{x:AV}{L:List (List UInt8)}(h:sts M x=some L):Zk 1 M x L.length (stC L)\/(x=.kO/\L=[]):=by
 unfold sts at h;split at h
 .rename_i S Z
  have V:=O9 h;subst V;rcases NH Z with⟨n,X,U⟩ | ⟨rfl,X⟩
  .have:n=L.length:=by rw[eu] at X;omega
   subst this;exact .inl U
  .refine .inr ⟨rfl,?_⟩
   cases L with
   |nil=>rfl
   |cons a l=>simp[stC] at X
 .cases h
abbrev P2:=Rat×Rat
def pA(p:P2):AV:=.agg [.str (aJ p.1),.str (aJ p.2)]
def pDg(n:Nat)(p:P2):Prop:=dg n n p.1/\dg n n p.2
def uZ(a b c:P2):Rat:=(b.1-a.1)*(c.2-a.2)-(b.2-a.2)*(c.1-a.1)
def pC:List P2->List AV
 | []=>[]
 |p::l=>.str (aJ p.1)::.str (aJ p.2)::pC l
theorem Dp:∀l:List P2,(pC l).length=l.length*2
 | []=>rfl
 |_::l=>by simp only[pC,List.length_cons,Dp l];omega
theorem gW:∀l:List P2,AV.afA (pC l)=true
 | []=>rfl
 |p::l=>by simp[pC,AV.afA,AV.closed,gW l]
theorem yI(n:Nat):∀l:List P2,AV.afN n (pC l)=[]
 | []=>rfl
 |p::l=>by simp[pC,AV.afN,AV.refs,yI n l]
theorem US(f:Nat->Option Nat)(l:List P2):AV.afR f (pC l)=pC l:=aS (gW l)
theorem Y5:pC []=[]:=rfl
theorem Y6(f:Nat->Bool):∀l:List P2,AV.afD f (pC l)=true
 | []=>rfl
 |p::l=>by simp[pC,AV.afD,AV.aft,Y6 f l]
theorem LQ:∀l r:List P2,pC (l++r)=pC l++pC r
 | [],_=>rfl
 |p::l,r=>by simp[pC,LQ l r]
theorem UR:∀(l:List P2) (i:Nat),(pC l).drop (i*2)=pC (l.drop i)
 |l,0=>by simp
 | [],i+1=>by simp[pC]
 |p::l,i+1=>by
  have:(i+1)*2=i*2+1+1:=by omega
  rw[this];simp only[pC,List.drop_succ_cons];exact UR l i
theorem UQ{l:List P2}{p:P2}(h:l[i]? =some p):
  ((pC l).drop (i*2)).take 2=[.str (aJ p.1),.str (aJ p.2)]/\(pC l)[i*2]? =some (.str (aJ p.1))/\(pC l)[i*2+1]? =some (.str (aJ p.2))/\i*2+2<=(pC l).length:=by
 have U:=gL h;have Z:l.drop i=p::l.drop (i+1):=by rw[Hi] at h;obtain⟨X,V⟩:=h;rw[<-V];exact LU X
 have e:=UR l i;rw[Z] at e;refine⟨by rw[e];rfl,?_,?_,by rw[Dp];omega⟩
 .have:(pC l)[i*2]? =((pC l).drop (i*2))[0]? :=by rw[QQJ];rfl
  rw[this,e];rfl
 .have:(pC l)[i*2+1]? =((pC l).drop (i*2))[1]? :=by rw[QQJ]
  rw[this,e];rfl
abbrev Tr:=Nat×Nat×Nat
def tC:List Tr->List AV
 | []=>[]
 |t::l=>.int .i64 (t.1:Int)::.int .i64 (t.2.1:Int)::.int .i64 (t.2.2:Int)::tC l
theorem Mf:∀l:List Tr,(tC l).length=l.length*3
 | []=>rfl
 |_::l=>by simp only[tC,List.length_cons,Mf l];omega
theorem mz:∀l:List Tr,AV.afA (tC l)=true
 | []=>rfl
 |p::l=>by simp[tC,AV.afA,AV.closed,mz l]
theorem vE(n:Nat):∀l:List Tr,AV.afN n (tC l)=[]
 | []=>rfl
 |p::l=>by simp[tC,AV.afN,AV.refs,vE n l]
theorem Mg(f:Nat->Option Nat)(l:List Tr):AV.afR f (tC l)=tC l:=aS (mz l)
theorem Vd:∀(l:List Tr) (i:Nat),(tC l).drop (i*3)=tC (l.drop i)
 |l,0=>by simp
 | [],i+1=>by simp[tC]
 |p::l,i+1=>by
  have:(i+1)*3=i*3+1+1+1:=by omega
  rw[this];simp only[tC,List.drop_succ_cons];exact Vd l i
theorem Ze{l:List Tr}{t:Tr}(h:l[i]? =some t):
  ((tC l).drop (i*3)).take 3=[.int .i64 (t.1:Int),.int .i64 (t.2.1:Int),.int .i64 (t.2.2:Int)]/\i*3+3<=(tC l).length:=by
 have U:=gL h;have Z:l.drop i=t::l.drop (i+1):=by rw[Hi] at h;obtain⟨X,V⟩:=h;rw[<-V];exact LU X
 have e:=Vd l i;rw[Z] at e;exact⟨by rw[e];rfl,by rw[Mf];omega⟩
def pmE(p:P2):AV×AV:=(pA p,.bool true)
theorem Ht(n:Nat):∀l:List P2,(l.map pmE).flatMap (fun e=>e.1.refs n++e.2.refs n)=[]
 | []=>rfl
 |p::l=>by simp[pmE,pA,AV.refs,AV.afN,Ht n l]
def sqI:List (Int×Int):=[(0,0),(4,0),(4,4),(0,4)]
def ej:Nat->List (Int×Int)
 |0=>sqI
 |1=>sqI
 |2=>[(0,0),(4,0),(4,4),(0,4),(2,1)]
 |3=>[(0,0),(6,0),(0,4)]
 |4=>[(0,0),(2,0),(4,0),(0,2),(2,2),(4,2)]
 |5=>[(1,4),(5,3),(4,0),(0,0)]
 |6=>[(0,0),(4,0),(4,4),(0,4),(2,0)]
 |_=>[(0,0),(6,0),(0,6),(2,2)]
def cm:Nat->List Tr
 |0=>[(0,1,2),(0,2,3)]
 |1=>[(0,1,3),(1,2,3)]
 |2=>[(0,1,4),(1,2,4),(2,3,4),(3,0,4)]
 |3=>[(2,0,1)]
 |4=>[(0,1,4),(0,4,3),(1,2,5),(1,5,4)]
 |5=>[(3,2,1),(3,1,0)]
 |6=>[(0,4,3),(4,2,3),(4,1,2)]
 |_=>[(0,1,3),(1,2,3),(2,0,3)]
def my:Nat->List Nat
 |2=>[0,1,2,3]
 |3=>[0,1,2]
 |4=>[0,1,2,5,4,3]
 |5=>[0,3,2,1]
 |6=>[0,4,1,2,3]
 |7=>[0,1,2]
 |_=>[0,1,2,3]
def iP:List (Int×Int)->List AV
 | []=>[]
 |p::l=>.int .i64 p.1::.int .i64 p.2::iP l
theorem Lx:∀l:List (Int×Int),(iP l).length=l.length*2
 | []=>rfl
 |_::l=>by simp only[iP,List.length_cons,Lx l];omega
theorem NS(n:Nat):∀l:List (Int×Int),AV.afN n (iP l)=[]
 | []=>rfl
 |p::l=>by simp[iP,AV.afN,AV.refs,NS n l]
theorem Lw:∀l:List (Int×Int),AV.afA (iP l)=true
 | []=>rfl
 |p::l=>by simp[iP,AV.afA,AV.closed,Lw l]
theorem Un(f:Nat->Option Nat)(l:List (Int×Int)):AV.afR f (iP l)=iP l:=aS (Lw l)
theorem Um:∀(l:List (Int×Int)) (i:Nat),(iP l).drop (i*2)=iP (l.drop i)
 |l,0=>by simp
 | [],i+1=>by simp[iP]
 |p::l,i+1=>by
  have:(i+1)*2=i*2+1+1:=by omega
  rw[this];simp only[iP,List.drop_succ_cons];exact Um l i
theorem ZF{l:List (Int×Int)}{p:Int×Int}(h:l[i]? =some p):
  (iP l)[i*2]? =some (.int .i64 p.1)/\(iP l)[i*2+1]? =some (.int .i64 p.2)/\i*2+2<=(iP l).length:=by
 have U:=gL h;have Z:l.drop i=p::l.drop (i+1):=by rw[Hi] at h;obtain⟨X,V⟩:=h;rw[<-V];exact LU X
 have e:=Um l i;rw[Z] at e;refine⟨?_,?_,by rw[Lx];omega⟩
 .have:(iP l)[i*2]? =((iP l).drop (i*2))[0]? :=by rw[QQJ];rfl
  rw[this,e];rfl
 .have:(iP l)[i*2+1]? =((iP l).drop (i*2))[1]? :=by rw[QQJ]
  rw[this,e];rfl
structure afI where
 kind:Nat
 sx:Int
 sy:Int
 half:Bool
structure afI.Ok (s:afI):Prop where
 kind:s.kind<256
 x0: -128<=s.sx
 x1:s.sx<=127
 y0: -128<=s.sy
 y1:s.sy<=127
def afI.av(s:afI):AV:=.agg [.int .u8 s.kind,.int .i8 s.sx,.int .i8 s.sy,.bool s.half]
def afI.pt(s:afI)(k:Nat)(x y:Int):P2:=
 (mkRat (x+s.sx.tmod 8*k) ((if s.half then 2 else 1)*k),mkRat (y+s.sy.tmod 8*k) ((if s.half then 2 else 1)*k))
def afI.P(s:afI):List P2:=(ej (s.kind%8)).map fun p=>s.pt 1 p.1 p.2
def afI.T(s:afI):List Tr:=cm (s.kind%8)
theorem Vj{n:Int}(h0: -128<=n)(h1:n<=127):IntKind.i8.wrap n=n:=by simp only[IntKind.wrap,IntKind.bits,IntKind.signed,Bool.true_and];split<;>simp_all<;>omega
theorem W5(x:Int): -7<=x.tmod 8/\x.tmod 8<=7:=by
 have Z:=Int.tmod_lt_of_pos x (show(0:Int)<8 by decide);have X: -8<x.tmod 8:=by have:=Int.tmod_lt_of_pos (-x) (show(0:Int)<8 by decide);rw[Int.neg_tmod] at this;omega
 omega
def qC(Q:List Rat):List AV:=Q.map fun q=>.str (aJ q)
theorem LV(Q:List Rat):(qC Q).length=Q.length:=by simp[qC]
theorem LS:∀Q:List Rat,AV.afA (qC Q)=true
 | []=>rfl
 |q::Q=>by have:=LS Q;simp only[qC] at this;simp[qC,AV.afA,AV.closed,this]
theorem gk(n:Nat):∀Q:List Rat,AV.afN n (qC Q)=[]
 | []=>rfl
 |q::Q=>by have:=gk n Q;simp only[qC] at this;simp[qC,AV.afN,AV.refs,this]
theorem UX(f:Nat->Bool):∀Q:List Rat,AV.afD f (qC Q)=true
 | []=>rfl
 |q::Q=>by have:=UX f Q;simp only[qC] at this;simp[qC,AV.afD,AV.aft,this]
theorem kN(f:Nat->Option Nat)(Q:List Rat):AV.afR f (qC Q)=qC Q:=aS (LS Q)
theorem Y7{Q:List Rat}(h:Q[i]? =some q):(qC Q)[i]? =some (.str (aJ q)):=by simp[qC,h]
structure ahU where
 kind:Nat
 A:Int×Int×Int
 B:Int×Int×Int
 N:Int
 K:Nat×Nat×Nat×Nat
def ahU.cells(d:ahU):List AV:=[.int .u8 d.kind,.int .i8 d.A.1,.int .i8 d.A.2.1,.int .i8 d.A.2.2,.int .i8 d.B.1,.int .i8 d.B.2.1,.int .i8 d.B.2.2,.int .i8 d.N,.int .u8 d.K.1,.int .u8 d.K.2.1,.int .u8 d.K.2.2.1,.int .u8 d.K.2.2.2]
def AS(n:Int):Prop:= -128<=n/\n<=127
def YQ(v:Int×Int×Int):Prop:=AS v.1/\AS v.2.1/\AS v.2.2
def ZL(v:Nat×Nat×Nat×Nat):Prop:=v.1<256/\v.2.1<256/\v.2.2.1<256/\v.2.2.2<256
structure ahU.Ok (d:ahU):Prop where
 kind:d.kind<256
 A:YQ d.A
 B:YQ d.B
 N:AS d.N
 K:ZL d.K
def hQ(z:Int):Rat:=mkRat z 2
theorem mX(z:Int):hQ z=(z:Rat) / 2:=by unfold hQ;rw[Rat.mkRat_eq_div];rfl
theorem Xf(a b:Int):hQ a+hQ b=hQ (a+b):=by
 rw[mX,mX,mX,Rat.intCast_add]
 grind
theorem ZB{a b:Int}(h:a<=b):hQ a<=hQ b:=by
 rw[mX,mX];have:(a:Rat)<=(b:Rat):=by exact_mod_cast h
 grind
variable{z:Int}
theorem YH(h:z.natAbs<1000):dg 3 1 (hQ z):=AO (by decide) h (by decide)
theorem CR(h:z.natAbs<1000):(aJ (hQ z)).length<=9:=by have Z:=YH h;have X:big 3 (hQ z):=⟨Z.1,by have:=Z.2;omega⟩;have:=Fa (by decide) X;omega
def qH(Z:List Int):List Rat:=Z.map hQ
theorem AF(x:Int)(k:Nat)(H:0<k): -(k:Int)<x.tmod k/\x.tmod k<k:=by have X:=Int.tmod_lt_of_pos x (show(0:Int)<(k:Int) by omega);have Z:=Int.tmod_lt_of_pos (-x) (show(0:Int)<(k:Int) by omega);rw[Int.neg_tmod] at Z;omega
end Go.Eng
