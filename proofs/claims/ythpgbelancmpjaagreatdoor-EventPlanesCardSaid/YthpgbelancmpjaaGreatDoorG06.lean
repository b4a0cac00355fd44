/- See G38. -/
import Derived.Test.YthpgbelancmpjaaGreatDoorG04
import Derived.Lib.Atoi
import Derived.Lib.Strings
import Derived.Lib.Bytealg
import Derived.Lib.IndexLaws
set_option linter.all false
namespace Go.Eng
def Td(k:Nat):UInt8:=UInt8.ofNat (48+k)
def isD(c:UInt8):Bool:=decide (48<=c.toNat)&&decide (c.toNat<=57)
def VX:Nat->Nat->List UInt8->List UInt8
 |0,_,acc=>acc
 |f+1,u,acc=>if u<10 then Td u::acc else VX f (u / 10) (Td (u%10)::acc)
def ai(u:Nat):List UInt8:=VX (u.log2+1) u []
theorem Pw:∀(f u:Nat) (acc:List UInt8),u<2 ^ f->0<f->VX f u acc=Lib.decDigits u++acc
 |0,u,acc,_,h=>by omega
 |f+1,u,acc,h,_=>by
  unfold VX;by_cases Z:u<10
  .rw[if_pos Z,Lib.decDigits,dif_pos Z];rfl
  .rw[if_neg Z,Lib.decDigits,dif_neg Z]
   have X:0<f:=by
    cases f with
    |zero=>simp at h;omega
    |succ f=>omega
   rw[Pw f (u / 10) _ (by rw[Nat.pow_succ] at h;omega) X];simp[Td]
theorem vn(u:Nat):ai u=Lib.decDigits u:=by unfold ai;rw[Pw _ _ _ Nat.lt_log2_self (by omega)];simp
variable{u:Nat}
theorem gS(h:u<10):ai u=[Td u]:=by rw[vn,Lib.decDigits,dif_pos h];rfl
theorem td(h:¬u<10):ai u=ai (u / 10)++[Td (u%10)]:=by
 have e:Lib.decDigits u=Lib.decDigits (u / 10)++[UInt8.ofNat (48+u%10)]:=by
  conv=>lhs;rw[Lib.decDigits]
  rw[dif_neg h]
 unfold Td;rw[vn u,vn (u / 10),e]
def vK(a:Nat)(l:List UInt8):Nat:=l.foldl (fun a c=>10*a+(c.toNat-48)) a
theorem dP(a:Nat):vK a []=a:=by unfold vK;rw[List.foldl_nil]
theorem fh(a:Nat)(c:UInt8)(r:List UInt8):vK a (c::r)=vK (10*a+(c.toNat-48)) r:=by unfold vK;rw[List.foldl_cons]
def fg(l:List UInt8):Nat:=vK 0 l
theorem vH:∀(l r:List UInt8) (a:Nat),vK a (l++r)=vK (vK a l) r
 | [],_,a=>by rw[List.nil_append,dP]
 |c::l,r,a=>by rw[List.cons_append,fh,fh,vH l r]
theorem oC(l:List UInt8)(c:UInt8):fg (l++[c])=10*fg l+(c.toNat-48):=by unfold fg;rw[vH,fh,dP]
variable{k:Nat}
theorem sT(h:k<10):(Td k).toNat=48+k:=by unfold Td;simp[UInt8.toNat_ofNat'];omega
theorem Pa(h:k<10):isD (Td k)=true:=by unfold isD;rw[sT h];simp;omega
variable{c:UInt8}
theorem Ch(h:isD c=true):Td (c.toNat-48)=c:=by unfold isD at h;simp only[Es,GE] at h;unfold Td;apply UInt8.toNat_inj.1;simp[UInt8.toNat_ofNat'];omega
theorem tT(h:isD c=true):c.toNat-48<10:=by unfold isD at h;simp only[Es,GE] at h;omega
theorem w8{p:Nat->Prop}(h0:∀u,u<10->p u)(h1:∀u,¬u<10->p (u / 10)->p u)(u:Nat):p u:=by
 induction u using Nat.strongRecOn with
 |_ u ih=>
  by_cases h:u<10
  .exact h0 u h
  .exact h1 u h (ih (u / 10) (by omega))
theorem dM(u:Nat):fg (ai u)=u:=by
 induction u using w8 with
 |h0 u h=>
  rw[gS h];unfold fg;rw[fh,dP,sT h];omega
 |h1 u h ih=>rw[td h,oC,ih,sT (by omega)];omega
theorem dI(u:Nat):(ai u).all isD=true:=by
 induction u using w8 with
 |h0 u h=>rw[gS h];simp[Pa h]
 |h1 u h ih=>rw[td h,List.all_append,ih];simp[Pa (show u%10<10 by omega)]
theorem jN(u:Nat):ai u≠[]:=by
 induction u using w8 with
 |h0 u h=>rw[gS h];simp
 |h1 u h ih=>rw[td h];simp
theorem pP(u:Nat):0<(ai u).length:=List.length_pos_iff.2 (jN u)
theorem wZ(u:Nat)(H:0<u):(ai u).head? ≠some 48:=by
 induction u using w8 with
 |h0 u h=>
  rw[gS h];simp only[List.head?_cons,ne_eq,Pi];intro e;have:=congrArg UInt8.toNat e;rw[sT h] at this;simp at this;omega
 |h1 u h ih=>
  rw[td h,List.head?_append];have:=ih (by omega);cases hh:(ai (u / 10)).head? with
  |none=>exact absurd (List.head?_eq_none_iff.1 hh) (jN _)
  |some x=>rw[hh] at this;simpa using this
theorem iV:ai 0=[48]:=by rw[gS (by omega)];rfl
def gJ(l:List UInt8):Bool:=match l with
 | []=>false
 |c::r=>isD c&&r.all isD&&(!(c==48)||r.isEmpty)
theorem N9(u:Nat):gJ (ai u)=true:=by
 have Z:=dI u;have X:=jN u;by_cases V:u=0
 .subst V;rw[iV];rfl
 .have h3:=wZ u (by omega)
  cases hl:ai u with
  |nil=>exact absurd hl X
  |cons c r=>
   rw[hl] at Z h3;simp only[QQg,Es] at Z;simp only[List.head?_cons,ne_eq,Pi] at h3;simp[gJ,Z.1,Z.2,h3]
variable{l:List UInt8}
theorem N8(H:l≠[])(h:gJ (l++[c])=true):gJ l=true/\isD c=true/\l≠[48]:=by
 cases l with
 |nil=>exact absurd rfl H
 |cons x r=>
  simp only[List.cons_append,gJ,List.all_append,QQg,List.all_nil,Bool.and_true,Es] at h;obtain⟨⟨V,U,h3⟩,Z⟩:=h;have X:(x==48)=false:=by
   cases hx:x==48 with
   |false=>rfl
   |true=>rw[hx] at Z;simp at Z
  refine⟨by simp[gJ,V,U,X],h3,?_⟩;intro e;cases e;simp at X
theorem Xz{p:List UInt8->Prop}(h0:p [])(h1:∀l c,p l->p (l++[c]))(l:List UInt8):p l:=by
 have:∀n (l:List UInt8),l.length=n->p l:=by
  intro n;induction n with
  |zero=>intro l Z;rw[Mp Z];exact h0
  |succ n ih=>
   intro l Z;have X:l≠[]:=by intro e;rw[e] at Z;simp at Z
   rw[<-List.dropLast_concat_getLast X];exact h1 _ _ (ih _ (by simp[Z]))
 exact this _ l rfl
theorem sj(h:gJ l=true):ai (fg l)=l:=by
 induction l using Xz with
 |h0=>cases h
 |h1 l c ih=>
  by_cases X:l=[]
  .subst X
   simp only[List.nil_append,gJ,List.all_nil,Bool.and_true,List.isEmpty_nil,Bool.or_true] at h;unfold fg;rw[List.nil_append,fh,dP,Nat.mul_zero,QQb,gS (tT h),Ch h]
  .obtain⟨h1,V,h3⟩:=N8 X h
   have Z:=ih h1;have U:fg l≠0:=by intro e;rw[e,iV] at Z;exact h3 Z.symm
   have S:=tT V;rw[oC,td (by omega),show(10*fg l+(c.toNat-48)) / 10=fg l by omega,show(10*fg l+(c.toNat-48))%10=c.toNat-48 by omega,Z,Ch V]
def xq(l:List UInt8):Option Nat:=if gJ l then some (fg l) else none
theorem bk(u:Nat):xq (ai u)=some u:=by unfold xq;rw[if_pos (N9 u),dM]
theorem gK(h:xq l=some u):l=ai u:=by
 unfold xq at h;split at h
 next Z=>cases h;exact(sj Z).symm
 .cases h
variable{v:Nat}
theorem AW(h:ai u=ai v):u=v:=by rw[<-dM u,h,dM]
theorem CT(u:Nat)(H:0<u):10 ^ ((ai u).length-1)<=u:=by
 induction u using w8 with
 |h0 u h=>rw[gS h];simp;omega
 |h1 u h ih=>
  rw[td h];have:=ih (by omega);have Z:=pP (u / 10);simp only[Qs,List.length_singleton,Nat.add_sub_cancel];have e:10 ^ (ai (u / 10)).length=10 ^ ((ai (u / 10)).length-1)*10:=by rw[<-Nat.pow_succ];congr 1;omega
  rw[e];omega
theorem cq(u:Nat):u<10 ^ (ai u).length:=by rw[vn,Lib.decDigits_length];exact Lib.lt_pow_nDigits u
theorem aN(H:0<k)(h:u<10 ^ k):(ai u).length<=k:=by
 by_cases Z:u=0
 .subst Z;rw[iV];exact H
 .have V:=CT u (by omega)
  have X:10 ^ ((ai u).length-1)<10 ^ k:=by omega
  have:=(Nat.pow_lt_pow_iff_right (by omega:1<10)).1 X;omega
def bF(n:Int):List UInt8:=match n with
 |.ofNat u=>ai u
 |.negSucc u=>45::ai (u+1)
theorem TA(n:Int):bF n=Lib.itoa n:=by
 unfold Lib.itoa;cases n with
 |ofNat u=>rw[if_neg (by simp)];simp[bF,vn]
 |negSucc u=>rw[if_pos (Int.negSucc_lt_zero u)];simp[bF,vn]
def iE(l:List UInt8):Option Int:=match l with
 |45::r=>match xq r with
  |some (u+1)=>some (.negSucc u)
  |_=>none
 |l=>match xq l with
  |some u=>some (.ofNat u)
  |none=>none
theorem pN(u:Nat):(ai u).head? ≠some 45:=by
 cases hl:ai u with
 |nil=>simp
 |cons c r=>
  have:=dI u;rw[hl] at this;simp only[QQg,Es] at this;simp only[List.head?_cons,ne_eq,Pi];rintro rfl;exact absurd this.1 (by decide)
theorem aD(n:Int):iE (bF n)=some n:=by
 cases n with
 |ofNat u=>
  have h:=pN u;simp only[bF];unfold iE;split
  .rename_i r Z
   rw[Z] at h;simp at h
  .rw[bk]
 |negSucc u=>simp[bF,iE,bk]
theorem bE{n:Int}(h:iE l=some n):l=bF n:=by
 unfold iE at h;split at h
 .split at h
  .rename_i Z
   cases h;simp[bF,gK Z]
  .cases h
 .split at h
  .rename_i Z
   cases h;simp[bF,gK Z]
  .cases h
theorem VQ{m n:Int}(h:bF m=bF n):m=n:=by have:=aD m;rw[h,aD] at this;exact(QQX this).symm
theorem aK(n:Int):Lib.hasPrefix (bF n) [45]=decide (n<0):=by
 cases n with
 |ofNat u=>
  have h:=pN u;simp only[bF];cases hl:ai u with
  |nil=>exact absurd hl (jN u)
  |cons c r=>
   rw[hl] at h;simp only[List.head?_cons,ne_eq,Pi] at h;rw[show decide (Int.ofNat u<0)=false by simp];have Z :¬(45:UInt8)=c:=fun e=>h e.symm
   simp[Lib.hasPrefix,List.isPrefixOf,Z]
 |negSucc u=>simp[bF,Lib.hasPrefix,List.isPrefixOf,Int.negSucc_lt_zero]
theorem aG(n:Int):Lib.trimPrefix (bF n) [45]=ai n.natAbs:=by
 unfold Lib.trimPrefix;rw[aK];cases n with
 |ofNat u=>
  rw[show decide (Int.ofNat u<0)=false by simp];rfl
 |negSucc u=>simp[bF,Int.negSucc_lt_zero,Int.natAbs]
theorem LD(h:isD c=true):Lib.digitVal c=some (c.toNat-48):=by unfold isD at h;simp only[Es,GE] at h;unfold Lib.digitVal;rw[if_pos h]
theorem zl:∀(l:List UInt8) (a:Nat),l.all isD=true->Lib.decFrom a l=some (vK a l)
 | [],a,_=>by rw[dP];rfl
 |c::r,a,h=>by simp only[QQg,Es] at h;unfold Lib.decFrom;rw[LD h.1,fh];simp only;rw[zl r _ h.2,QQZ]
theorem Cg(u:Nat):Lib.decNat (ai u)=some u:=by
 unfold Lib.decNat
 have h:(ai u).isEmpty=false:=by
  cases hl:ai u with
  |nil=>exact absurd hl (jN u)
  |cons=>rfl
 rw[h];simp only[Bool.false_eq_true,if_false];rw[zl _ _ (dI u)];exact congrArg some (dM u)
theorem nK(n:Int):Lib.atoi (bF n)=some n:=by
 cases n with
 |ofNat u=>
  have Z:=pN u;have X:=dI u;have h3:=Cg u;simp only[bF];cases hl:ai u with
  |nil=>exact absurd hl (jN u)
  |cons c r=>
   rw[hl] at Z X h3;simp only[List.head?_cons,ne_eq,Pi] at Z;simp only[QQg,Es] at X;have V:¬c=43:=by rintro rfl;exact absurd X.1 (by decide)
   simp[Lib.atoi,Z,V,h3]
 |negSucc u=>
  simp[bF,Lib.atoi,Cg,Int.negSucc_eq]
theorem od(h:(ai u).length<(ai v).length):u<v:=by
 have X:=cq u;have Z:0<v:=by
  by_cases Z:v=0
  .subst Z
   rw[iV] at h;have:=pP u;simp only[List.length_singleton] at h;omega
  .omega
 have V:=CT v Z;have h3:10 ^ (ai u).length<=10 ^ ((ai v).length-1):=P3 (by omega) (by omega);exact QXK X (QQd h3 V)
def kv(u v:Nat):Int:=if u<v then -1 else if v<u then 1 else 0
theorem vI:∀(l:List UInt8) (a:Nat),l.all isD=true->vK a l<(a+1)*10 ^ l.length
 | [],a,_=>by rw[dP];simp
 |c::r,a,h=>by simp only[QQg,Es] at h;have Z:=tT h.1;have:=vI r (10*a+(c.toNat-48)) h.2;rw[fh];refine QXK this ?_;rw[List.length_cons,Nat.pow_succ,QQZ (10 ^ r.length) 10,<-QXZ];exact QQk _ (by omega)
theorem TJ:∀(l:List UInt8) (a:Nat),a*10 ^ l.length<=vK a l
 | [],a=>by rw[dP];simp
 |c::r,a=>by have:=TJ r (10*a+(c.toNat-48));rw[fh];refine QQd ?_ this;rw[List.length_cons,Nat.pow_succ,QQZ (10 ^ r.length) 10,<-QXZ];exact QQk _ (by omega)
theorem nO:∀(l r:List UInt8) (a:Nat),l.length=r.length->l.all isD=true->r.all isD=true->Lib.compareBytes l r=kv (vK a l) (vK a r)
 | [],[],a,_,_,_=>by
  rw[dP];show(0:Int)=kv a a
  unfold kv;rw[if_neg (by omega),if_neg (by omega)]
 | [],_::_,_,h,_,_=>by simp at h
 |_::_,[],_,h,_,_=>by simp at h
 |c::l,d::r,a,h,h1,h2=>by
  simp only[List.length_cons,Nat.add_right_cancel_iff] at h;simp only[QQg,Es] at h1 h2;have V:∀{x y:UInt8}{l r:List UInt8},isD x=true->isD y=true->l.all isD=true->l.length=r.length->x<y->vK (10*a+(x.toNat-48)) l<vK (10*a+(y.toNat-48)) r:=by intro x y l r R O N U S;have M:=vI l (10*a+(x.toNat-48)) N;have F:=TJ r (10*a+(y.toNat-48));have L :x.toNat<y.toNat:=S;unfold isD at R O;simp only[Es,GE] at R O;rw[U] at M;have:(10*a+(x.toNat-48)+1)*10 ^ r.length<=(10*a+(y.toNat-48))*10 ^ r.length:=QQk _ (by omega);omega
  unfold Lib.compareBytes;rw[fh,fh];by_cases Z:c<d
  .rw[if_pos Z]
   have:=V h1.1 h2.1 h1.2 h Z;unfold kv;rw[if_pos this]
  .rw[if_neg Z]
   by_cases X:d<c
   .rw[if_pos X]
    have:=V h2.1 h1.1 h2.2 h.symm X;unfold kv;rw[if_neg (by omega),if_pos this]
   .rw[if_neg X]
    have K:¬c.toNat<d.toNat:=Z;have G:¬d.toNat<c.toNat:=X;have e:c.toNat=d.toNat:=by omega
    rw[e];exact nO l r _ h h1.2 h2.2
theorem yd(h:(ai u).length=(ai v).length):Lib.compareBytes (ai u) (ai v)=kv u v:=by
 have:=nO (ai u) (ai v) 0 h (dI u) (dI v);rw[this];show kv (fg (ai u)) (fg (ai v))=_
 rw[dM,dM]
def jz(n:Int):Int:=if n<0 then -1 else if n=0 then 0 else 1
def MG(m n:Int):Int:=if m<n then -1 else if n<m then 1 else 0
theorem TB(n:Int):bF n=[48]↔n=0:=by
 constructor
 .intro h;exact VQ (h.trans (by rfl))
 .rintro rfl;rfl
theorem fU(n:Int):(bF n==[48])=decide (n=0):=by rw[Bool.eq_iff_iff];simp[TB]
theorem rW(n:Int):0<(bF n).length:=by
 cases n with
 |ofNat u=>exact pP u
 |negSucc u=>simp[bF]
theorem kQ{n:Int}(h:0<n):bF (-n)=45::bF n:=by
 cases n with
 |ofNat u=>
  cases u with
  |zero=>simp at h
  |succ u=>rfl
 |negSucc u=>exact absurd h (by have:=Int.negSucc_lt_zero u;omega)
theorem G4{n:Int}(h:n<0):(bF n).drop 1=bF (-n):=by have:=kQ (n:= -n) (by omega);rw[Int.neg_neg] at this;rw[this];rfl
theorem gE{n:Int}(h:0<=n):bF n=ai n.natAbs:=by
 cases n with
 |ofNat u=>rfl
 |negSucc u=>exact absurd h (by have:=Int.negSucc_lt_zero u;omega)
theorem WX(a b:Int):MG a b=if jz a≠jz b then (if jz a<jz b then -1 else 1) else
  if (ai a.natAbs).length≠(ai b.natAbs).length then (if (ai a.natAbs).length<(ai b.natAbs).length then-jz a else jz a) else jz a*kv a.natAbs b.natAbs:=by
 by_cases Z:jz a≠jz b
 .rw[if_pos Z]
  unfold jz at Z |-;unfold MG
  repeat' split
  all_goals first | rfl | omega
 .rw[if_neg Z]
  by_cases V:(ai a.natAbs).length≠(ai b.natAbs).length
  .rw[if_pos V]
   by_cases X:(ai a.natAbs).length<(ai b.natAbs).length
   .rw[if_pos X]
    have:=od X;unfold jz at Z |-;unfold MG
    repeat' split
    all_goals first | rfl | omega
   .rw[if_neg X]
    have:=od (u:=b.natAbs) (v:=a.natAbs) (by omega);unfold jz at Z |-;unfold MG
    repeat' split
    all_goals first | rfl | omega
  .rw[if_neg V]
   unfold jz at Z |-;unfold MG kv
   repeat' split
   all_goals first | rfl | omega
def aq(q:Rat):List UInt8:=if q.den=1 then bF q.num else bF q.num++47::ai q.den
theorem w9(u:Nat):(47:UInt8)∉ai u:=by intro h;have:=List.all_eq_true.1 (dI u) _ h;exact absurd this (by decide)
theorem iF(n:Int):(47:UInt8)∉bF n:=by
 cases n with
 |ofNat u=>exact w9 u
 |negSucc u=>
  simp only[bF,List.mem_cons,not_or];exact⟨by decide,w9 _⟩
theorem nW:∀(l:List UInt8) (c:UInt8),c∉l->Lib.indexByte l c= -1
 | [],_,_=>rfl
 |b::l,c,h=>by simp only[List.mem_cons,not_or] at h;unfold Lib.indexByte;rw[if_neg (by simpa using fun e=>h.1 e.symm),nW l c h.2];rfl
theorem zp:∀(l r:List UInt8) (c:UInt8),c∉l->Lib.indexByte (l++c::r) c=l.length
 | [],r,c,_=>by simp[Lib.indexByte]
 |b::l,r,c,h=>by
  simp only[List.mem_cons,not_or] at h;rw[List.cons_append];unfold Lib.indexByte;rw[if_neg (by simpa using fun e=>h.1 e.symm),zp l r c h.2];have Z:¬(((l.length:Int)== -1)=true):=by rw[beq_iff_eq];omega
  rw[if_neg Z];rfl
theorem Eh(q:Rat):Lib.indexByte (aq q) 47=if q.den=1 then -1 else ((bF q.num).length:Int):=by
 unfold aq;split
 .exact nW _ _ (iF _)
 .exact zp _ _ _ (iF _)
def RI(n:Int)(d:Nat):Option Rat:=if h:1<d/\n.natAbs.gcd d=1 then some ⟨n,d,by omega,h.2⟩ else none
def eh(l:List UInt8):Option Rat:=match l.idxOf? 47 with
 |none=>match iE l with
  |some n=>some ⟨n,1,by decide,Nat.gcd_one_right _⟩
  |none=>none
 |some i=>match iE (l.take i),xq (l.drop (i+1)) with
  |some n,some d=>RI n d
  |_,_=>none
theorem EO(h:c∉l):l.idxOf? c=none:=List.idxOf?_eq_none_iff.2 h
theorem Pm{r:List UInt8}(h:c∉l):(l++c::r).idxOf? c=some l.length:=by rw[List.idxOf?_eq_some_iff];refine⟨by simp,by simp,fun j Z=>?_⟩;rw[List.getElem_append_left Z];intro e;exact h (e▸List.getElem_mem Z)
theorem aF(q:Rat):eh (aq q)=some q:=by
 unfold eh aq;by_cases h:q.den=1
 .rw[if_pos h,EO (iF _)]
  simp only[aD];congr 1;apply Rat.ext
  .rfl
  .exact h.symm
 .have Z:List.drop ((bF q.num).length+1) (bF q.num++47::ai q.den)=ai q.den:=by rw[List.drop_append];simp
  have X:List.take (bF q.num).length (bF q.num++47::ai q.den)=bF q.num:=List.take_left' rfl;have V:1<q.den:=by have:=q.den_nz;omega
  have U:q.num.natAbs.gcd q.den=1:=q.reduced;rw[if_neg h,Pm (iF _)];simp only;rw[Z,X,aD,bk];simp only[RI];rw[dif_pos ⟨V,U⟩]
variable{q:Rat}
theorem aw(h:eh l=some q):l=aq q:=by
 unfold eh at h;split at h
 .split at h
  .rename_i n Z
   cases h;unfold aq;rw[if_pos rfl];exact bE Z
  .cases h
 .rename_i i X
  split at h
  .rename_i n d Z V
   unfold RI at h;split at h
   .rename_i R
    cases h;unfold aq;rw[if_neg (by show¬d=1;omega)];obtain⟨U,S,_⟩:=List.idxOf?_eq_some_iff.1 X;show l=bF n++47::ai d
    rw[<-bE Z,<-gK V];have:l.drop i=47::l.drop (i+1):=by rw[N0 U,S]
    rw[<-this,List.take_append_drop]
   .cases h
  .cases h
theorem dy{p:Rat}(h:aq p=aq q):p=q:=by have:=aF p;rw[h,aF] at this;exact(QQX this).symm
theorem CX(q:Rat):aq q=[48]↔q=0:=by
 constructor
 .intro h;exact dy (h.trans (by rfl))
 .rintro rfl;rfl
theorem ba(q:Rat):(aq q==[48])=decide (q=0):=by rw[Bool.eq_iff_iff];simp[CX]
theorem neg_num(q:Rat):(-q).num= -q.num:=rfl
theorem Xd(q:Rat):(-q).den=q.den:=rfl
theorem mR(h:0<q.num):aq (-q)=45::aq q:=by unfold aq;rw[neg_num,Xd,kQ h];split<;>rfl
theorem jl(h:q.num<0):aq q=45::aq (-q):=by
 have:=mR (q:= -q) (by rw[neg_num];omega)
 rwa [Rat.neg_neg] at this
theorem mO:q.num=0↔q=0:=by
 constructor
 .intro h
  apply Rat.ext
  .exact h
  .have:=q.reduced
   rw[h] at this;simpa [Nat.Coprime] using this
 .rintro rfl;rfl
theorem kX(h:0<=q.num):∃c r,aq q=c::r/\isD c=true:=by
 have X:∃c r,bF q.num=c::r/\isD c=true:=by
  rw[gE h];have:=dI q.num.natAbs;cases hl:ai q.num.natAbs with
  |nil=>exact absurd hl (jN _)
  |cons c r=>
   rw[hl] at this;simp only[QQg,Es] at this;exact⟨c,r,rfl,this.1⟩
 obtain⟨c,r,e,Z⟩:=X;unfold aq;split
 .exact⟨c,r,e,Z⟩
 .exact⟨c,r++47::ai q.den,by rw[e];rfl,Z⟩
theorem fv(h:isD c=true):¬((c.toNat:Int)=45):=by unfold isD at h;simp only[Es,GE] at h;omega
def ga(q:Rat):Int:=jz q.num
def big(k:Nat)(q:Rat):Prop:=q.num.natAbs<10 ^ k/\q.den<10 ^ k
variable{m:Nat}
theorem big.mono(h:big k q)(H:k<=m):big m q:=by have:10 ^ k<=10 ^ m:=P3 (by omega) H;exact⟨by have:=h.1;omega,by have:=h.2;omega⟩
variable{d:Nat}
theorem Pv(n:Int)(hd:d≠0):(mkRat n d).num.natAbs<=n.natAbs/\(mkRat n d).den<=d:=by rw[Rat.num_mkRat,Rat.den_mkRat,if_neg hd,if_neg hd];refine⟨?_,Nat.div_le_self _ _⟩;exact Int.natAbs_ediv_le_natAbs _ _
theorem RC{a b:Nat}(h1:a<10 ^ k)(h2:b<10 ^ k):a*b<10 ^ (2*k):=by
 have:a*b<10 ^ k*10 ^ k:=Nat.mul_lt_mul'' h1 h2
 rwa [<-Nat.pow_add,show k+k=2*k by omega] at this
theorem dj(n:Int):(bF n).length<=(ai n.natAbs).length+1:=by
 cases n with
 |ofNat u=>simp[bF]
 |negSucc u=>simp[bF]
theorem Rh(H:0<k)(h:big k q):(aq q).length<=2*k+2:=by
 have Z:=aN H h.1;have X:=aN H h.2;have h3:=dj q.num;unfold aq;split
 .omega
 .simp only[Qs,List.length_cons];omega
theorem GN(h:(aq q).length<=k):big k q:=by
 have V:=cq q.num.natAbs;have U:=cq q.den;have h3:(ai q.num.natAbs).length<=(bF q.num).length:=by
  cases q.num with
  |ofNat u=>exact L9 _
  |negSucc u=>simp[bF]
 have S:=rW q.num;have Z:(ai q.num.natAbs).length<=k/\(ai q.den).length<=k:=by
  unfold aq at h;split at h
  .rename_i X
   refine⟨by omega,?_⟩;rw[X];show 1<=k
   omega
  .simp only[Qs,List.length_cons] at h
   omega
 have R:10 ^ (ai q.num.natAbs).length<=10 ^ k:=P3 (by omega) Z.1;have O:10 ^ (ai q.den).length<=10 ^ k:=P3 (by omega) Z.2;exact⟨by omega,by omega⟩
def mh(l:List (Rat×Rat))(u:Rat):Nat:=match l with
 | []=>0
 |k::r=>(if k.1<=u then 1 else 0)+mh r u
def WH(a b:Rat×Rat):Rat:=(b.2-a.2) / (b.1-a.1)
def Yl(l:List (Rat×Rat))(n:Nat):Rat×Rat:=
 if l=[] then (0,0) else if n=0 then ((l.getD 0 (0,0)).2,0) else if n=l.length then ((l.getD (n-1) (0,0)).2,0) else
  ((l.getD (n-1) (0,0)).2-WH (l.getD (n-1) (0,0)) (l.getD n (0,0))*(l.getD (n-1) (0,0)).1,WH (l.getD (n-1) (0,0)) (l.getD n (0,0)))
def Uv(l:List (Rat×Rat))(u:Rat):Rat:=(Yl l (mh l u)).1+(Yl l (mh l u)).2*u
variable{x:Int}
theorem fV{y:Int}{a b:Nat}(h1:x.natAbs<a)(h2:y.natAbs<b):(x*y).natAbs<a*b:=by rw[QQl];exact Nat.mul_lt_mul'' h1 h2
def dg(n d:Nat)(q:Rat):Prop:=q.num.natAbs<10 ^ n/\q.den<10 ^ d
variable{d' n n' :Nat}
theorem dg.mono(h:dg n d q)(H:n<=n')(hd:d<=d'):dg n' d' q:=by have Z:10 ^ n<=10 ^ n' :=P3 (by omega) H;have X:10 ^ d<=10 ^ d' :=P3 (by omega) hd;exact⟨by have:=h.1;omega,by have:=h.2;omega⟩
theorem pG{y:Nat}(H:y≠0)(h1:x.natAbs<10 ^ n)(h2:y<10 ^ d):dg n d (mkRat x y):=by have:=Pv x H;exact⟨by omega,by omega⟩
theorem n8{a b:Nat}(h1:a<10 ^ k)(h2:b<10 ^ m):a*b<10 ^ (k+m):=by rw[Nat.pow_add];exact Nat.mul_lt_mul'' h1 h2
variable{a b:Rat}
section
variable (ha:dg n d a)
include ha
theorem dp(H:dg n' d' b):dg (n+n') (d+d') (a*b):=by rw[Rat.mul_def'];refine pG (Nat.mul_ne_zero a.den_nz b.den_nz) ?_ (n8 ha.2 H.2);rw[QQl];exact n8 ha.1 H.1
theorem nP(H:dg n' d' b)(h1:n+d' <=m)(h2:n' +d<=m):dg (m+1) (d+d') (a+b):=by rw[Rat.add_def'];refine pG (Nat.mul_ne_zero a.den_nz b.den_nz) ?_ (n8 ha.2 H.2);have X:=n8 ha.1 H.2;have V:=n8 H.1 ha.2;have Z:=Int.natAbs_add_le (a.num*b.den) (b.num*a.den);rw[QQl,QQl,Int.natAbs_natCast,Int.natAbs_natCast] at Z;have U:10 ^ (n+d')<=10 ^ m:=P3 (by omega) h1;have S:10 ^ (n' +d)<=10 ^ m:=P3 (by omega) h2;have R:10 ^ (m+1)=10 ^ m*10:=Nat.pow_succ ..;omega
theorem Tb:dg n d (-a):=by refine⟨?_,ha.2⟩;rw[Rat.neg_num,Int.natAbs_neg];exact ha.1
theorem LC(H:dg n' d' b)(h1:n+d' <=m)(h2:n' +d<=m):dg (m+1) (d+d') (a-b):=by rw[Rat.sub_eq_add_neg];exact nP ha (Tb H) h1 h2
theorem XW(h0:a≠0):dg d n a⁻¹:=by
 have Z:a.num≠0:=fun h=>h0 (Rat.num_eq_zero.1 h)
 refine⟨?_,?_⟩
 .rw[Rat.num_inv,QQl,Int.natAbs_natCast]
  have:=ha.2;have X:a.num.sign.natAbs<=1:=by
   rcases Int.lt_trichotomy a.num 0 with h | h | h
   .rw[Int.sign_eq_neg_one_of_neg h];decide
   .rw[h];decide
   .rw[Int.sign_eq_one_of_pos h];decide
  have:a.num.sign.natAbs*a.den<=1*a.den:=QQk _ X;omega
 .rw[Rat.den_inv,if_neg Z]
  exact ha.1
theorem Ta(H:dg n' d' b)(h0:b≠0):dg (n+d') (d+n') (a / b):=by rw[Rat.div_def];exact dp ha (XW H h0)
end
theorem LB(h:x.natAbs<10 ^ n):dg n 1 (x:Rat):=⟨by simpa using h,by show(1:Nat)<10;decide⟩
theorem dg.lens(h:dg n d q)(H:0<n)(hd:0<d):(ai q.num.natAbs).length<=n/\(ai q.den).length<=d:=
 ⟨aN H h.1,aN hd h.2⟩
def stC(l:List (List UInt8)):List AV:=l.map .str
theorem oz(l:List (List UInt8)):(stC l).length=l.length:=by simp[stC]
theorem eF:∀l:List (List UInt8),AV.afr (stC l)=true
 | []=>rfl
 |x::l=>by have:=eF l;simp only[stC] at this;simp[stC,AV.afr,AV.closed,this]
variable{i:Nat}
theorem PH{l:List (List UInt8)}{s:List UInt8}(h:l[i]? =some s):(stC l)[i]? =some (.str s):=by simp[stC,h]
def stP:List AV->Option (List (List UInt8))
 | []=>some []
 |.str a::l=>match stP l with
  |some r=>some (a::r)
  |none=>none
 |_=>none
theorem Up:∀L:List (List UInt8),stP (stC L)=some L
 | []=>rfl
 |k::L=>by have:=Up L;simp only[stC] at this;simp[stC,stP,this]
theorem PI:∀{cs:List AV} {L:List (List UInt8)},stP cs=some L->cs=stC L
 | [],L,h=>by cases h;rfl
 |v::l,L,h=>by
  unfold stP at h;split at h
  next Z=>cases Z
  .rename_i a V Z
   cases Z;split at h
   .rename_i r X
    cases h;have:=PI X;simp only[stC] at this |-;rw[this];rfl
   .cases h
  .cases h
def sts(M:Mem)(x:AV):Option (List (List UInt8)):=match Ll 1 M x with
 |some cs=>stP cs
 |none=>none
theorem Wf{M:Mem}{x:AV}{L:List (List UInt8)}(h:sts M x=some L):Wp 1 M x L.length (stC L)\/(x=.qF/\L=[]):=by
 unfold sts at h;split at h
 .rename_i S Z
  have V:=PI h;subst V;rcases Ob Z with⟨n,X,U⟩ | ⟨rfl,X⟩
  .have:n=L.length:=by rw[oz] at X;omega
   subst this;exact .inl U
  .refine .inr ⟨rfl,?_⟩
   cases L with
   |nil=>rfl
   |cons a l=>simp[stC] at X
 .cases h
abbrev P2:=Rat×Rat
def pA(p:P2):AV:=.agg [.str (aq p.1),.str (aq p.2)]
def pDg(n:Nat)(p:P2):Prop:=dg n n p.1/\dg n n p.2
def bD(a b c:P2):Rat:=(b.1-a.1)*(c.2-a.2)-(b.2-a.2)*(c.1-a.1)
def pC:List P2->List AV
 | []=>[]
 |p::l=>.str (aq p.1)::.str (aq p.2)::pC l
theorem CS:∀l:List P2,(pC l).length=l.length*2
 | []=>rfl
 |_::l=>by simp only[pC,List.length_cons,CS l];omega
theorem ea:∀l:List P2,AV.afr (pC l)=true
 | []=>rfl
 |p::l=>by simp[pC,AV.afr,AV.closed,ea l]
theorem vv(n:Nat):∀l:List P2,AV.afE n (pC l)=[]
 | []=>rfl
 |p::l=>by simp[pC,AV.afE,AV.refs,vv n l]
theorem Pz(f:Nat->Option Nat)(l:List P2):AV.afI f (pC l)=pC l:=aT (ea l)
theorem Yq:pC []=[]:=rfl
theorem T1(f:Nat->Bool):∀l:List P2,AV.afs f (pC l)=true
 | []=>rfl
 |p::l=>by simp[pC,AV.afs,AV.afm,T1 f l]
theorem Md:∀l r:List P2,pC (l++r)=pC l++pC r
 | [],_=>rfl
 |p::l,r=>by simp[pC,Md l r]
theorem T0:∀(l:List P2) (i:Nat),(pC l).drop (i*2)=pC (l.drop i)
 |l,0=>by simp
 | [],i+1=>by simp[pC]
 |p::l,i+1=>by
  have:(i+1)*2=i*2+1+1:=by omega
  rw[this];simp only[pC,List.drop_succ_cons];exact T0 l i
theorem vu{l:List P2}{p:P2}(h:l[i]? =some p):
  ((pC l).drop (i*2)).take 2=[.str (aq p.1),.str (aq p.2)]/\(pC l)[i*2]? =some (.str (aq p.1))/\(pC l)[i*2+1]? =some (.str (aq p.2))/\i*2+2<=(pC l).length:=by
 have U:=gL h;have Z:l.drop i=p::l.drop (i+1):=by rw[O2] at h;obtain⟨X,V⟩:=h;rw[<-V];exact N0 X
 have e:=T0 l i;rw[Z] at e;refine⟨by rw[e];rfl,?_,?_,by rw[CS];omega⟩
 .have:(pC l)[i*2]? =((pC l).drop (i*2))[0]? :=by rw[QQf];rfl
  rw[this,e];rfl
 .have:(pC l)[i*2+1]? =((pC l).drop (i*2))[1]? :=by rw[QQf]
  rw[this,e];rfl
abbrev Tr:=Nat×Nat×Nat
def tC:List Tr->List AV
 | []=>[]
 |t::l=>.int .i64 (t.1:Int)::.int .i64 (t.2.1:Int)::.int .i64 (t.2.2:Int)::tC l
theorem My:∀l:List Tr,(tC l).length=l.length*3
 | []=>rfl
 |_::l=>by simp only[tC,List.length_cons,My l];omega
theorem fY:∀l:List Tr,AV.afr (tC l)=true
 | []=>rfl
 |p::l=>by simp[tC,AV.afr,AV.closed,fY l]
theorem sH(n:Nat):∀l:List Tr,AV.afE n (tC l)=[]
 | []=>rfl
 |p::l=>by simp[tC,AV.afE,AV.refs,sH n l]
theorem Mz(f:Nat->Option Nat)(l:List Tr):AV.afI f (tC l)=tC l:=aT (fY l)
theorem Uq:∀(l:List Tr) (i:Nat),(tC l).drop (i*3)=tC (l.drop i)
 |l,0=>by simp
 | [],i+1=>by simp[tC]
 |p::l,i+1=>by
  have:(i+1)*3=i*3+1+1+1:=by omega
  rw[this];simp only[tC,List.drop_succ_cons];exact Uq l i
theorem Mx{l:List Tr}{t:Tr}(h:l[i]? =some t):
  ((tC l).drop (i*3)).take 3=[.int .i64 (t.1:Int),.int .i64 (t.2.1:Int),.int .i64 (t.2.2:Int)]/\i*3+3<=(tC l).length:=by
 have U:=gL h;have Z:l.drop i=t::l.drop (i+1):=by rw[O2] at h;obtain⟨X,V⟩:=h;rw[<-V];exact N0 X
 have e:=Uq l i;rw[Z] at e;exact⟨by rw[e];rfl,by rw[My];omega⟩
def pmE(p:P2):AV×AV:=(pA p,.bool true)
theorem Hj(n:Nat):∀l:List P2,(l.map pmE).flatMap (fun e=>e.1.refs n++e.2.refs n)=[]
 | []=>rfl
 |p::l=>by simp[pmE,pA,AV.refs,AV.afE,Hj n l]
def sqI:List (Int×Int):=[(0,0),(4,0),(4,4),(0,4)]
def ef:Nat->List (Int×Int)
 |0=>sqI
 |1=>sqI
 |2=>[(0,0),(4,0),(4,4),(0,4),(2,1)]
 |3=>[(0,0),(6,0),(0,4)]
 |4=>[(0,0),(2,0),(4,0),(0,2),(2,2),(4,2)]
 |5=>[(1,4),(5,3),(4,0),(0,0)]
 |6=>[(0,0),(4,0),(4,4),(0,4),(2,0)]
 |_=>[(0,0),(6,0),(0,6),(2,2)]
def bY:Nat->List Tr
 |0=>[(0,1,2),(0,2,3)]
 |1=>[(0,1,3),(1,2,3)]
 |2=>[(0,1,4),(1,2,4),(2,3,4),(3,0,4)]
 |3=>[(2,0,1)]
 |4=>[(0,1,4),(0,4,3),(1,2,5),(1,5,4)]
 |5=>[(3,2,1),(3,1,0)]
 |6=>[(0,4,3),(4,2,3),(4,1,2)]
 |_=>[(0,1,3),(1,2,3),(2,0,3)]
def ml:Nat->List Nat
 |2=>[0,1,2,3]
 |3=>[0,1,2]
 |4=>[0,1,2,5,4,3]
 |5=>[0,3,2,1]
 |6=>[0,4,1,2,3]
 |7=>[0,1,2]
 |_=>[0,1,2,3]
def iP:List (Int×Int)->List AV
 | []=>[]
 |p::l=>.int .i64 p.1::.int .i64 p.2::iP l
theorem LS:∀l:List (Int×Int),(iP l).length=l.length*2
 | []=>rfl
 |_::l=>by simp only[iP,List.length_cons,LS l];omega
theorem Om(n:Nat):∀l:List (Int×Int),AV.afE n (iP l)=[]
 | []=>rfl
 |p::l=>by simp[iP,AV.afE,AV.refs,Om n l]
theorem LR:∀l:List (Int×Int),AV.afr (iP l)=true
 | []=>rfl
 |p::l=>by simp[iP,AV.afr,AV.closed,LR l]
theorem Tw(f:Nat->Option Nat)(l:List (Int×Int)):AV.afI f (iP l)=iP l:=aT (LR l)
theorem Tv:∀(l:List (Int×Int)) (i:Nat),(iP l).drop (i*2)=iP (l.drop i)
 |l,0=>by simp
 | [],i+1=>by simp[iP]
 |p::l,i+1=>by
  have:(i+1)*2=i*2+1+1:=by omega
  rw[this];simp only[iP,List.drop_succ_cons];exact Tv l i
theorem YZ{l:List (Int×Int)}{p:Int×Int}(h:l[i]? =some p):
  (iP l)[i*2]? =some (.int .i64 p.1)/\(iP l)[i*2+1]? =some (.int .i64 p.2)/\i*2+2<=(iP l).length:=by
 have U:=gL h;have Z:l.drop i=p::l.drop (i+1):=by rw[O2] at h;obtain⟨X,V⟩:=h;rw[<-V];exact N0 X
 have e:=Tv l i;rw[Z] at e;refine⟨?_,?_,by rw[LS];omega⟩
 .have:(iP l)[i*2]? =((iP l).drop (i*2))[0]? :=by rw[QQf];rfl
  rw[this,e];rfl
 .have:(iP l)[i*2+1]? =((iP l).drop (i*2))[1]? :=by rw[QQf]
  rw[this,e];rfl
structure afv where
 kind:Nat
 sx:Int
 sy:Int
 half:Bool
structure afv.Ok (s:afv):Prop where
 kind:s.kind<256
 x0: -128<=s.sx
 x1:s.sx<=127
 y0: -128<=s.sy
 y1:s.sy<=127
def afv.av(s:afv):AV:=.agg [.int .u8 s.kind,.int .i8 s.sx,.int .i8 s.sy,.bool s.half]
def afv.pt(s:afv)(k:Nat)(x y:Int):P2:=
 (mkRat (x+s.sx.tmod 8*k) ((if s.half then 2 else 1)*k),mkRat (y+s.sy.tmod 8*k) ((if s.half then 2 else 1)*k))
def afv.P(s:afv):List P2:=(ef (s.kind%8)).map fun p=>s.pt 1 p.1 p.2
def afv.T(s:afv):List Tr:=bY (s.kind%8)
theorem Uz{n:Int}(h0: -128<=n)(h1:n<=127):IntKind.i8.wrap n=n:=by simp only[IntKind.wrap,IntKind.bits,IntKind.signed,Bool.true_and];split<;>simp_all<;>omega
theorem RU(x:Int): -7<=x.tmod 8/\x.tmod 8<=7:=by
 have Z:=Int.tmod_lt_of_pos x (show(0:Int)<8 by decide);have X: -8<x.tmod 8:=by have:=Int.tmod_lt_of_pos (-x) (show(0:Int)<8 by decide);rw[Int.neg_tmod] at this;omega
 omega
def qC(Q:List Rat):List AV:=Q.map fun q=>.str (aq q)
theorem Mf(Q:List Rat):(qC Q).length=Q.length:=by simp[qC]
theorem oo:∀Q:List Rat,AV.afr (qC Q)=true
 | []=>rfl
 |q::Q=>by have:=oo Q;simp only[qC] at this;simp[qC,AV.afr,AV.closed,this]
theorem gv(n:Nat):∀Q:List Rat,AV.afE n (qC Q)=[]
 | []=>rfl
 |q::Q=>by have:=gv n Q;simp only[qC] at this;simp[qC,AV.afE,AV.refs,this]
theorem T6(f:Nat->Bool):∀Q:List Rat,AV.afs f (qC Q)=true
 | []=>rfl
 |q::Q=>by have:=T6 f Q;simp only[qC] at this;simp[qC,AV.afs,AV.afm,this]
theorem kW(f:Nat->Option Nat)(Q:List Rat):AV.afI f (qC Q)=qC Q:=aT (oo Q)
theorem OD{Q:List Rat}(h:Q[i]? =some q):(qC Q)[i]? =some (.str (aq q)):=by simp[qC,h]
structure ahJ where
 kind:Nat
 A:Int×Int×Int
 B:Int×Int×Int
 N:Int
 K:Nat×Nat×Nat×Nat
def ahJ.cells(d:ahJ):List AV:=[.int .u8 d.kind,.int .i8 d.A.1,.int .i8 d.A.2.1,.int .i8 d.A.2.2,.int .i8 d.B.1,.int .i8 d.B.2.1,.int .i8 d.B.2.2,.int .i8 d.N,.int .u8 d.K.1,.int .u8 d.K.2.1,.int .u8 d.K.2.2.1,.int .u8 d.K.2.2.2]
def AQ(n:Int):Prop:= -128<=n/\n<=127
def Yf(v:Int×Int×Int):Prop:=AQ v.1/\AQ v.2.1/\AQ v.2.2
def Y7(v:Nat×Nat×Nat×Nat):Prop:=v.1<256/\v.2.1<256/\v.2.2.1<256/\v.2.2.2<256
structure ahJ.Ok (d:ahJ):Prop where
 kind:d.kind<256
 A:Yf d.A
 B:Yf d.B
 N:AQ d.N
 K:Y7 d.K
def hQ(z:Int):Rat:=mkRat z 2
theorem mL(z:Int):hQ z=(z:Rat) / 2:=by unfold hQ;rw[Rat.mkRat_eq_div];rfl
theorem Wr(a b:Int):hQ a+hQ b=hQ (a+b):=by
 rw[mL,mL,mL,Rat.intCast_add]
 grind
theorem YU{a b:Int}(h:a<=b):hQ a<=hQ b:=by
 rw[mL,mL];have:(a:Rat)<=(b:Rat):=by exact_mod_cast h
 grind
variable{z:Int}
theorem VN(h:z.natAbs<1000):dg 3 1 (hQ z):=pG (by decide) h (by decide)
theorem Co(h:z.natAbs<1000):(aq (hQ z)).length<=9:=by have Z:=VN h;have X:big 3 (hQ z):=⟨Z.1,by have:=Z.2;omega⟩;have:=Rh (by decide) X;omega
def qH(Z:List Int):List Rat:=Z.map hQ
theorem AD(x:Int)(k:Nat)(H:0<k): -(k:Int)<x.tmod k/\x.tmod k<k:=by have X:=Int.tmod_lt_of_pos x (show(0:Int)<(k:Int) by omega);have Z:=Int.tmod_lt_of_pos (-x) (show(0:Int)<(k:Int) by omega);rw[Int.neg_tmod] at Z;omega
end Go.Eng
