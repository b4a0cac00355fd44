/- See I36. -/
import Derived.Test.YtgafjliihahjgaaGreatDoorI04
import Derived.Lib.Atoi
import Derived.Lib.Strings
import Derived.Lib.Bytealg
import Derived.Lib.IndexLaws
set_option linter.all false
namespace Go.Eng
def Ux(k:Nat):UInt8:=UInt8.ofNat (48+k)
def isD(c:UInt8):Bool:=decide (48<=c.toNat)&&decide (c.toNat<=57)
def Xh:Nat->Nat->List UInt8->List UInt8
 |0,_,acc=>acc
 |f+1,u,acc=>if u<10 then Ux u::acc else Xh f (u / 10) (Ux (u%10)::acc)
def az(u:Nat):List UInt8:=Xh (u.log2+1) u []
theorem Qn:∀(f u:Nat) (acc:List UInt8),u<2 ^ f->0<f->Xh f u acc=Lib.decDigits u++acc
 |0,u,acc,_,h=>by omega
 |f+1,u,acc,h,_=>by
  unfold Xh;by_cases Z:u<10
  .rw[if_pos Z,Lib.decDigits,dif_pos Z];rfl
  .rw[if_neg Z,Lib.decDigits,dif_neg Z]
   have X:0<f:=by
    cases f with
    |zero=>simp at h;omega
    |succ f=>omega
   rw[Qn f (u / 10) _ (by rw[Nat.pow_succ] at h;omega) X];simp[Ux]
theorem wz(u:Nat):az u=Lib.decDigits u:=by unfold az;rw[Qn _ _ _ Nat.lt_log2_self (by omega)];simp
variable{u:Nat}
theorem ij(h:u<10):az u=[Ux u]:=by rw[wz,Lib.decDigits,dif_pos h];rfl
theorem ue(h:¬u<10):az u=az (u / 10)++[Ux (u%10)]:=by
 have e:Lib.decDigits u=Lib.decDigits (u / 10)++[UInt8.ofNat (48+u%10)]:=by
  conv=>lhs;rw[Lib.decDigits]
  rw[dif_neg h]
 unfold Ux;rw[wz u,wz (u / 10),e]
def wK(a:Nat)(l:List UInt8):Nat:=l.foldl (fun a c=>10*a+(c.toNat-48)) a
theorem fD(a:Nat):wK a []=a:=by unfold wK;rw[List.foldl_nil]
theorem fq(a:Nat)(c:UInt8)(r:List UInt8):wK a (c::r)=wK (10*a+(c.toNat-48)) r:=by unfold wK;rw[List.foldl_cons]
def iU(l:List UInt8):Nat:=wK 0 l
theorem wJ:∀(l r:List UInt8) (a:Nat),wK a (l++r)=wK (wK a l) r
 | [],_,a=>by rw[List.nil_append,fD]
 |c::l,r,a=>by rw[List.cons_append,fq,fq,wJ l r]
theorem yi(l:List UInt8)(c:UInt8):iU (l++[c])=10*iU l+(c.toNat-48):=by unfold iU;rw[wJ,fq,fD]
variable{k:Nat}
theorem tS(h:k<10):(Ux k).toNat=48+k:=by unfold Ux;simp[UInt8.toNat_ofNat'];omega
theorem P6(h:k<10):isD (Ux k)=true:=by unfold isD;rw[tS h];simp;omega
variable{c:UInt8}
theorem C7(h:isD c=true):Ux (c.toNat-48)=c:=by unfold isD at h;simp only[Es,L0] at h;unfold Ux;apply UInt8.toNat_inj.1;simp[UInt8.toNat_ofNat'];omega
theorem zN(h:isD c=true):c.toNat-48<10:=by unfold isD at h;simp only[Es,L0] at h;omega
theorem xS{p:Nat->Prop}(h0:∀u,u<10->p u)(h1:∀u,¬u<10->p (u / 10)->p u)(u:Nat):p u:=by
 induction u using Nat.strongRecOn with
 |_ u ih=>
  by_cases h:u<10
  .exact h0 u h
  .exact h1 u h (ih (u / 10) (by omega))
theorem fm(u:Nat):iU (az u)=u:=by
 induction u using xS with
 |h0 u h=>
  rw[ij h];unfold iU;rw[fq,fD,tS h];omega
 |h1 u h ih=>rw[ue h,yi,ih,tS (by omega)];omega
theorem ff(u:Nat):(az u).all isD=true:=by
 induction u using xS with
 |h0 u h=>rw[ij h];simp[P6 h]
 |h1 u h ih=>rw[ue h,List.all_append,ih];simp[P6 (show u%10<10 by omega)]
theorem kI(u:Nat):az u≠[]:=by
 induction u using xS with
 |h0 u h=>rw[ij h];simp
 |h1 u h ih=>rw[ue h];simp
theorem uf(u:Nat):0<(az u).length:=List.length_pos_iff.2 (kI u)
theorem DH(u:Nat)(hu:0<u):(az u).head? ≠some 48:=by
 induction u using xS with
 |h0 u h=>
  rw[ij h];simp only[List.head?_cons,ne_eq,N3];intro e;have:=congrArg UInt8.toNat e;rw[tS h] at this;simp at this;omega
 |h1 u h ih=>
  rw[ue h,List.head?_append];have:=ih (by omega);cases hh:(az (u / 10)).head? with
  |none=>exact absurd (List.head?_eq_none_iff.1 hh) (kI _)
  |some x=>rw[hh] at this;simpa using this
theorem sX:az 0=[48]:=by rw[ij (by omega)];rfl
def jW(l:List UInt8):Bool:=match l with
 | []=>false
 |c::r=>isD c&&r.all isD&&(!(c==48)||r.isEmpty)
theorem OU(u:Nat):jW (az u)=true:=by
 have Z:=ff u;have X:=kI u;by_cases hu:u=0
 .subst hu;rw[sX];rfl
 .have h3:=DH u (by omega)
  cases hl:az u with
  |nil=>exact absurd hl X
  |cons c r=>
   rw[hl] at Z h3;simp only[QQK,Es] at Z;simp only[List.head?_cons,ne_eq,N3] at h3;simp[jW,Z.1,Z.2,h3]
variable{l:List UInt8}
theorem OT(y:l≠[])(h:jW (l++[c])=true):jW l=true/\isD c=true/\l≠[48]:=by
 cases l with
 |nil=>exact absurd rfl y
 |cons x r=>
  simp only[List.cons_append,jW,List.all_append,QQK,List.all_nil,Bool.and_true,Es] at h;obtain⟨⟨W,V,h3⟩,Z⟩:=h;have X:(x==48)=false:=by
   cases hx:x==48 with
   |false=>rfl
   |true=>rw[hx] at Z;simp at Z
  refine⟨by simp[jW,W,V,X],h3,?_⟩;intro e;cases e;simp at X
theorem YS{p:List UInt8->Prop}(h0:p [])(h1:∀l c,p l->p (l++[c]))(l:List UInt8):p l:=by
 have:∀n (l:List UInt8),l.length=n->p l:=by
  intro n;induction n with
  |zero=>intro l Z;rw[M0 Z];exact h0
  |succ n ih=>
   intro l Z;have X:l≠[]:=by intro e;rw[e] at Z;simp at Z
   rw[<-List.dropLast_concat_getLast X];exact h1 _ _ (ih _ (by simp[Z]))
 exact this _ l rfl
theorem xU(h:jW l=true):az (iU l)=l:=by
 induction l using YS with
 |h0=>cases h
 |h1 l c ih=>
  by_cases X:l=[]
  .subst X
   simp only[List.nil_append,jW,List.all_nil,Bool.and_true,List.isEmpty_nil,Bool.or_true] at h;unfold iU;rw[List.nil_append,fq,fD,Nat.mul_zero,QQZ,ij (zN h),C7 h]
  .obtain⟨h1,W,h3⟩:=OT X h
   have Z:=ih h1;have V:iU l≠0:=by intro e;rw[e,sX] at Z;exact h3 Z.symm
   have S:=zN W;rw[yi,ue (by omega),show(10*iU l+(c.toNat-48)) / 10=iU l by omega,show(10*iU l+(c.toNat-48))%10=c.toNat-48 by omega,Z,C7 W]
def zW(l:List UInt8):Option Nat:=if jW l then some (iU l) else none
theorem ej(u:Nat):zW (az u)=some u:=by unfold zW;rw[if_pos (OU u),fm]
theorem jo(h:zW l=some u):l=az u:=by
 unfold zW at h;split at h
 next hc=>cases h;exact(xU hc).symm
 .cases h
variable{v:Nat}
theorem H4(h:az u=az v):u=v:=by rw[<-fm u,h,fm]
theorem DM(u:Nat)(hu:0<u):10 ^ ((az u).length-1)<=u:=by
 induction u using xS with
 |h0 u h=>rw[ij h];simp;omega
 |h1 u h ih=>
  rw[ue h];have:=ih (by omega);have Z:=uf (u / 10);simp only[Nm,List.length_singleton,Nat.add_sub_cancel];have e:10 ^ (az (u / 10)).length=10 ^ ((az (u / 10)).length-1)*10:=by rw[<-Nat.pow_succ];congr 1;omega
  rw[e];omega
theorem dC(u:Nat):u<10 ^ (az u).length:=by rw[wz,Lib.decDigits_length];exact Lib.lt_pow_nDigits u
theorem aV(hk:0<k)(h:u<10 ^ k):(az u).length<=k:=by
 by_cases hu:u=0
 .subst hu;rw[sX];exact hk
 .have X:=DM u (by omega)
  have Z:10 ^ ((az u).length-1)<10 ^ k:=by omega
  have:=(Nat.pow_lt_pow_iff_right (by omega:1<10)).1 Z;omega
def cf(n:Int):List UInt8:=match n with
 |.ofNat u=>az u
 |.negSucc u=>45::az (u+1)
theorem UX(n:Int):cf n=Lib.itoa n:=by
 unfold Lib.itoa;cases n with
 |ofNat u=>rw[if_neg (by simp)];simp[cf,wz]
 |negSucc u=>rw[if_pos (Int.negSucc_lt_zero u)];simp[cf,wz]
def mZ(l:List UInt8):Option Int:=match l with
 |45::r=>match zW r with
  |some (u+1)=>some (.negSucc u)
  |_=>none
 |l=>match zW l with
  |some u=>some (.ofNat u)
  |none=>none
theorem qg(u:Nat):(az u).head? ≠some 45:=by
 cases hl:az u with
 |nil=>simp
 |cons c r=>
  have:=ff u;rw[hl] at this;simp only[QQK,Es] at this;simp only[List.head?_cons,ne_eq,N3];rintro rfl;exact absurd this.1 (by decide)
theorem aW(n:Int):mZ (cf n)=some n:=by
 cases n with
 |ofNat u=>
  have h:=qg u;simp only[cf];unfold mZ;split
  .rename_i r Z
   rw[Z] at h;simp at h
  .rw[ej]
 |negSucc u=>simp[cf,mZ,ej]
theorem dy{n:Int}(h:mZ l=some n):l=cf n:=by
 unfold mZ at h;split at h
 .split at h
  .rename_i Z
   cases h;simp[cf,jo Z]
  .cases h
 .split at h
  .rename_i Z
   cases h;simp[cf,jo Z]
  .cases h
theorem W4{m n:Int}(h:cf m=cf n):m=n:=by have:=aW m;rw[h,aW] at this;exact(QQb this).symm
theorem kS(n:Int):Lib.hasPrefix (cf n) [45]=decide (n<0):=by
 cases n with
 |ofNat u=>
  have h:=qg u;simp only[cf];cases hl:az u with
  |nil=>exact absurd hl (kI u)
  |cons c r=>
   rw[hl] at h;simp only[List.head?_cons,ne_eq,N3] at h;rw[show decide (Int.ofNat u<0)=false by simp];have Z :¬(45:UInt8)=c:=fun e=>h e.symm
   simp[Lib.hasPrefix,List.isPrefixOf,Z]
 |negSucc u=>simp[cf,Lib.hasPrefix,List.isPrefixOf,Int.negSucc_lt_zero]
theorem kk(n:Int):Lib.trimPrefix (cf n) [45]=az n.natAbs:=by
 unfold Lib.trimPrefix;rw[kS];cases n with
 |ofNat u=>
  rw[show decide (Int.ofNat u<0)=false by simp];rfl
 |negSucc u=>simp[cf,Int.negSucc_lt_zero,Int.natAbs]
theorem Mr(h:isD c=true):Lib.digitVal c=some (c.toNat-48):=by unfold isD at h;simp only[Es,L0] at h;unfold Lib.digitVal;rw[if_pos h]
theorem zI:∀(l:List UInt8) (a:Nat),l.all isD=true->Lib.decFrom a l=some (wK a l)
 | [],a,_=>by rw[fD];rfl
 |c::r,a,h=>by simp only[QQK,Es] at h;unfold Lib.decFrom;rw[Mr h.1,fq];simp only;rw[zI r _ h.2,V1]
theorem C6(u:Nat):Lib.decNat (az u)=some u:=by
 unfold Lib.decNat
 have h:(az u).isEmpty=false:=by
  cases hl:az u with
  |nil=>exact absurd hl (kI u)
  |cons=>rfl
 rw[h];simp only[Bool.false_eq_true,if_false];rw[zI _ _ (ff u)];exact congrArg some (fm u)
theorem oT(n:Int):Lib.atoi (cf n)=some n:=by
 cases n with
 |ofNat u=>
  have Z:=qg u;have X:=ff u;have h3:=C6 u;simp only[cf];cases hl:az u with
  |nil=>exact absurd hl (kI u)
  |cons c r=>
   rw[hl] at Z X h3;simp only[List.head?_cons,ne_eq,N3] at Z;simp only[QQK,Es] at X;have hc:¬c=43:=by rintro rfl;exact absurd X.1 (by decide)
   simp[Lib.atoi,Z,hc,h3]
 |negSucc u=>
  simp[cf,Lib.atoi,C6,Int.negSucc_eq]
theorem pd(h:(az u).length<(az v).length):u<v:=by
 have X:=dC u;have Z:0<v:=by
  by_cases Z:v=0
  .subst Z
   rw[sX] at h;have:=uf u;simp only[List.length_singleton] at h;omega
  .omega
 have W:=DM v Z;have h3:10 ^ (az u).length<=10 ^ ((az v).length-1):=P1 (by omega) (by omega);exact QQl X (QQJ h3 W)
def lC(u v:Nat):Int:=if u<v then -1 else if v<u then 1 else 0
theorem qt:∀(l:List UInt8) (a:Nat),l.all isD=true->wK a l<(a+1)*10 ^ l.length
 | [],a,_=>by rw[fD];simp
 |c::r,a,h=>by simp only[QQK,Es] at h;have Z:=zN h.1;have:=qt r (10*a+(c.toNat-48)) h.2;rw[fq];refine QQl this ?_;rw[List.length_cons,Nat.pow_succ,V1 (10 ^ r.length) 10,<-QQh];exact QQf _ (by omega)
theorem U8:∀(l:List UInt8) (a:Nat),a*10 ^ l.length<=wK a l
 | [],a=>by rw[fD];simp
 |c::r,a=>by have:=U8 r (10*a+(c.toNat-48));rw[fq];refine QQJ ?_ this;rw[List.length_cons,Nat.pow_succ,V1 (10 ^ r.length) 10,<-QQh];exact QQf _ (by omega)
theorem oV:∀(l r:List UInt8) (a:Nat),l.length=r.length->l.all isD=true->r.all isD=true->Lib.compareBytes l r=lC (wK a l) (wK a r)
 | [],[],a,_,_,_=>by
  rw[fD];show(0:Int)=lC a a
  unfold lC;rw[if_neg (by omega),if_neg (by omega)]
 | [],_::_,_,h,_,_=>by simp at h
 |_::_,[],_,h,_,_=>by simp at h
 |c::l,d::r,a,h,h1,h2=>by
  simp only[List.length_cons,Nat.add_right_cancel_iff] at h;simp only[QQK,Es] at h1 h2;have W:∀{x y:UInt8}{l r:List UInt8},isD x=true->isD y=true->l.all isD=true->l.length=r.length->x<y->wK (10*a+(x.toNat-48)) l<wK (10*a+(y.toNat-48)) r:=by intro x y l r O M K V S;have J:=qt l (10*a+(x.toNat-48)) K;have C:=U8 r (10*a+(y.toNat-48));have G :x.toNat<y.toNat:=S;unfold isD at O M;simp only[Es,L0] at O M;rw[V] at J;have:(10*a+(x.toNat-48)+1)*10 ^ r.length<=(10*a+(y.toNat-48))*10 ^ r.length:=QQf _ (by omega);omega
  unfold Lib.compareBytes;rw[fq,fq];by_cases Z:c<d
  .rw[if_pos Z]
   have:=W h1.1 h2.1 h1.2 h Z;unfold lC;rw[if_pos this]
  .rw[if_neg Z]
   by_cases X:d<c
   .rw[if_pos X]
    have:=W h2.1 h1.1 h2.2 h.symm X;unfold lC;rw[if_neg (by omega),if_pos this]
   .rw[if_neg X]
    have F:¬c.toNat<d.toNat:=Z;have D:¬d.toNat<c.toNat:=X;have e:c.toNat=d.toNat:=by omega
    rw[e];exact oV l r _ h h1.2 h2.2
theorem yZ(h:(az u).length=(az v).length):Lib.compareBytes (az u) (az v)=lC u v:=by
 have:=oV (az u) (az v) 0 h (ff u) (ff v);rw[this];show lC (iU (az u)) (iU (az v))=_
 rw[fm,fm]
def oz(n:Int):Int:=if n<0 then -1 else if n=0 then 0 else 1
def Ml(m n:Int):Int:=if m<n then -1 else if n<m then 1 else 0
theorem UY(n:Int):cf n=[48]↔n=0:=by
 constructor
 .intro h;exact W4 (h.trans (by rfl))
 .rintro rfl;rfl
theorem lX(n:Int):(cf n==[48])=decide (n=0):=by rw[Bool.eq_iff_iff];simp[UY]
theorem sO(n:Int):0<(cf n).length:=by
 cases n with
 |ofNat u=>exact uf u
 |negSucc u=>simp[cf]
theorem nN{n:Int}(h:0<n):cf (-n)=45::cf n:=by
 cases n with
 |ofNat u=>
  cases u with
  |zero=>simp at h
  |succ u=>rfl
 |negSucc u=>exact absurd h (by have:=Int.negSucc_lt_zero u;omega)
theorem HY{n:Int}(h:n<0):(cf n).drop 1=cf (-n):=by have:=nN (n:= -n) (by omega);rw[Int.neg_neg] at this;rw[this];rfl
theorem kD{n:Int}(h:0<=n):cf n=az n.natAbs:=by
 cases n with
 |ofNat u=>rfl
 |negSucc u=>exact absurd h (by have:=Int.negSucc_lt_zero u;omega)
theorem Yg(a b:Int):Ml a b=if oz a≠oz b then (if oz a<oz b then -1 else 1) else
  if (az a.natAbs).length≠(az b.natAbs).length then (if (az a.natAbs).length<(az b.natAbs).length then-oz a else oz a) else oz a*lC a.natAbs b.natAbs:=by
 by_cases Z:oz a≠oz b
 .rw[if_pos Z]
  unfold oz at Z |-;unfold Ml
  repeat' split
  all_goals first | rfl | omega
 .rw[if_neg Z]
  by_cases W:(az a.natAbs).length≠(az b.natAbs).length
  .rw[if_pos W]
   by_cases X:(az a.natAbs).length<(az b.natAbs).length
   .rw[if_pos X]
    have:=pd X;unfold oz at Z |-;unfold Ml
    repeat' split
    all_goals first | rfl | omega
   .rw[if_neg X]
    have:=pd (u:=b.natAbs) (v:=a.natAbs) (by omega);unfold oz at Z |-;unfold Ml
    repeat' split
    all_goals first | rfl | omega
  .rw[if_neg W]
   unfold oz at Z |-;unfold Ml lC
   repeat' split
   all_goals first | rfl | omega
def aB(q:Rat):List UInt8:=if q.den=1 then cf q.num else cf q.num++47::az q.den
theorem xT(u:Nat):(47:UInt8)∉az u:=by intro h;have:=List.all_eq_true.1 (ff u) _ h;exact absurd this (by decide)
theorem lY(n:Int):(47:UInt8)∉cf n:=by
 cases n with
 |ofNat u=>exact xT u
 |negSucc u=>
  simp only[cf,List.mem_cons,not_or];exact⟨by decide,xT _⟩
theorem o6:∀(l:List UInt8) (c:UInt8),c∉l->Lib.indexByte l c= -1
 | [],_,_=>rfl
 |b::l,c,h=>by simp only[List.mem_cons,not_or] at h;unfold Lib.indexByte;rw[if_neg (by simpa using fun e=>h.1 e.symm),o6 l c h.2];rfl
theorem zM:∀(l r:List UInt8) (c:UInt8),c∉l->Lib.indexByte (l++c::r) c=l.length
 | [],r,c,_=>by simp[Lib.indexByte]
 |b::l,r,c,h=>by
  simp only[List.mem_cons,not_or] at h;rw[List.cons_append];unfold Lib.indexByte;rw[if_neg (by simpa using fun e=>h.1 e.symm),zM l r c h.2];have Z:¬(((l.length:Int)== -1)=true):=by rw[beq_iff_eq];omega
  rw[if_neg Z];rfl
theorem E4(q:Rat):Lib.indexByte (aB q) 47=if q.den=1 then -1 else ((cf q.num).length:Int):=by
 unfold aB;split
 .exact o6 _ _ (lY _)
 .exact zM _ _ _ (lY _)
def SV(n:Int)(d:Nat):Option Rat:=if h:1<d/\n.natAbs.gcd d=1 then some ⟨n,d,by omega,h.2⟩ else none
def eS(l:List UInt8):Option Rat:=match l.idxOf? 47 with
 |none=>match mZ l with
  |some n=>some ⟨n,1,by decide,Nat.gcd_one_right _⟩
  |none=>none
 |some i=>match mZ (l.take i),zW (l.drop (i+1)) with
  |some n,some d=>SV n d
  |_,_=>none
theorem Sx(h:c∉l):l.idxOf? c=none:=List.idxOf?_eq_none_iff.2 h
theorem W2{r:List UInt8}(h:c∉l):(l++c::r).idxOf? c=some l.length:=by rw[List.idxOf?_eq_some_iff];refine⟨by simp,by simp,fun j Z=>?_⟩;rw[List.getElem_append_left Z];intro e;exact h (e▸List.getElem_mem Z)
theorem aw(q:Rat):eS (aB q)=some q:=by
 unfold eS aB;by_cases h:q.den=1
 .rw[if_pos h,Sx (lY _)]
  simp only[aW];congr 1;apply Rat.ext
  .rfl
  .exact h.symm
 .have Z:List.drop ((cf q.num).length+1) (cf q.num++47::az q.den)=az q.den:=by rw[List.drop_append];simp
  have X:List.take (cf q.num).length (cf q.num++47::az q.den)=cf q.num:=List.take_left' rfl;have W:1<q.den:=by have:=q.den_nz;omega
  have V:q.num.natAbs.gcd q.den=1:=q.reduced;rw[if_neg h,W2 (lY _)];simp only;rw[Z,X,aW,ej];simp only[SV];rw[dif_pos ⟨W,V⟩]
variable{q:Rat}
theorem aA(h:eS l=some q):l=aB q:=by
 unfold eS at h;split at h
 .split at h
  .rename_i n Z
   cases h;unfold aB;rw[if_pos rfl];exact dy Z
  .cases h
 .rename_i i W
  split at h
  .rename_i n d Z V
   unfold SV at h;split at h
   .rename_i hc
    cases h;unfold aB;rw[if_neg (by show¬d=1;omega)];obtain⟨S,X,_⟩:=List.idxOf?_eq_some_iff.1 W;show l=cf n++47::az d
    rw[<-dy Z,<-jo V];have:l.drop i=47::l.drop (i+1):=by rw[N2 S,X]
    rw[<-this,List.take_append_drop]
   .cases h
  .cases h
theorem kW{p:Rat}(h:aB p=aB q):p=q:=by have:=aw p;rw[h,aw] at this;exact(QQb this).symm
theorem M6(q:Rat):aB q=[48]↔q=0:=by
 constructor
 .intro h;exact kW (h.trans (by rfl))
 .rintro rfl;rfl
theorem bK(q:Rat):(aB q==[48])=decide (q=0):=by rw[Bool.eq_iff_iff];simp[M6]
theorem neg_num(q:Rat):(-q).num= -q.num:=rfl
theorem YE(q:Rat):(-q).den=q.den:=rfl
theorem tw(h:0<q.num):aB (-q)=45::aB q:=by unfold aB;rw[neg_num,YE,nN h];split<;>rfl
theorem qj(h:q.num<0):aB q=45::aB (-q):=by
 have:=tw (q:= -q) (by rw[neg_num];omega)
 rwa [Rat.neg_neg] at this
theorem Bv:q.num=0↔q=0:=by
 constructor
 .intro h
  apply Rat.ext
  .exact h
  .have:=q.reduced
   rw[h] at this;simpa [Nat.Coprime] using this
 .rintro rfl;rfl
theorem tt(h:0<=q.num):∃c r,aB q=c::r/\isD c=true:=by
 have Z:∃c r,cf q.num=c::r/\isD c=true:=by
  rw[kD h];have:=ff q.num.natAbs;cases hl:az q.num.natAbs with
  |nil=>exact absurd hl (kI _)
  |cons c r=>
   rw[hl] at this;simp only[QQK,Es] at this;exact⟨c,r,rfl,this.1⟩
 obtain⟨c,r,e,hc⟩:=Z;unfold aB;split
 .exact⟨c,r,e,hc⟩
 .exact⟨c,r++47::az q.den,by rw[e];rfl,hc⟩
theorem iE(h:isD c=true):¬((c.toNat:Int)=45):=by unfold isD at h;simp only[Es,L0] at h;omega
def oB(q:Rat):Int:=oz q.num
def big(k:Nat)(q:Rat):Prop:=q.num.natAbs<10 ^ k/\q.den<10 ^ k
variable{d:Nat}
theorem Xf(n:Int)(hd:d≠0):(mkRat n d).num.natAbs<=n.natAbs/\(mkRat n d).den<=d:=by rw[Rat.num_mkRat,Rat.den_mkRat,if_neg hd,if_neg hd];refine⟨?_,Nat.div_le_self _ _⟩;exact Int.natAbs_ediv_le_natAbs _ _
variable{b:Nat}
theorem SM{a:Nat}(h1:a<10 ^ k)(h2:b<10 ^ k):a*b<10 ^ (2*k):=by
 have:a*b<10 ^ k*10 ^ k:=Nat.mul_lt_mul'' h1 h2
 rwa [<-Nat.pow_add,show k+k=2*k by omega] at this
theorem dz(n:Int):(cf n).length<=(az n.natAbs).length+1:=by
 cases n with
 |ofNat u=>simp[cf]
 |negSucc u=>simp[cf]
theorem FK(hk:0<k)(h:big k q):(aB q).length<=2*k+2:=by
 have Z:=aV hk h.1;have X:=aV hk h.2;have h3:=dz q.num;unfold aB;split
 .omega
 .simp only[Nm,List.length_cons];omega
theorem lW(h:(aB q).length<=k):big k q:=by
 have W:=dC q.num.natAbs;have V:=dC q.den;have h3:(az q.num.natAbs).length<=(cf q.num).length:=by
  cases q.num with
  |ofNat u=>exact L9 _
  |negSucc u=>simp[cf]
 have S:=sO q.num;have Z:(az q.num.natAbs).length<=k/\(az q.den).length<=k:=by
  unfold aB at h;split at h
  .rename_i X
   refine⟨by omega,?_⟩;rw[X];show 1<=k
   omega
  .simp only[Nm,List.length_cons] at h
   omega
 have O:10 ^ (az q.num.natAbs).length<=10 ^ k:=P1 (by omega) Z.1;have M:10 ^ (az q.den).length<=10 ^ k:=P1 (by omega) Z.2;exact⟨by omega,by omega⟩
def asc:List (Rat×Rat)->Prop
 |a::b::l=>a.1<b.1/\asc (b::l)
 |_=>True
def cz(l:List (Rat×Rat))(u:Rat):Nat:=match l with
 | []=>0
 |k::r=>(if k.1<=u then 1 else 0)+cz r u
def Gm(a b:Rat×Rat):Rat:=(b.2-a.2) / (b.1-a.1)
def wh(l:List (Rat×Rat))(n:Nat):Rat×Rat:=
 if l=[] then (0,0) else if n=0 then ((l.getD 0 (0,0)).2,0) else if n=l.length then ((l.getD (n-1) (0,0)).2,0) else
  ((l.getD (n-1) (0,0)).2-Gm (l.getD (n-1) (0,0)) (l.getD n (0,0))*(l.getD (n-1) (0,0)).1,Gm (l.getD (n-1) (0,0)) (l.getD n (0,0)))
def gB(l:List (Rat×Rat))(u:Rat):Rat:=(wh l (cz l u)).1+(wh l (cz l u)).2*u
variable{a:Rat×Rat}
theorem HG{l:List (Rat×Rat)}(h:asc (a::l)):asc l:=by
 cases l with
 |nil=>trivial
 |cons b l=>exact h.2
theorem pf(l:List (Rat×Rat))(u:Rat):cz l u<=l.length:=by
 induction l with
 |nil=>exact L9 _
 |cons k r ih=>simp only[cz,List.length_cons];split<;>omega
theorem tl{l:List (Rat×Rat)}{u:Rat}(h:asc l)(h0:∀a∈l.head?,u<a.1):cz l u=0:=by
 induction l with
 |nil=>rfl
 |cons k r ih=>
  have X:u<k.1:=h0 k (by simp);have:¬k.1<=u:=Rat.not_le.2 X;simp only[cz,if_neg this];rw[ih (HG h) ?_];intro a Z;cases r with
  |nil=>simp at Z
  |cons b r=>
   simp at Z;subst Z;have:=h.1
   grind
variable{n:Nat}
theorem SE{l:List (Rat×Rat)}(y:l≠[])(H:n≠0):wh (a::l) (n+1)=wh l n:=by
 obtain⟨m,rfl⟩:∃m,n=m+1:=⟨n-1,by omega⟩
 unfold wh;simp[y]
theorem PH{b:Rat×Rat}{l:List (Rat×Rat)}{u:Rat}(h:asc (a::b::l))(hu:b.1<=u):gB (a::b::l) u=gB (b::l) u:=by
 have Z:a.1<=u:=by have:=h.1;grind
 have e:cz (a::b::l) u=cz (b::l) u+1:=by rw[cz,if_pos Z,QXJ]
 have X:cz (b::l) u≠0:=by rw[cz,if_pos hu];omega
 unfold gB;rw[e,SE (by simp) X]
theorem Nt{b:Rat×Rat}{l:List (Rat×Rat)}{u:Rat}(h:asc (a::b::l))(y:a.1<=u)(hu:u<b.1):gB (a::b::l) u=a.2+(u-a.1) / (b.1-a.1)*(b.2-a.2):=by
 have e:cz (a::b::l) u=1:=by rw[cz,if_pos y,tl (HG h) (by simpa using hu)]
 have X:b.1-a.1≠0:=by have:=h.1;grind
 unfold gB;rw[e];have Z:wh (a::b::l) 1=(a.2-Gm a b*a.1,Gm a b):=by simp[wh]
 rw[Z];simp only[Gm,Rat.div_def]
 grind
variable{x:Int}
theorem gb{y:Int}{a:Nat}(h1:x.natAbs<a)(h2:y.natAbs<b):(x*y).natAbs<a*b:=by rw[QXQ];exact Nat.mul_lt_mul'' h1 h2
def dg(n d:Nat)(q:Rat):Prop:=q.num.natAbs<10 ^ n/\q.den<10 ^ d
variable{d' n' :Nat}
theorem dg.mono(h:dg n d q)(y:n<=n')(hd:d<=d'):dg n' d' q:=by have Z:10 ^ n<=10 ^ n' :=P1 (by omega) y;have X:10 ^ d<=10 ^ d' :=P1 (by omega) hd;exact⟨by have:=h.1;omega,by have:=h.2;omega⟩
theorem tQ{y:Nat}(H:y≠0)(h1:x.natAbs<10 ^ n)(h2:y<10 ^ d):dg n d (mkRat x y):=by have:=Xf x H;exact⟨by omega,by omega⟩
variable{m:Nat}
theorem o9{a:Nat}(h1:a<10 ^ k)(h2:b<10 ^ m):a*b<10 ^ (k+m):=by rw[Nat.pow_add];exact Nat.mul_lt_mul'' h1 h2
theorem Mq{a b:Rat}(y:dg n d a)(H:dg n' d' b):dg (n+n') (d+d') (a*b):=by rw[Rat.mul_def'];refine tQ (Nat.mul_ne_zero a.den_nz b.den_nz) ?_ (o9 y.2 H.2);rw[QXQ];exact o9 y.1 H.1
theorem P4{a b:Rat}(y:dg n d a)(H:dg n' d' b)(h1:n+d' <=m)(h2:n' +d<=m):dg (m+1) (d+d') (a+b):=by rw[Rat.add_def'];refine tQ (Nat.mul_ne_zero a.den_nz b.den_nz) ?_ (o9 y.2 H.2);have X:=o9 y.1 H.2;have W:=o9 H.1 y.2;have Z:=Int.natAbs_add_le (a.num*b.den) (b.num*a.den);rw[QXQ,QXQ,Int.natAbs_natCast,Int.natAbs_natCast] at Z;have V:10 ^ (n+d')<=10 ^ m:=P1 (by omega) h1;have S:10 ^ (n' +d)<=10 ^ m:=P1 (by omega) h2;have O:10 ^ (m+1)=10 ^ m*10:=Nat.pow_succ ..;omega
theorem Zb{a:Rat}(y:dg n d a):dg n d (-a):=by refine⟨?_,y.2⟩;rw[Rat.neg_num,Int.natAbs_neg];exact y.1
theorem P5{a b:Rat}(y:dg n d a)(H:dg n' d' b)(h1:n+d' <=m)(h2:n' +d<=m):dg (m+1) (d+d') (a-b):=by rw[Rat.sub_eq_add_neg];exact P4 y (Zb H) h1 h2
theorem Za(h:x.natAbs<10 ^ n):dg n 1 (x:Rat):=⟨by simpa using h,by show(1:Nat)<10;decide⟩
theorem dg.lens(h:dg n d q)(y:0<n)(hd:0<d):(az q.num.natAbs).length<=n/\(az q.den).length<=d:=
 ⟨aV y h.1,aV hd h.2⟩
def stC(l:List (List UInt8)):List AV:=l.map .str
theorem ga(l:List (List UInt8)):(stC l).length=l.length:=by simp[stC]
theorem S9(l r:List (List UInt8)):stC (l++r)=stC l++stC r:=by simp[stC]
theorem mo:∀l:List (List UInt8),AV.af9 (stC l)=true
 | []=>rfl
 |x::l=>by have:=mo l;simp only[stC] at this;simp[stC,AV.af9,AV.closed,this]
variable{i:Nat}
theorem uQ{l:List (List UInt8)}{s:List UInt8}(h:l[i]? =some s):(stC l)[i]? =some (.str s):=by simp[stC,h]
theorem Xy(l:List (List UInt8)):(stC l).take l.length=stC l:=GE (by rw[ga];omega)
def stP:List AV->Option (List (List UInt8))
 | []=>some []
 |.str a::l=>match stP l with
  |some r=>some (a::r)
  |none=>none
 |_=>none
theorem D3:∀L:List (List UInt8),stP (stC L)=some L
 | []=>rfl
 |k::L=>by have:=D3 L;simp only[stC] at this;simp[stC,stP,this]
theorem QE:∀{cs:List AV} {L:List (List UInt8)},stP cs=some L->cs=stC L
 | [],L,h=>by cases h;rfl
 |v::l,L,h=>by
  unfold stP at h;split at h
  next Z=>cases Z
  .rename_i a W Z
   cases Z;split at h
   .rename_i r X
    cases h;have:=QE X;simp only[stC] at this |-;rw[this];rfl
   .cases h
  .cases h
def sts(M:Mem)(x:AV):Option (List (List UInt8)):=match Mg 1 M x with
 |some cs=>stP cs
 |none=>none
theorem yc{M:Mem}{x:AV}{L:List (List UInt8)}(h:sts M x=some L):ZL 1 M x L.length (stC L)\/(x=.y9/\L=[]):=by
 unfold sts at h;split at h
 .rename_i V Z
  have hc:=QE h;subst hc;rcases OW Z with⟨n,X,W⟩ | ⟨rfl,X⟩
  .have:n=L.length:=by rw[ga] at X;omega
   subst this;exact .inl W
  .refine .inr ⟨rfl,?_⟩
   cases L with
   |nil=>rfl
   |cons a l=>simp[stC] at X
 .cases h
abbrev P2:=Rat×Rat
def pA(p:P2):AV:=.agg [.str (aB p.1),.str (aB p.2)]
def pDg(n:Nat)(p:P2):Prop:=dg n n p.1/\dg n n p.2
def dJ(a b c:P2):Rat:=(b.1-a.1)*(c.2-a.2)-(b.2-a.2)*(c.1-a.1)
def pC:List P2->List AV
 | []=>[]
 |p::l=>.str (aB p.1)::.str (aB p.2)::pC l
theorem xX:∀l:List P2,(pC l).length=l.length*2
 | []=>rfl
 |_::l=>by simp only[pC,List.length_cons,xX l];omega
theorem fl:∀l:List P2,AV.af9 (pC l)=true
 | []=>rfl
 |p::l=>by simp[pC,AV.af9,AV.closed,fl l]
theorem fB(n:Nat):∀l:List P2,AV.ago n (pC l)=[]
 | []=>rfl
 |p::l=>by simp[pC,AV.ago,AV.refs,fB n l]
theorem iH(f:Nat->Option Nat)(l:List P2):AV.agd f (pC l)=pC l:=ca (fl l)
theorem Zt:pC []=[]:=rfl
theorem DL(f:Nat->Bool):∀l:List P2,AV.af7 f (pC l)=true
 | []=>rfl
 |p::l=>by simp[pC,AV.af7,AV.afF,DL f l]
theorem DK:∀l r:List P2,pC (l++r)=pC l++pC r
 | [],_=>rfl
 |p::l,r=>by simp[pC,DK l r]
theorem Vx:∀(l:List P2) (i:Nat),(pC l).drop (i*2)=pC (l.drop i)
 |l,0=>by simp
 | [],i+1=>by simp[pC]
 |p::l,i+1=>by
  have:(i+1)*2=i*2+1+1:=by omega
  rw[this];simp only[pC,List.drop_succ_cons];exact Vx l i
theorem Pp{l:List P2}{p:P2}(h:l[i]? =some p):
  ((pC l).drop (i*2)).take 2=[.str (aB p.1),.str (aB p.2)]/\(pC l)[i*2]? =some (.str (aB p.1))/\(pC l)[i*2+1]? =some (.str (aB p.2))/\i*2+2<=(pC l).length:=by
 have V:=gL h;have Z:l.drop i=p::l.drop (i+1):=by rw[N4] at h;obtain⟨X,W⟩:=h;rw[<-W];exact N2 X
 have e:=Vx l i;rw[Z] at e;refine⟨by rw[e];rfl,?_,?_,by rw[xX];omega⟩
 .have:(pC l)[i*2]? =((pC l).drop (i*2))[0]? :=by rw[QQc];rfl
  rw[this,e];rfl
 .have:(pC l)[i*2+1]? =((pC l).drop (i*2))[1]? :=by rw[QQc]
  rw[this,e];rfl
abbrev Tr:=Nat×Nat×Nat
def tC:List Tr->List AV
 | []=>[]
 |t::l=>.int .i64 (t.1:Int)::.int .i64 (t.2.1:Int)::.int .i64 (t.2.2:Int)::tC l
theorem Nk:∀l:List Tr,(tC l).length=l.length*3
 | []=>rfl
 |_::l=>by simp only[tC,List.length_cons,Nk l];omega
theorem gA:∀l:List Tr,AV.af9 (tC l)=true
 | []=>rfl
 |p::l=>by simp[tC,AV.af9,AV.closed,gA l]
theorem fQ(n:Nat):∀l:List Tr,AV.ago n (tC l)=[]
 | []=>rfl
 |p::l=>by simp[tC,AV.ago,AV.refs,fQ n l]
theorem kj(f:Nat->Option Nat)(l:List Tr):AV.agd f (tC l)=tC l:=ca (gA l)
theorem D6(f:Nat->Bool):∀l:List Tr,AV.af7 f (tC l)=true
 | []=>rfl
 |p::l=>by simp[tC,AV.af7,AV.afF,D6 f l]
theorem VP:∀(l:List Tr) (i:Nat),(tC l).drop (i*3)=tC (l.drop i)
 |l,0=>by simp
 | [],i+1=>by simp[tC]
 |p::l,i+1=>by
  have:(i+1)*3=i*3+1+1+1:=by omega
  rw[this];simp only[tC,List.drop_succ_cons];exact VP l i
theorem XA{l:List Tr}{t:Tr}(h:l[i]? =some t):
  ((tC l).drop (i*3)).take 3=[.int .i64 (t.1:Int),.int .i64 (t.2.1:Int),.int .i64 (t.2.2:Int)]/\i*3+3<=(tC l).length:=by
 have V:=gL h;have Z:l.drop i=t::l.drop (i+1):=by rw[N4] at h;obtain⟨X,W⟩:=h;rw[<-W];exact N2 X
 have e:=VP l i;rw[Z] at e;exact⟨by rw[e];rfl,by rw[Nk];omega⟩
def pmE(p:P2):AV×AV:=(pA p,.bool true)
theorem Ia(n:Nat):∀l:List P2,(l.map pmE).flatMap (fun e=>e.1.refs n++e.2.refs n)=[]
 | []=>rfl
 |p::l=>by simp[pmE,pA,AV.refs,AV.ago,Ia n l]
def sqI:List (Int×Int):=[(0,0),(4,0),(4,4),(0,4)]
def er:Nat->List (Int×Int)
 |0=>sqI
 |1=>sqI
 |2=>[(0,0),(4,0),(4,4),(0,4),(2,1)]
 |3=>[(0,0),(6,0),(0,4)]
 |4=>[(0,0),(2,0),(4,0),(0,2),(2,2),(4,2)]
 |5=>[(1,4),(5,3),(4,0),(0,0)]
 |6=>[(0,0),(4,0),(4,4),(0,4),(2,0)]
 |_=>[(0,0),(6,0),(0,6),(2,2)]
def bL:Nat->List Tr
 |0=>[(0,1,2),(0,2,3)]
 |1=>[(0,1,3),(1,2,3)]
 |2=>[(0,1,4),(1,2,4),(2,3,4),(3,0,4)]
 |3=>[(2,0,1)]
 |4=>[(0,1,4),(0,4,3),(1,2,5),(1,5,4)]
 |5=>[(3,2,1),(3,1,0)]
 |6=>[(0,4,3),(4,2,3),(4,1,2)]
 |_=>[(0,1,3),(1,2,3),(2,0,3)]
def mW:Nat->List Nat
 |2=>[0,1,2,3]
 |3=>[0,1,2]
 |4=>[0,1,2,5,4,3]
 |5=>[0,3,2,1]
 |6=>[0,4,1,2,3]
 |7=>[0,1,2]
 |_=>[0,1,2,3]
def iP:List (Int×Int)->List AV
 | []=>[]
 |p::l=>.int .i64 p.1::.int .i64 p.2::iP l
theorem MF:∀l:List (Int×Int),(iP l).length=l.length*2
 | []=>rfl
 |_::l=>by simp only[iP,List.length_cons,MF l];omega
theorem O8(n:Nat):∀l:List (Int×Int),AV.ago n (iP l)=[]
 | []=>rfl
 |p::l=>by simp[iP,AV.ago,AV.refs,O8 n l]
theorem ME:∀l:List (Int×Int),AV.af9 (iP l)=true
 | []=>rfl
 |p::l=>by simp[iP,AV.af9,AV.closed,ME l]
theorem UT(f:Nat->Option Nat)(l:List (Int×Int)):AV.agd f (iP l)=iP l:=ca (ME l)
theorem US:∀(l:List (Int×Int)) (i:Nat),(iP l).drop (i*2)=iP (l.drop i)
 |l,0=>by simp
 | [],i+1=>by simp[iP]
 |p::l,i+1=>by
  have:(i+1)*2=i*2+1+1:=by omega
  rw[this];simp only[iP,List.drop_succ_cons];exact US l i
theorem Z4{l:List (Int×Int)}{p:Int×Int}(h:l[i]? =some p):
  (iP l)[i*2]? =some (.int .i64 p.1)/\(iP l)[i*2+1]? =some (.int .i64 p.2)/\i*2+2<=(iP l).length:=by
 have V:=gL h;have Z:l.drop i=p::l.drop (i+1):=by rw[N4] at h;obtain⟨X,W⟩:=h;rw[<-W];exact N2 X
 have e:=US l i;rw[Z] at e;refine⟨?_,?_,by rw[MF];omega⟩
 .have:(iP l)[i*2]? =((iP l).drop (i*2))[0]? :=by rw[QQc];rfl
  rw[this,e];rfl
 .have:(iP l)[i*2+1]? =((iP l).drop (i*2))[1]? :=by rw[QQc]
  rw[this,e];rfl
structure af8 where
 kind:Nat
 sx:Int
 sy:Int
 half:Bool
structure af8.Ok (s:af8):Prop where
 kind:s.kind<256
 x0: -128<=s.sx
 x1:s.sx<=127
 y0: -128<=s.sy
 y1:s.sy<=127
def af8.av(s:af8):AV:=.agg [.int .u8 s.kind,.int .i8 s.sx,.int .i8 s.sy,.bool s.half]
def af8.pt(s:af8)(k:Nat)(x y:Int):P2:=
 (mkRat (x+s.sx.tmod 8*k) ((if s.half then 2 else 1)*k),mkRat (y+s.sy.tmod 8*k) ((if s.half then 2 else 1)*k))
def af8.P(s:af8):List P2:=(er (s.kind%8)).map fun p=>s.pt 1 p.1 p.2
def af8.T(s:af8):List Tr:=bL (s.kind%8)
theorem VU{n:Int}(h0: -128<=n)(h1:n<=127):IntKind.i8.wrap n=n:=by simp only[IntKind.wrap,IntKind.bits,IntKind.signed,Bool.true_and];split<;>simp_all<;>omega
theorem Tc(x:Int): -7<=x.tmod 8/\x.tmod 8<=7:=by
 have Z:=Int.tmod_lt_of_pos x (show(0:Int)<8 by decide);have X: -8<x.tmod 8:=by have:=Int.tmod_lt_of_pos (-x) (show(0:Int)<8 by decide);rw[Int.neg_tmod] at this;omega
 omega
def qC(Q:List Rat):List AV:=Q.map fun q=>.str (aB q)
theorem M4(Q:List Rat):(qC Q).length=Q.length:=by simp[qC]
theorem lI:∀Q:List Rat,AV.af9 (qC Q)=true
 | []=>rfl
 |q::Q=>by have:=lI Q;simp only[qC] at this;simp[qC,AV.af9,AV.closed,this]
theorem ir(n:Nat):∀Q:List Rat,AV.ago n (qC Q)=[]
 | []=>rfl
 |q::Q=>by have:=ir n Q;simp only[qC] at this;simp[qC,AV.ago,AV.refs,this]
theorem M5(f:Nat->Bool):∀Q:List Rat,AV.af7 f (qC Q)=true
 | []=>rfl
 |q::Q=>by have:=M5 f Q;simp only[qC] at this;simp[qC,AV.af7,AV.afF,this]
theorem fO(f:Nat->Option Nat)(Q:List Rat):AV.agd f (qC Q)=qC Q:=ca (lI Q)
theorem Zv{Q:List Rat}(h:Q[i]? =some q):(qC Q)[i]? =some (.str (aB q)):=by simp[qC,h]
structure agf where
 kind:Nat
 A:Int×Int×Int
 B:Int×Int×Int
 N:Int
 K:Nat×Nat×Nat×Nat
def agf.cells(d:agf):List AV:=[.int .u8 d.kind,.int .i8 d.A.1,.int .i8 d.A.2.1,.int .i8 d.A.2.2,.int .i8 d.B.1,.int .i8 d.B.2.1,.int .i8 d.B.2.2,.int .i8 d.N,.int .u8 d.K.1,.int .u8 d.K.2.1,.int .u8 d.K.2.2.1,.int .u8 d.K.2.2.2]
def Nx(n:Int):Prop:= -128<=n/\n<=127
def W1(v:Int×Int×Int):Prop:=Nx v.1/\Nx v.2.1/\Nx v.2.2
def ZH(v:Nat×Nat×Nat×Nat):Prop:=v.1<256/\v.2.1<256/\v.2.2.1<256/\v.2.2.2<256
structure agf.Ok (d:agf):Prop where
 kind:d.kind<256
 A:W1 d.A
 B:W1 d.B
 N:Nx d.N
 K:ZH d.K
def XV(v:Int×Int×Int)(k:Nat):Int:=if k=0 then v.1 else if k=1 then v.2.1 else v.2.2
def MW(v:Nat×Nat×Nat×Nat)(k:Nat):Nat:=if k=0 then v.1 else if k=1 then v.2.1 else if k=2 then v.2.2.1 else v.2.2.2
def hQ(z:Int):Rat:=mkRat z 2
theorem zL(z:Int):hQ z=(z:Rat) / 2:=by unfold hQ;rw[Rat.mkRat_eq_div];rfl
theorem Zg(n a:Int):(n:Rat)+hQ a=hQ (2*n+a):=by
 rw[zL,zL,Rat.intCast_add,Rat.intCast_mul];have:((2:Int):Rat)=2:=rfl;rw[this]
 grind
theorem XL(a b:Int):hQ a+hQ b=hQ (a+b):=by
 rw[zL,zL,zL,Rat.intCast_add]
 grind
theorem ZZ{a b:Int}(h:a<=b):hQ a<=hQ b:=by
 rw[zL,zL];have:(a:Rat)<=(b:Rat):=by exact_mod_cast h
 grind
variable{z:Int}
theorem UN(h:z.natAbs<1000):dg 3 1 (hQ z):=tQ (by decide) h (by decide)
theorem Di(h:z.natAbs<1000):(aB (hQ z)).length<=9:=by have Z:=UN h;have X:big 3 (hQ z):=⟨Z.1,by have:=Z.2;omega⟩;have:=FK (by decide) X;omega
def OQ(d:agf)(k:Nat):Int:=2*d.N.tmod 4+(XV d.A (k%3)).tmod 3
def bI(d:agf)(n:Nat):List Int:=(List.range n).map (OQ d)
theorem Sf(d:agf)(n:Nat):bI d (n+1)=bI d n++[OQ d n]:=by simp[bI,List.range_succ]
theorem eK(d:agf)(n:Nat):(bI d n).length=n:=by simp[bI]
def Nj(d:agf)(j k:Nat):Int:=((MW d.K ((j+k)%4)%4:Nat):Int)
def cR(d:agf)(j:Nat)(L:List Int)(n:Nat):List Int:=(List.range n).map fun k=>L.getD k 0+Nj d j k
theorem Gq(d:agf)(j:Nat)(L:List Int)(n:Nat):cR d j L (n+1)=cR d j L n++[L.getD n 0+Nj d j n]:=by simp[cR,List.range_succ]
theorem fI(d:agf)(j:Nat)(L:List Int)(n:Nat):(cR d j L n).length=n:=by simp[cR]
def qH(Z:List Int):List Rat:=Z.map hQ
theorem pq(x:Int)(k:Nat)(hk:0<k): -(k:Int)<x.tmod k/\x.tmod k<k:=by have X:=Int.tmod_lt_of_pos x (show(0:Int)<(k:Int) by omega);have Z:=Int.tmod_lt_of_pos (-x) (show(0:Int)<(k:Int) by omega);rw[Int.neg_tmod] at Z;omega
end Go.Eng
