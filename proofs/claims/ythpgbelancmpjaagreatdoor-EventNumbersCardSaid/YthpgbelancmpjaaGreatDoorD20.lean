/- See D38. -/
import Derived.Test.YthpgbelancmpjaaGreatDoorD19
set_option linter.all false
set_option maxRecDepth 100000
set_option maxHeartbeats 40000000
namespace Go.Proofs
open Go.Eng
open Tryz
theorem P5(n:Int)(d:Nat)(hd:d≠0)(I:(ai n.natAbs).length<=10000)(H:(ai d).length<=10000)(mem:Mem):
  kO prog 142 [.str (bL n),.str (ai d)] mem (.tuple [.str (ao (mkRat n d)),.int .i64 0]) mem:=by
 have Z:aX prog 142=some f142:=by kernel_rfl
 refine aA kG ?_ mem;have X:jB (d:Int)=1:=G9 hd;have V:(ai n.natAbs).length<=100000:=by omega
 have h3:(ai d).length<=100000:=by omega
 simp[aa,Z,f142,ag,bE,bz,cM,aP,aQ,cI,bq,aD,X,hd,V,h3]
noncomputable def Bv(f:FuncId)(args:List AV):Option AV:=
 match f,args with
 |142,[.str s,.str t]=>match iH s,xe t with
  |some n,some d=>if d≠0/\(ai n.natAbs).length<=10000/\(ai d).length<=10000 then some (.tuple [.str (ao (mkRat n d)),.int .i64 0]) else none
  |_,_=>none
 |f,args=>aT f args
theorem NL:qS prog (ag Bv):=bP fun f X v h mem=>by
 unfold Bv at h;split at h
 .split at h
  .rename_i m n V U
   split at h
   next Z=>cases h;rw[bK V,gN U];exact P5 m n Z.1 Z.2.1 Z.2.2 mem
   .cases h
  .cases h
 .have:=cQ.fn _ _ mem ⟨v,none,[]⟩ (by unfold ag;simp only;rw[h])
  simpa [afh.mem] using this
theorem gT{n:Nat}(h:n<10 ^ 19):(ai n).length<=20:=by exact aN (by omega) (by omega)
theorem HF(n:Int)(d:Nat)(hd:d≠0)(I:dV n=true)(H:dV (d:Int)=true)(mem:Mem):
  kO prog 88 [.int .i64 n,.int .i64 d] mem (.tuple [.str (ao (mkRat n d)),.int .i64 0]) mem:=by
 have Z:aX prog 88=some f88:=by kernel_rfl
 refine aA NL ?_ mem;have X:n.natAbs<10 ^ 19:=by unfold dV at I;simp at I;omega
 have V:d<10 ^ 19:=by unfold dV at H;simp at H;omega
 have U:(ai n.natAbs).length<=10000:=by have:=gT X;omega
 have h3:(ai d).length<=10000:=by have:=gT V;omega
 have S:bL (d:Int)=ai d:=rfl;simp[aa,Z,f88,ag,Bv,aT,aV,bE,bz,cM,aP,bq,aD,I,H,S,hd,U,h3]
end Go.Proofs
namespace Go.Eng
theorem yh{a:Int}{b:Nat}(H:0<b)(h:0<=a\/a.natAbs%b=0):a.tdiv b=a / b/\a.tmod b=((a.natAbs%b:Nat):Int):=by
 by_cases S:0<=a
 .obtain⟨n,rfl⟩:∃n:Nat,a=n:=⟨a.toNat,by omega⟩
  rw[wW,wY,Int.natAbs_natCast,Int.natCast_ediv];exact⟨rfl,rfl⟩
 .have Z:a.natAbs%b=0:=by rcases h with h | h<;>omega
  have X:a= -((a.natAbs / b*b:Nat):Int):=by have:=Nat.div_add_mod a.natAbs b;rw[Z,Nat.add_zero,Zq] at this;omega
  obtain⟨q,U⟩:=xE (a.natAbs / b);rw[<-U] at X;rw[Z,X,Int.natCast_mul,<-Int.neg_mul];have V :(b:Int)≠0:=by omega
  exact⟨by rw[Int.mul_tdiv_cancel _ V,Int.mul_ediv_cancel _ V],by rw[Int.mul_tmod_left];rfl⟩
def Sm(D V:Nat)(q:Rat):Prop:=0<D/\(∃n:Int,q*(D:Rat)=(n:Rat))/\ -(V:Rat)<=q/\q<=(V:Rat)
end Go.Eng
namespace Go.Proofs
open Go.Eng
open Tryz
theorem Ha{a:Rat}:0<=gd a↔0<=a:=by
 have h:0<=gd a↔0<=a.num:=by
  unfold gd jB;split
  .omega
  .split<;>omega
 rw[h,Rat.num_nonneg]
theorem V5{a:Rat}(h:0<gd a):0<a:=by
 have Z:=Ha.1 (show 0<=gd a by omega);have X:a≠0:=by rintro rfl;exact absurd h (by decide)
 grind
def qi(A B C q:P2):Rat×Rat×Rat:=(cf B C q,cf C A q,cf A B q)
def inQ(w:Rat×Rat×Rat):Prop:=0<=gd w.1/\0<=gd w.2.1/\0<=gd w.2.2
instance (w:Rat×Rat×Rat):Decidable (inQ w):=inferInstanceAs (Decidable (0<=gd w.1/\0<=gd w.2.1/\0<=gd w.2.2))
def xf(P:List P2)(q:P2)(t:Tr):Rat×Rat×Rat:=qi (P.getD t.1 (0,0)) (P.getD t.2.1 (0,0)) (P.getD t.2.2 (0,0)) q
def GQ(P:List P2)(q:P2):List Tr->Nat->Option (Nat×(Rat×Rat×Rat))
 | [],_=>none
 |t::l,i=>if inQ (xf P q t) then some (i,xf P q t) else GQ P q l (i+1)
theorem sc{P:List P2}{q:P2}:∀{T:List Tr} {k j:Nat} {w:Rat×Rat×Rat},GQ P q T k=some (j,w)->∃i t,j=k+i/\T[i]? =some t/\inQ (xf P q t)/\w=xf P q t/\∀(l:Nat) s,l<i->T[l]? =some s->¬inQ (xf P q s)
 | [],k,j,w,h=>by simp[GQ] at h
 |t::l,k,j,w,h=>by
  rw[GQ] at h;split at h
  .rename_i Z
   simp only[Pi,Prod.mk.injEq] at h;exact⟨0,t,by omega,rfl,Z,h.2.symm,fun l s R=>by omega⟩
  .rename_i Z
   obtain⟨i,s,O,V,h3,U,S⟩:=sc h;refine⟨i+1,s,by omega,by simpa using V,h3,U,fun m x N X=>?_⟩;cases m with
   |zero=>simp at X;subst X;exact Z
   |succ m=>exact S m x (by omega) (by simpa using X)
theorem LB{P:List P2}{q:P2}:∀{T:List Tr} {k:Nat},GQ P q T k=none->∀(l:Nat) s,T[l]? =some s->¬inQ (xf P q s)
 | [],k,h,l,s,hs=>by simp at hs
 |t::r,k,h,l,s,hs=>by
  rw[GQ] at h;split at h
  .cases h
  .rename_i Z
   cases l with
   |zero=>simp at hs;subst hs;exact Z
   |succ m=>exact LB h m s (by simpa using hs)
def DV(w:Rat×Rat×Rat)(a b c:Rat):Rat:=(w.1*a+w.2.1*b+w.2.2*c) / (w.1+w.2.1+w.2.2)
theorem Gw(A B C q:P2):cf B C q+cf C A q+cf A B q=cf A B C:=by
 unfold cf
 grind
def RS(z:Rat):List Rat->Nat
 | []=>0
 |h::l=>(if h<=z then 1 else 0)+RS z l
theorem Lf{z h:Rat}(hz:z<h):∀{l:List Rat},(∀x∈l,h<=x)->RS z l=0
 | [],_=>rfl
 |x::l,H=>by rw[RS,if_neg (by have:=H x (by simp);grind),Lf hz fun y Z=>H y (by simp[Z])]
theorem MZ(s:List UInt8)(mem:Mem):kO prog 185 [.str s] mem (.tuple [.bool (Lib.hasPrefix s [45]),.str (Lib.trimPrefix s [45])]) mem:=by
 have X:aX prog 185=some f185:=by kernel_rfl
 refine aA (az _) ?_ mem;cases s with
 |nil=>simp[aa,X,f185,Lib.hasPrefix,Lib.trimPrefix]
 |cons c r=>
  have U:0<(r.length:Int)+1:=by omega
  have S:(1:Int)<=(r.length:Int)+1:=by omega
  by_cases h:c=45
  .subst h
   have Z:Lib.hasPrefix (45::r) [45]=true:=by simp[Lib.hasPrefix,List.isPrefixOf]
   have V:Lib.trimPrefix (45::r) [45]=r:=by unfold Lib.trimPrefix;rw[Z];rfl
   rw[Z,V];simp[aa,X,f185,U,S,Nat.testBit]
  .have R :¬(45:UInt8)=c:=fun e=>h e.symm
   have Z:Lib.hasPrefix (c::r) [45]=false:=by simp[Lib.hasPrefix,List.isPrefixOf,R]
   have V:Lib.trimPrefix (c::r) [45]=c::r:=by unfold Lib.trimPrefix;rw[Z];rfl
   have h3:¬((c.toNat:Int)=45):=by
    intro e;apply h;apply UInt8.toNat_inj.1;have:c.toNat=45:=by omega
    rw[this];rfl
   rw[Z,V];simp[aa,X,f185,U,h3]
noncomputable def aZ(f:FuncId)(args:List AV):Option AV:=
 match f,args with
 |185,[.str s]=>some (.tuple [.bool (Lib.hasPrefix s [45]),.str (Lib.trimPrefix s [45])])
 |f,args=>ak f args
theorem jg:qS prog (ag aZ):=bP fun f Z v h mem=>by
 unfold aZ at h;split at h
 .cases h;exact MZ _ mem
 .have:=ez.fn _ _ mem ⟨v,none,[]⟩ (by unfold ag;simp only;rw[h])
  simpa [afh.mem] using this
theorem MW(n:Int)(mem:Mem):kO prog 149 [.str (bL n)] mem (.int .i64 (jB n)) mem:=by
 have Z:aX prog 149=some f149:=by kernel_rfl
 refine aA jg ?_ mem;by_cases X:n<0
 .simp[aa,Z,f149,ag,aZ,aK,aF,X,jB]
 .by_cases V:n=0
  .subst V
   have:bL 0=[48]:=rfl;simp[aa,Z,f149,ag,aZ,aK,aF,jB,fT]
  .simp[aa,Z,f149,ag,aZ,aK,aF,X,V,jB,fT]
theorem P8(n:Int)(mem:Mem):kO prog 189 [.str (bL n)] mem (.str (ai n.natAbs)) mem:=by
 have Z:aX prog 189=some f189:=by kernel_rfl
 refine aA jg ?_ mem;simp[aa,Z,f189,ag,aZ,aF]
theorem RY(n:Int)(H:dV n=true)(mem:Mem):kO prog 93 [.int .i64 n] mem (.str (bL n)) mem:=by
 have Z:aX prog 93=some f93:=by kernel_rfl
 refine aA jg ?_ mem;simp[aa,Z,f93,ag,aZ,ak,H]
theorem Qc(n:Int)(H:(ai n.natAbs).length<=1000000000)(mem:Mem):kO prog 150 [.str (bL n)] mem (.str (bL (-n))) mem:=by
 have Z:aX prog 150=some f150:=by kernel_rfl
 refine aA jg ?_ mem;by_cases X:n<0
 .have e:bL (-n)=ai n.natAbs:=by rw[gF (by omega),Int.natAbs_neg]
  simp[aa,Z,f150,ag,aZ,aK,aF,X,e]
 .by_cases V:n=0
  .subst V
   have e:ai 0=[48]:=iY;have U:bL 0=[48]:=rfl;have S:Lib.hasPrefix [48] [45]=false:=rfl;have R:Lib.trimPrefix [48] [45]=[48]:=rfl;simp[aa,Z,f150,ag,aZ,U,S,R]
  .have e:bL (-n)=45::ai n.natAbs:=by rw[kP (by omega),gF (by omega)]
   have O:1+(ai n.natAbs).length<=fM:=by unfold fM;omega
   simp[aa,Z,f150,ag,aZ,aK,aF,X,V,fT,e,O]
variable{K:Nat}{O:y9}{b:Code}
theorem A9(s:List UInt8)(hs:s.length<=1000000000)(I:s.length<K)(H:ah f186=[b]):
  ∃F:Env->Bool->Env,∀Z d,(ae Z 4=.str s/\ae Z 5=.int .i64 0)->
   aU (bd prog) (fun _=>[5]) O K 43 0 true (.loop b) ⟨Z,[],d⟩=some (if s.all isD then .exit 0 else .ret,⟨F Z d,[],d⟩)/\
   ((s.all isD=false->ae (F Z d) 2=.bool false)/\(s.all isD=true->ae (F Z d) 3=ae Z 3/\ae (F Z d) 4=ae Z 4)):=by
 refine bl rfl (fun Z=>ae Z 4=.str s/\ae Z 5=.int .i64 0) (fun Z M =>(s.all isD=false->ae M 2=.bool false)/\(s.all isD=true->ae M 3=ae Z 3/\ae M 4=ae Z 4)) ?_;rintro Z d ⟨h4,h5⟩;have D:aw [5] (ad b) Z ((5,.int .i64 ((0:Nat):Int))::Z)=aw [5] (ad b) Z Z:=by simp[aw,h5]
 rw[<-D];refine bG (α:=Nat) (fun i=>⟨aw [5] (ad b) Z ((5,.int .i64 (i:Int))::Z),[],d⟩)
  (fun i=>s.length-i) (fun i=>i<=s.length/\s.all isD=(s.drop i).all isD) (if s.all isD then .exit 0 else .ret) _ d _ (by split<;>simp) ?_ K 0 ⟨Nat.zero_le _,rfl⟩ (by simp only[QQi];exact I)
 rintro i ⟨hi,PP⟩;clear D;simp[ah,aE,f186] at H;by_cases L:i=s.length
 .right
  have G:s.drop i=[]:=ZN (by omega);have:s.all isD=true:=by rw[PP,G];rfl
  subst L;subst H;rw[this];simp[h4]
 .have R:i<s.length:=by omega
  have U:(i:Int)<(s.length:Int):=by omega
  obtain⟨c,C⟩:∃c,s[i]? =some c:=⟨s[i],by simp[R]⟩
  have V :s[i]=c:=(Ns.1 C).2;have G:s.drop i=c::s.drop (i+1):=by rw[N0 R,V]
  have B:IntKind.i64.wrap ((i:Int)+1)=((i+1:Nat):Int):=by rw[af];omega
  rw[G,QQb] at PP;by_cases u:c.toNat<48
  .right
   have X:isD c=false:=by unfold isD;simp;omega
   have N :((c.toNat:Int)<48):=by omega
   have:s.all isD=false:=by rw[PP,X];rfl
   subst H;rw[this];simp[h4,R,U,V,N]
  .have N :¬((c.toNat:Int)<48):=by omega
   by_cases o:57<c.toNat
   .right
    have X:isD c=false:=by unfold isD;simp;omega
    have S :(57<(c.toNat:Int)):=by omega
    have:s.all isD=false:=by rw[PP,X];rfl
    subst H;rw[this];simp[h4,R,U,V,N,S]
   .left
    have X:isD c=true:=by unfold isD;simp;omega
    have S :¬(57<(c.toNat:Int)):=by omega
    rw[X,Bool.true_and] at PP;refine⟨i+1,?_⟩;refine bU (show(i+1<=s.length/\s.all isD=(s.drop (i+1)).all isD)/\_ from⟨⟨R,PP⟩,by omega⟩) ?_;subst H;simp[h4,R,U,V,N,S,B]
def Up(s:List UInt8):Bool:=(iH s).isSome
def SC(mn:Bool)(t:List UInt8):Bool:=match t with
 | []=>false
 |c::r=>(c::r).all isD&& !(c==48&&(mn||decide (0<r.length)))
theorem SD(s:List UInt8):SC (Lib.hasPrefix s [45]) (Lib.trimPrefix s [45])=Up s:=by
 have S:∀t,SC false t=gK t:=by
  intro t;cases t with
  |nil=>rfl
  |cons c r=>
   simp only[SC,gK,QQb,Bool.false_or];rw[Bool.eq_iff_iff];cases r with
   |nil=>simp
   |cons x r=>simp
 have V:∀t,SC true t=(gK t&& !(t.head? ==some 48)):=by
  intro t;cases t with
  |nil=>rfl
  |cons c r=>
   simp only[SC,gK,QQb,Bool.true_or,Bool.and_true,List.head?_cons];rw[Bool.eq_iff_iff];simp
   grind
 have Z:∀t:List UInt8,(∀r,t≠45::r)->SC false t=Up t:=by
  intro t R;rw[S];unfold Up;rw[EE R];cases hc:gK t with
  |true=>rw[AK hc];rfl
  |false=>rw[GU hc];rfl
 unfold Lib.trimPrefix;cases s with
 |nil=>rw[show Lib.hasPrefix [] [45]=false from rfl];exact Z [] (by simp)
 |cons c r=>
  by_cases h:c=45
  .subst h
   rw[show Lib.hasPrefix (45::r) [45]=true by simp[Lib.hasPrefix,List.isPrefixOf]];simp only[if_true,List.length_singleton,List.drop_succ_cons,List.drop_zero];rw[V];unfold Up;rw[ED];cases hc:gK r with
   |true=>
    rw[AK hc,Bool.true_and];have X:=sh hc;cases hvd:fl r with
    |zero=>
     rw[hvd,iY] at X;rw[<-X];rfl
    |succ u=>
     rw[hvd] at X;have U:=wN (u+1) (by omega);rw[X] at U;have:(r.head? ==some 48)=false:=by simpa using U
     rw[this];rfl
   |false=>
    rw[GU hc];simp
  .have V:Lib.hasPrefix (c::r) [45]=false:=by
    have N :¬(45:UInt8)=c:=fun e=>h e.symm
    simp[Lib.hasPrefix,List.isPrefixOf,N]
   rw[V];exact Z (c::r) (by intro M e;exact h (List.cons.inj e).1)
theorem AQ(s:List UInt8)(hs:s.length<=1000000000)(mem:Mem):kO prog 186 [.str s] mem (.bool (Up s)) mem:=by
 have N:aX prog 186=some f186:=by kernel_rfl
 refine de jg (lv:=fun _=>[5]) (K:=s.length+1) rfl rfl ?_ mem;rw[<-SD];obtain⟨b,L⟩:∃b,ah f186=[b]:=⟨_,rfl⟩
 have B:(Lib.trimPrefix s [45]).length<=s.length:=by unfold Lib.trimPrefix;split<;>simp
 obtain⟨M,X⟩:=xE (Lib.hasPrefix s [45]);obtain⟨t,Z⟩:=xE (Lib.trimPrefix s [45]);rw[<-Z] at B;rw[<-X,<-Z];obtain⟨F,U⟩:=A9 (O:=ag aZ) (K:=s.length+1) t (by omega) (by omega) L;simp[ah,aE,f186] at L;subst L;cases PP:t.all isD with
 |false=>
  have G:SC M t=false:=by
   cases t with
   |nil=>rfl
   |cons c r=>simp only[SC];rw[PP];rfl
  simp only[PP] at U;rw[G];simp[aa,N,f186,ag,aZ,<-X,<-Z,U]
 |true=>
  simp only[PP] at U;cases t with
  |nil=>
   rw[show SC M []=false from rfl];simp[aa,N,f186,ag,aZ,<-X,<-Z,U]
  |cons c r=>
   have G:SC M (c::r)= !(c==48&&(M||decide (0<r.length))):=by simp only[SC];rw[PP];rfl
   rw[G];have V:¬((r.length:Int)+1=0):=by omega
   by_cases S:c=48
   .subst S
    cases M with
    |true=>simp[aa,N,f186,ag,aZ,<-X,<-Z,U,V]
    |false=>
     by_cases C:0<r.length
     .have R :1<(r.length:Int)+1:=by omega
      simp[aa,N,f186,ag,aZ,<-X,<-Z,U,V,C,R]
     .have R :¬1<(r.length:Int)+1:=by omega
      simp[aa,N,f186,ag,aZ,<-X,<-Z,U,V,C,R]
   .have D :¬((c.toNat:Int)=48):=fun e=>S (Yb.1 e)
    simp[aa,N,f186,ag,aZ,<-X,<-Z,U,V,S,D]
noncomputable def bZ(f:FuncId)(args:List AV):Option AV:=
 match f,args with
 |186,[.str s]=>if s.length<=1000000000 then some (.bool (Up s)) else none
 |f,args=>aZ f args
theorem Bw:qS prog (ag bZ):=bP fun f Z v h mem=>by
 unfold bZ at h;split at h
 .split at h
  next X=>cases h;exact AQ _ X mem
  .cases h
 .have:=jg.fn _ _ mem ⟨v,none,[]⟩ (by unfold ag;simp only;rw[h])
  simpa [afh.mem] using this
theorem HP(s:List UInt8)(hs:s.length<=1000000000)(mem:Mem):kO prog 103 [.str s] mem (.bool (okI s)) mem:=by
 have V:aX prog 103=some f103:=by kernel_rfl
 refine aA Bw ?_ mem;cases hn:iH s with
 |none=>
  have X:Up s=false:=by unfold Up;rw[hn];rfl
  have U:okI s=false:=by unfold okI;rw[hn]
  rw[U];simp[aa,V,f103,ag,bZ,aZ,hs,X]
 |some n=>
  have X:Up s=true:=by unfold Up;rw[hn];rfl
  have U:okI s=decide ((ai n.natAbs).length<=200):=by unfold okI;rw[hn]
  have h3:Lib.trimPrefix s [45]=ai n.natAbs:=by rw[bK hn,aF]
  rw[U];by_cases S:(ai n.natAbs).length<=200
  .have Z :((ai n.natAbs).length:Int)<=200:=by omega
   simp[aa,V,f103,ag,bZ,aZ,hs,X,h3,S,Z]
  .have Z :¬((ai n.natAbs).length:Int)<=200:=by omega
   simp[aa,V,f103,ag,bZ,aZ,hs,X,h3,S,Z]
theorem zM(u:Nat)(hl:(ai u).length<=18)(hK:20<K)(H:ah f229=[b]):
  ∃F:Env->Bool->Env,∀Z d,(ae Z 5=.str (ai u)/\ae Z 6=.int .i64 0/\ae Z 7=.int .i64 0)->
   aU (bd prog) (fun _=>[6,7]) O K 45 0 true (.loop b) ⟨Z,[],d⟩=some (.exit 0,⟨F Z d,[],d⟩)/\
   (ae (F Z d) 6=.int .i64 (-(u:Int))/\ae (F Z d) 4=ae Z 4):=by
 obtain⟨s,N⟩:=xE (ai u);have m:s.all isD=true:=by rw[N];exact dH u
 have hv:fl s=u:=by rw[N];exact dK u
 rw[<-N] at hl |-;refine bl rfl (fun Z=>ae Z 5=.str s/\ae Z 6=.int .i64 0/\ae Z 7=.int .i64 0) (fun Z Y =>ae Y 6=.int .i64 (-(u:Int))/\ae Y 4=ae Z 4) ?_;rintro Z d ⟨h5,h6,h7⟩;have V:fl (s.take 0)=0:=by rw[List.take_zero];unfold fl;rw[dM]
 have W:aw [6,7] (ad b) Z ((6,.int .i64 (-((fl (s.take 0):Nat):Int)))::(7,.int .i64 ((0:Nat):Int))::Z)=aw [6,7] (ad b) Z Z:=by rw[V];simp[aw,h6,h7]
 rw[<-W];refine bG (α:=Nat) (fun j=>⟨aw [6,7] (ad b) Z ((6,.int .i64 (-((fl (s.take j):Nat):Int)))::(7,.int .i64 (j:Int))::Z),[],d⟩)
  (fun j=>s.length-j) (fun j=>j<=s.length) (.exit 0) _ d _ (by simp) ?_ K 0 (Nat.zero_le _) (by simp only[QQi];omega)
 intro j hj;clear W V;simp[ah,aE,f229] at H;by_cases M:j=s.length
 .right
  subst M;rw[P1,hv];subst H;simp[h5]
 .left
  have L:j<s.length:=by omega
  have G:(j:Int)<(s.length:Int):=by omega
  obtain⟨c,D⟩:∃c,s[j]? =some c:=⟨s[j],by simp[L]⟩
  have C :s[j]=c:=(Ns.1 D).2;have X:=List.all_eq_true.1 m c (J1 D);have hcd:=tS X;have acJ:48<=c.toNat:=by unfold isD at X;simp only[C0,Es] at X;exact X.1
  have Za:s.take (j+1)=s.take j++[c]:=by rw[List.take_add_one,D];rfl
  have U:fl (s.take (j+1))=10*fl (s.take j)+(c.toNat-48):=by rw[Za,oH]
  have B:fl (s.take j)<10 ^ 17:=by
   have h1:=C9 (pB m j);have h2:(s.take j).length<=17:=by rw[S2];omega
   have h3:10 ^ (s.take j).length<=10 ^ 17:=P3 (by omega) h2;omega
  obtain⟨v,S⟩:=xE (fl (s.take j));obtain⟨J,R⟩:=xE (fl (s.take (j+1)));rw[<-S] at B U;rw[<-R] at U;obtain⟨k,hk⟩:=xE (α:=Nat) (c.toNat-48);have w0:IntKind.i64.wrap (c.toNat:Int)=(c.toNat:Int):=af (by omega) (by have:=c.toNat_lt;omega);have w1:IntKind.i64.wrap ((c.toNat:Int)-48)=(k:Int):=by rw[af (by omega) (by have:=c.toNat_lt;omega)];omega
  have w2:IntKind.i64.wrap (-9223372036854775808+(k:Int))= -9223372036854775808+(k:Int):=af;obtain⟨z,I⟩:=xE ((-9223372036854775808+(k:Int)).tdiv 10);have hzb:z<= -900000000000000000/\ -922337203685477581<=z:=by
   have e: -9223372036854775808+(k:Int)= -((9223372036854775808-k:Nat):Int):=by omega
   obtain⟨w,hw⟩:=xE ((9223372036854775808-k) / 10);have hz3:z= -(w:Int):=by rw[I,e,Int.neg_tdiv,Hc _ 10,<-hw]
   omega
  have w3:IntKind.i64.wrap z=z:=af;have o:¬(-(v:Int)<z):=by omega
  have w4:IntKind.i64.wrap (10* -(v:Int))=10* -(v:Int):=af;have w4' :IntKind.i64.wrap (-(10*(v:Int)))= -(10*(v:Int)):=af;have w5:IntKind.i64.wrap (10* -(v:Int)-(k:Int))= -(J:Int):=by rw[af];omega
  have w5' :IntKind.i64.wrap (-(10*(v:Int))-(k:Int))= -(J:Int):=by rw[af];omega
  have w6:IntKind.i64.wrap ((j:Int)+1)=((j+1:Nat):Int):=by rw[af];omega
  refine⟨j+1,?_⟩;refine bC (show j+1<=s.length/\_ from⟨L,by omega⟩) ?_;subst H;simp[h5,L,G,C,<-S,<-R,w0,w1,w2,<-I,w3,o,w4,w5,w6]
theorem HQ(n:Int)(H:(ai n.natAbs).length<=18)(mem:Mem):kO prog 229 [.str (bL n)] mem (.tuple [.int .i64 n,.bool true]) mem:=by
 have S:aX prog 229=some f229:=by kernel_rfl
 refine de jg (lv:=fun _=>[6,7]) (K:=21) rfl rfl ?_ mem;obtain⟨b,V⟩:∃b,ah f229=[b]:=⟨_,rfl⟩
 obtain⟨F,X⟩:=zM (O:=ag aZ) (K:=21) n.natAbs H (by omega) V;have L:n.natAbs<10 ^ 18:=by have R:=cm n.natAbs;have N:10 ^ (ai n.natAbs).length<=10 ^ 18:=P3 (by omega) H;omega
 obtain⟨u,U⟩:=xE n.natAbs;rw[<-U] at X H L;have Z :¬(19<((ai u).length:Int)):=by omega
 simp[ah,aE,f229] at V;subst V;by_cases M:n<0
 .have e: -(u:Int)=n:=by omega
  rw[e] at X;simp[aa,S,f229,ag,aZ,aK,aF,<-U,Z,X,M]
 .have e:(u:Int)=n:=by omega
  have R:¬(-(u:Int)= -9223372036854775808):=by omega
  have G :¬((u:Int)=9223372036854775808):=by omega
  have N:IntKind.i64.wrap (u:Int)=n:=by rw[af];exact e
  have h3:¬u=9223372036854775808:=by omega
  simp[aa,S,f229,ag,aZ,aK,aF,<-U,Z,X,M,R,N]
noncomputable def bJ(f:FuncId)(args:List AV):Option AV:=
 match f,args with
 |229,[.str s]=>match iH s with
  |some n=>if (ai n.natAbs).length<=18 then some (.tuple [.int .i64 n,.bool true]) else none
  |none=>none
 |93,[.int .i64 n]=>if dV n then some (.str (bL n)) else none
 |149,[.str s]=>match iH s with
  |some n=>some (.int .i64 (jB n))
  |none=>none
 |189,[.str s]=>match iH s with
  |some n=>some (.str (ai n.natAbs))
  |none=>none
 |150,[.str s]=>match iH s with
  |some n=>if (ai n.natAbs).length<=1000000000 then some (.str (bL (-n))) else none
  |none=>none
 |f,args=>bZ f args
theorem Bx:qS prog (ag bJ):=bP fun f V v h mem=>by
 unfold bJ at h;split at h
 .split at h
  .rename_i n Z
   split at h
   next X=>cases h;rw[bK Z];exact HQ n X mem
   .cases h
  .cases h
 .split at h
  next U=>cases h;exact RY _ U mem
  .cases h
 .split at h
  next n Z=>cases h;rw[bK Z];exact MW n mem
  .cases h
 .split at h
  next n Z=>cases h;rw[bK Z];exact P8 n mem
  .cases h
 .split at h
  .rename_i n Z
   split at h
   next X=>cases h;rw[bK Z];exact Qc n X mem
   .cases h
  .cases h
 .have:=Bw.fn _ _ mem ⟨v,none,[]⟩ (by unfold ag;simp only;rw[h])
  simpa [afh.mem] using this
theorem HO(n:Int)(H:(ai n.natAbs).length<=1000000000)(mem:Mem):kO prog 224 [.str (bL n)] mem (if (ai n.natAbs).length<=17 then .tuple [.int .i64 n,.bool true] else .tuple [.int .i64 0,.bool false]) mem:=by
 have X:aX prog 224=some f224:=by kernel_rfl
 refine de Bx (lv:=fun _=>[]) (K:=1) rfl (by split<;>rfl) ?_ mem;by_cases h:(ai n.natAbs).length<=17
 .have Z:¬(17<((ai n.natAbs).length:Int)):=by omega
  have V:(ai n.natAbs).length<=18:=by omega
  simp[aa,X,f224,ag,bJ,bZ,aZ,aF,aD,h,Z,V]
 .have Z:(17<((ai n.natAbs).length:Int)):=by omega
  simp[aa,X,f224,ag,bJ,bZ,aZ,aF,h,Z]
variable{a:Int}
theorem BZ{b:Int}(hs:decide (a<0)=decide (b<0)):ei (decide (a<0)) (a.natAbs+b.natAbs)=bL (a+b):=by
 rw[<-iq (a+b)];have:(a+b).natAbs=a.natAbs+b.natAbs:=by by_cases Z:a<0<;>by_cases X:b<0<;>simp[Z,X] at hs<;>omega
 rw[this];by_cases Z:a<0<;>by_cases X:b<0<;>simp[Z,X] at hs
 .rw[decide_eq_true Z,decide_eq_true (by omega)]
 .rw[decide_eq_false Z,decide_eq_false (by omega)]
theorem GG{b:Int}(hs:¬decide (a<0)=decide (b<0))(H:a.natAbs<b.natAbs):ei (decide (b<0)) (b.natAbs-a.natAbs)=bL (a+b):=by
 rw[<-iq (a+b)];have V:(a+b).natAbs=b.natAbs-a.natAbs:=by by_cases X:a<0<;>by_cases Z:b<0<;>simp[X,Z] at hs<;>omega
 rw[V];by_cases X:a<0<;>by_cases Z:b<0<;>simp[X,Z] at hs
 .rw[decide_eq_false Z,decide_eq_false (by omega)]
 .rw[decide_eq_true Z,decide_eq_true (by omega)]
theorem GF{b:Int}(hs:¬decide (a<0)=decide (b<0))(H:b.natAbs<=a.natAbs):ei (decide (a<0)) (a.natAbs-b.natAbs)=bL (a+b):=by
 rw[<-iq (a+b)];have U:(a+b).natAbs=a.natAbs-b.natAbs:=by by_cases Z:a<0<;>by_cases X:b<0<;>simp[Z,X] at hs<;>omega
 rw[U];by_cases V:a.natAbs-b.natAbs=0
 .unfold ei;rw[if_pos V,if_pos V]
 by_cases Z:a<0<;>by_cases X:b<0<;>simp[Z,X] at hs
 .rw[decide_eq_true Z,decide_eq_true (by omega)]
 .rw[decide_eq_false Z,decide_eq_false (by omega)]
theorem fc(n:Nat):(dig 10000 n).length<=(ai n).length:=by
 obtain⟨X,Z,U⟩:=kL _ (ai n) (L9 _) (dH _);rw[dK] at Z;have V:aW (fN (ai n))=dig 10000 n:=by rw[<-dS (by omega) X,Z]
 have:=dp (fN (ai n));rw[V] at this;omega
noncomputable def bM(f:FuncId)(args:List AV):Option AV:=
 match f,args with
 |224,[.str s]=>match iH s with
  |some n=>if (ai n.natAbs).length<=1000000000 then some (if (ai n.natAbs).length<=17 then .tuple [.int .i64 n,.bool true] else .tuple [.int .i64 0,.bool false]) else none
  |none=>none
 |f,args=>bJ f args
theorem By:qS prog (ag bM):=bP fun f Z v h mem=>by
 unfold bM at h;split at h
 .split at h
  .rename_i n X
   split at h
   next V=>cases h;rw[bK X];exact HO n V mem
   .cases h
  .cases h
 .have:=Bx.fn _ _ mem ⟨v,none,[]⟩ (by unfold ag;simp only;rw[h])
  simpa [afh.mem] using this
noncomputable def dQ:y9:=fun c Z M=>((ag bM).or dr) c Z M
theorem uM:qS prog dQ:=By.or Ky
variable{A:List Nat}
theorem rs0(ow:Bool)(l:Mem):bh .i64 (.cells ow 1 (iN .i64 A)::l) (.slice 0 0 A.length none)=some A:=aR rfl (by simp) (B5 (by simp))
theorem rs1(ow:Bool)(a0:afl)(l:Mem):bh .i64 (a0::.cells ow 1 (iN .i64 A)::l) (.slice 1 0 A.length none)=some A:=aR rfl (by simp) (B5 (by simp))
theorem rs2(ow:Bool)(a0 a1:afl)(l:Mem):bh .i64 (a0::a1::.cells ow 1 (iN .i64 A)::l) (.slice 2 0 A.length none)=some A:=aR rfl (by simp) (B5 (by simp))
theorem rs3(ow:Bool)(a0 a1 H:afl)(l:Mem):bh .i64 (a0::a1::H::.cells ow 1 (iN .i64 A)::l) (.slice 3 0 A.length none)=some A:=aR rfl (by simp) (B5 (by simp))
theorem P9(a b:Int)(ha:(ai a.natAbs).length<=10000)(hb:(ai b.natAbs).length<=10000)(mem:Mem):kO prog 146 [.str (bL a),.str (bL b)] mem (.str (bL (a+b))) mem:=by
 have C:aX prog 146=some f146:=by kernel_rfl
 refine aA uM ?_ mem;have c1:decide (a<0)=decide (b<0)->ei (decide (a<0)) (a.natAbs+b.natAbs)=bL (a+b):=BZ;have c2:¬decide (a<0)=decide (b<0)->a.natAbs<b.natAbs->ei (decide (b<0)) (b.natAbs-a.natAbs)=bL (a+b):=GG;have c3:¬decide (a<0)=decide (b<0)->b.natAbs<=a.natAbs->ei (decide (a<0)) (a.natAbs-b.natAbs)=bL (a+b):=GF;obtain⟨n,V⟩:∃n,a.natAbs=n:=⟨_,rfl⟩
 obtain⟨m,U⟩:∃m,b.natAbs=m:=⟨_,rfl⟩
 rw[V,U] at c1 c2 c3;rw[V] at ha;rw[U] at hb;have u:(ai n).length<=1000000000:=by omega
 have o:(ai m).length<=1000000000:=by omega
 by_cases hq:(ai n).length<=17/\(ai m).length<=17
 .obtain⟨Z,X⟩:=hq
  have s1:n<10 ^ 17:=by have h1:=cm n;have h2:10 ^ (ai n).length<=10 ^ 17:=P3 (by omega) Z;omega
  have s2:m<10 ^ 17:=by have h1:=cm m;have h2:10 ^ (ai m).length<=10 ^ 17:=P3 (by omega) X;omega
  have w1:IntKind.i64.wrap (a+b)=a+b:=af;have hf:dV (a+b)=true:=by unfold dV;simp;omega
  simp[aa,C,f146,dQ,y9.or,ag,bM,bJ,aD,V,U,u,o,Z,X,w1,hf]
 .have da:=fc n
  have db:=fc m;have ZG:(ai n).length<=1000000:=by omega
  have ZJ:(ai m).length<=1000000:=by omega
  have I':dig 10000 n≠[]\/dig 10000 m≠[]:=by
   by_cases h:(ai n).length<=17
   .right
    rw[ne_eq,fC (by omega)];intro e;apply hq;rw[e];exact⟨h,by decide⟩
   .left
    rw[ne_eq,fC (by omega)];intro e;apply h;rw[e];decide
  have j:aq 10000 (dig 10000 n)=n:=bO (by omega) _;have Y:aq 10000 (dig 10000 m)=m:=bO (by omega) _;have W:lok 10000 (dig 10000 n)=true:=bX (by omega) _;have J:lok 10000 (dig 10000 m)=true:=bX (by omega) _;have ta:aW (dig 10000 n)=dig 10000 n:=cj (by omega) _;have tb:aW (dig 10000 m)=dig 10000 m:=cj (by omega) _;obtain⟨A,I⟩:=xE (dig 10000 n);obtain⟨B,H⟩:=xE (dig 10000 m);rw[<-I] at da j W ta I';rw[<-H] at db Y J tb I';have acL:=I'.symm;have g1:A.length<=1000000:=by omega
  have g2:B.length<=1000000:=by omega
  have g3:A.length<=1000000000:=by omega
  have g4:B.length<=1000000000:=by omega
  by_cases hs:(decide (a<0))=(decide (b<0))
  .obtain⟨S,hS⟩:=xE (dig 10000 (n+m))
   have R:aq 10000 S=n+m:=by rw[hS];exact bO (by omega) _
   have N:lok 10000 S=true:=by rw[hS];exact bX (by omega) _
   have M:aW S=S:=by rw[hS];exact cj (by omega) _
   have L:S.length<=100000:=by have h1:=jP ha hb;have h2:=fc (n+m);rw[hS];omega
   have G:=c1 hs;have Z9 :(decide (a<0)==decide (b<0))=true:=by rw[hs];simp
   have F:0<=(n:Int)+(m:Int):=by omega
   have D:((n:Int)+(m:Int)).toNat=n+m:=by omega
   by_cases Z:(ai n).length<=17
   .have X:¬(ai m).length<=17:=fun e=>hq ⟨Z,e⟩
    simp[aa,C,f146,dQ,y9.or,ag,bM,bJ,bZ,aZ,ak,aD,bq,V,U,u,o,Z,X,dr,bT,cR,aK,aF,ZG,ZJ,<-I,<-H,rs0,rs1,rs2,I',W,J,g1,g2,j,Y,F,D,<-hS,N,M,L,R,Z9,G]
   .by_cases X:(ai m).length<=17
    .simp[aa,C,f146,dQ,y9.or,ag,bM,bJ,bZ,aZ,ak,aD,bq,V,U,u,o,Z,X,dr,bT,cR,aK,aF,ZG,ZJ,<-I,<-H,rs0,rs1,rs2,I',W,J,g1,g2,j,Y,F,D,<-hS,N,M,L,R,Z9,G]
    .simp[aa,C,f146,dQ,y9.or,ag,bM,bJ,bZ,aZ,ak,aD,bq,V,U,u,o,Z,X,dr,bT,cR,aK,aF,ZG,ZJ,<-I,<-H,rs0,rs1,rs2,I',W,J,g1,g2,j,Y,F,D,<-hS,N,M,L,R,Z9,G]
  .have Z9 :(decide (a<0)==decide (b<0))=false:=by cases h1:decide (a<0)<;>cases h2:decide (b<0)<;>simp[h1,h2] at hs |-
   by_cases FS:n<m
   .obtain⟨S,hS⟩:=xE (dig 10000 (m-n))
    have R:aq 10000 S=m-n:=by rw[hS];exact bO (by omega) _
    have N:lok 10000 S=true:=by rw[hS];exact bX (by omega) _
    have M:aW S=S:=by rw[hS];exact cj (by omega) _
    have L:S.length<=100000:=by have h1:=bI (show m-n<=m by omega);have h2:=fc (m-n);rw[hS];omega
    have G:=c2 hs FS;have F:0<=(m:Int)+ -(n:Int):=by omega
    have D:((m:Int)+ -(n:Int)).toNat=m-n:=by omega
    by_cases Z:(ai n).length<=17
    .have X:¬(ai m).length<=17:=fun e=>hq ⟨Z,e⟩
     simp[aa,C,f146,dQ,y9.or,ag,bM,bJ,bZ,aZ,ak,aD,bq,V,U,u,o,Z,X,dr,bT,cR,cJ,cW,aK,aF,ZG,ZJ,<-I,<-H,rs0,rs1,rs2,acL,W,J,ta,tb,g1,g2,g3,j,Y,F,D,FS,<-hS,N,M,L,R,Z9,G]
    .by_cases X:(ai m).length<=17
     .simp[aa,C,f146,dQ,y9.or,ag,bM,bJ,bZ,aZ,ak,aD,bq,V,U,u,o,Z,X,dr,bT,cR,cJ,cW,aK,aF,ZG,ZJ,<-I,<-H,rs0,rs1,rs2,acL,W,J,ta,tb,g1,g2,g3,j,Y,F,D,FS,<-hS,N,M,L,R,Z9,G]
     .simp[aa,C,f146,dQ,y9.or,ag,bM,bJ,bZ,aZ,ak,aD,bq,V,U,u,o,Z,X,dr,bT,cR,cJ,cW,aK,aF,ZG,ZJ,<-I,<-H,rs0,rs1,rs2,acL,W,J,ta,tb,g1,g2,g3,j,Y,F,D,FS,<-hS,N,M,L,R,Z9,G]
   .obtain⟨S,hS⟩:=xE (dig 10000 (n-m))
    have R:aq 10000 S=n-m:=by rw[hS];exact bO (by omega) _
    have N:lok 10000 S=true:=by rw[hS];exact bX (by omega) _
    have M:aW S=S:=by rw[hS];exact cj (by omega) _
    have L:S.length<=100000:=by have h1:=bI (show n-m<=n by omega);have h2:=fc (n-m);rw[hS];omega
    have G:=c3 hs (by omega);have F:0<=(n:Int)+ -(m:Int):=by omega
    have D:((n:Int)+ -(m:Int)).toNat=n-m:=by omega
    by_cases Z:(ai n).length<=17
    .have X:¬(ai m).length<=17:=fun e=>hq ⟨Z,e⟩
     simp[aa,C,f146,dQ,y9.or,ag,bM,bJ,bZ,aZ,ak,aD,bq,V,U,u,o,Z,X,dr,bT,cR,cJ,cW,aK,aF,ZG,ZJ,<-I,<-H,rs0,rs1,rs2,I',W,J,ta,tb,g1,g2,g3,j,Y,F,D,FS,<-hS,N,M,L,R,Z9,G]
    .by_cases X:(ai m).length<=17
     .simp[aa,C,f146,dQ,y9.or,ag,bM,bJ,bZ,aZ,ak,aD,bq,V,U,u,o,Z,X,dr,bT,cR,cJ,cW,aK,aF,ZG,ZJ,<-I,<-H,rs0,rs1,rs2,I',W,J,ta,tb,g1,g2,g3,j,Y,F,D,FS,<-hS,N,M,L,R,Z9,G]
     .simp[aa,C,f146,dQ,y9.or,ag,bM,bJ,bZ,aZ,ak,aD,bq,V,U,u,o,Z,X,dr,bT,cR,cJ,cW,aK,aF,ZG,ZJ,<-I,<-H,rs0,rs1,rs2,I',W,J,ta,tb,g1,g2,g3,j,Y,F,D,FS,<-hS,N,M,L,R,Z9,G]
noncomputable def eh(f:FuncId)(args:List AV):Option AV:=
 match f,args with
 |146,[.str s,.str t]=>match iH s,iH t with
  |some a,some b=>if (ai a.natAbs).length<=10000/\(ai b.natAbs).length<=10000 then some (.str (bL (a+b))) else none
  |_,_=>none
 |f,args=>bM f args
theorem Bz:qS prog (ag eh):=bP fun f Z v h mem=>by
 unfold eh at h;split at h
 .split at h
  .rename_i m n V U
   split at h
   next X=>cases h;rw[bK V,bK U];exact P9 m n X.1 X.2 mem
   .cases h
  .cases h
 .have:=By.fn _ _ mem ⟨v,none,[]⟩ (by unfold ag;simp only;rw[h])
  simpa [afh.mem] using this
theorem Qd(a b:Int)(H:(ai a.natAbs).length<=10000)(I:(ai b.natAbs).length<=10000)(mem:Mem):kO prog 188 [.str (bL a),.str (bL b)] mem (.str (bL (a-b))) mem:=by
 have X:aX prog 188=some f188:=by kernel_rfl
 refine aA Bz ?_ mem;have Z:(ai b.natAbs).length<=1000000000:=by omega
 have e:a+ -b=a-b:=Int.sub_eq_add_neg.symm;simp[aa,X,f188,ag,eh,bM,bJ,aD,Z,H,I,e]
noncomputable def eR(f:FuncId)(args:List AV):Option AV:=
 match f,args with
 |188,[.str s,.str t]=>match iH s,iH t with
  |some a,some b=>if (ai a.natAbs).length<=10000/\(ai b.natAbs).length<=10000 then some (.str (bL (a-b))) else none
  |_,_=>none
 |f,args=>eh f args
theorem BA:qS prog (ag eR):=bP fun f Z v h mem=>by
 unfold eR at h;split at h
 .split at h
  .rename_i m n V U
   split at h
   next X=>cases h;rw[bK V,bK U];exact Qd m n X.1 X.2 mem
   .cases h
  .cases h
 .have:=Bz.fn _ _ mem ⟨v,none,[]⟩ (by unfold ag;simp only;rw[h])
  simpa [afh.mem] using this
theorem Dm(a b:Int)(H:(ai a.natAbs).length<=10000)(I:(ai b.natAbs).length<=10000)(mem:Mem):kO prog 105 [.str (bL a),.str (bL b)] mem (.int .i64 (jB (a-b))) mem:=by
 have Z:aX prog 105=some f105:=by kernel_rfl
 refine aA BA ?_ mem;obtain⟨c,X⟩:=xE (a-b);simp[aa,Z,f105,ag,eR,eh,bM,bJ,aD,H,I,<-X]
theorem Qb(a b:Int)(H:(ai a.natAbs).length<=5000)(I:(ai b.natAbs).length<=5000)(mem:Mem):kO prog 147 [.str (bL a),.str (bL b)] mem (.str (bL (a*b))) mem:=by
 have F:aX prog 147=some f147:=by kernel_rfl
 refine aA uM ?_ mem;have X:=Ev a b;have V:(a*b).natAbs=a.natAbs*b.natAbs:=QQg a b;obtain⟨n,R⟩:∃n,a.natAbs=n:=⟨_,rfl⟩
 obtain⟨m,N⟩:∃m,b.natAbs=m:=⟨_,rfl⟩
 rw[R,N] at X V;rw[R] at H;rw[N] at I;by_cases D:(ai n).length+(ai m).length<=18
 .have q1:(ai n).length<=18:=by omega
  have q2:(ai m).length<=18:=by omega
  have s3:n*m<10 ^ 18:=by have C:=cm n;have u:=cm m;have h3:n*m<10 ^ (ai n).length*10 ^ (ai m).length:=Nat.mul_lt_mul'' C u;rw[<-Nat.pow_add] at h3;have h4:10 ^ ((ai n).length+(ai m).length)<=10 ^ 18:=P3 (by omega) D;omega
  obtain⟨p,M⟩:=xE (a*b);rw[<-M] at V;have w0:IntKind.i64.wrap (((ai n).length:Int)+((ai m).length:Int))=(((ai n).length+(ai m).length:Nat):Int):=by rw[af];omega
  have Z:(((ai n).length+(ai m).length:Nat):Int)<=18:=by omega
  have w1:IntKind.i64.wrap (a*b)=p:=by rw[<-M];exact af
  have hf:dV p=true:=by unfold dV;simp;omega
  obtain⟨l,L⟩:=xE ((ai n).length+(ai m).length);rw[<-L] at w0 Z;rw[<-M];simp[aa,F,f147,dQ,y9.or,ag,bM,bJ,bZ,aZ,aK,aF,aD,R,N,w0,Z,q1,q2,w1,hf]
 .have da:=fc n
  have db:=fc m;have ZG:(ai n).length<=1000000:=by omega
  have ZJ:(ai m).length<=1000000:=by omega
  have G:dig 10000 n≠[]\/dig 10000 m≠[]:=by
   by_cases h:n=0
   .right
    rw[ne_eq,fC (by omega)];intro e;apply D;rw[h,e];decide
   .left
    rw[ne_eq,fC (by omega)];exact h
  have o:aq 10000 (dig 10000 n)=n:=bO (by omega) _;have j:aq 10000 (dig 10000 m)=m:=bO (by omega) _;have Y:lok 10000 (dig 10000 n)=true:=bX (by omega) _;have W:lok 10000 (dig 10000 m)=true:=bX (by omega) _;obtain⟨A,J⟩:=xE (dig 10000 n);obtain⟨B,hB⟩:=xE (dig 10000 m);rw[<-J] at da o Y G;rw[<-hB] at db j W G;have g1:A.length<=5000:=by omega
  have g2:B.length<=5000:=by omega
  obtain⟨S,hS⟩:=xE (dig 10000 (n*m));have vs:aq 10000 S=n*m:=by rw[hS];exact bO (by omega) _
  have os:lok 10000 S=true:=by rw[hS];exact bX (by omega) _
  have ts:aW S=S:=by rw[hS];exact cj (by omega) _
  have g5:S.length<=100000:=by have C:=dE H I;have u:=fc (n*m);rw[hS];omega
  obtain⟨mn,U⟩:=xE (!(decide (a<0)==decide (b<0)));rw[<-U] at X;have w0:IntKind.i64.wrap (((ai n).length:Int)+((ai m).length:Int))=(((ai n).length+(ai m).length:Nat):Int):=by rw[af];omega
  have Z:¬(((ai n).length+(ai m).length:Nat):Int)<=18:=by omega
  obtain⟨l,L⟩:=xE ((ai n).length+(ai m).length);rw[<-L] at w0 Z;have hlN:¬l<=18:=by omega
  simp[aa,F,f147,dQ,y9.or,ag,bM,bJ,bZ,aZ,ak,aK,aF,bq,R,N,w0,Z,dr,bT,cR,ZG,ZJ,<-J,<-hB,rs0,rs1,rs2,G,Y,W,g1,g2,o,j,<-hS,os,ts,g5,vs,<-U,X]
theorem Fs(a:Int)(b:Nat)(H:0<b)(ZD:0<=a\/a.natAbs%b=0)(ha:(ai a.natAbs).length<=10000)(hb:(ai b).length<=10000)(mem:Mem):
  kO prog 151 [.str (bL a),.str (ai b)] mem (.tuple [.str (bL (a / b)),.str (ai (a.natAbs%b))]) mem:=by
 have W:aX prog 151=some f151:=by kernel_rfl
 refine aA uM ?_ mem;have X:iH (ai b)=some (b:Int):=aD (b:Int);have V:Lib.hasPrefix (ai b) [45]=false:=by have:=aK (b:Int);rw[show bL (b:Int)=ai b from rfl] at this;rw[this];simp
 have U:Lib.trimPrefix (ai b) [45]=ai b:=by have:=aF (b:Int);rw[show bL (b:Int)=ai b from rfl,Int.natAbs_natCast] at this;exact this
 have S:=Eu H ZD;have m:=yh H ZD;obtain⟨n,C⟩:∃n,a.natAbs=n:=⟨_,rfl⟩
 rw[C] at S m ha ZD |-;have J:(ai n).length<=1000000000:=by omega
 have I:(ai b).length<=1000000000:=by omega
 have aes:n%b<b:=Nat.mod_lt _ H;obtain⟨q,hq⟩:=xE (n / b);obtain⟨r,hr⟩:=xE (n%b);rw[<-hq] at S;rw[<-hr] at m ZD aes |-;obtain⟨Z,hZ⟩:=xE (a / (b:Int));rw[<-hZ] at S m |-;have aet :¬b=0:=by omega
 by_cases D:(ai n).length<=17/\(ai b).length<=17
 .obtain⟨N,M⟩:=D
  have s1:n<10 ^ 17:=by have h1:=cm n;have h2:10 ^ (ai n).length<=10 ^ 17:=P3 (by omega) N;omega
  have s2:b<10 ^ 17:=by have h1:=cm b;have h2:10 ^ (ai b).length<=10 ^ 17:=P3 (by omega) M;omega
  have hZb:Z.natAbs<=n:=by rw[hZ,<-C];exact Int.natAbs_ediv_le_natAbs _ _
  have w1:IntKind.i64.wrap (a.tdiv (b:Int))=Z:=by rw[m.1];exact af
  have w2:IntKind.i64.wrap Z=Z:=af;have ZO:dV Z=true:=by unfold dV;simp;omega
  have hf2:dV (r:Int)=true:=by unfold dV;simp;omega
  have hrs:bL (r:Int)=ai r:=rfl;have hrn:¬(r:Int)<0:=by omega
  simp[aa,W,f151,dQ,y9.or,ag,bM,bJ,aD,X,C,J,I,N,M,aet,m,w2,hrn,ZO,hf2,hrs,Nat.testBit]
 .have da:=fc n
  have db:=fc b;have ZG:(ai n).length<=1000000:=by omega
  have ZJ:(ai b).length<=1000000:=by omega
  have j:aq 10000 (dig 10000 n)=n:=bO (by omega) _;have vb:aq 10000 (dig 10000 b)=b:=bO (by omega) _;have oa:lok 10000 (dig 10000 n)=true:=bX (by omega) _;have ob:lok 10000 (dig 10000 b)=true:=bX (by omega) _;have tb:aW (dig 10000 b)=dig 10000 b:=cj (by omega) _;have Zm:dig 10000 n=[]↔n=0:=fC (by omega);obtain⟨A,Y⟩:=xE (dig 10000 n);obtain⟨B,hB⟩:=xE (dig 10000 b);rw[<-Y] at da j oa Zm;rw[<-hB] at db vb ob tb;have g1:A.length<=50000:=by omega
  have g2:B.length<=50000:=by omega
  have G:ei false r=ai r:=mK r;obtain⟨Q,hQ⟩:=xE (dig 10000 q);obtain⟨R,u⟩:=xE (dig 10000 r);have vq:aq 10000 Q=q:=by rw[hQ];exact bO (by omega) _
  have oq:lok 10000 Q=true:=by rw[hQ];exact bX (by omega) _
  have tq:aW Q=Q:=by rw[hQ];exact cj (by omega) _
  have gq:Q.length<=100000:=by have h1:=bI (show q<=n by rw[hq];exact Nat.div_le_self _ _);have h2:=fc q;rw[hQ];omega
  have vr:aq 10000 R=r:=by rw[u];exact bO (by omega) _
  have or:lok 10000 R=true:=by rw[u];exact bX (by omega) _
  have tr:aW R=R:=by rw[u];exact cj (by omega) _
  have gr:R.length<=100000:=by have h1:=bI (show r<=b by omega);have h2:=fc r;rw[u];omega
  by_cases L:A=[]
  .have acM:=Zm.1 L
   have hq0:q=0:=by rw[hq,acM];exact Nat.zero_div _
   have acN:r=0:=by rw[hr,acM];exact Nat.zero_mod _
   have o:¬a<0:=by omega
   rw[hq0] at S;have aeu:bL Z=[48]:=by rw[<-S];rfl
   have hrd:ai r=[48]:=by rw[acN];exact iY
   have e1:∀l,bh .i64 (.cells true 1 []::l) (.slice 0 0 0 none)=some []:=fun l=>aR (A:=[]) rfl (by simp) rfl
   have e2:∀a0 a1 l,bh .i64 (a0::a1::.cells true 1 []::l) (.slice 2 0 0 none)=some []:=fun a0 a1 l=>aR (A:=[]) rfl (by simp) rfl
   have k1:lok 10000 []=true:=rfl;have k2:aW []=[]:=rfl;have k3:aq 10000 []=0:=rfl;have k4:∀mn,ei mn 0=[48]:=fun mn=>rfl
   have k5:ei false n=[48]:=by rw[acM];rfl
   rw[aeu,hrd];rw[L] at Y j;clear S G hQ u;by_cases N:(ai n).length<=17
   .have M:¬(ai b).length<=17:=fun e=>D ⟨N,e⟩
    simp[aa,W,f151,dQ,y9.or,ag,bM,bJ,bZ,aZ,ak,aD,X,bq,C,J,I,N,M,dr,bT,aK,aF,V,U,ZG,ZJ,<-Y,<-hB,rs1,ob,tb,g2,j,vb,H,e1,e2,k1,k2,k5,o]
   .by_cases M:(ai b).length<=17
    .simp[aa,W,f151,dQ,y9.or,ag,bM,bJ,bZ,aZ,ak,aD,X,bq,C,J,I,N,M,dr,bT,aK,aF,V,U,ZG,ZJ,<-Y,<-hB,rs1,ob,tb,g2,j,vb,H,e1,e2,k1,k2,k5,o]
    .simp[aa,W,f151,dQ,y9.or,ag,bM,bJ,bZ,aZ,ak,aD,X,bq,C,J,I,N,M,dr,bT,aK,aF,V,U,ZG,ZJ,<-Y,<-hB,rs1,ob,tb,g2,j,vb,H,e1,e2,k1,k2,k5,o]
  .by_cases o:a<0
   .have acN:r=0:=by rcases ZD with h | h<;>omega
    have hR0:R=[]:=by rw[u,acN];exact dT _
    have hRl:¬0<R.length:=by rw[hR0];simp
    have F :ei true q=bL Z:=by rw[<-S,decide_eq_true o]
    by_cases N:(ai n).length<=17
    .have M:¬(ai b).length<=17:=fun e=>D ⟨N,e⟩
     simp[aa,W,f151,dQ,y9.or,ag,bM,bJ,bZ,aZ,ak,aD,X,bq,C,J,I,N,M,dr,bT,aK,aF,V,U,ZG,ZJ,<-Y,<-hB,rs0,rs1,rs2,rs3,oa,ob,tb,g1,g2,j,vb,H,<-hq,<-hr,<-hQ,<-u,vq,oq,tq,gq,vr,or,tr,gr,G,L,o,hRl,F]
    .by_cases M:(ai b).length<=17
     .simp[aa,W,f151,dQ,y9.or,ag,bM,bJ,bZ,aZ,ak,aD,X,bq,C,J,I,N,M,dr,bT,aK,aF,V,U,ZG,ZJ,<-Y,<-hB,rs0,rs1,rs2,rs3,oa,ob,tb,g1,g2,j,vb,H,<-hq,<-hr,<-hQ,<-u,vq,oq,tq,gq,vr,or,tr,gr,G,L,o,hRl,F]
     .simp[aa,W,f151,dQ,y9.or,ag,bM,bJ,bZ,aZ,ak,aD,X,bq,C,J,I,N,M,dr,bT,aK,aF,V,U,ZG,ZJ,<-Y,<-hB,rs0,rs1,rs2,rs3,oa,ob,tb,g1,g2,j,vb,H,<-hq,<-hr,<-hQ,<-u,vq,oq,tq,gq,vr,or,tr,gr,G,L,o,hRl,F]
   .have F :ei false q=bL Z:=by rw[<-S,decide_eq_false o]
    by_cases N:(ai n).length<=17
    .have M:¬(ai b).length<=17:=fun e=>D ⟨N,e⟩
     simp[aa,W,f151,dQ,y9.or,ag,bM,bJ,bZ,aZ,ak,aD,X,bq,C,J,I,N,M,dr,bT,aK,aF,V,U,ZG,ZJ,<-Y,<-hB,rs0,rs1,rs2,rs3,oa,ob,tb,g1,g2,j,vb,H,<-hq,<-hr,<-hQ,<-u,vq,oq,tq,gq,vr,or,tr,gr,G,L,o,F]
    .by_cases M:(ai b).length<=17
     .simp[aa,W,f151,dQ,y9.or,ag,bM,bJ,bZ,aZ,ak,aD,X,bq,C,J,I,N,M,dr,bT,aK,aF,V,U,ZG,ZJ,<-Y,<-hB,rs0,rs1,rs2,rs3,oa,ob,tb,g1,g2,j,vb,H,<-hq,<-hr,<-hQ,<-u,vq,oq,tq,gq,vr,or,tr,gr,G,L,o,F]
     .simp[aa,W,f151,dQ,y9.or,ag,bM,bJ,bZ,aZ,ak,aD,X,bq,C,J,I,N,M,dr,bT,aK,aF,V,U,ZG,ZJ,<-Y,<-hB,rs0,rs1,rs2,rs3,oa,ob,tb,g1,g2,j,vb,H,<-hq,<-hr,<-hQ,<-u,vq,oq,tq,gq,vr,or,tr,gr,G,L,o,F]
noncomputable def di(f:FuncId)(args:List AV):Option AV:=
 match f,args with
 |151,[.str s,.str t]=>match iH s,xe t with
  |some a,some b=>if (ai a.natAbs).length<=10000/\(ai b).length<=10000/\0<b/\(0<=a\/a.natAbs%b=0) then some (.tuple [.str (bL (a / b)),.str (ai (a.natAbs%b))]) else none
  |_,_=>none
 |147,[.str s,.str t]=>match iH s,iH t with
  |some a,some b=>if (ai a.natAbs).length<=5000/\(ai b.natAbs).length<=5000 then some (.str (bL (a*b))) else none
  |_,_=>none
 |105,[.str s,.str t]=>match iH s,iH t with
  |some a,some b=>if (ai a.natAbs).length<=10000/\(ai b.natAbs).length<=10000 then some (.int .i64 (jB (a-b))) else none
  |_,_=>none
 |103,[.str s]=>if s.length<=1000000000 then some (.bool (okI s)) else none
 |f,args=>eR f args
theorem BB:qS prog (ag di):=bP fun f U v h mem=>by
 unfold di at h;split at h
 .split at h
  .rename_i m n X V
   split at h
   next Z=>cases h;rw[bK X,gN V];exact Fs m n Z.2.2.1 Z.2.2.2 Z.1 Z.2.1 mem
   .cases h
  .cases h
 .split at h
  .rename_i m n X V
   split at h
   next Z=>cases h;rw[bK X,bK V];exact Qb m n Z.1 Z.2 mem
   .cases h
  .cases h
 .split at h
  .rename_i m n X V
   split at h
   next Z=>cases h;rw[bK X,bK V];exact Dm m n Z.1 Z.2 mem
   .cases h
  .cases h
 .split at h
  next Z=>cases h;exact HP _ Z mem
  .cases h
 .have:=BA.fn _ _ mem ⟨v,none,[]⟩ (by unfold ag;simp only;rw[h])
  simpa [afh.mem] using this
theorem wM(n:Nat):(ai n==[48])=decide (n=0):=by
 rw[Bool.eq_iff_iff,beq_iff_eq,Es];constructor
 .intro e;exact AI (e.trans (show [48]=ai 0 from rfl))
 .rintro rfl;rfl
theorem DL(x y:Nat)(I:(ai x).length<=10000)(J:(ai y).length<=10000)(W:2*y+1<K)(H:ah f106=[b]):
  ∃F:Env->Bool->Env,∀Z d,(ae Z 0=.str (ai x)/\ae Z 1=.str (ai y))->
   aU (bd prog) (fun _=>[0,1]) (ag di) K 22 0 true (.loop b) ⟨Z,[],d⟩=some (.exit 0,⟨F Z d,[],d⟩)/\ae (F Z d) 0=.str (ai (x.gcd y)):=by
 refine bl rfl (fun Z=>ae Z 0=.str (ai x)/\ae Z 1=.str (ai y)) (fun _ S =>ae S 0=.str (ai (x.gcd y))) ?_;rintro Z d ⟨h0,h1⟩;have U:aw [0,1] (ad b) Z ((0,.str (ai x))::(1,.str (ai y))::Z)=aw [0,1] (ad b) Z Z:=by simp[aw,h0,h1]
 rw[<-U];refine bG (α:=Nat×Nat) (fun s=>⟨aw [0,1] (ad b) Z ((0,.str (ai s.1))::(1,.str (ai s.2))::Z),[],d⟩)
  (fun s=>s.2) (fun s=>s.1.gcd s.2=x.gcd y/\(ai s.1).length<=10000/\(ai s.2).length<=10000) (.exit 0) _ d _ (by simp) ?_ K (x,y) ⟨rfl,I,J⟩ (by show y<K;omega)
 rintro ⟨a,c⟩ ⟨hg,ha,hc⟩;simp only at hg ha hc |-;clear U;simp[ah,aE,f106] at H;by_cases X:c=0
 .right
  subst X;rw[Nat.gcd_zero_right] at hg;rw[<-hg];subst H;simp[wM]
 .left
  have V:0<c:=by omega
  have R:a%c<c:=Nat.mod_lt _ V;have N:(ai (a%c)).length<=10000:=by have:=bI (show a%c<=c by omega);omega
  refine⟨(c,a%c),?_⟩;refine bU (show(c.gcd (a%c)=x.gcd y/\(ai c).length<=10000/\(ai (a%c)).length<=10000)/\a%c<c from⟨⟨by rw[<-hg,Nat.gcd_comm a c,Nat.gcd_rec c a,Nat.gcd_comm],hc,N⟩,R⟩) ?_;subst H;simp[wM,X,ag,di,cI,bq,ha,hc,V]
theorem Qa(a b:Int)(H:(ai a.natAbs).length<=10000)(I:(ai b.natAbs).length<=10000)(mem:Mem):kO prog 106 [.str (bL a),.str (bL b)] mem (.str (ai (a.natAbs.gcd b.natAbs))) mem:=by
 have V:aX prog 106=some f106:=by kernel_rfl
 refine de BB (lv:=fun _=>[0,1]) (K:=2*b.natAbs+2) rfl rfl ?_ mem;obtain⟨c,Z⟩:∃c,ah f106=[c]:=⟨_,rfl⟩
 obtain⟨F,X⟩:=DL (K:=2*b.natAbs+2) a.natAbs b.natAbs H I (by omega) Z;obtain⟨K,U⟩:=xE (2*b.natAbs+2);rw[<-U] at X |-;simp[ah,aE,f106] at Z;subst Z;simp[aa,V,f106,ag,di,eR,eh,bM,bJ,aD,X]
end Go.Proofs
