/- See G38. -/
import Derived.Test.YthpgbelancmpjaaGreatDoorG18
set_option linter.all false
set_option maxRecDepth 100000
set_option maxHeartbeats 40000000
namespace Go.Proofs
open Go.Eng
open Tryz
theorem Qg(n:Int)(d:Nat)(hd:d≠0)(I:(ai n.natAbs).length<=10000)(H:(ai d).length<=10000)(mem:Mem):
  kO prog 142 [.str (bF n),.str (ai d)] mem (.tuple [.str (aq (mkRat n d)),.int .i64 0]) mem:=by
 have Z:aZ prog 142=some f142:=by kernel_rfl
 refine aA kF ?_ mem;have X:jz (d:Int)=1:=Ho hd;have V:(ai n.natAbs).length<=100000:=by omega
 have h3:(ai d).length<=100000:=by omega
 simp[ae,Z,f142,ah,bO,bG,cP,aP,aS,cK,bk,aD,X,hd,V,h3]
noncomputable def BG(f:FuncId)(args:List AV):Option AV:=
 match f,args with
 |142,[.str s,.str t]=>match iE s,xq t with
  |some n,some d=>if d≠0/\(ai n.natAbs).length<=10000/\(ai d).length<=10000 then some (.tuple [.str (aq (mkRat n d)),.int .i64 0]) else none
  |_,_=>none
 |f,args=>bn f args
theorem NS:qS prog (ah BG):=bM fun f X v h mem=>by
 unfold BG at h;split at h
 .split at h
  .rename_i m n V U
   split at h
   next Z=>cases h;rw[bE V,gK U];exact Qg m n Z.1 Z.2.1 Z.2.2 mem
   .cases h
  .cases h
 .have:=cU.fn _ _ mem ⟨v,none,[]⟩ (by unfold ah;simp only;rw[h])
  simpa [afl.mem] using this
theorem gS{n:Nat}(h:n<10 ^ 19):(ai n).length<=20:=by exact aN (by omega) (by omega)
theorem HR(n:Int)(d:Nat)(hd:d≠0)(I:dY n=true)(H:dY (d:Int)=true)(mem:Mem):
  kO prog 88 [.int .i64 n,.int .i64 d] mem (.tuple [.str (aq (mkRat n d)),.int .i64 0]) mem:=by
 have Z:aZ prog 88=some f88:=by kernel_rfl
 refine aA NS ?_ mem;have X:n.natAbs<10 ^ 19:=by unfold dY at I;simp at I;omega
 have V:d<10 ^ 19:=by unfold dY at H;simp at H;omega
 have U:(ai n.natAbs).length<=10000:=by have:=gS X;omega
 have h3:(ai d).length<=10000:=by have:=gS V;omega
 have S:bF (d:Int)=ai d:=rfl;simp[ae,Z,f88,ah,BG,bn,bH,bO,bG,cP,aP,bk,aD,I,H,S,hd,U,h3]
end Go.Proofs
namespace Go.Eng
theorem yA{a:Int}{b:Nat}(H:0<b)(h:0<=a\/a.natAbs%b=0):a.tdiv b=a / b/\a.tmod b=((a.natAbs%b:Nat):Int):=by
 by_cases S:0<=a
 .obtain⟨n,rfl⟩:∃n:Nat,a=n:=⟨a.toNat,by omega⟩
  rw[xi,xj,Int.natAbs_natCast,Int.natCast_ediv];exact⟨rfl,rfl⟩
 .have Z:a.natAbs%b=0:=by rcases h with h | h<;>omega
  have X:a= -((a.natAbs / b*b:Nat):Int):=by have:=Nat.div_add_mod a.natAbs b;rw[Z,Nat.add_zero,QQZ] at this;omega
  obtain⟨q,U⟩:=xE (a.natAbs / b);rw[<-U] at X;rw[Z,X,Int.natCast_mul,<-Int.neg_mul];have V :(b:Int)≠0:=by omega
  exact⟨by rw[Int.mul_tdiv_cancel _ V,Int.mul_ediv_cancel _ V],by rw[Int.mul_tmod_left];rfl⟩
def Sm(D V:Nat)(q:Rat):Prop:=0<D/\(∃n:Int,q*(D:Rat)=(n:Rat))/\ -(V:Rat)<=q/\q<=(V:Rat)
end Go.Eng
namespace Go.Proofs
open Go.Eng
open Tryz
theorem cM{a:Rat}:0<=ga a↔0<=a:=by
 have h:0<=ga a↔0<=a.num:=by
  unfold ga jz;split
  .omega
  .split<;>omega
 rw[h,Rat.num_nonneg]
theorem We{a:Rat}(h:0<ga a):0<a:=by
 have Z:=cM.1 (show 0<=ga a by omega);have X:a≠0:=by rintro rfl;exact absurd h (by decide)
 grind
def gZ(A B C q:P2):Rat×Rat×Rat:=(bD B C q,bD C A q,bD A B q)
def inQ(w:Rat×Rat×Rat):Prop:=0<=ga w.1/\0<=ga w.2.1/\0<=ga w.2.2
instance (w:Rat×Rat×Rat):Decidable (inQ w):=inferInstanceAs (Decidable (0<=ga w.1/\0<=ga w.2.1/\0<=ga w.2.2))
def qc(P:List P2)(q:P2)(t:Tr):Rat×Rat×Rat:=gZ (P.getD t.1 (0,0)) (P.getD t.2.1 (0,0)) (P.getD t.2.2 (0,0)) q
def MH(P:List P2)(q:P2):List Tr->Nat->Option (Nat×(Rat×Rat×Rat))
 | [],_=>none
 |t::l,i=>if inQ (qc P q t) then some (i,qc P q t) else MH P q l (i+1)
theorem se{P:List P2}{q:P2}:∀{T:List Tr} {k j:Nat} {w:Rat×Rat×Rat},MH P q T k=some (j,w)->∃i t,j=k+i/\T[i]? =some t/\inQ (qc P q t)/\w=qc P q t/\∀(l:Nat) s,l<i->T[l]? =some s->¬inQ (qc P q s)
 | [],k,j,w,h=>by simp[MH] at h
 |t::l,k,j,w,h=>by
  rw[MH] at h;split at h
  .rename_i Z
   simp only[Pi,Prod.mk.injEq] at h;exact⟨0,t,by omega,rfl,Z,h.2.symm,fun l s R=>by omega⟩
  .rename_i Z
   obtain⟨i,s,O,V,h3,U,S⟩:=se h;refine⟨i+1,s,by omega,by simpa using V,h3,U,fun m x N X=>?_⟩;cases m with
   |zero=>simp at X;subst X;exact Z
   |succ m=>exact S m x (by omega) (by simpa using X)
theorem CB{P:List P2}{q:P2}:∀{T:List Tr} {k:Nat},MH P q T k=none->∀(l:Nat) s,T[l]? =some s->¬inQ (qc P q s)
 | [],k,h,l,s,hs=>by simp at hs
 |t::r,k,h,l,s,hs=>by
  rw[MH] at h;split at h
  .cases h
  .rename_i Z
   cases l with
   |zero=>simp at hs;subst hs;exact Z
   |succ m=>exact CB h m s (by simpa using hs)
def mz(w:Rat×Rat×Rat)(a b c:Rat):Rat:=(w.1*a+w.2.1*b+w.2.2*c) / (w.1+w.2.1+w.2.2)
theorem wH(A B C q:P2):bD B C q+bD C A q+bD A B q=bD A B C:=by
 unfold bD
 grind
def UC(z:Rat):List Rat->Nat
 | []=>0
 |h::l=>(if h<=z then 1 else 0)+UC z l
theorem Ls{z h:Rat}(hz:z<h):∀{l:List Rat},(∀x∈l,h<=x)->UC z l=0
 | [],_=>rfl
 |x::l,H=>by rw[UC,if_neg (by have:=H x (by simp);grind),Ls hz fun y Z=>H y (by simp[Z])]
theorem M7(s:List UInt8)(mem:Mem):kO prog 185 [.str s] mem (.tuple [.bool (Lib.hasPrefix s [45]),.str (Lib.trimPrefix s [45])]) mem:=by
 have X:aZ prog 185=some f185:=by kernel_rfl
 refine aA (az _) ?_ mem;cases s with
 |nil=>simp[ae,X,f185,Lib.hasPrefix,Lib.trimPrefix]
 |cons c r=>
  have U:0<(r.length:Int)+1:=by omega
  have S:(1:Int)<=(r.length:Int)+1:=by omega
  by_cases h:c=45
  .subst h
   have Z:Lib.hasPrefix (45::r) [45]=true:=by simp[Lib.hasPrefix,List.isPrefixOf]
   have V:Lib.trimPrefix (45::r) [45]=r:=by unfold Lib.trimPrefix;rw[Z];rfl
   rw[Z,V];simp[ae,X,f185,U,S,Nat.testBit]
  .have R :¬(45:UInt8)=c:=fun e=>h e.symm
   have Z:Lib.hasPrefix (c::r) [45]=false:=by simp[Lib.hasPrefix,List.isPrefixOf,R]
   have V:Lib.trimPrefix (c::r) [45]=c::r:=by unfold Lib.trimPrefix;rw[Z];rfl
   have h3:¬((c.toNat:Int)=45):=by
    intro e;apply h;apply UInt8.toNat_inj.1;have:c.toNat=45:=by omega
    rw[this];rfl
   rw[Z,V];simp[ae,X,f185,U,h3]
noncomputable def aY(f:FuncId)(args:List AV):Option AV:=
 match f,args with
 |185,[.str s]=>some (.tuple [.bool (Lib.hasPrefix s [45]),.str (Lib.trimPrefix s [45])])
 |f,args=>ak f args
theorem jc:qS prog (ah aY):=bM fun f Z v h mem=>by
 unfold aY at h;split at h
 .cases h;exact M7 _ mem
 .have:=er.fn _ _ mem ⟨v,none,[]⟩ (by unfold ah;simp only;rw[h])
  simpa [afl.mem] using this
theorem M4(n:Int)(mem:Mem):kO prog 149 [.str (bF n)] mem (.int .i64 (jz n)) mem:=by
 have Z:aZ prog 149=some f149:=by kernel_rfl
 refine aA jc ?_ mem;by_cases X:n<0
 .simp[ae,Z,f149,ah,aY,aK,aG,X,jz]
 .by_cases V:n=0
  .subst V
   have:bF 0=[48]:=rfl;simp[ae,Z,f149,ah,aY,aK,aG,jz,fU]
  .simp[ae,Z,f149,ah,aY,aK,aG,X,V,jz,fU]
theorem Qm(n:Int)(mem:Mem):kO prog 189 [.str (bF n)] mem (.str (ai n.natAbs)) mem:=by
 have Z:aZ prog 189=some f189:=by kernel_rfl
 refine aA jc ?_ mem;simp[ae,Z,f189,ah,aY,aG]
theorem Sc(n:Int)(H:dY n=true)(mem:Mem):kO prog 93 [.int .i64 n] mem (.str (bF n)) mem:=by
 have Z:aZ prog 93=some f93:=by kernel_rfl
 refine aA jc ?_ mem;simp[ae,Z,f93,ah,aY,ak,H]
theorem Qt(n:Int)(H:(ai n.natAbs).length<=1000000000)(mem:Mem):kO prog 150 [.str (bF n)] mem (.str (bF (-n))) mem:=by
 have Z:aZ prog 150=some f150:=by kernel_rfl
 refine aA jc ?_ mem;by_cases X:n<0
 .have e:bF (-n)=ai n.natAbs:=by rw[gE (by omega),Int.natAbs_neg]
  simp[ae,Z,f150,ah,aY,aK,aG,X,e]
 .by_cases V:n=0
  .subst V
   have e:ai 0=[48]:=iV;have U:bF 0=[48]:=rfl;have S:Lib.hasPrefix [48] [45]=false:=rfl;have R:Lib.trimPrefix [48] [45]=[48]:=rfl;simp[ae,Z,f150,ah,aY,U,S,R]
  .have e:bF (-n)=45::ai n.natAbs:=by rw[kQ (by omega),gE (by omega)]
   have O:1+(ai n.natAbs).length<=fM:=by unfold fM;omega
   simp[ae,Z,f150,ah,aY,aK,aG,X,V,fU,e,O]
variable{K:Nat}{O:y9}{b:Code}
theorem Bj(s:List UInt8)(hs:s.length<=1000000000)(I:s.length<K)(H:ag f186=[b]):
  ∃F:Env->Bool->Env,∀Z d,(ad Z 4=.str s/\ad Z 5=.int .i64 0)->
   aL (aX prog) (fun _=>[5]) O K 43 0 true (.loop b) ⟨Z,[],d⟩=some (if s.all isD then .exit 0 else .ret,⟨F Z d,[],d⟩)/\
   ((s.all isD=false->ad (F Z d) 2=.bool false)/\(s.all isD=true->ad (F Z d) 3=ad Z 3/\ad (F Z d) 4=ad Z 4)):=by
 refine bj rfl (fun Z=>ad Z 4=.str s/\ad Z 5=.int .i64 0) (fun Z M =>(s.all isD=false->ad M 2=.bool false)/\(s.all isD=true->ad M 3=ad Z 3/\ad M 4=ad Z 4)) ?_;rintro Z d ⟨h4,h5⟩;have C:an [5] (aa b) Z ((5,.int .i64 ((0:Nat):Int))::Z)=an [5] (aa b) Z Z:=by simp[an,h5]
 rw[<-C];refine bI (α:=Nat) (fun i=>⟨an [5] (aa b) Z ((5,.int .i64 (i:Int))::Z),[],d⟩)
  (fun i=>s.length-i) (fun i=>i<=s.length/\s.all isD=(s.drop i).all isD) (if s.all isD then .exit 0 else .ret) _ d _ (by split<;>simp) ?_ K 0 ⟨Nat.zero_le _,rfl⟩ (by simp only[QXQ];exact I)
 rintro i ⟨hi,P'⟩;clear C;simp[ag,aE,f186] at H;by_cases L:i=s.length
 .right
  have G:s.drop i=[]:=ZN (by omega);have:s.all isD=true:=by rw[P',G];rfl
  subst L;subst H;rw[this];simp[h4]
 .have N:i<s.length:=by omega
  have S:(i:Int)<(s.length:Int):=by omega
  obtain⟨c,B⟩:∃c,s[i]? =some c:=⟨s[i],by simp[N]⟩
  have V :s[i]=c:=(O2.1 B).2;have G:s.drop i=c::s.drop (i+1):=by rw[N0 N,V]
  have u:IntKind.i64.wrap ((i:Int)+1)=((i+1:Nat):Int):=by rw[af];omega
  rw[G,QQg] at P';by_cases o:c.toNat<48
  .right
   have X:isD c=false:=by unfold isD;simp;omega
   have U :((c.toNat:Int)<48):=by omega
   have:s.all isD=false:=by rw[P',X];rfl
   subst H;rw[this];simp[h4,N,S,V,U]
  .have U :¬((c.toNat:Int)<48):=by omega
   by_cases m:57<c.toNat
   .right
    have X:isD c=false:=by unfold isD;simp;omega
    have R :(57<(c.toNat:Int)):=by omega
    have:s.all isD=false:=by rw[P',X];rfl
    subst H;rw[this];simp[h4,N,S,V,U,R]
   .left
    have X:isD c=true:=by unfold isD;simp;omega
    have R :¬(57<(c.toNat:Int)):=by omega
    rw[X,Bool.true_and] at P';refine⟨i+1,?_⟩;refine bU (show(i+1<=s.length/\s.all isD=(s.drop (i+1)).all isD)/\_ from⟨⟨N,P'⟩,by omega⟩) ?_;subst H;simp[h4,N,S,V,U,R,u]
def UB(s:List UInt8):Bool:=(iE s).isSome
def SQ(mn:Bool)(t:List UInt8):Bool:=match t with
 | []=>false
 |c::r=>(c::r).all isD&& !(c==48&&(mn||decide (0<r.length)))
theorem SR(s:List UInt8):SQ (Lib.hasPrefix s [45]) (Lib.trimPrefix s [45])=UB s:=by
 have S:∀t,SQ false t=gJ t:=by
  intro t;cases t with
  |nil=>rfl
  |cons c r=>
   simp only[SQ,gJ,QQg,Bool.false_or];rw[Bool.eq_iff_iff];cases r with
   |nil=>simp
   |cons x r=>simp
 have V:∀t,SQ true t=(gJ t&& !(t.head? ==some 48)):=by
  intro t;cases t with
  |nil=>rfl
  |cons c r=>
   simp only[SQ,gJ,QQg,Bool.true_or,Bool.and_true,List.head?_cons];rw[Bool.eq_iff_iff];simp
   grind
 have Z:∀t:List UInt8,(∀r,t≠45::r)->SQ false t=UB t:=by
  intro t R;rw[S];unfold UB;rw[ES R];cases hc:gJ t with
  |true=>rw[AY hc];rfl
  |false=>rw[G9 hc];rfl
 unfold Lib.trimPrefix;cases s with
 |nil=>rw[show Lib.hasPrefix [] [45]=false from rfl];exact Z [] (by simp)
 |cons c r=>
  by_cases h:c=45
  .subst h
   rw[show Lib.hasPrefix (45::r) [45]=true by simp[Lib.hasPrefix,List.isPrefixOf]];simp only[if_true,List.length_singleton,List.drop_succ_cons,List.drop_zero];rw[V];unfold UB;rw[ER];cases hc:gJ r with
   |true=>
    rw[AY hc,Bool.true_and];have X:=sj hc;cases hvd:fg r with
    |zero=>
     rw[hvd,iV] at X;rw[<-X];rfl
    |succ u=>
     rw[hvd] at X;have U:=wZ (u+1) (by omega);rw[X] at U;have:(r.head? ==some 48)=false:=by simpa using U
     rw[this];rfl
   |false=>
    rw[G9 hc];simp
  .have V:Lib.hasPrefix (c::r) [45]=false:=by
    have N :¬(45:UInt8)=c:=fun e=>h e.symm
    simp[Lib.hasPrefix,List.isPrefixOf,N]
   rw[V];exact Z (c::r) (by intro M e;exact h (List.cons.inj e).1)
theorem A8(s:List UInt8)(hs:s.length<=1000000000)(mem:Mem):kO prog 186 [.str s] mem (.bool (UB s)) mem:=by
 have N:aZ prog 186=some f186:=by kernel_rfl
 refine dc jc (lv:=fun _=>[5]) (K:=s.length+1) rfl rfl ?_ mem;rw[<-SR];obtain⟨b,L⟩:∃b,ag f186=[b]:=⟨_,rfl⟩
 have u:(Lib.trimPrefix s [45]).length<=s.length:=by unfold Lib.trimPrefix;split<;>simp
 obtain⟨M,X⟩:=xE (Lib.hasPrefix s [45]);obtain⟨t,Z⟩:=xE (Lib.trimPrefix s [45]);rw[<-Z] at u;rw[<-X,<-Z];obtain⟨F,U⟩:=Bj (O:=ah aY) (K:=s.length+1) t (by omega) (by omega) L;simp[ag,aE,f186] at L;subst L;cases P':t.all isD with
 |false=>
  have G:SQ M t=false:=by
   cases t with
   |nil=>rfl
   |cons c r=>simp only[SQ];rw[P'];rfl
  simp only[P'] at U;rw[G];simp[ae,N,f186,ah,aY,<-X,<-Z,U]
 |true=>
  simp only[P'] at U;cases t with
  |nil=>
   rw[show SQ M []=false from rfl];simp[ae,N,f186,ah,aY,<-X,<-Z,U]
  |cons c r=>
   have G:SQ M (c::r)= !(c==48&&(M||decide (0<r.length))):=by simp only[SQ];rw[P'];rfl
   rw[G];have V:¬((r.length:Int)+1=0):=by omega
   by_cases S:c=48
   .subst S
    cases M with
    |true=>simp[ae,N,f186,ah,aY,<-X,<-Z,U,V]
    |false=>
     by_cases B:0<r.length
     .have R :1<(r.length:Int)+1:=by omega
      simp[ae,N,f186,ah,aY,<-X,<-Z,U,V,B,R]
     .have R :¬1<(r.length:Int)+1:=by omega
      simp[ae,N,f186,ah,aY,<-X,<-Z,U,V,B,R]
   .have C :¬((c.toNat:Int)=48):=fun e=>S (Yz.1 e)
    simp[ae,N,f186,ah,aY,<-X,<-Z,U,V,S,C]
noncomputable def cc(f:FuncId)(args:List AV):Option AV:=
 match f,args with
 |186,[.str s]=>if s.length<=1000000000 then some (.bool (UB s)) else none
 |f,args=>aY f args
theorem BH:qS prog (ah cc):=bM fun f Z v h mem=>by
 unfold cc at h;split at h
 .split at h
  next X=>cases h;exact A8 _ X mem
  .cases h
 .have:=jc.fn _ _ mem ⟨v,none,[]⟩ (by unfold ah;simp only;rw[h])
  simpa [afl.mem] using this
theorem H5(s:List UInt8)(hs:s.length<=1000000000)(mem:Mem):kO prog 103 [.str s] mem (.bool (okI s)) mem:=by
 have V:aZ prog 103=some f103:=by kernel_rfl
 refine aA BH ?_ mem;cases hn:iE s with
 |none=>
  have X:UB s=false:=by unfold UB;rw[hn];rfl
  have U:okI s=false:=by unfold okI;rw[hn]
  rw[U];simp[ae,V,f103,ah,cc,aY,hs,X]
 |some n=>
  have X:UB s=true:=by unfold UB;rw[hn];rfl
  have U:okI s=decide ((ai n.natAbs).length<=200):=by unfold okI;rw[hn]
  have h3:Lib.trimPrefix s [45]=ai n.natAbs:=by rw[bE hn,aG]
  rw[U];by_cases S:(ai n.natAbs).length<=200
  .have Z :((ai n.natAbs).length:Int)<=200:=by omega
   simp[ae,V,f103,ah,cc,aY,hs,X,h3,S,Z]
  .have Z :¬((ai n.natAbs).length:Int)<=200:=by omega
   simp[ae,V,f103,ah,cc,aY,hs,X,h3,S,Z]
theorem Ad(u:Nat)(hl:(ai u).length<=18)(hK:20<K)(H:ag f229=[b]):
  ∃F:Env->Bool->Env,∀Z d,(ad Z 5=.str (ai u)/\ad Z 6=.int .i64 0/\ad Z 7=.int .i64 0)->
   aL (aX prog) (fun _=>[6,7]) O K 45 0 true (.loop b) ⟨Z,[],d⟩=some (.exit 0,⟨F Z d,[],d⟩)/\
   (ad (F Z d) 6=.int .i64 (-(u:Int))/\ad (F Z d) 4=ad Z 4):=by
 obtain⟨s,N⟩:=xE (ai u);have Y:s.all isD=true:=by rw[N];exact dI u
 have hv:fg s=u:=by rw[N];exact dM u
 rw[<-N] at hl |-;refine bj rfl (fun Z=>ad Z 5=.str s/\ad Z 6=.int .i64 0/\ad Z 7=.int .i64 0) (fun Z J =>ad J 6=.int .i64 (-(u:Int))/\ad J 4=ad Z 4) ?_;rintro Z d ⟨h5,h6,h7⟩;have V:fg (s.take 0)=0:=by rw[List.take_zero];unfold fg;rw[dP]
 have I:an [6,7] (aa b) Z ((6,.int .i64 (-((fg (s.take 0):Nat):Int)))::(7,.int .i64 ((0:Nat):Int))::Z)=an [6,7] (aa b) Z Z:=by rw[V];simp[an,h6,h7]
 rw[<-I];refine bI (α:=Nat) (fun j=>⟨an [6,7] (aa b) Z ((6,.int .i64 (-((fg (s.take j):Nat):Int)))::(7,.int .i64 (j:Int))::Z),[],d⟩)
  (fun j=>s.length-j) (fun j=>j<=s.length) (.exit 0) _ d _ (by simp) ?_ K 0 (Nat.zero_le _) (by simp only[QXQ];omega)
 intro j hj;clear I V;simp[ag,aE,f229] at H;by_cases M:j=s.length
 .right
  subst M;rw[P1,hv];subst H;simp[h5]
 .left
  have L:j<s.length:=by omega
  have G:(j:Int)<(s.length:Int):=by omega
  obtain⟨c,C⟩:∃c,s[j]? =some c:=⟨s[j],by simp[L]⟩
  have B :s[j]=c:=(O2.1 C).2;have X:=List.all_eq_true.1 Y c (J1 C);have hcd:=tT X;have acO:48<=c.toNat:=by unfold isD at X;simp only[Es,GE] at X;exact X.1
  have Zy:s.take (j+1)=s.take j++[c]:=by rw[List.take_add_one,C];rfl
  have U:fg (s.take (j+1))=10*fg (s.take j)+(c.toNat-48):=by rw[Zy,oC]
  have o:fg (s.take j)<10 ^ 17:=by
   have h1:=Dl (pz Y j);have h2:(s.take j).length<=17:=by rw[SP];omega
   have h3:10 ^ (s.take j).length<=10 ^ 17:=P3 (by omega) h2;omega
  obtain⟨v,S⟩:=xE (fg (s.take j));obtain⟨v2,R⟩:=xE (fg (s.take (j+1)));rw[<-S] at o U;rw[<-R] at U;obtain⟨k,hk⟩:=xE (α:=Nat) (c.toNat-48);have w0:IntKind.i64.wrap (c.toNat:Int)=(c.toNat:Int):=af (by omega) (by have:=c.toNat_lt;omega);have w1:IntKind.i64.wrap ((c.toNat:Int)-48)=(k:Int):=by rw[af (by omega) (by have:=c.toNat_lt;omega)];omega
  have w2:IntKind.i64.wrap (-9223372036854775808+(k:Int))= -9223372036854775808+(k:Int):=af;obtain⟨z,hz⟩:=xE ((-9223372036854775808+(k:Int)).tdiv 10);have hzb:z<= -900000000000000000/\ -922337203685477581<=z:=by
   have e: -9223372036854775808+(k:Int)= -((9223372036854775808-k:Nat):Int):=by omega
   obtain⟨w,hw⟩:=xE ((9223372036854775808-k) / 10);have hz3:z= -(w:Int):=by rw[hz,e,Int.neg_tdiv,Hq _ 10,<-hw]
   omega
  have w3:IntKind.i64.wrap z=z:=af;have m:¬(-(v:Int)<z):=by omega
  have w4:IntKind.i64.wrap (10* -(v:Int))=10* -(v:Int):=af;have w4' :IntKind.i64.wrap (-(10*(v:Int)))= -(10*(v:Int)):=af;have w5:IntKind.i64.wrap (10* -(v:Int)-(k:Int))= -(v2:Int):=by rw[af];omega
  have w5' :IntKind.i64.wrap (-(10*(v:Int))-(k:Int))= -(v2:Int):=by rw[af];omega
  have w6:IntKind.i64.wrap ((j:Int)+1)=((j+1:Nat):Int):=by rw[af];omega
  refine⟨j+1,?_⟩;refine bt (show j+1<=s.length/\_ from⟨L,by omega⟩) ?_;subst H;simp[h5,L,G,B,<-S,<-R,w0,w1,w2,<-hz,w3,m,w4,w5,w6]
theorem H6(n:Int)(H:(ai n.natAbs).length<=18)(mem:Mem):kO prog 229 [.str (bF n)] mem (.tuple [.int .i64 n,.bool true]) mem:=by
 have S:aZ prog 229=some f229:=by kernel_rfl
 refine dc jc (lv:=fun _=>[6,7]) (K:=21) rfl rfl ?_ mem;obtain⟨b,V⟩:∃b,ag f229=[b]:=⟨_,rfl⟩
 obtain⟨F,X⟩:=Ad (O:=ah aY) (K:=21) n.natAbs H (by omega) V;have L:n.natAbs<10 ^ 18:=by have R:=cq n.natAbs;have N:10 ^ (ai n.natAbs).length<=10 ^ 18:=P3 (by omega) H;omega
 obtain⟨u,U⟩:=xE n.natAbs;rw[<-U] at X H L;have Z :¬(19<((ai u).length:Int)):=by omega
 simp[ag,aE,f229] at V;subst V;by_cases M:n<0
 .have e: -(u:Int)=n:=by omega
  rw[e] at X;simp[ae,S,f229,ah,aY,aK,aG,<-U,Z,X,M]
 .have e:(u:Int)=n:=by omega
  have R:¬(-(u:Int)= -9223372036854775808):=by omega
  have G :¬((u:Int)=9223372036854775808):=by omega
  have N:IntKind.i64.wrap (u:Int)=n:=by rw[af];exact e
  have h3:¬u=9223372036854775808:=by omega
  simp[ae,S,f229,ah,aY,aK,aG,<-U,Z,X,M,R,N]
noncomputable def bC(f:FuncId)(args:List AV):Option AV:=
 match f,args with
 |229,[.str s]=>match iE s with
  |some n=>if (ai n.natAbs).length<=18 then some (.tuple [.int .i64 n,.bool true]) else none
  |none=>none
 |93,[.int .i64 n]=>if dY n then some (.str (bF n)) else none
 |149,[.str s]=>match iE s with
  |some n=>some (.int .i64 (jz n))
  |none=>none
 |189,[.str s]=>match iE s with
  |some n=>some (.str (ai n.natAbs))
  |none=>none
 |150,[.str s]=>match iE s with
  |some n=>if (ai n.natAbs).length<=1000000000 then some (.str (bF (-n))) else none
  |none=>none
 |f,args=>cc f args
theorem BI:qS prog (ah bC):=bM fun f V v h mem=>by
 unfold bC at h;split at h
 .split at h
  .rename_i n Z
   split at h
   next X=>cases h;rw[bE Z];exact H6 n X mem
   .cases h
  .cases h
 .split at h
  next U=>cases h;exact Sc _ U mem
  .cases h
 .split at h
  next n Z=>cases h;rw[bE Z];exact M4 n mem
  .cases h
 .split at h
  next n Z=>cases h;rw[bE Z];exact Qm n mem
  .cases h
 .split at h
  .rename_i n Z
   split at h
   next X=>cases h;rw[bE Z];exact Qt n X mem
   .cases h
  .cases h
 .have:=BH.fn _ _ mem ⟨v,none,[]⟩ (by unfold ah;simp only;rw[h])
  simpa [afl.mem] using this
theorem H4(n:Int)(H:(ai n.natAbs).length<=1000000000)(mem:Mem):kO prog 224 [.str (bF n)] mem (if (ai n.natAbs).length<=17 then .tuple [.int .i64 n,.bool true] else .tuple [.int .i64 0,.bool false]) mem:=by
 have X:aZ prog 224=some f224:=by kernel_rfl
 refine dc BI (lv:=fun _=>[]) (K:=1) rfl (by split<;>rfl) ?_ mem;by_cases h:(ai n.natAbs).length<=17
 .have Z:¬(17<((ai n.natAbs).length:Int)):=by omega
  have V:(ai n.natAbs).length<=18:=by omega
  simp[ae,X,f224,ah,bC,cc,aY,aG,aD,h,Z,V]
 .have Z:(17<((ai n.natAbs).length:Int)):=by omega
  simp[ae,X,f224,ah,bC,cc,aY,aG,h,Z]
variable{a:Int}
theorem Ce{b:Int}(hs:decide (a<0)=decide (b<0)):ek (decide (a<0)) (a.natAbs+b.natAbs)=bF (a+b):=by
 rw[<-ij (a+b)];have:(a+b).natAbs=a.natAbs+b.natAbs:=by by_cases Z:a<0<;>by_cases X:b<0<;>simp[Z,X] at hs<;>omega
 rw[this];by_cases Z:a<0<;>by_cases X:b<0<;>simp[Z,X] at hs
 .rw[decide_eq_true Z,decide_eq_true (by omega)]
 .rw[decide_eq_false Z,decide_eq_false (by omega)]
theorem GV{b:Int}(hs:¬decide (a<0)=decide (b<0))(H:a.natAbs<b.natAbs):ek (decide (b<0)) (b.natAbs-a.natAbs)=bF (a+b):=by
 rw[<-ij (a+b)];have V:(a+b).natAbs=b.natAbs-a.natAbs:=by by_cases X:a<0<;>by_cases Z:b<0<;>simp[X,Z] at hs<;>omega
 rw[V];by_cases X:a<0<;>by_cases Z:b<0<;>simp[X,Z] at hs
 .rw[decide_eq_false Z,decide_eq_false (by omega)]
 .rw[decide_eq_true Z,decide_eq_true (by omega)]
theorem GU{b:Int}(hs:¬decide (a<0)=decide (b<0))(H:b.natAbs<=a.natAbs):ek (decide (a<0)) (a.natAbs-b.natAbs)=bF (a+b):=by
 rw[<-ij (a+b)];have U:(a+b).natAbs=a.natAbs-b.natAbs:=by by_cases Z:a<0<;>by_cases X:b<0<;>simp[Z,X] at hs<;>omega
 rw[U];by_cases V:a.natAbs-b.natAbs=0
 .unfold ek;rw[if_pos V,if_pos V]
 by_cases Z:a<0<;>by_cases X:b<0<;>simp[Z,X] at hs
 .rw[decide_eq_true Z,decide_eq_true (by omega)]
 .rw[decide_eq_false Z,decide_eq_false (by omega)]
theorem eZ(n:Nat):(dig 10000 n).length<=(ai n).length:=by
 obtain⟨X,Z,U⟩:=kM _ (ai n) (L9 _) (dI _);rw[dM] at Z;have V:aW (fN (ai n))=dig 10000 n:=by rw[<-dV (by omega) X,Z]
 have:=dm (fN (ai n));rw[V] at this;omega
noncomputable def bJ(f:FuncId)(args:List AV):Option AV:=
 match f,args with
 |224,[.str s]=>match iE s with
  |some n=>if (ai n.natAbs).length<=1000000000 then some (if (ai n.natAbs).length<=17 then .tuple [.int .i64 n,.bool true] else .tuple [.int .i64 0,.bool false]) else none
  |none=>none
 |f,args=>bC f args
theorem BJ:qS prog (ah bJ):=bM fun f Z v h mem=>by
 unfold bJ at h;split at h
 .split at h
  .rename_i n X
   split at h
   next V=>cases h;rw[bE X];exact H4 n V mem
   .cases h
  .cases h
 .have:=BI.fn _ _ mem ⟨v,none,[]⟩ (by unfold ah;simp only;rw[h])
  simpa [afl.mem] using this
noncomputable def dS:y9:=fun c Z M=>((ah bJ).or du) c Z M
theorem uT:qS prog dS:=BJ.or KM
variable{A:List Nat}
theorem rs0(ow:Bool)(l:Mem):bd .i64 (.cells ow 1 (iN .i64 A)::l) (.slice 0 0 A.length none)=some A:=aU rfl (by simp) (B5 (by simp))
theorem rs1(ow:Bool)(a0:afq)(l:Mem):bd .i64 (a0::.cells ow 1 (iN .i64 A)::l) (.slice 1 0 A.length none)=some A:=aU rfl (by simp) (B5 (by simp))
theorem rs2(ow:Bool)(a0 a1:afq)(l:Mem):bd .i64 (a0::a1::.cells ow 1 (iN .i64 A)::l) (.slice 2 0 A.length none)=some A:=aU rfl (by simp) (B5 (by simp))
theorem rs3(ow:Bool)(a0 a1 H:afq)(l:Mem):bd .i64 (a0::a1::H::.cells ow 1 (iN .i64 A)::l) (.slice 3 0 A.length none)=some A:=aU rfl (by simp) (B5 (by simp))
theorem Qo(a b:Int)(ha:(ai a.natAbs).length<=10000)(hb:(ai b.natAbs).length<=10000)(mem:Mem):kO prog 146 [.str (bF a),.str (bF b)] mem (.str (bF (a+b))) mem:=by
 have Y:aZ prog 146=some f146:=by kernel_rfl
 refine aA uT ?_ mem;have c1:decide (a<0)=decide (b<0)->ek (decide (a<0)) (a.natAbs+b.natAbs)=bF (a+b):=Ce;have c2:¬decide (a<0)=decide (b<0)->a.natAbs<b.natAbs->ek (decide (b<0)) (b.natAbs-a.natAbs)=bF (a+b):=GV;have c3:¬decide (a<0)=decide (b<0)->b.natAbs<=a.natAbs->ek (decide (a<0)) (a.natAbs-b.natAbs)=bF (a+b):=GU;obtain⟨n,N⟩:∃n,a.natAbs=n:=⟨_,rfl⟩
 obtain⟨m,M⟩:∃m,b.natAbs=m:=⟨_,rfl⟩
 rw[N,M] at c1 c2 c3;rw[N] at ha;rw[M] at hb;have Z:(ai n).length<=1000000000:=by omega
 have X:(ai m).length<=1000000000:=by omega
 by_cases hq:(ai n).length<=17/\(ai m).length<=17
 .obtain⟨U,R⟩:=hq
  have s1:n<10 ^ 17:=by have h1:=cq n;have h2:10 ^ (ai n).length<=10 ^ 17:=P3 (by omega) U;omega
  have s2:m<10 ^ 17:=by have h1:=cq m;have h2:10 ^ (ai m).length<=10 ^ 17:=P3 (by omega) R;omega
  have w1:IntKind.i64.wrap (a+b)=a+b:=af;have hf:dY (a+b)=true:=by unfold dY;simp;omega
  simp[ae,Y,f146,dS,y9.or,ah,bJ,bC,aD,N,M,Z,X,U,R,w1,hf]
 .have da:=eZ n
  have db:=eZ m;have Z5:(ai n).length<=1000000:=by omega
  have Z8:(ai m).length<=1000000:=by omega
  have J':dig 10000 n≠[]\/dig 10000 m≠[]:=by
   by_cases h:(ai n).length<=17
   .right
    rw[ne_eq,fC (by omega)];intro e;apply hq;rw[e];exact⟨h,by decide⟩
   .left
    rw[ne_eq,fC (by omega)];intro e;apply h;rw[e];decide
  have J:ao 10000 (dig 10000 n)=n:=bL (by omega) _;have I:ao 10000 (dig 10000 m)=m:=bL (by omega) _;have H:lok 10000 (dig 10000 n)=true:=ca (by omega) _;have ob:lok 10000 (dig 10000 m)=true:=ca (by omega) _;have ta:aW (dig 10000 n)=dig 10000 n:=cm (by omega) _;have tb:aW (dig 10000 m)=dig 10000 m:=cm (by omega) _;obtain⟨A,hA⟩:=xE (dig 10000 n);obtain⟨B,hB⟩:=xE (dig 10000 m);rw[<-hA] at da J H ta J';rw[<-hB] at db I ob tb J';have acQ:=J'.symm;have g1:A.length<=1000000:=by omega
  have g2:B.length<=1000000:=by omega
  have g3:A.length<=1000000000:=by omega
  have g4:B.length<=1000000000:=by omega
  by_cases hs:(decide (a<0))=(decide (b<0))
  .obtain⟨S,hS⟩:=xE (dig 10000 (n+m))
   have L:ao 10000 S=n+m:=by rw[hS];exact bL (by omega) _
   have G:lok 10000 S=true:=by rw[hS];exact ca (by omega) _
   have F:aW S=S:=by rw[hS];exact cm (by omega) _
   have C:S.length<=100000:=by have h1:=jL ha hb;have h2:=eZ (n+m);rw[hS];omega
   have u:=c1 hs;have V :(decide (a<0)==decide (b<0))=true:=by rw[hs];simp
   have o:0<=(n:Int)+(m:Int):=by omega
   have j:((n:Int)+(m:Int)).toNat=n+m:=by omega
   by_cases U:(ai n).length<=17
   .have R:¬(ai m).length<=17:=fun e=>hq ⟨U,e⟩
    simp[ae,Y,f146,dS,y9.or,ah,bJ,bC,cc,aY,ak,aD,bk,N,M,Z,X,U,R,du,bT,cR,aK,aG,Z5,Z8,<-hA,<-hB,rs0,rs1,rs2,J',H,ob,g1,g2,J,I,o,j,<-hS,G,F,C,L,V,u]
   .by_cases R:(ai m).length<=17
    .simp[ae,Y,f146,dS,y9.or,ah,bJ,bC,cc,aY,ak,aD,bk,N,M,Z,X,U,R,du,bT,cR,aK,aG,Z5,Z8,<-hA,<-hB,rs0,rs1,rs2,J',H,ob,g1,g2,J,I,o,j,<-hS,G,F,C,L,V,u]
    .simp[ae,Y,f146,dS,y9.or,ah,bJ,bC,cc,aY,ak,aD,bk,N,M,Z,X,U,R,du,bT,cR,aK,aG,Z5,Z8,<-hA,<-hB,rs0,rs1,rs2,J',H,ob,g1,g2,J,I,o,j,<-hS,G,F,C,L,V,u]
  .have V :(decide (a<0)==decide (b<0))=false:=by cases h1:decide (a<0)<;>cases h2:decide (b<0)<;>simp[h1,h2] at hs |-
   by_cases FS:n<m
   .obtain⟨S,hS⟩:=xE (dig 10000 (m-n))
    have L:ao 10000 S=m-n:=by rw[hS];exact bL (by omega) _
    have G:lok 10000 S=true:=by rw[hS];exact ca (by omega) _
    have F:aW S=S:=by rw[hS];exact cm (by omega) _
    have C:S.length<=100000:=by have h1:=bB (show m-n<=m by omega);have h2:=eZ (m-n);rw[hS];omega
    have u:=c2 hs FS;have o:0<=(m:Int)+ -(n:Int):=by omega
    have j:((m:Int)+ -(n:Int)).toNat=m-n:=by omega
    by_cases U:(ai n).length<=17
    .have R:¬(ai m).length<=17:=fun e=>hq ⟨U,e⟩
     simp[ae,Y,f146,dS,y9.or,ah,bJ,bC,cc,aY,ak,aD,bk,N,M,Z,X,U,R,du,bT,cR,cL,cW,aK,aG,Z5,Z8,<-hA,<-hB,rs0,rs1,rs2,acQ,H,ob,ta,tb,g1,g2,g3,J,I,o,j,FS,<-hS,G,F,C,L,V,u]
    .by_cases R:(ai m).length<=17
     .simp[ae,Y,f146,dS,y9.or,ah,bJ,bC,cc,aY,ak,aD,bk,N,M,Z,X,U,R,du,bT,cR,cL,cW,aK,aG,Z5,Z8,<-hA,<-hB,rs0,rs1,rs2,acQ,H,ob,ta,tb,g1,g2,g3,J,I,o,j,FS,<-hS,G,F,C,L,V,u]
     .simp[ae,Y,f146,dS,y9.or,ah,bJ,bC,cc,aY,ak,aD,bk,N,M,Z,X,U,R,du,bT,cR,cL,cW,aK,aG,Z5,Z8,<-hA,<-hB,rs0,rs1,rs2,acQ,H,ob,ta,tb,g1,g2,g3,J,I,o,j,FS,<-hS,G,F,C,L,V,u]
   .obtain⟨S,hS⟩:=xE (dig 10000 (n-m))
    have L:ao 10000 S=n-m:=by rw[hS];exact bL (by omega) _
    have G:lok 10000 S=true:=by rw[hS];exact ca (by omega) _
    have F:aW S=S:=by rw[hS];exact cm (by omega) _
    have C:S.length<=100000:=by have h1:=bB (show n-m<=n by omega);have h2:=eZ (n-m);rw[hS];omega
    have u:=c3 hs (by omega);have o:0<=(n:Int)+ -(m:Int):=by omega
    have j:((n:Int)+ -(m:Int)).toNat=n-m:=by omega
    by_cases U:(ai n).length<=17
    .have R:¬(ai m).length<=17:=fun e=>hq ⟨U,e⟩
     simp[ae,Y,f146,dS,y9.or,ah,bJ,bC,cc,aY,ak,aD,bk,N,M,Z,X,U,R,du,bT,cR,cL,cW,aK,aG,Z5,Z8,<-hA,<-hB,rs0,rs1,rs2,J',H,ob,ta,tb,g1,g2,g3,J,I,o,j,FS,<-hS,G,F,C,L,V,u]
    .by_cases R:(ai m).length<=17
     .simp[ae,Y,f146,dS,y9.or,ah,bJ,bC,cc,aY,ak,aD,bk,N,M,Z,X,U,R,du,bT,cR,cL,cW,aK,aG,Z5,Z8,<-hA,<-hB,rs0,rs1,rs2,J',H,ob,ta,tb,g1,g2,g3,J,I,o,j,FS,<-hS,G,F,C,L,V,u]
     .simp[ae,Y,f146,dS,y9.or,ah,bJ,bC,cc,aY,ak,aD,bk,N,M,Z,X,U,R,du,bT,cR,cL,cW,aK,aG,Z5,Z8,<-hA,<-hB,rs0,rs1,rs2,J',H,ob,ta,tb,g1,g2,g3,J,I,o,j,FS,<-hS,G,F,C,L,V,u]
noncomputable def ej(f:FuncId)(args:List AV):Option AV:=
 match f,args with
 |146,[.str s,.str t]=>match iE s,iE t with
  |some a,some b=>if (ai a.natAbs).length<=10000/\(ai b.natAbs).length<=10000 then some (.str (bF (a+b))) else none
  |_,_=>none
 |f,args=>bJ f args
theorem BK:qS prog (ah ej):=bM fun f Z v h mem=>by
 unfold ej at h;split at h
 .split at h
  .rename_i m n V U
   split at h
   next X=>cases h;rw[bE V,bE U];exact Qo m n X.1 X.2 mem
   .cases h
  .cases h
 .have:=BJ.fn _ _ mem ⟨v,none,[]⟩ (by unfold ah;simp only;rw[h])
  simpa [afl.mem] using this
theorem Qu(a b:Int)(H:(ai a.natAbs).length<=10000)(I:(ai b.natAbs).length<=10000)(mem:Mem):kO prog 188 [.str (bF a),.str (bF b)] mem (.str (bF (a-b))) mem:=by
 have X:aZ prog 188=some f188:=by kernel_rfl
 refine aA BK ?_ mem;have Z:(ai b.natAbs).length<=1000000000:=by omega
 have e:a+ -b=a-b:=Int.sub_eq_add_neg.symm;simp[ae,X,f188,ah,ej,bJ,bC,aD,Z,H,I,e]
noncomputable def eH(f:FuncId)(args:List AV):Option AV:=
 match f,args with
 |188,[.str s,.str t]=>match iE s,iE t with
  |some a,some b=>if (ai a.natAbs).length<=10000/\(ai b.natAbs).length<=10000 then some (.str (bF (a-b))) else none
  |_,_=>none
 |f,args=>ej f args
theorem BL:qS prog (ah eH):=bM fun f Z v h mem=>by
 unfold eH at h;split at h
 .split at h
  .rename_i m n V U
   split at h
   next X=>cases h;rw[bE V,bE U];exact Qu m n X.1 X.2 mem
   .cases h
  .cases h
 .have:=BK.fn _ _ mem ⟨v,none,[]⟩ (by unfold ah;simp only;rw[h])
  simpa [afl.mem] using this
theorem DB(a b:Int)(H:(ai a.natAbs).length<=10000)(I:(ai b.natAbs).length<=10000)(mem:Mem):kO prog 105 [.str (bF a),.str (bF b)] mem (.int .i64 (jz (a-b))) mem:=by
 have Z:aZ prog 105=some f105:=by kernel_rfl
 refine aA BL ?_ mem;obtain⟨c,X⟩:=xE (a-b);simp[ae,Z,f105,ah,eH,ej,bJ,bC,aD,H,I,<-X]
theorem Qq(a b:Int)(H:(ai a.natAbs).length<=5000)(I:(ai b.natAbs).length<=5000)(mem:Mem):kO prog 147 [.str (bF a),.str (bF b)] mem (.str (bF (a*b))) mem:=by
 have F:aZ prog 147=some f147:=by kernel_rfl
 refine aA uT ?_ mem;have X:=EI a b;have V:(a*b).natAbs=a.natAbs*b.natAbs:=QQl a b;obtain⟨n,R⟩:∃n,a.natAbs=n:=⟨_,rfl⟩
 obtain⟨m,N⟩:∃m,b.natAbs=m:=⟨_,rfl⟩
 rw[R,N] at X V;rw[R] at H;rw[N] at I;by_cases C:(ai n).length+(ai m).length<=18
 .have q1:(ai n).length<=18:=by omega
  have q2:(ai m).length<=18:=by omega
  have s3:n*m<10 ^ 18:=by have u:=cq n;have o:=cq m;have h3:n*m<10 ^ (ai n).length*10 ^ (ai m).length:=Nat.mul_lt_mul'' u o;rw[<-Nat.pow_add] at h3;have h4:10 ^ ((ai n).length+(ai m).length)<=10 ^ 18:=P3 (by omega) C;omega
  obtain⟨p,M⟩:=xE (a*b);rw[<-M] at V;have w0:IntKind.i64.wrap (((ai n).length:Int)+((ai m).length:Int))=(((ai n).length+(ai m).length:Nat):Int):=by rw[af];omega
  have Z:(((ai n).length+(ai m).length:Nat):Int)<=18:=by omega
  have w1:IntKind.i64.wrap (a*b)=p:=by rw[<-M];exact af
  have hf:dY p=true:=by unfold dY;simp;omega
  obtain⟨l,L⟩:=xE ((ai n).length+(ai m).length);rw[<-L] at w0 Z;rw[<-M];simp[ae,F,f147,dS,y9.or,ah,bJ,bC,cc,aY,aK,aG,aD,R,N,w0,Z,q1,q2,w1,hf]
 .have da:=eZ n
  have db:=eZ m;have Z5:(ai n).length<=1000000:=by omega
  have Z8:(ai m).length<=1000000:=by omega
  have G:dig 10000 n≠[]\/dig 10000 m≠[]:=by
   by_cases h:n=0
   .right
    rw[ne_eq,fC (by omega)];intro e;apply C;rw[h,e];decide
   .left
    rw[ne_eq,fC (by omega)];exact h
  have j:ao 10000 (dig 10000 n)=n:=bL (by omega) _;have Y:ao 10000 (dig 10000 m)=m:=bL (by omega) _;have J:lok 10000 (dig 10000 n)=true:=ca (by omega) _;have ob:lok 10000 (dig 10000 m)=true:=ca (by omega) _;obtain⟨A,hA⟩:=xE (dig 10000 n);obtain⟨B,hB⟩:=xE (dig 10000 m);rw[<-hA] at da j J G;rw[<-hB] at db Y ob G;have g1:A.length<=5000:=by omega
  have g2:B.length<=5000:=by omega
  obtain⟨S,hS⟩:=xE (dig 10000 (n*m));have vs:ao 10000 S=n*m:=by rw[hS];exact bL (by omega) _
  have os:lok 10000 S=true:=by rw[hS];exact ca (by omega) _
  have ts:aW S=S:=by rw[hS];exact cm (by omega) _
  have g5:S.length<=100000:=by have u:=dH H I;have o:=eZ (n*m);rw[hS];omega
  obtain⟨mn,U⟩:=xE (!(decide (a<0)==decide (b<0)));rw[<-U] at X;have w0:IntKind.i64.wrap (((ai n).length:Int)+((ai m).length:Int))=(((ai n).length+(ai m).length:Nat):Int):=by rw[af];omega
  have Z:¬(((ai n).length+(ai m).length:Nat):Int)<=18:=by omega
  obtain⟨l,L⟩:=xE ((ai n).length+(ai m).length);rw[<-L] at w0 Z;have hlN:¬l<=18:=by omega
  simp[ae,F,f147,dS,y9.or,ah,bJ,bC,cc,aY,ak,aK,aG,bk,R,N,w0,Z,du,bT,cR,Z5,Z8,<-hA,<-hB,rs0,rs1,rs2,G,J,ob,g1,g2,j,Y,<-hS,os,ts,g5,vs,<-U,X]
theorem FD(a:Int)(b:Nat)(H:0<b)(Z2:0<=a\/a.natAbs%b=0)(ha:(ai a.natAbs).length<=10000)(hb:(ai b).length<=10000)(mem:Mem):
  kO prog 151 [.str (bF a),.str (ai b)] mem (.tuple [.str (bF (a / b)),.str (ai (a.natAbs%b))]) mem:=by
 have hG:aZ prog 151=some f151:=by kernel_rfl
 refine aA uT ?_ mem;have V:iE (ai b)=some (b:Int):=aD (b:Int);have N:Lib.hasPrefix (ai b) [45]=false:=by have:=aK (b:Int);rw[show bF (b:Int)=ai b from rfl] at this;rw[this];simp
 have M:Lib.trimPrefix (ai b) [45]=ai b:=by have:=aG (b:Int);rw[show bF (b:Int)=ai b from rfl,Int.natAbs_natCast] at this;exact this
 have L:=EH H Z2;have J:=yA H Z2;obtain⟨n,j⟩:∃n,a.natAbs=n:=⟨_,rfl⟩
 rw[j] at L J ha Z2 |-;have U:(ai n).length<=1000000000:=by omega
 have S:(ai b).length<=1000000000:=by omega
 have aev:n%b<b:=Nat.mod_lt _ H;obtain⟨q,hq⟩:=xE (n / b);obtain⟨r,hr⟩:=xE (n%b);rw[<-hq] at L;rw[<-hr] at J Z2 aev |-;obtain⟨Z,hZ⟩:=xE (a / (b:Int));rw[<-hZ] at L J |-;have aew :¬b=0:=by omega
 by_cases m:(ai n).length<=17/\(ai b).length<=17
 .obtain⟨G,F⟩:=m
  have s1:n<10 ^ 17:=by have h1:=cq n;have h2:10 ^ (ai n).length<=10 ^ 17:=P3 (by omega) G;omega
  have s2:b<10 ^ 17:=by have h1:=cq b;have h2:10 ^ (ai b).length<=10 ^ 17:=P3 (by omega) F;omega
  have hZb:Z.natAbs<=n:=by rw[hZ,<-j];exact Int.natAbs_ediv_le_natAbs _ _
  have w1:IntKind.i64.wrap (a.tdiv (b:Int))=Z:=by rw[J.1];exact af
  have w2:IntKind.i64.wrap Z=Z:=af;have hf1:dY Z=true:=by unfold dY;simp;omega
  have hf2:dY (r:Int)=true:=by unfold dY;simp;omega
  have hrs:bF (r:Int)=ai r:=rfl;have hrn:¬(r:Int)<0:=by omega
  simp[ae,hG,f151,dS,y9.or,ah,bJ,bC,aD,V,j,U,S,G,F,aew,J,w2,hrn,hf1,hf2,hrs,Nat.testBit]
 .have da:=eZ n
  have db:=eZ b;have Z5:(ai n).length<=1000000:=by omega
  have Z8:(ai b).length<=1000000:=by omega
  have I:ao 10000 (dig 10000 n)=n:=bL (by omega) _;have vb:ao 10000 (dig 10000 b)=b:=bL (by omega) _;have oa:lok 10000 (dig 10000 n)=true:=ca (by omega) _;have ob:lok 10000 (dig 10000 b)=true:=ca (by omega) _;have tb:aW (dig 10000 b)=dig 10000 b:=cm (by omega) _;have ZI:dig 10000 n=[]↔n=0:=fC (by omega);obtain⟨A,hA⟩:=xE (dig 10000 n);obtain⟨B,hB⟩:=xE (dig 10000 b);rw[<-hA] at da I oa ZI;rw[<-hB] at db vb ob tb;have g1:A.length<=50000:=by omega
  have g2:B.length<=50000:=by omega
  have u:ek false r=ai r:=mI r;obtain⟨Q,hQ⟩:=xE (dig 10000 q);obtain⟨R,Y⟩:=xE (dig 10000 r);have vq:ao 10000 Q=q:=by rw[hQ];exact bL (by omega) _
  have oq:lok 10000 Q=true:=by rw[hQ];exact ca (by omega) _
  have tq:aW Q=Q:=by rw[hQ];exact cm (by omega) _
  have gq:Q.length<=100000:=by have h1:=bB (show q<=n by rw[hq];exact Nat.div_le_self _ _);have h2:=eZ q;rw[hQ];omega
  have vr:ao 10000 R=r:=by rw[Y];exact bL (by omega) _
  have or:lok 10000 R=true:=by rw[Y];exact ca (by omega) _
  have tr:aW R=R:=by rw[Y];exact cm (by omega) _
  have gr:R.length<=100000:=by have h1:=bB (show r<=b by omega);have h2:=eZ r;rw[Y];omega
  by_cases C:A=[]
  .have acR:=ZI.1 C
   have hq0:q=0:=by rw[hq,acR];exact Nat.zero_div _
   have acS:r=0:=by rw[hr,acR];exact Nat.zero_mod _
   have X:¬a<0:=by omega
   rw[hq0] at L;have aex:bF Z=[48]:=by rw[<-L];rfl
   have hrd:ai r=[48]:=by rw[acS];exact iV
   have e1:∀l,bd .i64 (.cells true 1 []::l) (.slice 0 0 0 none)=some []:=fun l=>aU (A:=[]) rfl (by simp) rfl
   have e2:∀a0 a1 l,bd .i64 (a0::a1::.cells true 1 []::l) (.slice 2 0 0 none)=some []:=fun a0 a1 l=>aU (A:=[]) rfl (by simp) rfl
   have k1:lok 10000 []=true:=rfl;have k2:aW []=[]:=rfl;have k3:ao 10000 []=0:=rfl;have k4:∀mn,ek mn 0=[48]:=fun mn=>rfl
   have k5:ek false n=[48]:=by rw[acR];rfl
   rw[aex,hrd];rw[C] at hA I;clear L u hQ Y;by_cases G:(ai n).length<=17
   .have F:¬(ai b).length<=17:=fun e=>m ⟨G,e⟩
    simp[ae,hG,f151,dS,y9.or,ah,bJ,bC,cc,aY,ak,aD,V,bk,j,U,S,G,F,du,bT,aK,aG,N,M,Z5,Z8,<-hA,<-hB,rs1,ob,tb,g2,I,vb,H,e1,e2,k1,k2,k5,X]
   .by_cases F:(ai b).length<=17
    .simp[ae,hG,f151,dS,y9.or,ah,bJ,bC,cc,aY,ak,aD,V,bk,j,U,S,G,F,du,bT,aK,aG,N,M,Z5,Z8,<-hA,<-hB,rs1,ob,tb,g2,I,vb,H,e1,e2,k1,k2,k5,X]
    .simp[ae,hG,f151,dS,y9.or,ah,bJ,bC,cc,aY,ak,aD,V,bk,j,U,S,G,F,du,bT,aK,aG,N,M,Z5,Z8,<-hA,<-hB,rs1,ob,tb,g2,I,vb,H,e1,e2,k1,k2,k5,X]
  .by_cases X:a<0
   .have acS:r=0:=by rcases Z2 with h | h<;>omega
    have hR0:R=[]:=by rw[Y,acS];exact dW _
    have hRl:¬0<R.length:=by rw[hR0];simp
    have o :ek true q=bF Z:=by rw[<-L,decide_eq_true X]
    by_cases G:(ai n).length<=17
    .have F:¬(ai b).length<=17:=fun e=>m ⟨G,e⟩
     simp[ae,hG,f151,dS,y9.or,ah,bJ,bC,cc,aY,ak,aD,V,bk,j,U,S,G,F,du,bT,aK,aG,N,M,Z5,Z8,<-hA,<-hB,rs0,rs1,rs2,rs3,oa,ob,tb,g1,g2,I,vb,H,<-hq,<-hr,<-hQ,<-Y,vq,oq,tq,gq,vr,or,tr,gr,u,C,X,hRl,o]
    .by_cases F:(ai b).length<=17
     .simp[ae,hG,f151,dS,y9.or,ah,bJ,bC,cc,aY,ak,aD,V,bk,j,U,S,G,F,du,bT,aK,aG,N,M,Z5,Z8,<-hA,<-hB,rs0,rs1,rs2,rs3,oa,ob,tb,g1,g2,I,vb,H,<-hq,<-hr,<-hQ,<-Y,vq,oq,tq,gq,vr,or,tr,gr,u,C,X,hRl,o]
     .simp[ae,hG,f151,dS,y9.or,ah,bJ,bC,cc,aY,ak,aD,V,bk,j,U,S,G,F,du,bT,aK,aG,N,M,Z5,Z8,<-hA,<-hB,rs0,rs1,rs2,rs3,oa,ob,tb,g1,g2,I,vb,H,<-hq,<-hr,<-hQ,<-Y,vq,oq,tq,gq,vr,or,tr,gr,u,C,X,hRl,o]
   .have o :ek false q=bF Z:=by rw[<-L,decide_eq_false X]
    by_cases G:(ai n).length<=17
    .have F:¬(ai b).length<=17:=fun e=>m ⟨G,e⟩
     simp[ae,hG,f151,dS,y9.or,ah,bJ,bC,cc,aY,ak,aD,V,bk,j,U,S,G,F,du,bT,aK,aG,N,M,Z5,Z8,<-hA,<-hB,rs0,rs1,rs2,rs3,oa,ob,tb,g1,g2,I,vb,H,<-hq,<-hr,<-hQ,<-Y,vq,oq,tq,gq,vr,or,tr,gr,u,C,X,o]
    .by_cases F:(ai b).length<=17
     .simp[ae,hG,f151,dS,y9.or,ah,bJ,bC,cc,aY,ak,aD,V,bk,j,U,S,G,F,du,bT,aK,aG,N,M,Z5,Z8,<-hA,<-hB,rs0,rs1,rs2,rs3,oa,ob,tb,g1,g2,I,vb,H,<-hq,<-hr,<-hQ,<-Y,vq,oq,tq,gq,vr,or,tr,gr,u,C,X,o]
     .simp[ae,hG,f151,dS,y9.or,ah,bJ,bC,cc,aY,ak,aD,V,bk,j,U,S,G,F,du,bT,aK,aG,N,M,Z5,Z8,<-hA,<-hB,rs0,rs1,rs2,rs3,oa,ob,tb,g1,g2,I,vb,H,<-hq,<-hr,<-hQ,<-Y,vq,oq,tq,gq,vr,or,tr,gr,u,C,X,o]
noncomputable def dh(f:FuncId)(args:List AV):Option AV:=
 match f,args with
 |151,[.str s,.str t]=>match iE s,xq t with
  |some a,some b=>if (ai a.natAbs).length<=10000/\(ai b).length<=10000/\0<b/\(0<=a\/a.natAbs%b=0) then some (.tuple [.str (bF (a / b)),.str (ai (a.natAbs%b))]) else none
  |_,_=>none
 |147,[.str s,.str t]=>match iE s,iE t with
  |some a,some b=>if (ai a.natAbs).length<=5000/\(ai b.natAbs).length<=5000 then some (.str (bF (a*b))) else none
  |_,_=>none
 |105,[.str s,.str t]=>match iE s,iE t with
  |some a,some b=>if (ai a.natAbs).length<=10000/\(ai b.natAbs).length<=10000 then some (.int .i64 (jz (a-b))) else none
  |_,_=>none
 |103,[.str s]=>if s.length<=1000000000 then some (.bool (okI s)) else none
 |f,args=>eH f args
theorem BM:qS prog (ah dh):=bM fun f U v h mem=>by
 unfold dh at h;split at h
 .split at h
  .rename_i m n X V
   split at h
   next Z=>cases h;rw[bE X,gK V];exact FD m n Z.2.2.1 Z.2.2.2 Z.1 Z.2.1 mem
   .cases h
  .cases h
 .split at h
  .rename_i m n X V
   split at h
   next Z=>cases h;rw[bE X,bE V];exact Qq m n Z.1 Z.2 mem
   .cases h
  .cases h
 .split at h
  .rename_i m n X V
   split at h
   next Z=>cases h;rw[bE X,bE V];exact DB m n Z.1 Z.2 mem
   .cases h
  .cases h
 .split at h
  next Z=>cases h;exact H5 _ Z mem
  .cases h
 .have:=BL.fn _ _ mem ⟨v,none,[]⟩ (by unfold ah;simp only;rw[h])
  simpa [afl.mem] using this
theorem wY(n:Nat):(ai n==[48])=decide (n=0):=by
 rw[Bool.eq_iff_iff,beq_iff_eq,GE];constructor
 .intro e;exact AW (e.trans (show [48]=ai 0 from rfl))
 .rintro rfl;rfl
theorem DZ(x y:Nat)(I:(ai x).length<=10000)(J:(ai y).length<=10000)(Y:2*y+1<K)(H:ag f106=[b]):
  ∃F:Env->Bool->Env,∀Z d,(ad Z 0=.str (ai x)/\ad Z 1=.str (ai y))->
   aL (aX prog) (fun _=>[0,1]) (ah dh) K 22 0 true (.loop b) ⟨Z,[],d⟩=some (.exit 0,⟨F Z d,[],d⟩)/\ad (F Z d) 0=.str (ai (x.gcd y)):=by
 refine bj rfl (fun Z=>ad Z 0=.str (ai x)/\ad Z 1=.str (ai y)) (fun _ S =>ad S 0=.str (ai (x.gcd y))) ?_;rintro Z d ⟨h0,h1⟩;have U:an [0,1] (aa b) Z ((0,.str (ai x))::(1,.str (ai y))::Z)=an [0,1] (aa b) Z Z:=by simp[an,h0,h1]
 rw[<-U];refine bI (α:=Nat×Nat) (fun s=>⟨an [0,1] (aa b) Z ((0,.str (ai s.1))::(1,.str (ai s.2))::Z),[],d⟩)
  (fun s=>s.2) (fun s=>s.1.gcd s.2=x.gcd y/\(ai s.1).length<=10000/\(ai s.2).length<=10000) (.exit 0) _ d _ (by simp) ?_ K (x,y) ⟨rfl,I,J⟩ (by show y<K;omega)
 rintro ⟨a,c⟩ ⟨hg,ha,hc⟩;simp only at hg ha hc |-;clear U;simp[ag,aE,f106] at H;by_cases X:c=0
 .right
  subst X;rw[Nat.gcd_zero_right] at hg;rw[<-hg];subst H;simp[wY]
 .left
  have V:0<c:=by omega
  have R:a%c<c:=Nat.mod_lt _ V;have N:(ai (a%c)).length<=10000:=by have:=bB (show a%c<=c by omega);omega
  refine⟨(c,a%c),?_⟩;refine bU (show(c.gcd (a%c)=x.gcd y/\(ai c).length<=10000/\(ai (a%c)).length<=10000)/\a%c<c from⟨⟨by rw[<-hg,Nat.gcd_comm a c,Nat.gcd_rec c a,Nat.gcd_comm],hc,N⟩,R⟩) ?_;subst H;simp[wY,X,ah,dh,cK,bk,ha,hc,V]
theorem Qp(a b:Int)(H:(ai a.natAbs).length<=10000)(I:(ai b.natAbs).length<=10000)(mem:Mem):kO prog 106 [.str (bF a),.str (bF b)] mem (.str (ai (a.natAbs.gcd b.natAbs))) mem:=by
 have V:aZ prog 106=some f106:=by kernel_rfl
 refine dc BM (lv:=fun _=>[0,1]) (K:=2*b.natAbs+2) rfl rfl ?_ mem;obtain⟨c,Z⟩:∃c,ag f106=[c]:=⟨_,rfl⟩
 obtain⟨F,X⟩:=DZ (K:=2*b.natAbs+2) a.natAbs b.natAbs H I (by omega) Z;obtain⟨K,U⟩:=xE (2*b.natAbs+2);rw[<-U] at X |-;simp[ag,aE,f106] at Z;subst Z;simp[ae,V,f106,ah,dh,eH,ej,bJ,bC,aD,X]
end Go.Proofs
