/- See G38. -/
import Derived.Test.YthpgbelancmpjaaGreatDoorG03
set_option linter.all false
namespace Go.Eng
attribute [simp] sQ xW jD an jP Tg mY Ma ad get XN dN zh age Ee sI aOp YH YJ YI aUn AH O3 O1 sP WS Ra tP sO UE UF xp Uy cN OV kJ fz Wa jS yy YO
attribute [simp] qv AV.refs AV.afE aga Ei rho AV.ren AV.afI rX oh kz jU afl.mem aR nr Hf dT xk bef Xn bP bw OE V9 iY br fJ jj AV.afm AV.afs Oper.looksAt Op.operands Call.operands Region.binds AV.closed AV.afr
def aE:Code->List Code
 |.seq a b=>aE a++aE b
 |.cond _ a b=>aE a++aE b
 |.block _ b=>aE b
 |.loop b=>b::aE b
 |_=>[]
def ag(f:Func):List Code:=match f.body with
 |some c=>aE c
 |none=>[]
attribute [simp] aa
section
variable (T:TypeId->Option TyI)(lv:Code->List Nat)(O:y9)(K N m0:Nat)(tp:Bool)(s:XS)
theorem Rp:aL T lv O K N m0 tp .skip s=some (.normal,s):=rfl
theorem Rm(id:Nat):aL T lv O K N m0 tp (.exit id) s=some (.exit id,s):=rfl
theorem Th:aL T lv O K N m0 tp .ret s=some (.ret,s):=rfl
theorem LJ(id:Nat)(ops:Array Oper):aL T lv O K N m0 tp (.region id ops false) s=match fz T O N m0 ops ops.toList s with
  |some s' =>some (.normal,s')
  |none=>none:=rfl
theorem Rl(id:Nat)(ops:Array Oper):aL T lv O K N m0 tp (.region id ops true) s=match aR T O N m0 ops s with
  |some s' =>some (.normal,s')
  |none=>none:=rfl
theorem Ti(a b:Code):aL T lv O K N m0 tp (.seq a b) s=match aL T lv O K N m0 tp a s with
  |some (.normal,s')=>aL T lv O K N m0 tp b s'
  |r=>r:=rfl
theorem Rk(c:Operand)(a b:Code):aL T lv O K N m0 tp (.cond c a b) s=match get s.env c with
  |.bool true=>aL T lv O K N m0 tp a s
  |.bool false=>aL T lv O K N m0 tp b s
  |_=>none:=rfl
theorem Og(id:Nat)(b:Code):aL T lv O K N m0 tp (.block id b) s=match aL T lv O K N m0 tp b s with
  |some (.exit i,s')=>if i=id then some (.normal,s') else some (.exit i,s')
  |r=>r:=rfl
theorem aM(b:Code):aL T lv O K N m0 tp (.loop b) s=fj (lv b) (aa b) s.env s.mem.length (aL T lv O K N m0 tp b) K ⟨an (lv b) (aa b) s.env s.env,s.mem,s.afH⟩:=rfl
end
attribute [simp] Rp Rm Th LJ Rl Ti Rk Og
open Classical in
theorem vx{p:Env->Bool->Prop}{q:Env->Bool->Env->Prop}(h:∀e d,p e d->∃X,q e d X):∃F:Env->Bool->Env,∀e d,p e d->q e d (F e d):=
 ⟨fun e d=>if Z:p e d then Classical.choose (h e d Z) else [],fun e d Z=>by simp only[dif_pos Z];exact Classical.choose_spec (h e d Z)⟩
theorem bI{α:Type}{f:XS->Option (Exit×XS)}{lv wr:List Nat}{J:Env}{Y:Nat}(S:α->XS)(m:α->Nat)(Inv:α->Prop)(I:Exit) (H :Mem) (d' :Bool)(Q:Env->Prop)(he:I≠ .normal)
  (h:∀a,Inv a->(∃X V,f (S a)=some (.normal,V)/\jP lv wr J Y V =S X /\Inv X /\m X <m a)\/(∃Z,f (S a)=some (I,⟨Z,H,d'⟩)/\Q Z)):
  ∀k a,Inv a->m a<k->∃Z,fj lv wr J Y f k (S a)=some (I,⟨Z,H,d'⟩)/\Q Z
 |0,a,_,hk=>by omega
 |k+1,a,ha,hk=>by
  unfold fj;rcases h a ha with⟨X,V,U,R,h3,O⟩ | ⟨Z,U,h3⟩
  .rw[U]
   simp only[R];exact bI S m Inv I H d' Q he h k X h3 (by omega)
  .rw[U]
   refine⟨Z,?_,h3⟩;cases I<;>first | rfl | exact absurd rfl he
theorem bj{T:TypeId->Option TyI}{lv:Code->List Nat}{O:y9}{K N m0:Nat}{tp:Bool}{b:Code}{L:List Nat}(Y:lv b=L){mem H :Mem}{e:Exit}(J:Env->Prop)(I:Env->Env->Prop)(h:∀Z d,J Z->∃X,fj L (aa b) Z mem.length (aL T lv O K N m0 tp b) K ⟨an L (aa b) Z Z,mem,d⟩=some (e,⟨X,H,d⟩)/\I Z X):
  ∃F:Env->Bool->Env,∀Z d,J Z->aL T lv O K N m0 tp (.loop b) ⟨Z,mem,d⟩=some (e,⟨F Z d,H,d⟩)/\I Z (F Z d):=by
 refine vx (p:=fun Z _=>J Z) (q:=fun Z d V =>aL T lv O K N m0 tp (.loop b) ⟨Z,mem,d⟩=some (e,⟨V,H,d⟩)/\I Z V) ?_;intro Z d U;obtain⟨X,S,R⟩:=h Z d U;exact⟨X,by rw[aM,Y];exact S,R⟩
theorem Hu{n:Int}(h0:0<=n)(h1:n<=255):IntKind.u8.wrap n=n:=by simp only[IntKind.wrap,IntKind.bits,IntKind.signed,Bool.false_and,Bool.false_eq_true,if_false];omega
def Po(i:Option TyI):Bool:=match i with
 |some i=>match i.desc with
  |.interface _=>true
  |_=>false
 |none=>false
theorem Rb{T:TypeId->Option TyI}{t:TypeId}(h:Po (T t)=true)(r c:Bool):WT T t r c .nilIface .nilIface=if r||c then some true else none:=by
 unfold Po at h;unfold WT;cases hT:T t with
 |none=>rw[hT] at h;cases h
 |some i=>
  rw[hT] at h;simp only at h |-;cases hd:i.desc<;>rw[hd] at h<;>first | (cases h;done) | rfl
mutual
def AV.under(n:Nat):AV->Bool
 |.ptr b _=>decide (b<n)
 |.slice b _ _ _=>decide (b<n)
 |.map b=>decide (b<n)
 |.yield b=>decide (b<n)
 |.func _ Z=>AV.afu n Z
 |.iface _ v=>v.under n
 |.agg Z=>AV.afu n Z
 |.tuple Z=>AV.afu n Z
 |_=>true
def AV.afu(n:Nat):List AV->Bool
 | []=>true
 |v::vs=>v.under n&&AV.afu n vs
end
def fA(ks:List Nat)(n:Nat)(b:Nat):Option Nat:=if b<ks.length then some (ks.getD b 0) else some (n+(b-ks.length))
mutual
theorem afn.agm{μ:Nat->Place}{N:Nat}{ks:List Nat}{H:Nat}:∀{v V},v.under ks.length=true->afn μ N (v.ren (fA ks H)) V->afn (fun i=>μ (ks.getD i 0)) ks.length v V
 |.undef,V,_,_=>by simp[afn]
 |.bool b,V,_,h=>by simpa [AV.ren,afn] using h
 |.int k i,V,_,h=>by simpa [AV.ren,afn] using h
 |.str s,V,_,h=>by simpa [AV.ren,afn] using h
 |.ptr b o,V,hb,h=>by simp only[AV.under,GE] at hb;simp only[AV.ren,fA,hb,if_true,afn] at h |-;exact⟨trivial,h.2⟩
 |.afB,V,_,h=>by simpa [AV.ren,afn] using h
 |.slice b o l c,V,hb,h=>by simp only[AV.under,GE] at hb;simp only[AV.ren,fA,hb,if_true,afn] at h |-;exact⟨trivial,h.2⟩
 |.qF,V,_,h=>by simpa [AV.ren,afn] using h
 |.map b,V,hb,h=>by simp only[AV.under,GE] at hb;simp only[AV.ren,fA,hb,if_true,afn] at h |-;exact⟨trivial,h.2⟩
 |.yield b,V,hb,h=>by simp only[AV.under,GE] at hb;simp only[AV.ren,fA,hb,if_true,afn] at h |-;exact⟨trivial,h.2⟩
 |.afL,V,_,h=>by simpa [AV.ren,afn] using h
 |.func f X,V,hb,h=>by simp only[AV.under] at hb;simp only[AV.ren,afn] at h |-;obtain⟨Z,rfl,h⟩:=h;exact⟨Z,rfl,afo.agm hb h⟩
 |.nilFunc,V,_,h=>by simpa [AV.ren,afn] using h
 |.iface t v,V,hb,h=>by simp only[AV.under] at hb;simp only[AV.ren,afn] at h |-;obtain⟨U,rfl,h⟩:=h;exact⟨U,rfl,afn.agm hb h⟩
 |.nilIface,V,_,h=>by simpa [AV.ren,afn] using h
 |.agg X,V,hb,h=>by simp only[AV.under] at hb;simp only[AV.ren,afn] at h |-;obtain⟨Z,rfl,h⟩:=h;exact⟨Z,rfl,afo.agm hb h⟩
 |.tuple X,V,hb,h=>by simp only[AV.under] at hb;simp only[AV.ren,afn] at h |-;obtain⟨Z,rfl,h⟩:=h;exact⟨Z,rfl,afo.agm hb h⟩
theorem afo.agm{μ:Nat->Place}{N:Nat}{ks:List Nat}{H:Nat}:∀{vs Us},AV.afu ks.length vs=true->afo μ N (AV.afI (fA ks H) vs) Us->afo (fun i=>μ (ks.getD i 0)) ks.length vs Us
 | [],Us,_,h=>by simpa [AV.afI,afo] using h
 |v::vs,Us,hb,h=>by simp only[AV.afu,Es] at hb;simp only[AV.afI,afo] at h |-;obtain⟨U,Z,rfl,X,V⟩:=h;exact⟨U,Z,rfl,afn.agm hb.1 X,afo.agm hb.2 V⟩
end
def af5(ks:List Nat)(M:Mem)(k:Nat):afq->Prop
 |.qK=>True
 |.cells false es cs=>AV.afu ks.length cs=true/\∃o X,M[k]? =some (.cells o es X)/\∀(j:Nat) v,cs[j]? =some v->X[j]? =some (v.ren (fA ks M.length))
 |.afX es=>∃Z,(M[k]? =some (.afX Z)\/M[k]? =some (.map Z))/\Z.length=es.length/\
   ∀(j:Nat) e,es[j]? =some e->(e.1.under ks.length=true/\e.2.under ks.length=true)/\Z[j]? =some (e.1.ren (fA ks M.length),e.2.ren (fA ks M.length))
 |_=>False
theorem yC{n:Nat}:∀{cs:List AV},AV.afu n cs=true->∀(j:Nat) v,cs[j]? =some v->v.under n=true
 | [],_,j,v,h=>by simp at h
 |c::cs,h,j,v,hj=>by
  simp only[AV.afu,Es] at h;cases j with
  |zero=>simp at hj;subst hj;exact h.1
  |succ j=>exact yC h.2 j v (by simpa using hj)
theorem Az{α:Type}{cs H :List α}{g:α->α}(h:∀(j:Nat) v,cs[j]? =some v->H[j]? =some (g v)):cs.length<=H.length:=by
 by_cases Z:cs.length=0
 .omega
 .have:=h (cs.length-1) (cs[cs.length-1]'(by omega)) (by simp)
  have:=gL this;omega
section
variable {P:Program}
theorem kO.frame{f:FuncId}{args:List AV}{m new M:Mem}{v:AV}(ks:List Nat)(hl:m.length=ks.length)(hk:∀k∈ks,k<M.length)(ha:AV.afu ks.length args=true)(hm:∀(i:Nat) s,m[i]? =some s->af5 ks M (ks.getD i 0) s)(hn:new.all (fun s=>s.own||match s with | .qK=>true | _=>false)=true)(h:kO P f args m v (m++new)):kO P f (AV.afI (fA ks M.length) args) M (v.ren (fA ks M.length)) (M++new.map (afq.ren (fA ks M.length))):=by
 refine⟨h.1,fun base μ w Vs hG hH hV=>?_⟩;have J:∀b,¬eG m b:=by
  rintro b ⟨s,U,K⟩;have:=hm b s U;cases s with
  |qK=>cases K
  |cells own es cs=>simp only[afq.own] at K;subst K;exact this
  |map es=>exact this
  |afX es=>cases K
  |loop r=>exact this
 have hms:afA base (fun i=>μ (ks.getD i 0)) m w:=by
  refine⟨hH.afx,fun b s U=>?_,fun b R s' X=>absurd X (J b)⟩;have O:=hm b s U;cases s with
  |qK=>trivial
  |map es=>exact O.elim
  |afX es=>
   obtain⟨es',h1,h2,h3⟩:=O;have U:∃B I',w.heap[(μ (ks.getD b 0)).blk]? =some (.map B I')/\Er B I'/\B.size=es'.length/\∀(j:Nat) e,es'[j]? =some e->∃E,B[j]? =some E/\PQ μ M.length e E:=by
    rcases h1 with h1 | h1
    .have:=hH.slot _ _ h1;simpa only[afD] using this
    .have:=hH.slot _ _ h1
     simp only[afD] at this;obtain⟨B,I',k1,k2,k3,k4⟩:=this;exact⟨B,I',k1,k2.2,k3,k4⟩
   obtain⟨B,I',k1,k2,k3,k4⟩:=U;simp only[afD];refine⟨B,I',k1,k2,by omega,fun j e he=>?_⟩;obtain⟨⟨u1,u2⟩,u3⟩:=h3 j e he;obtain⟨E,hE,r1,r2⟩:=k4 j _ u3;rw[hl];exact⟨E,hE,afn.agm u1 r1,afn.agm u2 r2⟩
  |loop r=>exact O.elim
  |cells own es cs=>
   cases own with
   |true=>exact O.elim
   |false=>
    obtain⟨X,o,ZQ,h1,h2⟩:=O;have:=hH.slot _ _ h1;simp only[afD] at this |-;obtain⟨cur,e,fr,g1,g2,g3,g4,_⟩:=this;refine⟨cur,e,fr,g1,g2,QQd (Az h2) g3,fun j u hj=>?_,fun h=>by cases h⟩;obtain⟨V,hV,hr⟩:=g4 j _ (h2 j u hj);rw[hl];exact⟨V,hV,afn.agm (yC X j u hj) hr⟩
 have aaj:=afo.agm ha hV;rw[<-hl] at aaj;refine(h.2 base _ w Vs hG hms aaj).mono ?_;rintro e w' ⟨V,v',mem',μ',rfl,q1,q2,q3,rfl,rfl⟩;have Y:afS w w' :=⟨q3.size,fun k hk=>q3.frame k hk fun b X=>absurd X (J b),q3.os,q3.tape,q3.output,q3.drawn⟩;have I:∀b,eG (m++new) b->w.heap.size<=(μ' b).blk:=by
  intro b X;by_cases H:(μ' b).blk<w.heap.size
  .obtain⟨b0,h0,_⟩:=q3.owner b X H
   exact absurd h0 (J b0)
  .omega
 obtain⟨μ2,hμ2⟩:=xE (α:=Nat->Place) (fun b=>if b<M.length then μ b else μ' (b-M.length+m.length));have G:∀b,b<M.length->μ2 b=μ b:=fun b X=>by rw[hμ2];simp[X]
 have S:∀i,μ2 (M.length+i)=μ' (m.length+i):=fun i=>by rw[hμ2];simp only;rw[if_neg (by omega)];congr 1;omega
 have hρ:∀b R,b<(m++new).length->fA ks M.length b=some R ->R <(M++new.map (afq.ren (fA ks M.length))).length/\μ2 R =μ' b:=by
  intro b R X F;simp only[Qs,QXf] at X |-;unfold fA at F;split at F
  .rename_i H
   cases F;have aat:ks.getD b 0∈ks:=by rw[List.getD_eq_getElem?_getD,G2 H,Option.getD_some];exact List.getElem_mem H
   have:=hk _ aat;refine⟨by omega,?_⟩;rw[G _ this];exact(q3.agree b (by omega)).symm
  .rename_i H
   cases F;refine⟨by omega,?_⟩;rw[S,show m.length+(b-ks.length)=b by omega]
 have Z9:∀b s,(M++new.map (afq.ren (fA ks M.length)))[b]? =some s->(b<M.length/\M[b]? =some s)\/∃i Z,b=M.length+i/\new[i]? =some Z/\s=Z.ren (fA ks M.length):=by
  intro b s U;by_cases X:b<M.length
  .rw[GT X] at U
   exact .inl ⟨X,U⟩
  .rw[V1 (by omega),QQJ] at U
   simp only[Y1] at U;obtain⟨Z,h1,h2⟩:=U;exact .inr ⟨b-M.length,Z,by omega,h1,h2.symm⟩
 have aar:∀i Z,new[i]? =some Z->(m++new)[m.length+i]? =some Z:=by intro i Z h;rw[V1 (by omega),Nat.add_sub_cancel_left];exact h
 have C:∀i Z,new[i]? =some Z->Z≠ .qK->eG (m++new) (m.length+i):=by intro i Z h J';refine⟨Z,aar i Z h,?_⟩;have:=List.all_eq_true.1 hn Z (J1 h);cases Z<;>simp_all
 have N:∀Z:afq,Z.ren (fA ks M.length)≠ .qK->Z≠ .qK:=by rintro Z h rfl;exact h rfl
 refine⟨V,_,_,μ2,rfl,q1.ren hρ,⟨QQd hH.afx Y.size,fun b s U=>?_,fun b R s' X F J' ZY=>?_⟩,?_,rfl,rfl⟩
 .rcases Z9 b s U with⟨X,h1⟩ | ⟨i,Z,rfl,h1,rfl⟩
  .rw[G b X]
   refine(hH.slot b s h1).mono (by simp) G fun J'=>Y.heap _ ((hH.slot b s h1).af8 J')
  .rw[S]
   exact(q2.slot _ Z (aar i Z h1)).ren hρ
 .obtain⟨s,U,K⟩:=X
  have acD:=afq.afY K;rcases Z9 b s U with⟨X,h1⟩ | ⟨i,Z,rfl,h1,rfl⟩<;>rcases Z9 R s' F with⟨F,L⟩ | ⟨i',s0',rfl,L,rfl⟩
  .rw[G b X,G R F]
   exact hH.sep b R s' ⟨s,h1,K⟩ L J' ZY
  .rw[G b X,S]
   have g1:=(hH.slot b s h1).af8 acD;have g2:=I _ (C i' s0' L (N _ J'));omega
  .rw[G R F,S]
   have g1:=(hH.slot R s' L).af8 J';have g2:=I _ (C i Z h1 (N _ acD));omega
  .rw[S,S]
   exact q2.sep _ _ s0' (C i Z h1 (N _ acD)) (aar i' s0' L) (N _ J') (by omega)
 .refine⟨by simp,G,Y.os,Y.tape,Y.output,Y.size,fun k hk _=>Y.heap k hk,fun b X H=>?_,Y.drawn⟩
  obtain⟨s,U,K⟩:=X;rcases Z9 b s U with⟨X,h1⟩ | ⟨i,Z,rfl,h1,rfl⟩
  .exact⟨b,⟨s,h1,K⟩,by rw[G b X]⟩
  .rw[S] at H
   have:=I _ (C i Z h1 (N _ (afq.afY K)));omega
end
def iN(k:IntKind)(l:List Nat):List AV:=l.map fun n:Nat=>.int k (n:Int)
def iZ(l:List Int):List AV:=l.map fun n=>.int .i64 n
section
variable (k:IntKind)
theorem Pj:iN k []=[]:=rfl
theorem cr(n:Nat)(l:List Nat):iN k (n::l)=.int k (n:Int)::iN k l:=rfl
theorem Tt(l:List Nat):(iN k l).length=l.length:=by simp[iN]
theorem dE(l r:List Nat):iN k (l++r)=iN k l++iN k r:=by simp[iN]
section
variable (l:List Nat)
include l
theorem W6(n:Nat):iN k l++[.int k (n:Int)]=iN k (l++[n]):=by simp[iN]
theorem Ts(i:Nat):(iN k l)[i]? =(l[i]?).map fun n:Nat=>.int k (n:Int):=by simp[iN]
theorem Rs(i:Nat)(h:i<(iN k l).length):(iN k l)[i]=.int k ((l[i]'(by simpa [iN] using h):Nat):Int):=by simp[iN]
theorem iJ(i:Nat):(iN k l).take i=iN k (l.take i):=by simp[iN]
theorem rQ(i:Nat):(iN k l).drop i=iN k (l.drop i):=by simp[iN]
theorem Yh:(iN k l).all AV.afp=true:=by simp[iN,AV.afp]
end
theorem PC(m:Nat)(l:List Nat):AV.afE m (iN k l)=[]:=by
 induction l with
 |nil=>rfl
 |cons x l ih=>simp[cr,AV.afE,AV.refs,ih]
theorem Ue(ρ:Nat->Option Nat)(l:List Nat):AV.afI ρ (iN k l)=iN k l:=by
 induction l with
 |nil=>rfl
 |cons x l ih=>simp[cr,AV.afI,AV.ren,ih]
theorem MA(m:Nat)(l:List Nat):AV.afu m (iN k l)=true:=by
 induction l with
 |nil=>rfl
 |cons x l ih=>simp[cr,AV.afu,AV.under,ih]
theorem E7(ok:Nat->Bool)(l:List Nat):AV.afs ok (iN k l)=true:=by
 induction l with
 |nil=>rfl
 |cons x l ih=>simp[cr,AV.afs,AV.afm,ih]
theorem Mk(m:Nat)(o:Bool)(e:Nat)(l:List Nat):afq.refs m (.cells o e (iN k l))=[]:=by simp[afq.refs,PC]
theorem OH(ρ:Nat->Option Nat)(o:Bool)(e:Nat)(l:List Nat):afq.ren ρ (.cells o e (iN k l))=.cells o e (iN k l):=by simp[afq.ren,Ue]
theorem El(ok:Nat->Bool)(o:Bool)(e:Nat)(l:List Nat):afq.afm ok (.cells o e (iN k l))=true:=by simp[afq.afm,E7]
theorem rU(l:Nat):jT [.int k 0] l=iN k (List.replicate l 0):=by
 induction l with
 |zero=>rfl
 |succ l ih=>rw[jT,ih,List.replicate_succ,cr];rfl
end
attribute [simp] Pj Tt Ts Rs PC Ue MA E7 Mk OH El Yh
attribute [simp] Hn Dc TyI.isAgg afq.refs afq.ren AV.under AV.afu afq.own pr lC pZ Mv tN tQ XE gA qs jT AV.known AV.cells AV.afp
def CO(k:IntKind):List AV->Option (List Nat)
 | []=>some []
 |.int k' n::l=>if k' =k/\0<=n then match CO k l with
  |some r=>some (n.toNat::r)
  |none=>none
  else none
 |_::_=>none
theorem TP(k:IntKind)(l:List Nat):CO k (iN k l)=some l:=by
 induction l with
 |nil=>rfl
 |cons x l ih=>rw[cr,CO,if_pos ⟨rfl,by omega⟩,ih];simp
theorem CP{k:IntKind}:∀{l:List AV} {r:List Nat},CO k l=some r->l=iN k r
 | [],r,h=>by cases h;rfl
 |v::l,r,h=>by
  cases v<;>first | (unfold CO at h;cases h;done) | skip
  rename_i V n;unfold CO at h;split at h
  .rename_i Z
   split at h
   .rename_i U X
    cases h;rw[cr,CP X,Z.1];congr 2;omega
   .cases h
  .cases h
theorem de{l:List Nat}{i:Nat}(h:i<l.length):∃x,l[i]? =some x/\l[i]=x:=⟨l[i],by simp,rfl⟩
mutual
theorem zk{n:Nat}:∀{v:AV},v.closed=true->v.under n=true
 |.ptr _ _,h=>by simp[AV.closed] at h
 |.slice _ _ _ _,h=>by simp[AV.closed] at h
 |.map _,h=>by simp[AV.closed] at h
 |.yield _,h=>by simp[AV.closed] at h
 |.func _ Z,h=>by simp only[AV.closed] at h;simp only[AV.under];exact bl h
 |.iface _ v,h=>by simp only[AV.closed] at h;simp only[AV.under];exact zk h
 |.agg Z,h=>by simp only[AV.closed] at h;simp only[AV.under];exact bl h
 |.tuple Z,h=>by simp only[AV.closed] at h;simp only[AV.under];exact bl h
 |.undef,_=>rfl
 |.bool _,_=>rfl
 |.int _ _,_=>rfl
 |.str _,_=>rfl
 |.afB,_=>rfl
 |.qF,_=>rfl
 |.afL,_=>rfl
 |.nilFunc,_=>rfl
 |.nilIface,_=>rfl
theorem bl{n:Nat}:∀{vs:List AV},AV.afr vs=true->AV.afu n vs=true
 | [],_=>rfl
 |v::vs,h=>by simp only[AV.afr,Es] at h;simp only[AV.afu,zk h.1,bl h.2];rfl
end
mutual
theorem E9{ρ:Nat->Option Nat}:∀{v:AV},v.closed=true->v.ren ρ=v
 |.ptr _ _,h=>by simp[AV.closed] at h
 |.slice _ _ _ _,h=>by simp[AV.closed] at h
 |.map _,h=>by simp[AV.closed] at h
 |.yield _,h=>by simp[AV.closed] at h
 |.func _ Z,h=>by simp only[AV.closed] at h;simp only[AV.ren,aT h]
 |.iface _ v,h=>by simp only[AV.closed] at h;simp only[AV.ren,E9 h]
 |.agg Z,h=>by simp only[AV.closed] at h;simp only[AV.ren,aT h]
 |.tuple Z,h=>by simp only[AV.closed] at h;simp only[AV.ren,aT h]
 |.undef,_=>rfl
 |.bool _,_=>rfl
 |.int _ _,_=>rfl
 |.str _,_=>rfl
 |.afB,_=>rfl
 |.qF,_=>rfl
 |.afL,_=>rfl
 |.nilFunc,_=>rfl
 |.nilIface,_=>rfl
theorem aT{ρ:Nat->Option Nat}:∀{vs:List AV},AV.afr vs=true->AV.afI ρ vs=vs
 | [],_=>rfl
 |v::vs,h=>by simp only[AV.afr,Es] at h;simp only[AV.afI,E9 h.1,aT h.2]
end
theorem xj(s n:Nat):(s:Int).tmod (n:Int)=((s%n:Nat):Int):=rfl
theorem xi(s n:Nat):(s:Int).tdiv (n:Int)=((s / n:Nat):Int):=rfl
theorem A4(s n:Nat):(s:Int).tmod (OfNat.ofNat n)=((s%n:Nat):Int):=rfl
theorem Hq(s n:Nat):(s:Int).tdiv (OfNat.ofNat n)=((s / n:Nat):Int):=rfl
theorem Mj(m:Nat)(a b:List AV):AV.afE m (a++b)=AV.afE m a++AV.afE m b:=by
 induction a with
 |nil=>rfl
 |cons x a ih=>simp[AV.afE,ih]
theorem OJ(ρ:Nat->Option Nat)(a b:List AV):AV.afI ρ (a++b)=AV.afI ρ a++AV.afI ρ b:=by
 induction a with
 |nil=>rfl
 |cons x a ih=>simp[AV.afI,ih]
theorem kA(ok:Nat->Bool)(a b:List AV):AV.afs ok (a++b)=(AV.afs ok a&&AV.afs ok b):=by
 induction a with
 |nil=>rfl
 |cons x a ih=>simp[AV.afs,ih,Bool.and_assoc]
attribute [simp] Mj OJ kA
def afw(k:IntKind)(M:Mem)(x:AV)(A:List Nat):Prop:=∃b o Z,x=.slice b 0 A.length none/\M[b]? =some (.cells o 1 Z)/\Z.take A.length=iN k A
def bd(k:IntKind)(M:Mem):AV->Option (List Nat)
 |.slice b 0 n none=>match M[b]? with
  |some (.cells _ 1 cs)=>if n<=cs.length then CO k (cs.take n) else none
  |_=>none
 |_=>none
theorem bh{k:IntKind}{M:Mem}{x:AV}{A:List Nat}(h:bd k M x=some A):afw k M x A:=by
 unfold bd at h;split at h
 .rename_i b n
  split at h
  .rename_i o X V
   split at h
   .rename_i S
    have Z:=CP h;have U:n=A.length:=by have:=congrArg List.length Z;simp at this;omega
    subst U;exact⟨b,o,X,rfl,V,Z⟩
   .cases h
  .cases h
 .cases h
variable{b:Nat}{cs:List AV}
theorem aU{k:IntKind}{M:Mem}{n:Nat}{ow:Bool}{A:List Nat}(h:M[b]? =some (.cells ow 1 cs))(H:n<=cs.length)(I:cs.take n=iN k A):bd k M (.slice b 0 n none)=some A:=by simp only[bd,h];rw[if_pos H,I,TP]
variable{o:Bool}
theorem af5.row{k:IntKind}{ks:List Nat}{M:Mem}{A:List Nat}(h:M[b]? =some (.cells o 1 cs))(H:cs.take A.length=iN k A):af5 ks M b (.cells false 1 (iN k A)):=by
 refine⟨MA _ _ _,o,cs,h,fun j v Z=>?_⟩;have X:j<A.length:=by have:=gL Z;simpa using this
 have:cs[j]? =(iN k A)[j]? :=by rw[<-H,QQa X]
 rw[this,Z];rw[Ts] at Z;simp only[Y1] at Z;obtain⟨n,_,rfl⟩:=Z;simp[AV.ren]
section
variable {P:Program}{k:IntKind}{f:FuncId}{A B:List Nat}{M:Mem}{x y:AV}
theorem kO.agU{rest:List AV}{v:AV}{new:Mem}(hr:AV.afr rest=true)(H:new.all (fun s=>s.own||match s with | .qK=>true | _=>false)=true)(h:kO P f (.slice 0 0 A.length none::rest) [.cells false 1 (iN k A)] v (.cells false 1 (iN k A)::new))(I:afw k M x A):
  ∃b,x=.slice b 0 A.length none/\kO P f (x::rest) M (v.ren (fA [b] M.length)) (M++new.map (afq.ren (fA [b] M.length))):=by
 obtain⟨b,o,cs,rfl,X,V⟩:=I;refine⟨b,rfl,?_⟩;have U:=gL X;have:=kO.frame (M:=M) [b] (m:=[.cells false 1 (iN k A)]) rfl (by simpa using U) (by simp only[AV.afu,AV.under,bl hr];rfl) (fun i s Z=>by
  cases i with
  |zero=>simp at Z;subst Z;exact .row X V
  |succ i=>simp at Z) H h
 simpa [AV.afI,AV.ren,fA,aT hr] using this
theorem kO.agi{v:AV}{new:Mem}(H:new.all (fun s=>s.own||match s with | .qK=>true | _=>false)=true)(h:kO P f [.slice 0 0 A.length none,.slice 1 0 B.length none] [.cells false 1 (iN k A),.cells false 1 (iN k B)] v (.cells false 1 (iN k A)::.cells false 1 (iN k B)::new))(I:afw k M x A)(J:afw k M y B):
  ∃b c,x=.slice b 0 A.length none/\y=.slice c 0 B.length none/\kO P f [x,y] M (v.ren (fA [b,c] M.length)) (M++new.map (afq.ren (fA [b,c] M.length))):=by
 obtain⟨b,o,cs,rfl,V,S⟩:=I;obtain⟨c,N,L,rfl,U,X⟩:=J;refine⟨b,c,rfl,rfl,?_⟩;have R:=gL V;have O :=gL U;have:=kO.frame (M:=M) [b,c] (m:=[.cells false 1 (iN k A),.cells false 1 (iN k B)]) rfl (by simp[R,O]) (by simp) (fun i s Z=>by
  match i with
  |0=>simp at Z;subst Z;exact .row V S
  |1=>simp at Z;subst Z;exact .row U X
  |i+2=>simp at Z) H h
 simpa [AV.afI,AV.ren,fA] using this
theorem kO.ahd{args:List AV}{m:Mem}{v:AV}{es:Nat}{H :List AV}(h:kO P f args m v (m++[afq.cells o es cs]))(I:H <+: cs):kO P f args m v (m++[afq.cells o es H]):=by
 refine⟨h.1,fun base μ w Vs hG hH hV=>(h.2 base μ w Vs hG hH hV).mono ?_⟩;rintro e w' ⟨V,v',m',μ',rfl,q1,q2,q3,rfl,rfl⟩;have U:∀b Z,(m++[afq.cells o es H])[b]? =some Z->∃S,(m++[afq.cells o es cs])[b]? =some S/\S.own=Z.own/\(S=.qK->Z=.qK)/\afD μ' (m++[afq.cells o es cs]).length base w' (μ' b) Z:=by
  intro b Z X;by_cases O:b<m.length
  .rw[GT O] at X
   have R :(m++[afq.cells o es cs])[b]? =some Z:=gU X _;exact⟨Z,R,rfl,id,q2.slot b Z R⟩
  .have N:b=m.length:=by have:=gL X;simp at this;omega
   subst N;simp at X;subst X;have R :(m++[afq.cells o es cs])[m.length]? =some (afq.cells o es cs):=by simp
   refine⟨_,R,rfl,(fun h=>by cases h),?_⟩;have:=q2.slot _ _ R;simp only[afD] at this |-;obtain⟨L,el,Y,K,G,g3,J,g5⟩:=this;refine⟨L,el,Y,K,G,QQd I.length_le g3,fun j u C=>J j u ?_,g5⟩;obtain⟨t,rfl⟩:=I;rw[GT (gL C)];exact C
 have F:(m++[afq.cells o es H]).length=(m++[afq.cells o es cs]).length:=by simp
 refine⟨V,_,_,μ',rfl,by rw[F];exact q1,q2.swap F U,⟨by rw[F];exact q3.len,q3.agree,q3.os,q3.tape,q3.output,q3.size,q3.frame,fun b X O=>?_,q3.drawn⟩,rfl,rfl⟩;obtain⟨s,K,G⟩:=X;obtain⟨S,k1,k2,_,_⟩:=U b s K;exact q3.owner b ⟨S,k1,by rw[k2];exact G⟩ O
end
end Go.Eng
namespace Go.Eng
def qz(P:Program)(c:Callee)(args:List AV)(m:Mem)(r:afl):Prop:=
 (match c with
  |.fn f=>kO P f args m r.v (r.mem m)
  |.yld b=>gG P b args m r.v (r.mem m))/\∀q,r.pre=some q->q.length=m.length
open Classical in
theorem jQ{P:Program}{ι:Type}(p:ι->Prop)(c:ι->Callee)(a:ι->List AV)(m:ι->Mem)(r:ι->afl)(hs:∀i,p i->qz P (c i) (a i) (m i) (r i))(hc:∀i j,p i->p j->c i=c j->a i=a j->m i=m j->r i=r j):∃O:y9,qS P O/\∀i,p i->O (c i) (a i) (m i)=some (r i):=by
 refine⟨fun S X V =>if h:∃i,p i/\c i=S /\a i=X /\m i=V then some (r (Classical.choose h)) else none,?_,fun i K=>?_⟩
 .have U:∀S X V R,(if h:∃i,p i/\c i=S /\a i=X /\m i=V then some (r (Classical.choose h)) else none)=some R ->qz P S X V R :=by
   intro S X V R h;split at h
   .rename_i Z
    obtain⟨N,M,h3,L⟩:=Classical.choose_spec Z;cases h;have:=hs _ N;rw[M,h3,L] at this;exact this
   .cases h
  exact⟨fun f X V R h=>(U _ _ _ _ h).1,fun b X V R h=>(U _ _ _ _ h).1,fun S X V R q h G=>(U _ _ _ _ h).2 q G⟩
 .have Z:∃j,p j/\c j=c i/\a j=a i/\m j=m i:=⟨i,K,rfl,rfl,rfl⟩
  simp only[dif_pos Z];obtain⟨N,M,h3,L⟩:=Classical.choose_spec Z;rw[hc _ _ N K M h3 L]
variable{n:Nat}{r:agv}
theorem xd(h:r.env.flatMap (fun e=>e.2.refs n)=[]):afq.refs n (.loop r)=[]:=h
variable{ks:List Nat}
theorem PD(h:r.env.flatMap (fun e=>e.2.refs n)=[]):afq.ren (rho n ks) (.loop r)=.loop r:=afq.afF (xd h)
theorem G3{m:Mem}(h:∀s∈m,s.refs n=[]):m.flatMap (afq.refs n)=[]:=by rw[List.flatMap_eq_nil_iff];exact h
theorem zt{m:Mem}(h:∀s∈m,s.refs n=[]):m.map (afq.ren (rho n ks))=m:=by
 conv=>rhs;rw[<-List.map_id m]
 apply List.map_congr_left;intro s Z;rw[afq.afF (h s Z)];rfl
variable{G:FuncId->Option Func}{c:Code}{e:Exit}{fn:Func}{mem mem' :Mem}
section
variable{T:TypeId->Option TyI}{lv:Code->List Nat}{O:y9}
include T lv O
theorem Lj{K:Nat}{f:FuncId}{args:List AV}{v:AV}{J :Env}(hf:G f=some fn)(hb:fn.body=some c)(hl:args.length<=fn.ntmps)(he:e=.normal\/e=.ret)(h:aL T lv O K fn.ntmps mem.length true c ⟨dN 0 args,mem,false⟩=some (e,⟨J,mem',true⟩))(Y:jS T fn.results.toList J mem' =some v)(G':mem'.length=mem.length)(H:v.refs mem.length=[])(I:∀s∈mem',s.refs mem.length=[]):ae T lv G O K f args mem=some ⟨v,some mem',[]⟩:=by
 have X:mem'.take mem.length=mem' :=B5 (by omega);unfold ae;simp only[hf,hb];rw[if_pos hl,h];have Z:qv mem.length mem' 1000 (v.refs mem.length++(mem'.take mem.length).flatMap (afq.refs mem.length)) []=[]:=by rw[H,X,G3 I];rfl
 rcases he with rfl | rfl
 .simp only[Y,if_true]
  rw[Z,X];simp[Ei,aga,zt I,AV.afF H]
 .simp only[Y,if_true]
  rw[Z,X];simp[Ei,aga,zt I,AV.afF H]
theorem vj{K N m0:Nat}{tp:Bool}{b:Code}{L:List Nat}(J:lv b=L)(d0 d1:Bool)(I:Env->Prop)(H:Env->Env->Prop)(h:∀Z,I Z->∃X,fj L (aa b) Z mem.length (aL T lv O K N m0 tp b) K ⟨an L (aa b) Z Z,mem,d0⟩=some (e,⟨X,mem',d1⟩)/\H Z X):
  ∃F:Env->Env,∀Z,I Z->aL T lv O K N m0 tp (.loop b) ⟨Z,mem,d0⟩=some (e,⟨F Z,mem',d1⟩)/\H Z (F Z):=by
 obtain⟨F,S⟩:=vx (p:=fun Z _=>I Z) (q:=fun Z _ U =>aL T lv O K N m0 tp (.loop b) ⟨Z,mem,d0⟩=some (e,⟨U,mem',d1⟩)/\H Z U) (fun Z _ V=>by obtain⟨X,R,M⟩:=h Z V;exact⟨X,by rw[aM,J];exact R,M⟩)
 exact⟨fun Z=>F Z true,fun Z V=>S Z true V⟩
end
def gw:Code->List (Array Tmp×Code×Code)
 |.seq a b=>gw a++gw b
 |.cond _ a b=>gw a++gw b
 |.block _ b=>gw b
 |.loop b=>gw b
 |.rangeFunc _ ps a b=>[(ps,a,b)]
 |_=>[]
def fc(f:Func):List (Array Tmp×Code×Code):=match f.body with
 |some c=>gw c
 |none=>[]
theorem OF{env:Env}(h:env.flatMap (fun e=>e.2.refs n)=[]):sB (rho n ks) env=env:=by
 unfold sB;rw[List.flatMap_eq_nil_iff] at h;conv=>rhs;rw[<-List.map_id env]
 apply List.map_congr_left;intro e Z;rw[AV.afF (h e Z)];rfl
attribute [simp] afq.afm
theorem cw{P:Program}{O:y9}(key:∀c Z M r,O c Z M=some r->qz P c Z M r):qS P O:=
 ⟨fun f Z M r h=>(key _ _ _ _ h).1,fun b Z M r h=>(key _ _ _ _ h).1,fun c Z M r p h X=>(key _ _ _ _ h).2 p X⟩
variable{M:Mem}
theorem ee{P:Program}{O:y9}(H:qS P O){c:Go.Eng.Callee}{args:List AV}{r:afl}(h:O c args M=some r):qz P c args M r:=by
 refine⟨?_,fun q Z=>H.pre _ _ _ _ _ h Z⟩;cases c with
 |fn f=>exact H.fn _ _ _ _ h
 |yld b=>exact H.yld _ _ _ _ h
theorem au{P:Program}{f:FuncId}{args:List AV}{new:Mem}{v:AV}(h:kO P f args M v (M++new)):qz P (.fn f) args M ⟨v,none,new⟩:=⟨h,fun q Z=>by cases Z⟩
theorem bz{P:Program}{f:FuncId}{args:List AV}{v:AV}(h:kO P f args M v M):qz P (.fn f) args M ⟨v,none,[]⟩:=au (by simpa using h)
def agV(s s' :afq):Prop:=s=s' \/∃o es Z X,s' =.cells o es Z/\s=.cells o es X /\X <+: Z
theorem agV.row{k:IntKind}{o:Bool}{es:Nat}{l r:List Nat}(h:l <+: r):agV (.cells o es (iN k l)) (.cells o es (iN k r)):=by obtain⟨t,rfl⟩:=h;exact .inr ⟨o,es,_,_,rfl,rfl,iN k t,by rw[<-dE]⟩
theorem kO.agn{P:Program}{f:FuncId}{args:List AV}{m H m2:Mem}{v:AV}(h:kO P f args m v H)(I:m2.length=H.length)(hc:∀(b:Nat) s,m2[b]? =some s->∃R,H[b]? =some R /\agV s R):kO P f args m v m2:=by
 refine⟨h.1,fun base μ w Vs hG hH hV=>(h.2 base μ w Vs hG hH hV).mono ?_⟩;rintro e w' ⟨V,v',m',μ',rfl,q1,q2,q3,rfl,rfl⟩;have X:∀b Z,m2[b]? =some Z->∃U,m'[b]? =some U/\U.own=Z.own/\(U=.qK->Z=.qK)/\afD μ' m'.length base w' (μ' b) Z:=by
  intro b Z O;obtain⟨R,S,B⟩:=hc b Z O;rcases B with rfl | ⟨o,es,cs,ZQ,rfl,rfl,F⟩
  .exact⟨Z,S,rfl,id,q2.slot b Z S⟩
  .refine⟨_,S,rfl,(fun h=>by cases h),?_⟩
   have:=q2.slot _ _ S;simp only[afD] at this |-;obtain⟨N,el,Y,L,K,g3,J,g5⟩:=this;refine⟨N,el,Y,L,K,QQd F.length_le g3,fun j u C=>J j u ?_,g5⟩;obtain⟨t,rfl⟩:=F;rw[GT (gL C)];exact C
 refine⟨V,v',m2,μ',rfl,by rw[I];exact q1,q2.swap I X,⟨by rw[I];exact q3.len,q3.agree,q3.os,q3.tape,q3.output,q3.size,q3.frame,fun b O FS=>?_,q3.drawn⟩,rfl,rfl⟩;obtain⟨s,L,K⟩:=O;obtain⟨U,k1,k2,_,_⟩:=X b s L;exact q3.owner b ⟨U,k1,by rw[k2];exact K⟩ FS
variable{R:AV->Mem->Prop}
section
variable {P:Program}{T:TypeId->Option TyI}{O:y9}{K:Nat}{lv:Code->List Nat}
theorem afZ.ago(hT:dQ P T){f:FuncId}{args:List AV}(hf:P.funcs[f]? =some fn)(H:fn.body=some c)(I:(fn.name == "runtime.NumGoroutine")=false)(J:args.length<=fn.ntmps)(h:AWP P true fn.ntmps mem.length c ⟨dN 0 args,mem⟩ fun e U =>(e=.normal\/e=.ret)/\∃v,jS T fn.results.toList U.env U.mem=some v/\R v U.mem):
  afZ P f args mem R:=by
 refine⟨⟨fn,hf,by simp[H],I⟩,fun base μ w Vs hG hH hV=>?_⟩;refine AK.1 (callsIn_of_wp_marks (F:=Fr none) (n:=0) hf H trivial (wpIn_mono (h none w.heap.size base μ w _ (fun _=>rfl) hH ?_ ?_ (MOk.nil w hG hH.afx (L9 _)) (L9 _)) ?_) rfl)
 .intro t
  have:=yq 0 hV t;simp only[Nat.not_lt_zero,if_false,QXQ] at this;by_cases N:t<Vs.length
  .have e:(⟨Vs⟩++Array.replicate (fn.ntmps-(⟨Vs⟩:Array Value).size) undef:Array Value).getD t undef=Vs.getD t undef:=by simp only[Array.getD_eq_getD_getElem?];rw[Array.getElem?_append_left (by simpa using N)];simp[List.getD]
   show afn μ mem.length (ad (dN 0 args) t) ((⟨Vs⟩++Array.replicate (fn.ntmps-(⟨Vs⟩:Array Value).size) undef:Array Value).getD t undef)
   rw[e];exact this
  .have:ad (dN 0 args) t=.undef:=by
    have o:=hV.length;have:∀(X:List AV) (i:Nat),i+X.length<=t->ad (dN i X) t=.undef:=by
     intro X;induction X with
     |nil=>intro i _;rfl
     |cons v X ih=>
      intro i L;simp only[List.length_cons] at L;simp only[dN,ad];rw[if_neg (by omega)];exact ih (i+1) (by omega)
    exact this args 0 (by omega)
   show afn μ mem.length (ad (dN 0 args) t) _
   rw[this];simp[afn]
 .simp only[Array.size_append,List.size_toArray,Array.size_replicate,hV.length];omega
 .rintro e a' w' ⟨U,μ',b1,b2,b3,b4,b5,b6,he,v,hv,hR⟩
  have Z:LeavesInM (Fr none) 0 P fn a'.tmps (fun e w' =>∃V v mem' μ',e=.returned V/\afn μ' mem'.length v V/\afA base μ' mem' w' /\Step mem.length μ mem w μ' mem' w' /\R v mem') a'.defers .returning w' :=by
   refine sc a'.defers w' b4 b1 b6 fun w2 S C=>?_
   obtain⟨V,B,u⟩:=tU (P:=P) (fn:=fn) hT S b2 hv;exact⟨V,B,⟨V,_,_,_,rfl,u,S,C,hR⟩⟩
  rcases he with rfl | rfl
  .exact Z
  .exact Z
def cI(T:TypeId->Option TyI)(lv:Code->List Nat)(G:FuncId->Option Func)(O:y9)(K:Nat)(f:FuncId)(args:List AV)(mem:Mem):Option (AV×Mem):=
 match G f with
 |none=>none
 |some fn=>match fn.body with
  |none=>none
  |some c=>
   if args.length<=fn.ntmps then
    match aL T lv O K fn.ntmps mem.length true c ⟨dN 0 args,mem,false⟩ with
    |some (e,s)=>
     match e with
     |.normal | .ret=>
      match jS T fn.results.toList s.env s.mem with
      |some v=>some (v,s.mem)
      |none=>none
     |_=>none
    |none=>none
   else none
theorem cf(H:P.follows .mixedOrders=true)(hT:dQ P T)(I:qS P O)(J:agG P G){f:FuncId}{args:List AV}{v:AV}(h:cI T lv G O K f args mem=some (v,mem')):kO P f args mem v mem' :=by
 unfold cI at h;split at h
 .cases h
 .rename_i fn X
  obtain⟨S,N,g3⟩:=J.fn _ _ X;split at h
  .cases h
  .rename_i c U
   split at h
   .rename_i L
    split at h
    .rename_i e s F
     obtain⟨C,_⟩:=dJ H hT I (g3 c U) F;have Z:(e=.normal\/e=.ret)->(match jS T fn.results.toList s.env s.mem with
      |some v=>some (v,s.mem)
      |none=>none)=some (v,mem')->kO P f args mem v mem' :=by
      intro V h;split at h
      .rename_i v B
       cases h;exact afZ.ago hT S U N L (C _ ⟨V,_,B,rfl,rfl⟩)
      .cases h
     split at h
     .exact Z (.inl rfl) h
     .exact Z (.inr rfl) h
     .cases h
    .cases h
   .cases h
theorem af9.ago{b:Nat}{args:List AV}(hb:mem[b]? =some (.loop r))(adV:r.st=.ready)(hl:args.length=r.ps.toList.length)(H:∀t∈r.ps.toList,t<r.N)(h:AWP P false r.N mem.length r.assign ⟨zh r.ps.toList args r.env,mem⟩ fun e Z=>e=.normal/\∃r1,Z.mem[b]? =some (.loop r1)/\r1.st=.ready/\
   AWP P false r.N mem.length r.body ⟨Z.env,Z.mem.set b (.loop { r1 with st:=.busy })⟩ fun e X=>∃r2 j,rZ e=some j/\X.mem[b]? =some (.loop r2)/\
    R (.bool j.isNone) (X.mem.set b (.loop { r2 with st:=np j,agt:=j }))):
  af9 P b args mem R:=by
 intro base μ w Vs hG hH hV hbl;have U:=hH.slot b _ hb;simp only[afD] at U;obtain⟨L,h1,h2,h3⟩:=U;have G':Vs.length=L.params.size:=by rw[hV.length,hl,h3.ps];simp
 refine⟨L.fn,(L.params.zip ⟨Vs⟩).foldl (fun tmps (t,a)=>tmps.setIfInBounds t a) L.tmps,L.assign,L.body,?_,?_⟩
 .simp only[Instr.yield,Sem.run_bind,jf h1,Result.andThen_ok]
  rw[if_neg (by simp[G'])];rfl
 .refine roundIn_of_wpIn (F:=Fence.wide) trivial ?_
  have S:(L.params.zip ⟨Vs⟩).foldl (fun tmps (t,a)=>tmps.setIfInBounds t a) L.tmps=(r.ps.toList.zip Vs).foldl (fun tmps (t,a)=>tmps.setIfInBounds t a) L.tmps:=by rw[h3.ps,<-Array.foldl_toList];simp
  have Y:=GO (ts:=r.ps.toList) hV h3.tmps hl (fun t ht=>by rw[h3.size];exact H t ht);rw[h3.assign,h3.body];refine wpIn_mono (F:=Fr (some (μ b).blk)) (h (some (μ b).blk) w.heap.size base μ w ⟨_,[]⟩ (fun h=>by cases h) hH (by rw[S];exact Y.1) (by rw[S,Y.2];exact h3.size) (MOk.nil w hG hH.afx (L9 _)) (L9 _)) ?_;rintro e a1 w1 ⟨Z,μ1,c1,c2,c3,c4,c5,c6,rfl,r1,c7,c8,hbody⟩;have C:=c1.slot b _ c7;simp only[afD] at C;obtain⟨L1,d1,d2,d3⟩:=C;have hμ:μ1 b=μ b:=c6.agree b hbl;rw[hμ] at d1;obtain⟨J,I,u⟩:=wT (P:=P) (r' :={ r1 with st:=.busy }) (L' :={ L1 with state:=.busy }) c1 c7 (by rw[hμ];exact d1) { d3 with st:=rfl };rw[hμ] at J I u;refine⟨_,?_,wpIn_mono (F:=Fr (some (μ b).blk)) (hbody (some (μ b).blk) w.heap.size base μ1 _ a1 (fun h=>by cases h) I (by rw[QQh];exact c2) c3 (c4.step c1 u) (by rw[QQh];exact c5)) ?_⟩
  .simp only[Instr.beginRound,Sem.run_bind,jf d1,Result.andThen_ok,J]
   rw[d3.st,c8];rfl
  .rintro e a2 w2 ⟨X,μ2,f1,f2,f3,f4,f5,f6,r2,j,f7,f8,f10⟩
   have B:=f1.slot b _ f8;simp only[afD] at B;obtain⟨L2,g1,g2,g3⟩:=B;have hμ2:μ2 b=μ b:=by rw[f6.agree b hbl,hμ]
   rw[hμ2] at g1;obtain⟨o,k2,k3⟩:=wT (P:=P) (r' :={ r2 with st:=np j,agt:=j }) (L' :={ L2 with state:=np j,pending:=j }) f1 f8 (by rw[hμ2];exact g1) { g3 with st:=rfl,agt:=rfl };rw[hμ2] at o k2 k3;have Zr:(Instr.endRound (μ b).blk j).run P w2=.ok (.bool j.isNone) { w2 with heap:=w2.heap.setIfInBounds (μ b).blk (.loop { L2 with state:=np j,pending:=j }) }:=by unfold np at o |-;simp only[Instr.endRound,Sem.run_bind,jf g1,Result.andThen_ok,o];rfl
   have hS:Step mem.length μ mem w _ _ _:=((c6.trans (u.mono c5)).trans f6).trans (k3.mono f5);have m:∃V v mem' μ',(Ending.returned (.bool j.isNone):Ending)=.returned V/\afn μ' mem'.length v V/\afA base μ' mem' { w2 with heap:=w2.heap.setIfInBounds (μ b).blk (.loop { L2 with state:=np j,pending:=j }) }/\
     Step mem.length μ mem w μ' mem' { w2 with heap:=w2.heap.setIfInBounds (μ b).blk (.loop { L2 with state:=np j,pending:=j }) }/\R v mem' :=
    ⟨_,.bool j.isNone,_,_,rfl,by simp[afn],k2,hS,f10⟩
   cases e<;>simp only[rZ,Pi,reduceCtorEq] at f7<;>subst f7<;>exact⟨_,_,Zr,m⟩
def gQ(T:TypeId->Option TyI)(lv:Code->List Nat)(O:y9)(K:Nat)(b:Nat)(args:List AV)(mem:Mem):Option (AV×Mem):=
 match mem[b]? with
 |some (.loop r)=>
  if r.st== .ready&&decide (args.length=r.ps.toList.length)&&r.ps.toList.all (fun t=>decide (t<r.N))&&cY r.assign&&cY r.body then
   match aL T lv O K r.N mem.length false r.assign ⟨zh r.ps.toList args r.env,mem,true⟩ with
   |some (.normal,s1)=>match s1.mem[b]? with
    |some (.loop r1)=>
     if r1.st== .ready then
      match aL T lv O K r.N mem.length false r.body ⟨s1.env,s1.mem.set b (.loop { r1 with st:=.busy }),true⟩ with
      |some (e,s2)=>match rZ e,s2.mem[b]? with
       |some j,some (.loop r2)=>some (.bool j.isNone,s2.mem.set b (.loop { r2 with st:=np j,agt:=j }))
       |_,_=>none
      |none=>none
     else none
    |_=>none
   |_=>none
  else none
 |_=>none
theorem iX(H:P.follows .mixedOrders=true)(hT:dQ P T)(I:qS P O){b:Nat}{args:List AV}{v:AV}(h:gQ T lv O K b args mem=some (v,mem')):gG P b args mem v mem' :=by
 unfold gQ at h;split at h
 .rename_i lp X
  split at h
  .rename_i S
   simp only[Es,GE,List.all_eq_true] at S;obtain⟨⟨⟨⟨N,L⟩,F⟩,C⟩,B⟩:=S;have Z:∀{x:LoopState},(x== .ready)=true->x=.ready:=fun {x} h=>by cases x<;>first | rfl | cases h
   split at h
   .rename_i s1 u
    obtain⟨o,a2⟩:=dJ H hT I C u;split at h
    .rename_i r1 V
     split at h
     .rename_i U
      split at h
      .rename_i e s2 m
       obtain⟨Y,b2⟩:=dJ H hT I B m;split at h
       .rename_i j r2 J ZX
        cases h;exact af9.ago X (Z N) L F (o _ ⟨rfl,r1,V,Z U,Y _ ⟨r2,j,J,ZX,rfl,rfl⟩⟩)
       .cases h
      .cases h
     .cases h
    .cases h
   .cases h
  .cases h
 .cases h
end
end Go.Eng
namespace Go.Eng
def Wp(es:Nat)(M:Mem)(x:AV)(n:Nat)(cs:List AV):Prop:=∃b o Z,x=.slice b 0 n none/\M[b]? =some (.cells o es Z)/\Z.take cs.length=cs
def Ll(es:Nat)(M:Mem):AV->Option (List AV)
 |.slice b 0 n none=>match M[b]? with
  |some (.cells _ es' cs)=>if es' =es/\n*es<=cs.length then some (cs.take (n*es)) else none
  |_=>none
 |.qF=>some []
 |_=>none
variable{es:Nat}
theorem SS{M:Mem}{b n:Nat}{o:Bool}{cs H :List AV}(h:M[b]? =some (.cells o es H))(I:n*es<=H.length)(hc:H.take (n*es)=cs):Ll es M (.slice b 0 n none)=some cs:=by simp[Ll,h,I,hc]
theorem Ob{M:Mem}{x:AV}{cs:List AV}(h:Ll es M x=some cs):(∃n,cs.length=n*es/\Wp es M x n cs)\/(x=.qF/\cs=[]):=by
 unfold Ll at h;split at h
 .rename_i b n
  split at h
  .rename_i o Z X U
   split at h
   .rename_i S
    obtain⟨rfl,R⟩:=S;cases h;have V:(X.take (n*Z)).length=n*Z :=by rw[SP];omega
    exact .inl ⟨n,V,b,o,X,rfl,U,by rw[V]⟩
   .cases h
  .cases h
 .cases h;exact .inr ⟨rfl,rfl⟩
 .cases h
theorem cH{ks:List Nat}{M:Mem}{b es:Nat}{o:Bool}{cs H :List AV}(hc:AV.afr cs=true)(h:M[b]? =some (.cells o es H))(I:H.take cs.length=cs):af5 ks M b (.cells false es cs):=by
 refine⟨bl hc,o,H,h,fun j v Z=>?_⟩;have U:=gL Z;have S:H[j]? =cs[j]? :=by have:(H.take cs.length)[j]? =H[j]? :=QQa U;rw[<-this,I]
 have X:=aT (ρ:=fA ks M.length) hc;rw[jm] at X;have V:(cs.map (AV.ren (fA ks M.length)))[j]? =cs[j]? :=by rw[X]
 rw[QQJ,Z] at V;rw[S,Z];exact V.symm
variable{rest:List AV}
section
variable {P:Program}{f:FuncId}{M:Mem}{x y:AV}
theorem kO.agP{es n:Nat}{cs:List AV}{v:AV}{new:Mem}(hc:AV.afr cs=true)(hr:AV.afr rest=true)(H:new.all (fun s=>s.own||match s with | .qK=>true | _=>false)=true)(h:kO P f (.slice 0 0 n none::rest) [.cells false es cs] v (.cells false es cs::new))(I:Wp es M x n cs):
  ∃b,x=.slice b 0 n none/\b<M.length/\kO P f (x::rest) M (v.ren (fA [b] M.length)) (M++new.map (afq.ren (fA [b] M.length))):=by
 obtain⟨b,o,S,rfl,X,U⟩:=I;have V:=gL X;refine⟨b,rfl,V,?_⟩;have:=kO.frame (M:=M) [b] (m:=[.cells false es cs]) rfl (by simpa using V) (by simp only[AV.afu,AV.under,bl hr];rfl) (fun i s Z=>by
  cases i with
  |zero=>simp at Z;subst Z;exact cH hc X U
  |succ i=>simp at Z) H h
 simpa [AV.afI,AV.ren,fA,aT hr] using this
theorem kO.ahu{es I n J:Nat}{cs H:List AV}{v:AV}{new:Mem}(hc:AV.afr cs=true)(Y:AV.afr H=true)(hr:AV.afr rest=true)(hn:new.all (fun s=>s.own||match s with | .qK=>true | _=>false)=true)(h:kO P f (.slice 0 0 n none::.slice 1 0 J none::rest) [.cells false es cs,.cells false I H] v (.cells false es cs::.cells false I H::new))(hx:Wp es M x n cs)(hy:Wp I M y J H):
  ∃b c,x=.slice b 0 n none/\y=.slice c 0 J none/\b<M.length/\c<M.length/\kO P f (x::y::rest) M (v.ren (fA [b,c] M.length)) (M++new.map (afq.ren (fA [b,c] M.length))):=by
 obtain⟨b,o,L,rfl,U,O⟩:=hx;obtain⟨c,K,N,rfl,Z,V⟩:=hy;have S:=gL U;have R :=gL Z;refine⟨b,c,rfl,rfl,S,R,?_⟩;have:=kO.frame (M:=M) [b,c] (m:=[.cells false es cs,.cells false I H]) rfl (by simp[S,R]) (by simp only[AV.afu,AV.under,bl hr];rfl) (fun i s X=>by
  match i with
  |0=>simp at X;subst X;exact cH hc U O
  |1=>simp at X;subst X;exact cH Y Z V
  |i+2=>simp at X) hn h
 simpa [AV.afI,AV.ren,fA,aT hr] using this
theorem jR{v:AV}(ks:List Nat)(n:Nat)(H:v.closed=true):v.ren (fA ks n)=v:=by have:=aT (vs:=[v]) (ρ:=fA ks n) (by simp[AV.afr,H]);simpa [AV.afI] using this
theorem kO.ag3{es n:Nat}{cs:List AV}{v:AV}(hc:AV.afr cs=true)(hr:AV.afr rest=true)(H:v.closed=true)(h:kO P f (.slice 0 0 n none::rest) [.cells false es cs] v [.cells false es cs])(I:Wp es M x n cs):kO P f (x::rest) M v M:=by obtain⟨b,_,_,Z⟩:=kO.agP (new:=[]) hc hr rfl h I;simpa [jR _ _ H] using Z
theorem kO.agQ{es I n Y:Nat}{cs H:List AV}{v:AV}(hc:AV.afr cs=true)(J:AV.afr H=true)(hr:AV.afr rest=true)(hv:v.closed=true)(h:kO P f (.slice 0 0 n none::.slice 1 0 Y none::rest) [.cells false es cs,.cells false I H] v [.cells false es cs,.cells false I H])(hx:Wp es M x n cs)(hy:Wp I M y Y H):kO P f (x::y::rest) M v M:=by obtain⟨b,c,_,_,_,_,Z⟩:=kO.ahu (new:=[]) hc J hr rfl h hx hy;simpa [jR _ _ hv] using Z
end
end Go.Eng
namespace Go.Eng
mutual
def AV.same:AV->AV->Bool
 |.undef,.undef=>true
 |.bool a,.bool b=>a==b
 |.int k n,.int k' m=>decide (k=k')&&decide (n=m)
 |.str s,.str t=>s==t
 |.ptr b o,.ptr b' o' =>Nat.beq b b' &&Nat.beq o o'
 |.afB,.afB=>true
 |.slice b o n none,.slice b' o' n' none=>Nat.beq b b' &&Nat.beq o o' &&Nat.beq n n'
 |.qF,.qF=>true
 |.map b,.map b' =>Nat.beq b b'
 |.afL,.afL=>true
 |.func f Z,.func V X =>Nat.beq f V &&AV.agW Z X
 |.nilFunc,.nilFunc=>true
 |.nilIface,.nilIface=>true
 |.agg Z,.agg X =>AV.agW Z X
 |.tuple Z,.tuple X =>AV.agW Z X
 |_,_=>false
def AV.agW:List AV->List AV->Bool
 | [],[]=>true
 |v::vs,w::ws=>AV.same v w&&AV.agW vs ws
 |_,_=>false
end
structure aie where
 f:FuncId
 args:List AV
 m:Mem
 v:AV
 new:Mem
theorem si{P:Program}{T:TypeId->Option TyI}{lv:Code->List Nat}{G:FuncId->Option Func}{O:y9}{K n:Nat}(H:P.follows .mixedOrders=true)(hT:dQ P T)(I:agG P G)(J:qS P O){f:FuncId}{args:List AV}{m:Mem}{v:AV}{new:Mem}(h:(Ec T lv G O K n (.fn f) args m).map (fun r=>(r.v,r.mem m))=some (v,m++new)):kO P f args m v (m++new):=by rw[Y1] at h;obtain⟨r,Z,X⟩:=h;obtain⟨h3,V⟩:=Prod.mk.inj X;have:=(pB H hT I J n).fn _ _ _ _ Z;rw[h3,V] at this;exact this
open Classical in
noncomputable def jV(S:Callee->List AV->Mem->afl->Prop):y9:=fun c Z M=>if h:∃r,S c Z M r then some (Classical.choose h) else none
variable{S:Callee->List AV->Mem->afl->Prop}
theorem mX{P:Program}(h:∀c a M r,S c a M r->qz P c a M r):qS P (jV S):=cw fun c a M r Z=>by
 unfold jV at Z;split at Z
 .rename_i X
  cases Z;exact h _ _ _ _ (Classical.choose_spec X)
 .cases Z
variable{a:List AV}
theorem Fg{c:Callee}{M:Mem}(h:∃r,S c a M r):∃r,jV S c a M=some r/\S c a M r:=by refine⟨_,?_,Classical.choose_spec h⟩;unfold jV;rw[dif_pos h]
theorem dL{c:Callee}{M:Mem}{r:afl}(h:S c a M r)(hd:∀Z,S c a M Z ->Z =r):jV S c a M=some r:=by obtain⟨Z,X,V⟩:=Fg ⟨r,h⟩;rw[X,hd Z V]
theorem wU(M X:Mem)(k:Nat):(M++X)[M.length+k]? =X[k]? :=by rw[V1 (by omega)];congr 1;omega
theorem yr(M X:Mem):(M++X)[M.length]? =X[0]? :=wU M X 0
theorem G8(M X:Mem)(k:Nat)(s:afq):(M++X).set (M.length+k) s=M++X.set k s:=by rw[List.set_append_right _ _ (by omega)];congr 2;omega
theorem VV(M X:Mem)(s:afq):(M++X).set M.length s=M++X.set 0 s:=G8 M X 0 s
theorem wW(f:Nat->Bool):∀(i:Nat) (M:Mem),bw [] i M (bP f i M)=M
 |_,[]=>rfl
 |i,s::M=>by simp[bP,bw,wW f (i+1) M]
theorem vl(f:Nat->Bool):∀(i:Nat) (M:Mem) (b:Nat),(bP f i M)[b]? =(M[b]?).map fun s=>if f (i+b) then s else .qK
 |_,[],_=>by simp[bP]
 |i,s::M,0=>by simp[bP]
 |i,s::M,b+1=>by simp[bP,vl f (i+1) M b,QXb,QXc 1 b]
theorem E3:∀(i:Nat) (M:Mem),bP (fun _=>true) i M=M
 |_,[]=>rfl
 |i,s::M=>by simp[bP,E3 (i+1) M]
theorem Ot(a b:Nat):(a<=b/\b<a)=False:=by rw[eq_iff_iff,iff_false];omega
theorem zv:∀(i:Nat) (M:Mem),bw [] i M M=M
 |_,[]=>rfl
 |i,s::M=>by simp[bw,zv (i+1) M]
end Go.Eng
