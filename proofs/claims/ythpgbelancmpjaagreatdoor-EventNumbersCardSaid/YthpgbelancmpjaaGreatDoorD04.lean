/- See D38. -/
import Derived.Test.YthpgbelancmpjaaGreatDoorD03
set_option linter.all false
namespace Go.Eng
attribute [simp] sL xL jF aw mg SS wZ LN ae get Xq dL yR af9 DT sE aOp Yi Yk Yj aUn Au OU OT sK WI Q0 kZ sJ Ut Uu xc Ul cO OO kJ fA VZ jT yf Yu
attribute [simp] qs AV.refs AV.afy af4 DX rho AV.ren AV.afz rW ot kz jV afh.mem aG nE G1 dO w8 bef W7 bF bn Ow VY jc bw fI jo AV.adM AV.afn Oper.looksAt Op.operands Call.operands Region.binds AV.closed AV.afm
def aE:Code->List Code
 |.seq a b=>aE a++aE b
 |.cond _ a b=>aE a++aE b
 |.block _ b=>aE b
 |.loop b=>b::aE b
 |_=>[]
def ah(f:Func):List Code:=match f.body with
 |some c=>aE c
 |none=>[]
attribute [simp] ad
section
variable (T:TypeId->Option TyI)(lv:Code->List Nat)(O:y9)(K N m0:Nat)(tp:Bool)(s:XS)
theorem Re:aU T lv O K N m0 tp .skip s=some (.normal,s):=rfl
theorem Rd(id:Nat):aU T lv O K N m0 tp (.exit id) s=some (.exit id,s):=rfl
theorem SV:aU T lv O K N m0 tp .ret s=some (.ret,s):=rfl
theorem Ln(id:Nat)(ops:Array Oper):aU T lv O K N m0 tp (.region id ops false) s=match fA T O N m0 ops ops.toList s with
  |some s' =>some (.normal,s')
  |none=>none:=rfl
theorem Rc(id:Nat)(ops:Array Oper):aU T lv O K N m0 tp (.region id ops true) s=match aG T O N m0 ops s with
  |some s' =>some (.normal,s')
  |none=>none:=rfl
theorem SW(a b:Code):aU T lv O K N m0 tp (.seq a b) s=match aU T lv O K N m0 tp a s with
  |some (.normal,s')=>aU T lv O K N m0 tp b s'
  |r=>r:=rfl
theorem Rb(c:Operand)(a b:Code):aU T lv O K N m0 tp (.cond c a b) s=match get s.env c with
  |.bool true=>aU T lv O K N m0 tp a s
  |.bool false=>aU T lv O K N m0 tp b s
  |_=>none:=rfl
theorem Oa(id:Nat)(b:Code):aU T lv O K N m0 tp (.block id b) s=match aU T lv O K N m0 tp b s with
  |some (.exit i,s')=>if i=id then some (.normal,s') else some (.exit i,s')
  |r=>r:=rfl
theorem ba(b:Code):aU T lv O K N m0 tp (.loop b) s=ga (lv b) (ad b) s.env s.mem.length (aU T lv O K N m0 tp b) K ⟨aw (lv b) (ad b) s.env s.env,s.mem,s.afD⟩:=rfl
end
attribute [simp] Re Rd SV Ln Rc SW Rb Oa
open Classical in
theorem vm{p:Env->Bool->Prop}{q:Env->Bool->Env->Prop}(h:∀e d,p e d->∃X,q e d X):∃F:Env->Bool->Env,∀e d,p e d->q e d (F e d):=
 ⟨fun e d=>if Z:p e d then Classical.choose (h e d Z) else [],fun e d Z=>by simp only[dif_pos Z];exact Classical.choose_spec (h e d Z)⟩
theorem bG{α:Type}{f:XS->Option (Exit×XS)}{lv wr:List Nat}{J:Env}{W:Nat}(S:α->XS)(m:α->Nat)(Inv:α->Prop)(I:Exit) (H :Mem) (d' :Bool)(Q:Env->Prop)(Y:I≠ .normal)
  (h:∀a,Inv a->(∃X V,f (S a)=some (.normal,V)/\mg lv wr J W V =S X /\Inv X /\m X <m a)\/(∃Z,f (S a)=some (I,⟨Z,H,d'⟩)/\Q Z)):
  ∀k a,Inv a->m a<k->∃Z,ga lv wr J W f k (S a)=some (I,⟨Z,H,d'⟩)/\Q Z
 |0,a,_,hk=>by omega
 |k+1,a,ha,hk=>by
  unfold ga;rcases h a ha with⟨X,V,U,R,h3,O⟩ | ⟨Z,U,h3⟩
  .rw[U]
   simp only[R];exact bG S m Inv I H d' Q Y h k X h3 (by omega)
  .rw[U]
   refine⟨Z,?_,h3⟩;cases I<;>first | rfl | exact absurd rfl Y
theorem bl{T:TypeId->Option TyI}{lv:Code->List Nat}{O:y9}{K N m0:Nat}{tp:Bool}{b:Code}{L:List Nat}(W:lv b=L){mem H :Mem}{e:Exit}(J:Env->Prop)(I:Env->Env->Prop)(h:∀Z d,J Z->∃X,ga L (ad b) Z mem.length (aU T lv O K N m0 tp b) K ⟨aw L (ad b) Z Z,mem,d⟩=some (e,⟨X,H,d⟩)/\I Z X):
  ∃F:Env->Bool->Env,∀Z d,J Z->aU T lv O K N m0 tp (.loop b) ⟨Z,mem,d⟩=some (e,⟨F Z d,H,d⟩)/\I Z (F Z d):=by
 refine vm (p:=fun Z _=>J Z) (q:=fun Z d V =>aU T lv O K N m0 tp (.loop b) ⟨Z,mem,d⟩=some (e,⟨V,H,d⟩)/\I Z V) ?_;intro Z d U;obtain⟨X,S,R⟩:=h Z d U;exact⟨X,by rw[ba,W];exact S,R⟩
theorem Hh{n:Int}(h0:0<=n)(h1:n<=255):IntKind.u8.wrap n=n:=by simp only[IntKind.wrap,IntKind.bits,IntKind.signed,Bool.false_and,Bool.false_eq_true,if_false];omega
def Pb(i:Option TyI):Bool:=match i with
 |some i=>match i.desc with
  |.interface _=>true
  |_=>false
 |none=>false
theorem Q3{T:TypeId->Option TyI}{t:TypeId}(h:Pb (T t)=true)(r c:Bool):WJ T t r c .nilIface .nilIface=if r||c then some true else none:=by
 unfold Pb at h;unfold WJ;cases hT:T t with
 |none=>rw[hT] at h;cases h
 |some i=>
  rw[hT] at h;simp only at h |-;cases hd:i.desc<;>rw[hd] at h<;>first | (cases h;done) | rfl
mutual
def AV.under(n:Nat):AV->Bool
 |.ptr b _=>decide (b<n)
 |.slice b _ _ _=>decide (b<n)
 |.map b=>decide (b<n)
 |.yield b=>decide (b<n)
 |.func _ Z=>AV.afp n Z
 |.iface _ v=>v.under n
 |.agg Z=>AV.afp n Z
 |.tuple Z=>AV.afp n Z
 |_=>true
def AV.afp(n:Nat):List AV->Bool
 | []=>true
 |v::vs=>v.under n&&AV.afp n vs
end
def fa(ks:List Nat)(n:Nat)(b:Nat):Option Nat:=if b<ks.length then some (ks.getD b 0) else some (n+(b-ks.length))
mutual
theorem afj.agh{μ:Nat->Place}{N:Nat}{ks:List Nat}{H:Nat}:∀{v V},v.under ks.length=true->afj μ N (v.ren (fa ks H)) V->afj (fun i=>μ (ks.getD i 0)) ks.length v V
 |.undef,V,_,_=>by simp[afj]
 |.bool b,V,_,h=>by simpa [AV.ren,afj] using h
 |.int k i,V,_,h=>by simpa [AV.ren,afj] using h
 |.str s,V,_,h=>by simpa [AV.ren,afj] using h
 |.ptr b o,V,hb,h=>by simp only[AV.under,Es] at hb;simp only[AV.ren,fa,hb,if_true,afj] at h |-;exact⟨trivial,h.2⟩
 |.afw,V,_,h=>by simpa [AV.ren,afj] using h
 |.slice b o l c,V,hb,h=>by simp only[AV.under,Es] at hb;simp only[AV.ren,fa,hb,if_true,afj] at h |-;exact⟨trivial,h.2⟩
 |.qF,V,_,h=>by simpa [AV.ren,afj] using h
 |.map b,V,hb,h=>by simp only[AV.under,Es] at hb;simp only[AV.ren,fa,hb,if_true,afj] at h |-;exact⟨trivial,h.2⟩
 |.yield b,V,hb,h=>by simp only[AV.under,Es] at hb;simp only[AV.ren,fa,hb,if_true,afj] at h |-;exact⟨trivial,h.2⟩
 |.afG,V,_,h=>by simpa [AV.ren,afj] using h
 |.func f X,V,hb,h=>by simp only[AV.under] at hb;simp only[AV.ren,afj] at h |-;obtain⟨Z,rfl,h⟩:=h;exact⟨Z,rfl,afk.agh hb h⟩
 |.nilFunc,V,_,h=>by simpa [AV.ren,afj] using h
 |.iface t v,V,hb,h=>by simp only[AV.under] at hb;simp only[AV.ren,afj] at h |-;obtain⟨U,rfl,h⟩:=h;exact⟨U,rfl,afj.agh hb h⟩
 |.nilIface,V,_,h=>by simpa [AV.ren,afj] using h
 |.agg X,V,hb,h=>by simp only[AV.under] at hb;simp only[AV.ren,afj] at h |-;obtain⟨Z,rfl,h⟩:=h;exact⟨Z,rfl,afk.agh hb h⟩
 |.tuple X,V,hb,h=>by simp only[AV.under] at hb;simp only[AV.ren,afj] at h |-;obtain⟨Z,rfl,h⟩:=h;exact⟨Z,rfl,afk.agh hb h⟩
theorem afk.agh{μ:Nat->Place}{N:Nat}{ks:List Nat}{H:Nat}:∀{vs Us},AV.afp ks.length vs=true->afk μ N (AV.afz (fa ks H) vs) Us->afk (fun i=>μ (ks.getD i 0)) ks.length vs Us
 | [],Us,_,h=>by simpa [AV.afz,afk] using h
 |v::vs,Us,hb,h=>by simp only[AV.afp,C0] at hb;simp only[AV.afz,afk] at h |-;obtain⟨U,Z,rfl,X,V⟩:=h;exact⟨U,Z,rfl,afj.agh hb.1 X,afk.agh hb.2 V⟩
end
def afX(ks:List Nat)(M:Mem)(k:Nat):afl->Prop
 |.qK=>True
 |.cells false es cs=>AV.afp ks.length cs=true/\∃o X,M[k]? =some (.cells o es X)/\∀(j:Nat) v,cs[j]? =some v->X[j]? =some (v.ren (fa ks M.length))
 |.afS es=>∃Z,(M[k]? =some (.afS Z)\/M[k]? =some (.map Z))/\Z.length=es.length/\
   ∀(j:Nat) e,es[j]? =some e->(e.1.under ks.length=true/\e.2.under ks.length=true)/\Z[j]? =some (e.1.ren (fa ks M.length),e.2.ren (fa ks M.length))
 |_=>False
theorem yj{n:Nat}:∀{cs:List AV},AV.afp n cs=true->∀(j:Nat) v,cs[j]? =some v->v.under n=true
 | [],_,j,v,h=>by simp at h
 |c::cs,h,j,v,hj=>by
  simp only[AV.afp,C0] at h;cases j with
  |zero=>simp at hj;subst hj;exact h.1
  |succ j=>exact yj h.2 j v (by simpa using hj)
theorem Aj{α:Type}{cs H :List α}{g:α->α}(h:∀(j:Nat) v,cs[j]? =some v->H[j]? =some (g v)):cs.length<=H.length:=by
 by_cases Z:cs.length=0
 .omega
 .have:=h (cs.length-1) (cs[cs.length-1]'(by omega)) (by simp)
  have:=gL this;omega
section
variable {P:Program}
theorem kO.frame{f:FuncId}{args:List AV}{m new M:Mem}{v:AV}(ks:List Nat)(hl:m.length=ks.length)(hk:∀k∈ks,k<M.length)(ha:AV.afp ks.length args=true)(hm:∀(i:Nat) s,m[i]? =some s->afX ks M (ks.getD i 0) s)(hn:new.all (fun s=>s.own||match s with | .qK=>true | _=>false)=true)(h:kO P f args m v (m++new)):kO P f (AV.afz (fa ks M.length) args) M (v.ren (fa ks M.length)) (M++new.map (afl.ren (fa ks M.length))):=by
 refine⟨h.1,fun base μ w Vs hG hH hV=>?_⟩;have C:∀b,¬eJ m b:=by
  rintro b ⟨s,U,N⟩;have:=hm b s U;cases s with
  |qK=>cases N
  |cells own es cs=>simp only[afl.own] at N;subst N;exact this
  |map es=>exact this
  |afS es=>cases N
  |loop r=>exact this
 have hms:afv base (fun i=>μ (ks.getD i 0)) m w:=by
  refine⟨hH.afr,fun b s U=>?_,fun b R s' X=>absurd X (C b)⟩;have ZR:=hm b s U;cases s with
  |qK=>trivial
  |map es=>exact ZR.elim
  |afS es=>
   obtain⟨es',h1,h2,h3⟩:=ZR;have U:∃F IR,w.heap[(μ (ks.getD b 0)).blk]? =some (.map F IR)/\Ec F IR/\F.size=es'.length/\∀(j:Nat) e,es'[j]? =some e->∃E,F[j]? =some E/\PE μ M.length e E:=by
    rcases h1 with h1 | h1
    .have:=hH.slot _ _ h1;simpa only[afx] using this
    .have:=hH.slot _ _ h1
     simp only[afx] at this;obtain⟨F,IR,k1,k2,k3,k4⟩:=this;exact⟨F,IR,k1,k2.2,k3,k4⟩
   obtain⟨F,IR,k1,k2,k3,k4⟩:=U;simp only[afx];refine⟨F,IR,k1,k2,by omega,fun j e he=>?_⟩;obtain⟨⟨u1,u2⟩,u3⟩:=h3 j e he;obtain⟨E,hE,r1,r2⟩:=k4 j _ u3;rw[hl];exact⟨E,hE,afj.agh u1 r1,afj.agh u2 r2⟩
  |loop r=>exact ZR.elim
  |cells own es cs=>
   cases own with
   |true=>exact ZR.elim
   |false=>
    obtain⟨X,o,Zt,h1,h2⟩:=ZR;have:=hH.slot _ _ h1;simp only[afx] at this |-;obtain⟨cur,e,fr,g1,g2,g3,g4,_⟩:=this;refine⟨cur,e,fr,g1,g2,QQJ (Aj h2) g3,fun j u hj=>?_,fun h=>by cases h⟩;obtain⟨V,hV,hr⟩:=g4 j _ (h2 j u hj);rw[hl];exact⟨V,hV,afj.agh (yj X j u hj) hr⟩
 have aae:=afk.agh ha hV;rw[<-hl] at aae;refine(h.2 base _ w Vs hG hms aae).mono ?_;rintro e w' ⟨V,v',mem',μ',rfl,q1,q2,q3,rfl,rfl⟩;have D:afM w w' :=⟨q3.size,fun k hk=>q3.frame k hk fun b X=>absurd X (C b),q3.os,q3.tape,q3.output,q3.drawn⟩;have B:∀b,eJ (m++new) b->w.heap.size<=(μ' b).blk:=by
  intro b X;by_cases Y:(μ' b).blk<w.heap.size
  .obtain⟨b0,h0,_⟩:=q3.owner b X Y
   exact absurd h0 (C b0)
  .omega
 obtain⟨μ2,hμ2⟩:=xE (α:=Nat->Place) (fun b=>if b<M.length then μ b else μ' (b-M.length+m.length));have L:∀b,b<M.length->μ2 b=μ b:=fun b X=>by rw[hμ2];simp[X]
 have S:∀i,μ2 (M.length+i)=μ' (m.length+i):=fun i=>by rw[hμ2];simp only;rw[if_neg (by omega)];congr 1;omega
 have hρ:∀b R,b<(m++new).length->fa ks M.length b=some R ->R <(M++new.map (afl.ren (fa ks M.length))).length/\μ2 R =μ' b:=by
  intro b R X K;simp only[SP,QXY] at X |-;unfold fa at K;split at K
  .rename_i Y
   cases K;have aan:ks.getD b 0∈ks:=by rw[List.getD_eq_getElem?_getD,GT Y,Option.getD_some];exact List.getElem_mem Y
   have:=hk _ aan;refine⟨by omega,?_⟩;rw[L _ this];exact(q3.agree b (by omega)).symm
  .rename_i Y
   cases K;refine⟨by omega,?_⟩;rw[S,show m.length+(b-ks.length)=b by omega]
 have ZL:∀b s,(M++new.map (afl.ren (fa ks M.length)))[b]? =some s->(b<M.length/\M[b]? =some s)\/∃i Z,b=M.length+i/\new[i]? =some Z/\s=Z.ren (fa ks M.length):=by
  intro b s U;by_cases X:b<M.length
  .rw[GE X] at U
   exact .inl ⟨X,U⟩
  .rw[V1 (by omega),Zo] at U
   simp only[Y2] at U;obtain⟨Z,h1,h2⟩:=U;exact .inr ⟨b-M.length,Z,by omega,h1,h2.symm⟩
 have W:∀i Z,new[i]? =some Z->(m++new)[m.length+i]? =some Z:=by intro i Z h;rw[V1 (by omega),Nat.add_sub_cancel_left];exact h
 have G:∀i Z,new[i]? =some Z->Z≠ .qK->eJ (m++new) (m.length+i):=by intro i Z h J;refine⟨Z,W i Z h,?_⟩;have:=List.all_eq_true.1 hn Z (J1 h);cases Z<;>simp_all
 have O:∀Z:afl,Z.ren (fa ks M.length)≠ .qK->Z≠ .qK:=by rintro Z h rfl;exact h rfl
 refine⟨V,_,_,μ2,rfl,q1.ren hρ,⟨QQJ hH.afr D.size,fun b s U=>?_,fun b R s' X K J ZA=>?_⟩,?_,rfl,rfl⟩
 .rcases ZL b s U with⟨X,h1⟩ | ⟨i,Z,rfl,h1,rfl⟩
  .rw[L b X]
   refine(hH.slot b s h1).mono (by simp) L fun J=>D.heap _ ((hH.slot b s h1).af2 J)
  .rw[S]
   exact(q2.slot _ Z (W i Z h1)).ren hρ
 .obtain⟨s,U,N⟩:=X
  have I:=afl.afT N;rcases ZL b s U with⟨X,h1⟩ | ⟨i,Z,rfl,h1,rfl⟩<;>rcases ZL R s' K with⟨K,ZK⟩ | ⟨i',H,rfl,ZK,rfl⟩
  .rw[L b X,L R K]
   exact hH.sep b R s' ⟨s,h1,N⟩ ZK J ZA
  .rw[L b X,S]
   have g1:=(hH.slot b s h1).af2 I;have g2:=B _ (G i' H ZK (O _ J));omega
  .rw[L R K,S]
   have g1:=(hH.slot R s' ZK).af2 J;have g2:=B _ (G i Z h1 (O _ I));omega
  .rw[S,S]
   exact q2.sep _ _ H (G i Z h1 (O _ I)) (W i' H ZK) (O _ J) (by omega)
 .refine⟨by simp,L,D.os,D.tape,D.output,D.size,fun k hk _=>D.heap k hk,fun b X Y=>?_,D.drawn⟩
  obtain⟨s,U,N⟩:=X;rcases ZL b s U with⟨X,h1⟩ | ⟨i,Z,rfl,h1,rfl⟩
  .exact⟨b,⟨s,h1,N⟩,by rw[L b X]⟩
  .rw[S] at Y
   have:=B _ (G i Z h1 (O _ (afl.afT N)));omega
end
def iN(k:IntKind)(l:List Nat):List AV:=l.map fun n:Nat=>.int k (n:Int)
def iZ(l:List Int):List AV:=l.map fun n=>.int .i64 n
section
variable (k:IntKind)
theorem O7:iN k []=[]:=rfl
theorem cr(n:Nat)(l:List Nat):iN k (n::l)=.int k (n:Int)::iN k l:=rfl
theorem Tf(l:List Nat):(iN k l).length=l.length:=by simp[iN]
theorem dC(l r:List Nat):iN k (l++r)=iN k l++iN k r:=by simp[iN]
section
variable (l:List Nat)
include l
theorem WV(n:Nat):iN k l++[.int k (n:Int)]=iN k (l++[n]):=by simp[iN]
theorem Te(i:Nat):(iN k l)[i]? =(l[i]?).map fun n:Nat=>.int k (n:Int):=by simp[iN]
theorem Rg(i:Nat)(h:i<(iN k l).length):(iN k l)[i]=.int k ((l[i]'(by simpa [iN] using h):Nat):Int):=by simp[iN]
theorem iM(i:Nat):(iN k l).take i=iN k (l.take i):=by simp[iN]
theorem rP(i:Nat):(iN k l).drop i=iN k (l.drop i):=by simp[iN]
theorem XK:(iN k l).all AV.afi=true:=by simp[iN,AV.afi]
end
theorem Pq(m:Nat)(l:List Nat):AV.afy m (iN k l)=[]:=by
 induction l with
 |nil=>rfl
 |cons x l ih=>simp[cr,AV.afy,AV.refs,ih]
theorem T0(ρ:Nat->Option Nat)(l:List Nat):AV.afz ρ (iN k l)=iN k l:=by
 induction l with
 |nil=>rfl
 |cons x l ih=>simp[cr,AV.afz,AV.ren,ih]
theorem Mn(m:Nat)(l:List Nat):AV.afp m (iN k l)=true:=by
 induction l with
 |nil=>rfl
 |cons x l ih=>simp[cr,AV.afp,AV.under,ih]
theorem EU(ok:Nat->Bool)(l:List Nat):AV.afn ok (iN k l)=true:=by
 induction l with
 |nil=>rfl
 |cons x l ih=>simp[cr,AV.afn,AV.adM,ih]
theorem L5(m:Nat)(o:Bool)(e:Nat)(l:List Nat):afl.refs m (.cells o e (iN k l))=[]:=by simp[afl.refs,Pq]
theorem Oz(ρ:Nat->Option Nat)(o:Bool)(e:Nat)(l:List Nat):afl.ren ρ (.cells o e (iN k l))=.cells o e (iN k l):=by simp[afl.ren,T0]
theorem D8(ok:Nat->Bool)(o:Bool)(e:Nat)(l:List Nat):afl.adM ok (.cells o e (iN k l))=true:=by simp[afl.adM,EU]
theorem rQ(l:Nat):jU [.int k 0] l=iN k (List.replicate l 0):=by
 induction l with
 |zero=>rfl
 |succ l ih=>rw[jU,ih,List.replicate_succ,cr];rfl
end
attribute [simp] O7 Tf Te Rg Pq T0 Mn EU L5 Oz D8 XK
attribute [simp] G8 CS TyI.isAgg afl.refs afl.ren AV.under AV.afp afl.own pw lD pW Mh tN tP Xn gA qo jU AV.known AV.cells AV.afi
def CC(k:IntKind):List AV->Option (List Nat)
 | []=>some []
 |.int k' n::l=>if k' =k/\0<=n then match CC k l with
  |some r=>some (n.toNat::r)
  |none=>none
  else none
 |_::_=>none
theorem TD(k:IntKind)(l:List Nat):CC k (iN k l)=some l:=by
 induction l with
 |nil=>rfl
 |cons x l ih=>rw[cr,CC,if_pos ⟨rfl,by omega⟩,ih];simp
theorem CD{k:IntKind}:∀{l:List AV} {r:List Nat},CC k l=some r->l=iN k r
 | [],r,h=>by cases h;rfl
 |v::l,r,h=>by
  cases v<;>first | (unfold CC at h;cases h;done) | skip
  rename_i V n;unfold CC at h;split at h
  .rename_i Z
   split at h
   .rename_i U X
    cases h;rw[cr,CD X,Z.1];congr 2;omega
   .cases h
  .cases h
theorem dh{l:List Nat}{i:Nat}(h:i<l.length):∃x,l[i]? =some x/\l[i]=x:=⟨l[i],by simp,rfl⟩
mutual
theorem yU{n:Nat}:∀{v:AV},v.closed=true->v.under n=true
 |.ptr _ _,h=>by simp[AV.closed] at h
 |.slice _ _ _ _,h=>by simp[AV.closed] at h
 |.map _,h=>by simp[AV.closed] at h
 |.yield _,h=>by simp[AV.closed] at h
 |.func _ Z,h=>by simp only[AV.closed] at h;simp only[AV.under];exact bj h
 |.iface _ v,h=>by simp only[AV.closed] at h;simp only[AV.under];exact yU h
 |.agg Z,h=>by simp only[AV.closed] at h;simp only[AV.under];exact bj h
 |.tuple Z,h=>by simp only[AV.closed] at h;simp only[AV.under];exact bj h
 |.undef,_=>rfl
 |.bool _,_=>rfl
 |.int _ _,_=>rfl
 |.str _,_=>rfl
 |.afw,_=>rfl
 |.qF,_=>rfl
 |.afG,_=>rfl
 |.nilFunc,_=>rfl
 |.nilIface,_=>rfl
theorem bj{n:Nat}:∀{vs:List AV},AV.afm vs=true->AV.afp n vs=true
 | [],_=>rfl
 |v::vs,h=>by simp only[AV.afm,C0] at h;simp only[AV.afp,yU h.1,bj h.2];rfl
end
mutual
theorem EW{ρ:Nat->Option Nat}:∀{v:AV},v.closed=true->v.ren ρ=v
 |.ptr _ _,h=>by simp[AV.closed] at h
 |.slice _ _ _ _,h=>by simp[AV.closed] at h
 |.map _,h=>by simp[AV.closed] at h
 |.yield _,h=>by simp[AV.closed] at h
 |.func _ Z,h=>by simp only[AV.closed] at h;simp only[AV.ren,aL h]
 |.iface _ v,h=>by simp only[AV.closed] at h;simp only[AV.ren,EW h]
 |.agg Z,h=>by simp only[AV.closed] at h;simp only[AV.ren,aL h]
 |.tuple Z,h=>by simp only[AV.closed] at h;simp only[AV.ren,aL h]
 |.undef,_=>rfl
 |.bool _,_=>rfl
 |.int _ _,_=>rfl
 |.str _,_=>rfl
 |.afw,_=>rfl
 |.qF,_=>rfl
 |.afG,_=>rfl
 |.nilFunc,_=>rfl
 |.nilIface,_=>rfl
theorem aL{ρ:Nat->Option Nat}:∀{vs:List AV},AV.afm vs=true->AV.afz ρ vs=vs
 | [],_=>rfl
 |v::vs,h=>by simp only[AV.afm,C0] at h;simp only[AV.afz,EW h.1,aL h.2]
end
theorem wY(s n:Nat):(s:Int).tmod (n:Int)=((s%n:Nat):Int):=rfl
theorem wW(s n:Nat):(s:Int).tdiv (n:Int)=((s / n:Nat):Int):=rfl
theorem AM(s n:Nat):(s:Int).tmod (OfNat.ofNat n)=((s%n:Nat):Int):=rfl
theorem Hc(s n:Nat):(s:Int).tdiv (OfNat.ofNat n)=((s / n:Nat):Int):=rfl
theorem L4(m:Nat)(a b:List AV):AV.afy m (a++b)=AV.afy m a++AV.afy m b:=by
 induction a with
 |nil=>rfl
 |cons x a ih=>simp[AV.afy,ih]
theorem OB(ρ:Nat->Option Nat)(a b:List AV):AV.afz ρ (a++b)=AV.afz ρ a++AV.afz ρ b:=by
 induction a with
 |nil=>rfl
 |cons x a ih=>simp[AV.afz,ih]
theorem kA(ok:Nat->Bool)(a b:List AV):AV.afn ok (a++b)=(AV.afn ok a&&AV.afn ok b):=by
 induction a with
 |nil=>rfl
 |cons x a ih=>simp[AV.afn,ih,Bool.and_assoc]
attribute [simp] L4 OB kA
def aft(k:IntKind)(M:Mem)(x:AV)(A:List Nat):Prop:=∃b o Z,x=.slice b 0 A.length none/\M[b]? =some (.cells o 1 Z)/\Z.take A.length=iN k A
def bh(k:IntKind)(M:Mem):AV->Option (List Nat)
 |.slice b 0 n none=>match M[b]? with
  |some (.cells _ 1 cs)=>if n<=cs.length then CC k (cs.take n) else none
  |_=>none
 |_=>none
theorem bk{k:IntKind}{M:Mem}{x:AV}{A:List Nat}(h:bh k M x=some A):aft k M x A:=by
 unfold bh at h;split at h
 .rename_i b n
  split at h
  .rename_i o X V
   split at h
   .rename_i S
    have Z:=CD h;have U:n=A.length:=by have:=congrArg List.length Z;simp at this;omega
    subst U;exact⟨b,o,X,rfl,V,Z⟩
   .cases h
  .cases h
 .cases h
variable{b:Nat}{cs:List AV}
theorem aR{k:IntKind}{M:Mem}{n:Nat}{ow:Bool}{A:List Nat}(h:M[b]? =some (.cells ow 1 cs))(H:n<=cs.length)(I:cs.take n=iN k A):bh k M (.slice b 0 n none)=some A:=by simp only[bh,h];rw[if_pos H,I,TD]
variable{o:Bool}
theorem afX.row{k:IntKind}{ks:List Nat}{M:Mem}{A:List Nat}(h:M[b]? =some (.cells o 1 cs))(H:cs.take A.length=iN k A):afX ks M b (.cells false 1 (iN k A)):=by
 refine⟨Mn _ _ _,o,cs,h,fun j v Z=>?_⟩;have X:j<A.length:=by have:=gL Z;simpa using this
 have:cs[j]? =(iN k A)[j]? :=by rw[<-H,QQQ X]
 rw[this,Z];rw[Te] at Z;simp only[Y2] at Z;obtain⟨n,_,rfl⟩:=Z;simp[AV.ren]
section
variable {P:Program}{k:IntKind}{f:FuncId}{A B:List Nat}{M:Mem}{x y:AV}
theorem kO.agR{rest:List AV}{v:AV}{new:Mem}(hr:AV.afm rest=true)(H:new.all (fun s=>s.own||match s with | .qK=>true | _=>false)=true)(h:kO P f (.slice 0 0 A.length none::rest) [.cells false 1 (iN k A)] v (.cells false 1 (iN k A)::new))(I:aft k M x A):
  ∃b,x=.slice b 0 A.length none/\kO P f (x::rest) M (v.ren (fa [b] M.length)) (M++new.map (afl.ren (fa [b] M.length))):=by
 obtain⟨b,o,cs,rfl,X,V⟩:=I;refine⟨b,rfl,?_⟩;have U:=gL X;have:=kO.frame (M:=M) [b] (m:=[.cells false 1 (iN k A)]) rfl (by simpa using U) (by simp only[AV.afp,AV.under,bj hr];rfl) (fun i s Z=>by
  cases i with
  |zero=>simp at Z;subst Z;exact .row X V
  |succ i=>simp at Z) H h
 simpa [AV.afz,AV.ren,fa,aL hr] using this
theorem kO.agc{v:AV}{new:Mem}(H:new.all (fun s=>s.own||match s with | .qK=>true | _=>false)=true)(h:kO P f [.slice 0 0 A.length none,.slice 1 0 B.length none] [.cells false 1 (iN k A),.cells false 1 (iN k B)] v (.cells false 1 (iN k A)::.cells false 1 (iN k B)::new))(I:aft k M x A)(J:aft k M y B):
  ∃b c,x=.slice b 0 A.length none/\y=.slice c 0 B.length none/\kO P f [x,y] M (v.ren (fa [b,c] M.length)) (M++new.map (afl.ren (fa [b,c] M.length))):=by
 obtain⟨b,o,cs,rfl,V,S⟩:=I;obtain⟨c,N,L,rfl,U,X⟩:=J;refine⟨b,c,rfl,rfl,?_⟩;have R:=gL V;have O :=gL U;have:=kO.frame (M:=M) [b,c] (m:=[.cells false 1 (iN k A),.cells false 1 (iN k B)]) rfl (by simp[R,O]) (by simp) (fun i s Z=>by
  match i with
  |0=>simp at Z;subst Z;exact .row V S
  |1=>simp at Z;subst Z;exact .row U X
  |i+2=>simp at Z) H h
 simpa [AV.afz,AV.ren,fa] using this
theorem kO.ag9{args:List AV}{m:Mem}{v:AV}{es:Nat}{H :List AV}(h:kO P f args m v (m++[afl.cells o es cs]))(I:H <+: cs):kO P f args m v (m++[afl.cells o es H]):=by
 refine⟨h.1,fun base μ w Vs hG hH hV=>(h.2 base μ w Vs hG hH hV).mono ?_⟩;rintro e w' ⟨V,v',m',μ',rfl,q1,q2,q3,rfl,rfl⟩;have U:∀b Z,(m++[afl.cells o es H])[b]? =some Z->∃S,(m++[afl.cells o es cs])[b]? =some S/\S.own=Z.own/\(S=.qK->Z=.qK)/\afx μ' (m++[afl.cells o es cs]).length base w' (μ' b) Z:=by
  intro b Z X;by_cases O:b<m.length
  .rw[GE O] at X
   have R :(m++[afl.cells o es cs])[b]? =some Z:=gU X _;exact⟨Z,R,rfl,id,q2.slot b Z R⟩
  .have N:b=m.length:=by have:=gL X;simp at this;omega
   subst N;simp at X;subst X;have R :(m++[afl.cells o es cs])[m.length]? =some (afl.cells o es cs):=by simp
   refine⟨_,R,rfl,(fun h=>by cases h),?_⟩;have:=q2.slot _ _ R;simp only[afx] at this |-;obtain⟨L,el,C,K,G,g3,Y,W⟩:=this;refine⟨L,el,C,K,G,QQJ I.length_le g3,fun j u D=>Y j u ?_,W⟩;obtain⟨t,rfl⟩:=I;rw[GE (gL D)];exact D
 have F:(m++[afl.cells o es H]).length=(m++[afl.cells o es cs]).length:=by simp
 refine⟨V,_,_,μ',rfl,by rw[F];exact q1,q2.swap F U,⟨by rw[F];exact q3.len,q3.agree,q3.os,q3.tape,q3.output,q3.size,q3.frame,fun b X O=>?_,q3.drawn⟩,rfl,rfl⟩;obtain⟨s,K,G⟩:=X;obtain⟨S,J,k2,_,_⟩:=U b s K;exact q3.owner b ⟨S,J,by rw[k2];exact G⟩ O
end
end Go.Eng
namespace Go.Eng
def qw(P:Program)(c:Callee)(args:List AV)(m:Mem)(r:afh):Prop:=
 (match c with
  |.fn f=>kO P f args m r.v (r.mem m)
  |.yld b=>gH P b args m r.v (r.mem m))/\∀q,r.pre=some q->q.length=m.length
open Classical in
theorem jR{P:Program}{ι:Type}(p:ι->Prop)(c:ι->Callee)(a:ι->List AV)(m:ι->Mem)(r:ι->afh)(hs:∀i,p i->qw P (c i) (a i) (m i) (r i))(hc:∀i j,p i->p j->c i=c j->a i=a j->m i=m j->r i=r j):∃O:y9,qS P O/\∀i,p i->O (c i) (a i) (m i)=some (r i):=by
 refine⟨fun S X V =>if h:∃i,p i/\c i=S /\a i=X /\m i=V then some (r (Classical.choose h)) else none,?_,fun i K=>?_⟩
 .have U:∀S X V R,(if h:∃i,p i/\c i=S /\a i=X /\m i=V then some (r (Classical.choose h)) else none)=some R ->qw P S X V R :=by
   intro S X V R h;split at h
   .rename_i Z
    obtain⟨N,M,h3,L⟩:=Classical.choose_spec Z;cases h;have:=hs _ N;rw[M,h3,L] at this;exact this
   .cases h
  exact⟨fun f X V R h=>(U _ _ _ _ h).1,fun b X V R h=>(U _ _ _ _ h).1,fun S X V R q h G=>(U _ _ _ _ h).2 q G⟩
 .have Z:∃j,p j/\c j=c i/\a j=a i/\m j=m i:=⟨i,K,rfl,rfl,rfl⟩
  simp only[dif_pos Z];obtain⟨N,M,h3,L⟩:=Classical.choose_spec Z;rw[hc _ _ N K M h3 L]
variable{n:Nat}{r:agq}
theorem wS(h:r.env.flatMap (fun e=>e.2.refs n)=[]):afl.refs n (.loop r)=[]:=h
variable{ks:List Nat}
theorem Pr(h:r.env.flatMap (fun e=>e.2.refs n)=[]):afl.ren (rho n ks) (.loop r)=.loop r:=afl.afA (wS h)
theorem GM{m:Mem}(h:∀s∈m,s.refs n=[]):m.flatMap (afl.refs n)=[]:=by rw[List.flatMap_eq_nil_iff];exact h
theorem y8{m:Mem}(h:∀s∈m,s.refs n=[]):m.map (afl.ren (rho n ks))=m:=by
 conv=>rhs;rw[<-List.map_id m]
 apply List.map_congr_left;intro s Z;rw[afl.afA (h s Z)];rfl
variable{G:FuncId->Option Func}{c:Code}{e:Exit}{fn:Func}{mem mem' :Mem}
section
variable{T:TypeId->Option TyI}{lv:Code->List Nat}{O:y9}
include T lv O
theorem KW{K:Nat}{f:FuncId}{args:List AV}{v:AV}{J :Env}(hf:G f=some fn)(Y:fn.body=some c)(hl:args.length<=fn.ntmps)(he:e=.normal\/e=.ret)(h:aU T lv O K fn.ntmps mem.length true c ⟨dL 0 args,mem,false⟩=some (e,⟨J,mem',true⟩))(W:jT T fn.results.toList J mem' =some v)(F':mem'.length=mem.length)(H:v.refs mem.length=[])(I:∀s∈mem',s.refs mem.length=[]):aa T lv G O K f args mem=some ⟨v,some mem',[]⟩:=by
 have Z:mem'.take mem.length=mem' :=B5 (by omega);unfold aa;simp only[hf,Y];rw[if_pos hl,h];have X:qs mem.length mem' 1000 (v.refs mem.length++(mem'.take mem.length).flatMap (afl.refs mem.length)) []=[]:=by rw[H,Z,GM I];rfl
 rcases he with rfl | rfl
 .simp only[W,if_true]
  rw[X,Z];simp[DX,af4,y8 I,AV.afA H]
 .simp only[W,if_true]
  rw[X,Z];simp[DX,af4,y8 I,AV.afA H]
theorem uY{K N m0:Nat}{tp:Bool}{b:Code}{L:List Nat}(J:lv b=L)(d0 d1:Bool)(I:Env->Prop)(H:Env->Env->Prop)(h:∀Z,I Z->∃X,ga L (ad b) Z mem.length (aU T lv O K N m0 tp b) K ⟨aw L (ad b) Z Z,mem,d0⟩=some (e,⟨X,mem',d1⟩)/\H Z X):
  ∃F:Env->Env,∀Z,I Z->aU T lv O K N m0 tp (.loop b) ⟨Z,mem,d0⟩=some (e,⟨F Z,mem',d1⟩)/\H Z (F Z):=by
 obtain⟨F,S⟩:=vm (p:=fun Z _=>I Z) (q:=fun Z _ U =>aU T lv O K N m0 tp (.loop b) ⟨Z,mem,d0⟩=some (e,⟨U,mem',d1⟩)/\H Z U) (fun Z _ V=>by obtain⟨X,R,M⟩:=h Z V;exact⟨X,by rw[ba,J];exact R,M⟩)
 exact⟨fun Z=>F Z true,fun Z V=>S Z true V⟩
end
def gv:Code->List (Array Tmp×Code×Code)
 |.seq a b=>gv a++gv b
 |.cond _ a b=>gv a++gv b
 |.block _ b=>gv b
 |.loop b=>gv b
 |.rangeFunc _ ps a b=>[(ps,a,b)]
 |_=>[]
def fh(f:Func):List (Array Tmp×Code×Code):=match f.body with
 |some c=>gv c
 |none=>[]
theorem Ox{env:Env}(h:env.flatMap (fun e=>e.2.refs n)=[]):su (rho n ks) env=env:=by
 unfold su;rw[List.flatMap_eq_nil_iff] at h;conv=>rhs;rw[<-List.map_id env]
 apply List.map_congr_left;intro e Z;rw[AV.afA (h e Z)];rfl
attribute [simp] afl.adM
theorem cB{P:Program}{O:y9}(key:∀c Z M r,O c Z M=some r->qw P c Z M r):qS P O:=
 ⟨fun f Z M r h=>(key _ _ _ _ h).1,fun b Z M r h=>(key _ _ _ _ h).1,fun c Z M r p h X=>(key _ _ _ _ h).2 p X⟩
variable{M:Mem}
theorem dZ{P:Program}{O:y9}(H:qS P O){c:Go.Eng.Callee}{args:List AV}{r:afh}(h:O c args M=some r):qw P c args M r:=by
 refine⟨?_,fun q Z=>H.pre _ _ _ _ _ h Z⟩;cases c with
 |fn f=>exact H.fn _ _ _ _ h
 |yld b=>exact H.yld _ _ _ _ h
theorem aC{P:Program}{f:FuncId}{args:List AV}{new:Mem}{v:AV}(h:kO P f args M v (M++new)):qw P (.fn f) args M ⟨v,none,new⟩:=⟨h,fun q Z=>by cases Z⟩
theorem bH{P:Program}{f:FuncId}{args:List AV}{v:AV}(h:kO P f args M v M):qw P (.fn f) args M ⟨v,none,[]⟩:=aC (by simpa using h)
def agS(s s' :afl):Prop:=s=s' \/∃o es Z X,s' =.cells o es Z/\s=.cells o es X /\X <+: Z
theorem agS.row{k:IntKind}{o:Bool}{es:Nat}{l r:List Nat}(h:l <+: r):agS (.cells o es (iN k l)) (.cells o es (iN k r)):=by obtain⟨t,rfl⟩:=h;exact .inr ⟨o,es,_,_,rfl,rfl,iN k t,by rw[<-dC]⟩
theorem kO.agi{P:Program}{f:FuncId}{args:List AV}{m H m2:Mem}{v:AV}(h:kO P f args m v H)(I:m2.length=H.length)(hc:∀(b:Nat) s,m2[b]? =some s->∃R,H[b]? =some R /\agS s R):kO P f args m v m2:=by
 refine⟨h.1,fun base μ w Vs hG hH hV=>(h.2 base μ w Vs hG hH hV).mono ?_⟩;rintro e w' ⟨V,v',m',μ',rfl,q1,q2,q3,rfl,rfl⟩;have X:∀b Z,m2[b]? =some Z->∃U,m'[b]? =some U/\U.own=Z.own/\(U=.qK->Z=.qK)/\afx μ' m'.length base w' (μ' b) Z:=by
  intro b Z O;obtain⟨R,S,C⟩:=hc b Z O;rcases C with rfl | ⟨o,es,cs,Zt,rfl,rfl,F⟩
  .exact⟨Z,S,rfl,id,q2.slot b Z S⟩
  .refine⟨_,S,rfl,(fun h=>by cases h),?_⟩
   have:=q2.slot _ _ S;simp only[afx] at this |-;obtain⟨N,el,B,L,K,g3,Y,W⟩:=this;refine⟨N,el,B,L,K,QQJ F.length_le g3,fun j u D=>Y j u ?_,W⟩;obtain⟨t,rfl⟩:=F;rw[GE (gL D)];exact D
 refine⟨V,v',m2,μ',rfl,by rw[I];exact q1,q2.swap I X,⟨by rw[I];exact q3.len,q3.agree,q3.os,q3.tape,q3.output,q3.size,q3.frame,fun b O J=>?_,q3.drawn⟩,rfl,rfl⟩;obtain⟨s,L,K⟩:=O;obtain⟨U,k1,k2,_,_⟩:=X b s L;exact q3.owner b ⟨U,k1,by rw[k2];exact K⟩ J
variable{R:AV->Mem->Prop}
section
variable {P:Program}{T:TypeId->Option TyI}{O:y9}{K:Nat}{lv:Code->List Nat}
theorem afU.agj(hT:dN P T){f:FuncId}{args:List AV}(hf:P.funcs[f]? =some fn)(H:fn.body=some c)(I:(fn.name == "runtime.NumGoroutine")=false)(J:args.length<=fn.ntmps)(h:AWP P true fn.ntmps mem.length c ⟨dL 0 args,mem⟩ fun e U =>(e=.normal\/e=.ret)/\∃v,jT T fn.results.toList U.env U.mem=some v/\R v U.mem):
  afU P f args mem R:=by
 refine⟨⟨fn,hf,by simp[H],I⟩,fun base μ w Vs hG hH hV=>?_⟩;refine Ax.1 (callsIn_of_wp_marks (F:=Fr none) (n:=0) hf H trivial (wpIn_mono (h none w.heap.size base μ w _ (fun _=>rfl) hH ?_ ?_ (MOk.nil w hG hH.afr (L9 _)) (L9 _)) ?_) rfl)
 .intro t
  have:=xY 0 hV t;simp only[Nat.not_lt_zero,if_false,QQi] at this;by_cases N:t<Vs.length
  .have e:(⟨Vs⟩++Array.replicate (fn.ntmps-(⟨Vs⟩:Array Value).size) undef:Array Value).getD t undef=Vs.getD t undef:=by simp only[Array.getD_eq_getD_getElem?];rw[Array.getElem?_append_left (by simpa using N)];simp[List.getD]
   show afj μ mem.length (ae (dL 0 args) t) ((⟨Vs⟩++Array.replicate (fn.ntmps-(⟨Vs⟩:Array Value).size) undef:Array Value).getD t undef)
   rw[e];exact this
  .have:ae (dL 0 args) t=.undef:=by
    have u:=hV.length;have:∀(X:List AV) (i:Nat),i+X.length<=t->ae (dL i X) t=.undef:=by
     intro X;induction X with
     |nil=>intro i _;rfl
     |cons v X ih=>
      intro i L;simp only[List.length_cons] at L;simp only[dL,ae];rw[if_neg (by omega)];exact ih (i+1) (by omega)
    exact this args 0 (by omega)
   show afj μ mem.length (ae (dL 0 args) t) _
   rw[this];simp[afj]
 .simp only[Array.size_append,List.size_toArray,Array.size_replicate,hV.length];omega
 .rintro e a' w' ⟨U,μ',b1,b2,b3,b4,b5,b6,he,v,hv,hR⟩
  have Z:LeavesInM (Fr none) 0 P fn a'.tmps (fun e w' =>∃V v mem' μ',e=.returned V/\afj μ' mem'.length v V/\afv base μ' mem' w' /\Step mem.length μ mem w μ' mem' w' /\R v mem') a'.defers .returning w' :=by
   refine rZ a'.defers w' b4 b1 b6 fun w2 S D=>?_
   obtain⟨V,C,B⟩:=tT (P:=P) (fn:=fn) hT S b2 hv;exact⟨V,C,⟨V,_,_,_,rfl,B,S,D,hR⟩⟩
  rcases he with rfl | rfl
  .exact Z
  .exact Z
def cE(T:TypeId->Option TyI)(lv:Code->List Nat)(G:FuncId->Option Func)(O:y9)(K:Nat)(f:FuncId)(args:List AV)(mem:Mem):Option (AV×Mem):=
 match G f with
 |none=>none
 |some fn=>match fn.body with
  |none=>none
  |some c=>
   if args.length<=fn.ntmps then
    match aU T lv O K fn.ntmps mem.length true c ⟨dL 0 args,mem,false⟩ with
    |some (e,s)=>
     match e with
     |.normal | .ret=>
      match jT T fn.results.toList s.env s.mem with
      |some v=>some (v,s.mem)
      |none=>none
     |_=>none
    |none=>none
   else none
theorem cL(H:P.follows .mixedOrders=true)(hT:dN P T)(I:qS P O)(J:agC P G){f:FuncId}{args:List AV}{v:AV}(h:cE T lv G O K f args mem=some (v,mem')):kO P f args mem v mem' :=by
 unfold cE at h;split at h
 .cases h
 .rename_i fn X
  obtain⟨S,N,g3⟩:=J.fn _ _ X;split at h
  .cases h
  .rename_i c U
   split at h
   .rename_i L
    split at h
    .rename_i e s F
     obtain⟨D,_⟩:=dI H hT I (g3 c U) F;have Z:(e=.normal\/e=.ret)->(match jT T fn.results.toList s.env s.mem with
      |some v=>some (v,s.mem)
      |none=>none)=some (v,mem')->kO P f args mem v mem' :=by
      intro V h;split at h
      .rename_i v C
       cases h;exact afU.agj hT S U N L (D _ ⟨V,_,C,rfl,rfl⟩)
      .cases h
     split at h
     .exact Z (.inl rfl) h
     .exact Z (.inr rfl) h
     .cases h
    .cases h
   .cases h
theorem af3.agj{b:Nat}{args:List AV}(hb:mem[b]? =some (.loop r))(adS:r.st=.ready)(hl:args.length=r.ps.toList.length)(H:∀t∈r.ps.toList,t<r.N)(h:AWP P false r.N mem.length r.assign ⟨yR r.ps.toList args r.env,mem⟩ fun e Z=>e=.normal/\∃r1,Z.mem[b]? =some (.loop r1)/\r1.st=.ready/\
   AWP P false r.N mem.length r.body ⟨Z.env,Z.mem.set b (.loop { r1 with st:=.busy })⟩ fun e X=>∃r2 j,rY e=some j/\X.mem[b]? =some (.loop r2)/\
    R (.bool j.isNone) (X.mem.set b (.loop { r2 with st:=nC j,ago:=j }))):
  af3 P b args mem R:=by
 intro base μ w Vs hG hH hV Z4;have U:=hH.slot b _ hb;simp only[afx] at U;obtain⟨L,h1,h2,h3⟩:=U;have F':Vs.length=L.params.size:=by rw[hV.length,hl,h3.ps];simp
 refine⟨L.fn,(L.params.zip ⟨Vs⟩).foldl (fun tmps (t,a)=>tmps.setIfInBounds t a) L.tmps,L.assign,L.body,?_,?_⟩
 .simp only[Instr.yield,Sem.run_bind,ji h1,Result.andThen_ok]
  rw[if_neg (by simp[F'])];rfl
 .refine roundIn_of_wpIn (F:=Fence.wide) trivial ?_
  have S:(L.params.zip ⟨Vs⟩).foldl (fun tmps (t,a)=>tmps.setIfInBounds t a) L.tmps=(r.ps.toList.zip Vs).foldl (fun tmps (t,a)=>tmps.setIfInBounds t a) L.tmps:=by rw[h3.ps,<-Array.foldl_toList];simp
  have m:=Gz (ts:=r.ps.toList) hV h3.tmps hl (fun t ht=>by rw[h3.size];exact H t ht);rw[h3.assign,h3.body];refine wpIn_mono (F:=Fr (some (μ b).blk)) (h (some (μ b).blk) w.heap.size base μ w ⟨_,[]⟩ (fun h=>by cases h) hH (by rw[S];exact m.1) (by rw[S,m.2];exact h3.size) (MOk.nil w hG hH.afr (L9 _)) (L9 _)) ?_;rintro e a1 w1 ⟨Z,μ1,c1,c2,c3,c4,c5,c6,rfl,r1,c7,c8,hbody⟩;have D:=c1.slot b _ c7;simp only[afx] at D;obtain⟨L1,d1,d2,d3⟩:=D;have hμ:μ1 b=μ b:=c6.agree b Z4;rw[hμ] at d1;obtain⟨Y,W,B⟩:=wJ (P:=P) (r' :={ r1 with st:=.busy }) (L' :={ L1 with state:=.busy }) c1 c7 (by rw[hμ];exact d1) { d3 with st:=rfl };rw[hμ] at Y W B;refine⟨_,?_,wpIn_mono (F:=Fr (some (μ b).blk)) (hbody (some (μ b).blk) w.heap.size base μ1 _ a1 (fun h=>by cases h) W (by rw[QQc];exact c2) c3 (c4.step c1 B) (by rw[QQc];exact c5)) ?_⟩
  .simp only[Instr.beginRound,Sem.run_bind,ji d1,Result.andThen_ok,Y]
   rw[d3.st,c8];rfl
  .rintro e a2 w2 ⟨X,μ2,f1,f2,f3,f4,f5,f6,r2,j,f7,f8,f10⟩
   have C:=f1.slot b _ f8;simp only[afx] at C;obtain⟨L2,g1,g2,g3⟩:=C;have hμ2:μ2 b=μ b:=by rw[f6.agree b Z4,hμ]
   rw[hμ2] at g1;obtain⟨u,J,I⟩:=wJ (P:=P) (r' :={ r2 with st:=nC j,ago:=j }) (L' :={ L2 with state:=nC j,pending:=j }) f1 f8 (by rw[hμ2];exact g1) { g3 with st:=rfl,ago:=rfl };rw[hμ2] at u J I;have Y6:(Instr.endRound (μ b).blk j).run P w2=.ok (.bool j.isNone) { w2 with heap:=w2.heap.setIfInBounds (μ b).blk (.loop { L2 with state:=nC j,pending:=j }) }:=by unfold nC at u |-;simp only[Instr.endRound,Sem.run_bind,ji g1,Result.andThen_ok,u];rfl
   have hS:Step mem.length μ mem w _ _ _:=((c6.trans (B.mono c5)).trans f6).trans (I.mono f5);have o:∃V v mem' μ',(Ending.returned (.bool j.isNone):Ending)=.returned V/\afj μ' mem'.length v V/\afv base μ' mem' { w2 with heap:=w2.heap.setIfInBounds (μ b).blk (.loop { L2 with state:=nC j,pending:=j }) }/\
     Step mem.length μ mem w μ' mem' { w2 with heap:=w2.heap.setIfInBounds (μ b).blk (.loop { L2 with state:=nC j,pending:=j }) }/\R v mem' :=
    ⟨_,.bool j.isNone,_,_,rfl,by simp[afj],J,hS,f10⟩
   cases e<;>simp only[rY,Pi,reduceCtorEq] at f7<;>subst f7<;>exact⟨_,_,Y6,o⟩
def gR(T:TypeId->Option TyI)(lv:Code->List Nat)(O:y9)(K:Nat)(b:Nat)(args:List AV)(mem:Mem):Option (AV×Mem):=
 match mem[b]? with
 |some (.loop r)=>
  if r.st== .ready&&decide (args.length=r.ps.toList.length)&&r.ps.toList.all (fun t=>decide (t<r.N))&&dc r.assign&&dc r.body then
   match aU T lv O K r.N mem.length false r.assign ⟨yR r.ps.toList args r.env,mem,true⟩ with
   |some (.normal,s1)=>match s1.mem[b]? with
    |some (.loop r1)=>
     if r1.st== .ready then
      match aU T lv O K r.N mem.length false r.body ⟨s1.env,s1.mem.set b (.loop { r1 with st:=.busy }),true⟩ with
      |some (e,s2)=>match rY e,s2.mem[b]? with
       |some j,some (.loop r2)=>some (.bool j.isNone,s2.mem.set b (.loop { r2 with st:=nC j,ago:=j }))
       |_,_=>none
      |none=>none
     else none
    |_=>none
   |_=>none
  else none
 |_=>none
theorem jb(H:P.follows .mixedOrders=true)(hT:dN P T)(I:qS P O){b:Nat}{args:List AV}{v:AV}(h:gR T lv O K b args mem=some (v,mem')):gH P b args mem v mem' :=by
 unfold gR at h;split at h
 .rename_i J X
  split at h
  .rename_i V
   simp only[C0,Es,List.all_eq_true] at V;obtain⟨⟨⟨⟨U,S⟩,N⟩,L⟩,F⟩:=V;have Z:∀{x:LoopState},(x== .ready)=true->x=.ready:=fun {x} h=>by cases x<;>first | rfl | cases h
   split at h
   .rename_i s1 D
    obtain⟨C,a2⟩:=dI H hT I L D;split at h
    .rename_i r1 B
     split at h
     .rename_i u
      split at h
      .rename_i e s2 o
       obtain⟨m,b2⟩:=dI H hT I F o;split at h
       .rename_i j r2 Y W
        cases h;exact af3.agj X (Z U) S N (C _ ⟨rfl,r1,B,Z u,m _ ⟨r2,j,Y,W,rfl,rfl⟩⟩)
       .cases h
      .cases h
     .cases h
    .cases h
   .cases h
  .cases h
 .cases h
end
end Go.Eng
namespace Go.Eng
def Wf(es:Nat)(M:Mem)(x:AV)(n:Nat)(cs:List AV):Prop:=∃b o Z,x=.slice b 0 n none/\M[b]? =some (.cells o es Z)/\Z.take cs.length=cs
def KY(es:Nat)(M:Mem):AV->Option (List AV)
 |.slice b 0 n none=>match M[b]? with
  |some (.cells _ es' cs)=>if es' =es/\n*es<=cs.length then some (cs.take (n*es)) else none
  |_=>none
 |.qF=>some []
 |_=>none
variable{es:Nat}
theorem SE{M:Mem}{b n:Nat}{o:Bool}{cs H :List AV}(h:M[b]? =some (.cells o es H))(I:n*es<=H.length)(hc:H.take (n*es)=cs):KY es M (.slice b 0 n none)=some cs:=by simp[KY,h,I,hc]
theorem N4{M:Mem}{x:AV}{cs:List AV}(h:KY es M x=some cs):(∃n,cs.length=n*es/\Wf es M x n cs)\/(x=.qF/\cs=[]):=by
 unfold KY at h;split at h
 .rename_i b n
  split at h
  .rename_i o Z X U
   split at h
   .rename_i S
    obtain⟨rfl,R⟩:=S;cases h;have V:(X.take (n*Z)).length=n*Z :=by rw[S2];omega
    exact .inl ⟨n,V,b,o,X,rfl,U,by rw[V]⟩
   .cases h
  .cases h
 .cases h;exact .inr ⟨rfl,rfl⟩
 .cases h
theorem cw{ks:List Nat}{M:Mem}{b es:Nat}{o:Bool}{cs H :List AV}(hc:AV.afm cs=true)(h:M[b]? =some (.cells o es H))(I:H.take cs.length=cs):afX ks M b (.cells false es cs):=by
 refine⟨bj hc,o,H,h,fun j v Z=>?_⟩;have U:=gL Z;have S:H[j]? =cs[j]? :=by have:(H.take cs.length)[j]? =H[j]? :=QQQ U;rw[<-this,I]
 have X:=aL (ρ:=fa ks M.length) hc;rw[ix] at X;have V:(cs.map (AV.ren (fa ks M.length)))[j]? =cs[j]? :=by rw[X]
 rw[Zo,Z] at V;rw[S,Z];exact V.symm
variable{rest:List AV}
section
variable {P:Program}{f:FuncId}{M:Mem}{x y:AV}
theorem kO.agM{es n:Nat}{cs:List AV}{v:AV}{new:Mem}(hc:AV.afm cs=true)(hr:AV.afm rest=true)(H:new.all (fun s=>s.own||match s with | .qK=>true | _=>false)=true)(h:kO P f (.slice 0 0 n none::rest) [.cells false es cs] v (.cells false es cs::new))(I:Wf es M x n cs):
  ∃b,x=.slice b 0 n none/\b<M.length/\kO P f (x::rest) M (v.ren (fa [b] M.length)) (M++new.map (afl.ren (fa [b] M.length))):=by
 obtain⟨b,o,S,rfl,X,U⟩:=I;have V:=gL X;refine⟨b,rfl,V,?_⟩;have:=kO.frame (M:=M) [b] (m:=[.cells false es cs]) rfl (by simpa using V) (by simp only[AV.afp,AV.under,bj hr];rfl) (fun i s Z=>by
  cases i with
  |zero=>simp at Z;subst Z;exact cw hc X U
  |succ i=>simp at Z) H h
 simpa [AV.afz,AV.ren,fa,aL hr] using this
theorem kO.ahq{es I n J:Nat}{cs H:List AV}{v:AV}{new:Mem}(hc:AV.afm cs=true)(W:AV.afm H=true)(hr:AV.afm rest=true)(Y:new.all (fun s=>s.own||match s with | .qK=>true | _=>false)=true)(h:kO P f (.slice 0 0 n none::.slice 1 0 J none::rest) [.cells false es cs,.cells false I H] v (.cells false es cs::.cells false I H::new))(hx:Wf es M x n cs)(hy:Wf I M y J H):
  ∃b c,x=.slice b 0 n none/\y=.slice c 0 J none/\b<M.length/\c<M.length/\kO P f (x::y::rest) M (v.ren (fa [b,c] M.length)) (M++new.map (afl.ren (fa [b,c] M.length))):=by
 obtain⟨b,o,L,rfl,U,O⟩:=hx;obtain⟨c,K,N,rfl,Z,V⟩:=hy;have S:=gL U;have R :=gL Z;refine⟨b,c,rfl,rfl,S,R,?_⟩;have:=kO.frame (M:=M) [b,c] (m:=[.cells false es cs,.cells false I H]) rfl (by simp[S,R]) (by simp only[AV.afp,AV.under,bj hr];rfl) (fun i s X=>by
  match i with
  |0=>simp at X;subst X;exact cw hc U O
  |1=>simp at X;subst X;exact cw W Z V
  |i+2=>simp at X) Y h
 simpa [AV.afz,AV.ren,fa,aL hr] using this
theorem jS{v:AV}(ks:List Nat)(n:Nat)(H:v.closed=true):v.ren (fa ks n)=v:=by have:=aL (vs:=[v]) (ρ:=fa ks n) (by simp[AV.afm,H]);simpa [AV.afz] using this
theorem kO.agZ{es n:Nat}{cs:List AV}{v:AV}(hc:AV.afm cs=true)(hr:AV.afm rest=true)(H:v.closed=true)(h:kO P f (.slice 0 0 n none::rest) [.cells false es cs] v [.cells false es cs])(I:Wf es M x n cs):kO P f (x::rest) M v M:=by obtain⟨b,_,_,Z⟩:=kO.agM (new:=[]) hc hr rfl h I;simpa [jS _ _ H] using Z
theorem kO.agN{es I n W:Nat}{cs H:List AV}{v:AV}(hc:AV.afm cs=true)(J:AV.afm H=true)(hr:AV.afm rest=true)(Y:v.closed=true)(h:kO P f (.slice 0 0 n none::.slice 1 0 W none::rest) [.cells false es cs,.cells false I H] v [.cells false es cs,.cells false I H])(hx:Wf es M x n cs)(hy:Wf I M y W H):kO P f (x::y::rest) M v M:=by obtain⟨b,c,_,_,_,_,Z⟩:=kO.ahq (new:=[]) hc J hr rfl h hx hy;simpa [jS _ _ Y] using Z
end
end Go.Eng
namespace Go.Eng
mutual
def AV.same:AV->AV->Bool
 |.undef,.undef=>true
 |.bool a,.bool b=>a==b
 |.int k n,.int k' m=>decide (k=k')&&decide (n=m)
 |.str s,.str t=>s==t
 |.ptr b o,.ptr b' o' =>Nat.beq b b' &&Nat.beq o o'
 |.afw,.afw=>true
 |.slice b o n none,.slice b' o' n' none=>Nat.beq b b' &&Nat.beq o o' &&Nat.beq n n'
 |.qF,.qF=>true
 |.map b,.map b' =>Nat.beq b b'
 |.afG,.afG=>true
 |.func f Z,.func V X =>Nat.beq f V &&AV.agT Z X
 |.nilFunc,.nilFunc=>true
 |.nilIface,.nilIface=>true
 |.agg Z,.agg X =>AV.agT Z X
 |.tuple Z,.tuple X =>AV.agT Z X
 |_,_=>false
def AV.agT:List AV->List AV->Bool
 | [],[]=>true
 |v::vs,w::ws=>AV.same v w&&AV.agT vs ws
 |_,_=>false
end
structure ah9 where
 f:FuncId
 args:List AV
 m:Mem
 v:AV
 new:Mem
theorem sg{P:Program}{T:TypeId->Option TyI}{lv:Code->List Nat}{G:FuncId->Option Func}{O:y9}{K n:Nat}(H:P.follows .mixedOrders=true)(hT:dN P T)(I:agC P G)(J:qS P O){f:FuncId}{args:List AV}{m:Mem}{v:AV}{new:Mem}(h:(DQ T lv G O K n (.fn f) args m).map (fun r=>(r.v,r.mem m))=some (v,m++new)):kO P f args m v (m++new):=by rw[Y2] at h;obtain⟨r,Z,X⟩:=h;obtain⟨h3,V⟩:=Prod.mk.inj X;have:=(pD H hT I J n).fn _ _ _ _ Z;rw[h3,V] at this;exact this
open Classical in
noncomputable def qt(S:Callee->List AV->Mem->afh->Prop):y9:=fun c Z M=>if h:∃r,S c Z M r then some (Classical.choose h) else none
variable{S:Callee->List AV->Mem->afh->Prop}
theorem tn{P:Program}(h:∀c a M r,S c a M r->qw P c a M r):qS P (qt S):=cB fun c a M r Z=>by
 unfold qt at Z;split at Z
 .rename_i X
  cases Z;exact h _ _ _ _ (Classical.choose_spec X)
 .cases Z
variable{a:List AV}
theorem RG{c:Callee}{M:Mem}(h:∃r,S c a M r):∃r,qt S c a M=some r/\S c a M r:=by refine⟨_,?_,Classical.choose_spec h⟩;unfold qt;rw[dif_pos h]
theorem fj{c:Callee}{M:Mem}{r:afh}(h:S c a M r)(hd:∀Z,S c a M Z ->Z =r):qt S c a M=some r:=by obtain⟨Z,X,V⟩:=RG ⟨r,h⟩;rw[X,hd Z V]
theorem Cx(M X:Mem)(k:Nat):(M++X)[M.length+k]? =X[k]? :=by rw[V1 (by omega)];congr 1;omega
theorem xZ(M X:Mem):(M++X)[M.length]? =X[0]? :=Cx M X 0
theorem GS(M X:Mem)(k:Nat)(s:afl):(M++X).set (M.length+k) s=M++X.set k s:=by rw[List.set_append_right _ _ (by omega)];congr 2;omega
theorem VK(M X:Mem)(s:afl):(M++X).set M.length s=M++X.set 0 s:=GS M X 0 s
theorem wL(f:Nat->Bool):∀(i:Nat) (M:Mem),bn [] i M (bF f i M)=M
 |_,[]=>rfl
 |i,s::M=>by simp[bF,bn,wL f (i+1) M]
theorem uZ(f:Nat->Bool):∀(i:Nat) (M:Mem) (b:Nat),(bF f i M)[b]? =(M[b]?).map fun s=>if f (i+b) then s else .qK
 |_,[],_=>by simp[bF]
 |i,s::M,0=>by simp[bF]
 |i,s::M,b+1=>by simp[bF,uZ f (i+1) M b,QXX,QXJ 1 b]
theorem EO:∀(i:Nat) (M:Mem),bF (fun _=>true) i M=M
 |_,[]=>rfl
 |i,s::M=>by simp[bF,EO (i+1) M]
theorem Oh(a b:Nat):(a<=b/\b<a)=False:=by rw[eq_iff_iff,iff_false];omega
theorem zb:∀(i:Nat) (M:Mem),bn [] i M M=M
 |_,[]=>rfl
 |i,s::M=>by simp[bn,zb (i+1) M]
end Go.Eng
