/- See I36. -/
import Derived.Test.YtgafjliihahjgaaGreatDoorI03
set_option linter.all false
namespace Go.Eng
attribute [simp] tO yV jV au mM UA Ik MV ad get Y3 dV zE agW E2 tJ aOp ZN ZP ZO aUn Bk PT PR tN CO R6 oQ tM VX VZ yk VT cG PI ly fH Xr kf zm ZS
attribute [simp] pg AV.refs AV.ago agR E5 rho AV.ren AV.agd sP pe kV kJ afA.mem aJ mV H7 fN yf bef YI bJ bm Ps Xo iw aM eP jd AV.afF AV.af7 Oper.looksAt Op.operands Call.operands Region.binds AV.closed AV.af9
def aH:Code->List Code
 |.seq a b=>aH a++aH b
 |.cond _ a b=>aH a++aH b
 |.block _ b=>aH b
 |.loop b=>b::aH b
 |_=>[]
def ag(f:Func):List Code:=match f.body with
 |some c=>aH c
 |none=>[]
attribute [simp] ab
section
variable (T:TypeId->Option TyI)(lv:Code->List Nat)(O:af3)(K N m0:Nat)(tp:Bool)(s:XS)
theorem Sr:aT T lv O K N m0 tp .skip s=some (.normal,s):=rfl
theorem Sq(id:Nat):aT T lv O K N m0 tp (.exit id) s=some (.exit id,s):=rfl
theorem UD:aT T lv O K N m0 tp .ret s=some (.ret,s):=rfl
theorem Mu(id:Nat)(ops:Array Oper):aT T lv O K N m0 tp (.region id ops false) s=match fH T O N m0 ops ops.toList s with
  |some s' =>some (.normal,s')
  |none=>none:=rfl
theorem Sp(id:Nat)(ops:Array Oper):aT T lv O K N m0 tp (.region id ops true) s=match aJ T O N m0 ops s with
  |some s' =>some (.normal,s')
  |none=>none:=rfl
theorem UF(a b:Code):aT T lv O K N m0 tp (.seq a b) s=match aT T lv O K N m0 tp a s with
  |some (.normal,s')=>aT T lv O K N m0 tp b s'
  |r=>r:=rfl
theorem So(c:Operand)(a b:Code):aT T lv O K N m0 tp (.cond c a b) s=match get s.env c with
  |.bool true=>aT T lv O K N m0 tp a s
  |.bool false=>aT T lv O K N m0 tp b s
  |_=>none:=rfl
theorem O3(id:Nat)(b:Code):aT T lv O K N m0 tp (.block id b) s=match aT T lv O K N m0 tp b s with
  |some (.exit i,s')=>if i=id then some (.normal,s') else some (.exit i,s')
  |r=>r:=rfl
theorem aR(b:Code):aT T lv O K N m0 tp (.loop b) s=fW (lv b) (ab b) s.env s.mem.length (aT T lv O K N m0 tp b) K ⟨au (lv b) (ab b) s.env s.env,s.mem,s.agp⟩:=rfl
end
attribute [simp] Sr Sq UD Mu Sp UF So O3
open Classical in
theorem wE{p:Env->Bool->Prop}{q:Env->Bool->Env->Prop}(h:∀e d,p e d->∃X,q e d X):∃F:Env->Bool->Env,∀e d,p e d->q e d (F e d):=
 ⟨fun e d=>if Z:p e d then Classical.choose (h e d Z) else [],fun e d Z=>by simp only[dif_pos Z];exact Classical.choose_spec (h e d Z)⟩
theorem bW{α:Type}{f:XS->Option (Exit×XS)}{lv wr:List Nat}{R:Env}{m1:Nat}(S:α->XS)(m:α->Nat)(Inv:α->Prop)(H:Exit) (y :Mem) (I :Bool)(Q:Env->Prop)(he:H≠ .normal)
  (h:∀a,Inv a->(∃X W,f (S a)=some (.normal,W)/\mM lv wr R m1 W =S X /\Inv X /\m X <m a)\/(∃Z,f (S a)=some (H,⟨Z,y,I⟩)/\Q Z)):
  ∀k a,Inv a->m a<k->∃Z,fW lv wr R m1 f k (S a)=some (H,⟨Z,y,I⟩)/\Q Z
 |0,a,_,hk=>by omega
 |k+1,a,ha,hk=>by
  unfold fW;rcases h a ha with⟨X,W,V,O,h3,M⟩ | ⟨Z,V,h3⟩
  .rw[V]
   simp only[O];exact bW S m Inv H y I Q he h k X h3 (by omega)
  .rw[V]
   refine⟨Z,?_,h3⟩;cases H<;>first | rfl | exact absurd rfl he
theorem bG{T:TypeId->Option TyI}{lv:Code->List Nat}{O:af3}{K N m0:Nat}{tp:Bool}{b:Code}{L:List Nat}(Q:lv b=L){mem y :Mem}{e:Exit}(I:Env->Prop)(H:Env->Env->Prop)(h:∀Z d,I Z->∃X,fW L (ab b) Z mem.length (aT T lv O K N m0 tp b) K ⟨au L (ab b) Z Z,mem,d⟩=some (e,⟨X,y,d⟩)/\H Z X):
  ∃F:Env->Bool->Env,∀Z d,I Z->aT T lv O K N m0 tp (.loop b) ⟨Z,mem,d⟩=some (e,⟨F Z d,y,d⟩)/\H Z (F Z d):=by
 refine wE (p:=fun Z _=>I Z) (q:=fun Z d W =>aT T lv O K N m0 tp (.loop b) ⟨Z,mem,d⟩=some (e,⟨W,y,d⟩)/\H Z W) ?_;intro Z d V;obtain⟨X,S,M⟩:=h Z d V;exact⟨X,by rw[aR,Q];exact S,M⟩
theorem Io{n:Int}(h0:0<=n)(h1:n<=255):IntKind.u8.wrap n=n:=by simp only[IntKind.wrap,IntKind.bits,IntKind.signed,Bool.false_and,Bool.false_eq_true,if_false];omega
def Qh(i:Option TyI):Bool:=match i with
 |some i=>match i.desc with
  |.interface _=>true
  |_=>false
 |none=>false
theorem R8{T:TypeId->Option TyI}{t:TypeId}(h:Qh (T t)=true)(r c:Bool):R7 T t r c .nilIface .nilIface=if r||c then some true else none:=by
 unfold Qh at h;unfold R7;cases hT:T t with
 |none=>rw[hT] at h;cases h
 |some i=>
  rw[hT] at h;simp only at h |-;cases hd:i.desc<;>rw[hd] at h<;>first | (cases h;done) | rfl
mutual
def AV.under(n:Nat):AV->Bool
 |.ptr b _=>decide (b<n)
 |.slice b _ _ _=>decide (b<n)
 |.map b=>decide (b<n)
 |.yield b=>decide (b<n)
 |.func _ Z=>AV.agn n Z
 |.iface _ v=>v.under n
 |.agg Z=>AV.agn n Z
 |.tuple Z=>AV.agn n Z
 |_=>true
def AV.agn(n:Nat):List AV->Bool
 | []=>true
 |v::vs=>v.under n&&AV.agn n vs
end
def eg(ks:List Nat)(n:Nat)(b:Nat):Option Nat:=if b<ks.length then some (ks.getD b 0) else some (n+(b-ks.length))
mutual
theorem af4.ag0{μ:Nat->Place}{N:Nat}{ks:List Nat}{y:Nat}:∀{v V},v.under ks.length=true->af4 μ N (v.ren (eg ks y)) V->af4 (fun i=>μ (ks.getD i 0)) ks.length v V
 |.undef,V,_,_=>by simp[af4]
 |.bool b,V,_,h=>by simpa [AV.ren,af4] using h
 |.int k i,V,_,h=>by simpa [AV.ren,af4] using h
 |.str s,V,_,h=>by simpa [AV.ren,af4] using h
 |.ptr b o,V,hb,h=>by simp only[AV.under,L0] at hb;simp only[AV.ren,eg,hb,if_true,af4] at h |-;exact⟨trivial,h.2⟩
 |.agk,V,_,h=>by simpa [AV.ren,af4] using h
 |.slice b o l c,V,hb,h=>by simp only[AV.under,L0] at hb;simp only[AV.ren,eg,hb,if_true,af4] at h |-;exact⟨trivial,h.2⟩
 |.y9,V,_,h=>by simpa [AV.ren,af4] using h
 |.map b,V,hb,h=>by simp only[AV.under,L0] at hb;simp only[AV.ren,eg,hb,if_true,af4] at h |-;exact⟨trivial,h.2⟩
 |.yield b,V,hb,h=>by simp only[AV.under,L0] at hb;simp only[AV.ren,eg,hb,if_true,af4] at h |-;exact⟨trivial,h.2⟩
 |.agu,V,_,h=>by simpa [AV.ren,af4] using h
 |.func f X,V,hb,h=>by simp only[AV.under] at hb;simp only[AV.ren,af4] at h |-;obtain⟨Z,rfl,h⟩:=h;exact⟨Z,rfl,af5.ag0 hb h⟩
 |.nilFunc,V,_,h=>by simpa [AV.ren,af4] using h
 |.iface t v,V,hb,h=>by simp only[AV.under] at hb;simp only[AV.ren,af4] at h |-;obtain⟨U,rfl,h⟩:=h;exact⟨U,rfl,af4.ag0 hb h⟩
 |.nilIface,V,_,h=>by simpa [AV.ren,af4] using h
 |.agg X,V,hb,h=>by simp only[AV.under] at hb;simp only[AV.ren,af4] at h |-;obtain⟨Z,rfl,h⟩:=h;exact⟨Z,rfl,af5.ag0 hb h⟩
 |.tuple X,V,hb,h=>by simp only[AV.under] at hb;simp only[AV.ren,af4] at h |-;obtain⟨Z,rfl,h⟩:=h;exact⟨Z,rfl,af5.ag0 hb h⟩
theorem af5.ag0{μ:Nat->Place}{N:Nat}{ks:List Nat}{y:Nat}:∀{vs Us},AV.agn ks.length vs=true->af5 μ N (AV.agd (eg ks y) vs) Us->af5 (fun i=>μ (ks.getD i 0)) ks.length vs Us
 | [],Us,_,h=>by simpa [AV.agd,af5] using h
 |v::vs,Us,hb,h=>by simp only[AV.agn,Es] at hb;simp only[AV.agd,af5] at h |-;obtain⟨U,Z,rfl,X,W⟩:=h;exact⟨U,Z,rfl,af4.ag0 hb.1 X,af5.ag0 hb.2 W⟩
end
def agH(ks:List Nat)(M:Mem)(k:Nat):af6->Prop
 |.HS=>True
 |.cells false es cs=>AV.agn ks.length cs=true/\∃o X,M[k]? =some (.cells o es X)/\∀(j:Nat) v,cs[j]? =some v->X[j]? =some (v.ren (eg ks M.length))
 |.agC es=>∃Z,(M[k]? =some (.agC Z)\/M[k]? =some (.map Z))/\Z.length=es.length/\
   ∀(j:Nat) e,es[j]? =some e->(e.1.under ks.length=true/\e.2.under ks.length=true)/\Z[j]? =some (e.1.ren (eg ks M.length),e.2.ren (eg ks M.length))
 |_=>False
theorem Gs{n:Nat}:∀{cs:List AV},AV.agn n cs=true->∀(j:Nat) v,cs[j]? =some v->v.under n=true
 | [],_,j,v,h=>by simp at h
 |c::cs,h,j,v,hj=>by
  simp only[AV.agn,Es] at h;cases j with
  |zero=>simp at hj;subst hj;exact h.1
  |succ j=>exact Gs h.2 j v (by simpa using hj)
theorem Bb{α:Type}{cs y :List α}{g:α->α}(h:∀(j:Nat) v,cs[j]? =some v->y[j]? =some (g v)):cs.length<=y.length:=by
 by_cases Z:cs.length=0
 .omega
 .have:=h (cs.length-1) (cs[cs.length-1]'(by omega)) (by simp)
  have:=gL this;omega
section
variable {P:Program}
theorem kO.frame{f:FuncId}{args:List AV}{m new M:Mem}{v:AV}(ks:List Nat)(hl:m.length=ks.length)(hk:∀k∈ks,k<M.length)(ha:AV.agn ks.length args=true)(hm:∀(i:Nat) s,m[i]? =some s->agH ks M (ks.getD i 0) s)(hn:new.all (fun s=>s.own||match s with | .HS=>true | _=>false)=true)(h:kO P f args m v (m++new)):kO P f (AV.agd (eg ks M.length) args) M (v.ren (eg ks M.length)) (M++new.map (af6.ren (eg ks M.length))):=by
 refine⟨h.1,fun base μ w Vs hG hH hV=>?_⟩;have R:∀b,¬fJ m b:=by
  rintro b ⟨s,S,D⟩;have:=hm b s S;cases s with
  |HS=>cases D
  |cells own es cs=>simp only[af6.own] at D;subst D;exact this
  |map es=>exact this
  |agC es=>cases D
  |loop r=>exact this
 have hms:agh base (fun i=>μ (ks.getD i 0)) m w:=by
  refine⟨hH.agb,fun b s S=>?_,fun b K s' X=>absurd X (R b)⟩;have J:=hm b s S;cases s with
  |HS=>trivial
  |map es=>exact J.elim
  |agC es=>
   obtain⟨es',h1,h2,h3⟩:=J;have S:∃z G',w.heap[(μ (ks.getD b 0)).blk]? =some (.map z G')/\Fe z G'/\z.size=es'.length/\∀(j:Nat) e,es'[j]? =some e->∃E,z[j]? =some E/\QJ μ M.length e E:=by
    rcases h1 with h1 | h1
    .have:=hH.slot _ _ h1;simpa only[agj] using this
    .have:=hH.slot _ _ h1
     simp only[agj] at this;obtain⟨z,G',k1,k2,k3,k4⟩:=this;exact⟨z,G',k1,k2.2,k3,k4⟩
   obtain⟨z,G',k1,k2,k3,k4⟩:=S;simp only[agj];refine⟨z,G',k1,k2,by omega,fun j e he=>?_⟩;obtain⟨⟨u1,u2⟩,u3⟩:=h3 j e he;obtain⟨E,hE,r1,r2⟩:=k4 j _ u3;rw[hl];exact⟨E,hE,af4.ag0 u1 r1,af4.ag0 u2 r2⟩
  |loop r=>exact J.elim
  |cells own es cs=>
   cases own with
   |true=>exact J.elim
   |false=>
    obtain⟨X,o,cs',h1,h2⟩:=J;have:=hH.slot _ _ h1;simp only[agj] at this |-;obtain⟨cur,e,fr,g1,g2,g3,g4,_⟩:=this;refine⟨cur,e,fr,g1,g2,QQJ (Bb h2) g3,fun j u hj=>?_,fun h=>by cases h⟩;obtain⟨V,hV,hr⟩:=g4 j _ (h2 j u hj);rw[hl];exact⟨V,hV,af4.ag0 (Gs X j u hj) hr⟩
 have aaO:=af5.ag0 ha hV;rw[<-hl] at aaO;refine(h.2 base _ w Vs hG hms aaO).mono ?_;rintro e w' ⟨V,v',mem',μ',rfl,q1,q2,q3,rfl,rfl⟩;have Y:agx w w' :=⟨q3.size,fun k hk=>q3.frame k hk fun b X=>absurd X (R b),q3.os,q3.tape,q3.output,q3.drawn⟩;have Q:∀b,fJ (m++new) b->w.heap.size<=(μ' b).blk:=by
  intro b X;by_cases I:(μ' b).blk<w.heap.size
  .obtain⟨b0,h0,_⟩:=q3.owner b X I
   exact absurd h0 (R b0)
  .omega
 obtain⟨μ2,hμ2⟩:=xE (α:=Nat->Place) (fun b=>if b<M.length then μ b else μ' (b-M.length+m.length));have W:∀b,b<M.length->μ2 b=μ b:=fun b X=>by rw[hμ2];simp[X]
 have O:∀i,μ2 (M.length+i)=μ' (m.length+i):=fun i=>by rw[hμ2];simp only;rw[if_neg (by omega)];congr 1;omega
 have hρ:∀b K,b<(m++new).length->eg ks M.length b=some K ->K <(M++new.map (af6.ren (eg ks M.length))).length/\μ2 K =μ' b:=by
  intro b K X C;simp only[Nm,QQi] at X |-;unfold eg at C;split at C
  .rename_i I
   cases C;have aaL:ks.getD b 0∈ks:=by rw[List.getD_eq_getElem?_getD,GT I,Option.getD_some];exact List.getElem_mem I
   have:=hk _ aaL;refine⟨by omega,?_⟩;rw[W _ this];exact(q3.agree b (by omega)).symm
  .rename_i I
   cases C;refine⟨by omega,?_⟩;rw[O,show m.length+(b-ks.length)=b by omega]
 have B:∀b s,(M++new.map (af6.ren (eg ks M.length)))[b]? =some s->(b<M.length/\M[b]? =some s)\/∃i Z,b=M.length+i/\new[i]? =some Z/\s=Z.ren (eg ks M.length):=by
  intro b s S;by_cases X:b<M.length
  .rw[Hi X] at S
   exact .inl ⟨X,S⟩
  .rw[Pi (by omega),QQX] at S
   simp only[Pl] at S;obtain⟨Z,h1,h2⟩:=S;exact .inr ⟨b-M.length,Z,by omega,h1,h2.symm⟩
 have H:∀i Z,new[i]? =some Z->(m++new)[m.length+i]? =some Z:=by intro i Z h;rw[Pi (by omega),Nat.add_sub_cancel_left];exact h
 have A:∀i Z,new[i]? =some Z->Z≠ .HS->fJ (m++new) (m.length+i):=by intro i Z h y;refine⟨Z,H i Z h,?_⟩;have:=List.all_eq_true.1 hn Z (Lo h);cases Z<;>simp_all
 have G:∀Z:af6,Z.ren (eg ks M.length)≠ .HS->Z≠ .HS:=by rintro Z h rfl;exact h rfl
 refine⟨V,_,_,μ2,rfl,q1.ren hρ,⟨QQJ hH.agb Y.size,fun b s S=>?_,fun b K s' X C y hbb=>?_⟩,?_,rfl,rfl⟩
 .rcases B b s S with⟨X,h1⟩ | ⟨i,Z,rfl,h1,rfl⟩
  .rw[W b X]
   refine(hH.slot b s h1).mono (by simp) W fun y=>Y.heap _ ((hH.slot b s h1).agN y)
  .rw[O]
   exact(q2.slot _ Z (H i Z h1)).ren hρ
 .obtain⟨s,S,D⟩:=X
  have adg:=af6.agE D;rcases B b s S with⟨X,h1⟩ | ⟨i,Z,rfl,h1,rfl⟩<;>rcases B K s' C with⟨C,F⟩ | ⟨i',s0',rfl,F,rfl⟩
  .rw[W b X,W K C]
   exact hH.sep b K s' ⟨s,h1,D⟩ F y hbb
  .rw[W b X,O]
   have g1:=(hH.slot b s h1).agN adg;have g2:=Q _ (A i' s0' F (G _ y));omega
  .rw[W K C,O]
   have g1:=(hH.slot K s' F).agN y;have g2:=Q _ (A i Z h1 (G _ adg));omega
  .rw[O,O]
   exact q2.sep _ _ s0' (A i Z h1 (G _ adg)) (H i' s0' F) (G _ y) (by omega)
 .refine⟨by simp,W,Y.os,Y.tape,Y.output,Y.size,fun k hk _=>Y.heap k hk,fun b X I=>?_,Y.drawn⟩
  obtain⟨s,S,D⟩:=X;rcases B b s S with⟨X,h1⟩ | ⟨i,Z,rfl,h1,rfl⟩
  .exact⟨b,⟨s,h1,D⟩,by rw[W b X]⟩
  .rw[O] at I
   have:=Q _ (A i Z h1 (G _ (af6.agE D)));omega
end
def iN(k:IntKind)(l:List Nat):List AV:=l.map fun n:Nat=>.int k (n:Int)
def iZ(l:List Int):List AV:=l.map fun n=>.int .i64 n
section
variable (k:IntKind)
theorem UR:iN k []=[]:=rfl
theorem de(n:Nat)(l:List Nat):iN k (n::l)=.int k (n:Int)::iN k l:=rfl
theorem UQ(l:List Nat):(iN k l).length=l.length:=by simp[iN]
theorem eO(l r:List Nat):iN k (l++r)=iN k l++iN k r:=by simp[iN]
section
variable (l:List Nat)
include l
theorem Yz(n:Nat):iN k l++[.int k (n:Int)]=iN k (l++[n]):=by simp[iN]
theorem UP(i:Nat):(iN k l)[i]? =(l[i]?).map fun n:Nat=>.int k (n:Int):=by simp[iN]
theorem Sv(i:Nat)(h:i<(iN k l).length):(iN k l)[i]=.int k ((l[i]'(by simpa [iN] using h):Nat):Int):=by simp[iN]
theorem jF(i:Nat):(iN k l).take i=iN k (l.take i):=by simp[iN]
theorem sM(i:Nat):(iN k l).drop i=iN k (l.drop i):=by simp[iN]
theorem Zk:(iN k l).all AV.af2=true:=by simp[iN,AV.af2]
end
theorem Qw(m:Nat)(l:List Nat):AV.ago m (iN k l)=[]:=by
 induction l with
 |nil=>rfl
 |cons x l ih=>simp[de,AV.ago,AV.refs,ih]
theorem VD(ρ:Nat->Option Nat)(l:List Nat):AV.agd ρ (iN k l)=iN k l:=by
 induction l with
 |nil=>rfl
 |cons x l ih=>simp[de,AV.agd,AV.ren,ih]
theorem Nn(m:Nat)(l:List Nat):AV.agn m (iN k l)=true:=by
 induction l with
 |nil=>rfl
 |cons x l ih=>simp[de,AV.agn,AV.under,ih]
theorem Gd(ok:Nat->Bool)(l:List Nat):AV.af7 ok (iN k l)=true:=by
 induction l with
 |nil=>rfl
 |cons x l ih=>simp[de,AV.af7,AV.afF,ih]
theorem Na(m:Nat)(o:Bool)(e:Nat)(l:List Nat):af6.refs m (.cells o e (iN k l))=[]:=by simp[af6.refs,Qw]
theorem Pw(ρ:Nat->Option Nat)(o:Bool)(e:Nat)(l:List Nat):af6.ren ρ (.cells o e (iN k l))=.cells o e (iN k l):=by simp[af6.ren,VD]
theorem E8(ok:Nat->Bool)(o:Bool)(e:Nat)(l:List Nat):af6.afF ok (.cells o e (iN k l))=true:=by simp[af6.afF,Gd]
theorem xH(l:Nat):lL [.int k 0] l=iN k (List.replicate l 0):=by
 induction l with
 |zero=>rfl
 |succ l ih=>rw[lL,ih,List.replicate_succ,de];rfl
end
attribute [simp] UR UQ UP Sv Qw VD Nn Gd Na Pw E8 Zk
attribute [simp] If Bf TyI.isAgg af6.refs af6.ren AV.under AV.agn af6.own kz mg kh Ih uK uL Y0 gJ qR lL AV.known AV.cells AV.af2
def zX(k:IntKind):List AV->Option (List Nat)
 | []=>some []
 |.int k' n::l=>if k' =k/\0<=n then match zX k l with
  |some r=>some (n.toNat::r)
  |none=>none
  else none
 |_::_=>none
theorem Vk(k:IntKind)(l:List Nat):zX k (iN k l)=some l:=by
 induction l with
 |nil=>rfl
 |cons x l ih=>rw[de,zX,if_pos ⟨rfl,by omega⟩,ih];simp
theorem DI{k:IntKind}:∀{l:List AV} {r:List Nat},zX k l=some r->l=iN k r
 | [],r,h=>by cases h;rfl
 |v::l,r,h=>by
  cases v<;>first | (unfold zX at h;cases h;done) | skip
  rename_i X n;unfold zX at h;split at h
  .rename_i hc
   split at h
   .rename_i W Z
    cases h;rw[de,DI Z,hc.1];congr 2;omega
   .cases h
  .cases h
def Zz(k:IntKind)(M:Mem):AV->Option (List Nat)
 |.y9=>some []
 |.slice b o n _=>match M[b]? with
  |some (.cells _ 1 cs)=>if o+n<=cs.length then zX k ((cs.drop o).take n) else none
  |_=>none
 |_=>none
theorem fe{l:List Nat}{i:Nat}(h:i<l.length):∃x,l[i]? =some x/\l[i]=x:=⟨l[i],by simp,rfl⟩
mutual
theorem zG{n:Nat}:∀{v:AV},v.closed=true->v.under n=true
 |.ptr _ _,h=>by simp[AV.closed] at h
 |.slice _ _ _ _,h=>by simp[AV.closed] at h
 |.map _,h=>by simp[AV.closed] at h
 |.yield _,h=>by simp[AV.closed] at h
 |.func _ Z,h=>by simp only[AV.closed] at h;simp only[AV.under];exact cT h
 |.iface _ v,h=>by simp only[AV.closed] at h;simp only[AV.under];exact zG h
 |.agg Z,h=>by simp only[AV.closed] at h;simp only[AV.under];exact cT h
 |.tuple Z,h=>by simp only[AV.closed] at h;simp only[AV.under];exact cT h
 |.undef,_=>rfl
 |.bool _,_=>rfl
 |.int _ _,_=>rfl
 |.str _,_=>rfl
 |.agk,_=>rfl
 |.y9,_=>rfl
 |.agu,_=>rfl
 |.nilFunc,_=>rfl
 |.nilIface,_=>rfl
theorem cT{n:Nat}:∀{vs:List AV},AV.af9 vs=true->AV.agn n vs=true
 | [],_=>rfl
 |v::vs,h=>by simp only[AV.af9,Es] at h;simp only[AV.agn,zG h.1,cT h.2];rfl
end
mutual
theorem Gf{ρ:Nat->Option Nat}:∀{v:AV},v.closed=true->v.ren ρ=v
 |.ptr _ _,h=>by simp[AV.closed] at h
 |.slice _ _ _ _,h=>by simp[AV.closed] at h
 |.map _,h=>by simp[AV.closed] at h
 |.yield _,h=>by simp[AV.closed] at h
 |.func _ Z,h=>by simp only[AV.closed] at h;simp only[AV.ren,ca h]
 |.iface _ v,h=>by simp only[AV.closed] at h;simp only[AV.ren,Gf h]
 |.agg Z,h=>by simp only[AV.closed] at h;simp only[AV.ren,ca h]
 |.tuple Z,h=>by simp only[AV.closed] at h;simp only[AV.ren,ca h]
 |.undef,_=>rfl
 |.bool _,_=>rfl
 |.int _ _,_=>rfl
 |.str _,_=>rfl
 |.agk,_=>rfl
 |.y9,_=>rfl
 |.agu,_=>rfl
 |.nilFunc,_=>rfl
 |.nilIface,_=>rfl
theorem ca{ρ:Nat->Option Nat}:∀{vs:List AV},AV.af9 vs=true->AV.agd ρ vs=vs
 | [],_=>rfl
 |v::vs,h=>by simp only[AV.af9,Es] at h;simp only[AV.agd,Gf h.1,ca h.2]
end
theorem ye(s n:Nat):(s:Int).tmod (n:Int)=((s%n:Nat):Int):=rfl
theorem yd(s n:Nat):(s:Int).tdiv (n:Int)=((s / n:Nat):Int):=rfl
theorem By(s n:Nat):(s:Int).tmod (OfNat.ofNat n)=((s%n:Nat):Int):=rfl
theorem XC(s n:Nat):(s:Int).tdiv (OfNat.ofNat n)=((s / n:Nat):Int):=rfl
theorem M9(m:Nat)(a b:List AV):AV.ago m (a++b)=AV.ago m a++AV.ago m b:=by
 induction a with
 |nil=>rfl
 |cons x a ih=>simp[AV.ago,ih]
theorem Py(ρ:Nat->Option Nat)(a b:List AV):AV.agd ρ (a++b)=AV.agd ρ a++AV.agd ρ b:=by
 induction a with
 |nil=>rfl
 |cons x a ih=>simp[AV.agd,ih]
theorem jq(ok:Nat->Bool)(a b:List AV):AV.af7 ok (a++b)=(AV.af7 ok a&&AV.af7 ok b):=by
 induction a with
 |nil=>rfl
 |cons x a ih=>simp[AV.af7,ih,Bool.and_assoc]
attribute [simp] M9 Py jq
def agi(k:IntKind)(M:Mem)(x:AV)(A:List Nat):Prop:=∃b o Z,x=.slice b 0 A.length none/\M[b]? =some (.cells o 1 Z)/\Z.take A.length=iN k A
def cb(k:IntKind)(M:Mem):AV->Option (List Nat)
 |.slice b 0 n none=>match M[b]? with
  |some (.cells _ 1 cs)=>if n<=cs.length then zX k (cs.take n) else none
  |_=>none
 |_=>none
theorem cD{k:IntKind}{M:Mem}{x:AV}{A:List Nat}(h:cb k M x=some A):agi k M x A:=by
 unfold cb at h;split at h
 .rename_i b n
  split at h
  .rename_i o X W
   split at h
   .rename_i S
    have Z:=DI h;have V:n=A.length:=by have:=congrArg List.length Z;simp at this;omega
    subst V;exact⟨b,o,X,rfl,W,Z⟩
   .cases h
  .cases h
 .cases h
variable{b:Nat}{cs:List AV}
theorem bq{k:IntKind}{M:Mem}{n:Nat}{y:Bool}{A:List Nat}(h:M[b]? =some (.cells y 1 cs))(H:n<=cs.length)(I:cs.take n=iN k A):cb k M (.slice b 0 n none)=some A:=by simp only[cb,h];rw[if_pos H,I,Vk]
variable{o:Bool}
theorem agH.row{k:IntKind}{ks:List Nat}{M:Mem}{A:List Nat}(h:M[b]? =some (.cells o 1 cs))(y:cs.take A.length=iN k A):agH ks M b (.cells false 1 (iN k A)):=by
 refine⟨Nn _ _ _,o,cs,h,fun j v Z=>?_⟩;have X:j<A.length:=by have:=gL Z;simpa using this
 have:cs[j]? =(iN k A)[j]? :=by rw[<-y,QQQ X]
 rw[this,Z];rw[UP] at Z;simp only[Pl] at Z;obtain⟨n,_,rfl⟩:=Z;simp[AV.ren]
section
variable {P:Program}{k:IntKind}{f:FuncId}{A B:List Nat}{M:Mem}{x y:AV}
theorem kO.aip{rest:List AV}{v:AV}{new:Mem}(hr:AV.af9 rest=true)(H:new.all (fun s=>s.own||match s with | .HS=>true | _=>false)=true)(h:kO P f (.slice 0 0 A.length none::rest) [.cells false 1 (iN k A)] v (.cells false 1 (iN k A)::new))(hx:agi k M x A):
  ∃b,x=.slice b 0 A.length none/\kO P f (x::rest) M (v.ren (eg [b] M.length)) (M++new.map (af6.ren (eg [b] M.length))):=by
 obtain⟨b,o,cs,rfl,X,W⟩:=hx;refine⟨b,rfl,?_⟩;have V:=gL X;have:=kO.frame (M:=M) [b] (m:=[.cells false 1 (iN k A)]) rfl (by simpa using V) (by simp only[AV.agn,AV.under,cT hr];rfl) (fun i s Z=>by
  cases i with
  |zero=>simp at Z;subst Z;exact .row X W
  |succ i=>simp at Z) H h
 simpa [AV.agd,AV.ren,eg,ca hr] using this
theorem kO.ag8{v:AV}{new:Mem}(H:new.all (fun s=>s.own||match s with | .HS=>true | _=>false)=true)(h:kO P f [.slice 0 0 A.length none,.slice 1 0 B.length none] [.cells false 1 (iN k A),.cells false 1 (iN k B)] v (.cells false 1 (iN k A)::.cells false 1 (iN k B)::new))(hx:agi k M x A)(I:agi k M y B):
  ∃b c,x=.slice b 0 A.length none/\y=.slice c 0 B.length none/\kO P f [x,y] M (v.ren (eg [b,c] M.length)) (M++new.map (af6.ren (eg [b,c] M.length))):=by
 obtain⟨b,o,cs,rfl,W,V⟩:=hx;obtain⟨c,J,S,rfl,hc,X⟩:=I;refine⟨b,c,rfl,rfl,?_⟩;have O:=gL W;have K :=gL hc;have:=kO.frame (M:=M) [b,c] (m:=[.cells false 1 (iN k A),.cells false 1 (iN k B)]) rfl (by simp[O,K]) (by simp) (fun i s Z=>by
  match i with
  |0=>simp at Z;subst Z;exact .row W V
  |1=>simp at Z;subst Z;exact .row hc X
  |i+2=>simp at Z) H h
 simpa [AV.agd,AV.ren,eg] using this
theorem kO.ahZ{args:List AV}{m:Mem}{v:AV}{es:Nat}{H :List AV}(h:kO P f args m v (m++[af6.cells o es cs]))(I:H <+: cs):kO P f args m v (m++[af6.cells o es H]):=by
 refine⟨h.1,fun base μ w Vs hG hH hV=>(h.2 base μ w Vs hG hH hV).mono ?_⟩;rintro e w' ⟨V,v',m',μ',rfl,q1,q2,q3,rfl,rfl⟩;have W:∀b Z,(m++[af6.cells o es H])[b]? =some Z->∃S,(m++[af6.cells o es cs])[b]? =some S/\S.own=Z.own/\(S=.HS->Z=.HS)/\agj μ' (m++[af6.cells o es cs]).length base w' (μ' b) Z:=by
  intro b Z X;by_cases K:b<m.length
  .rw[Hi K] at X
   have O :(m++[af6.cells o es cs])[b]? =some Z:=gU X _;exact⟨Z,O,rfl,id,q2.slot b Z O⟩
  .have J:b=m.length:=by have:=gL X;simp at this;omega
   subst J;simp at X;subst X;have O :(m++[af6.cells o es cs])[m.length]? =some (af6.cells o es cs):=by simp
   refine⟨_,O,rfl,(fun h=>by cases h),?_⟩;have:=q2.slot _ _ O;simp only[agj] at this |-;obtain⟨G,el,Y,F,D,g3,R,Q⟩:=this;refine⟨G,el,Y,F,D,QQJ I.length_le g3,fun j u z=>R j u ?_,Q⟩;obtain⟨t,rfl⟩:=I;rw[Hi (gL z)];exact z
 have C:(m++[af6.cells o es H]).length=(m++[af6.cells o es cs]).length:=by simp
 refine⟨V,_,_,μ',rfl,by rw[C];exact q1,q2.swap C W,⟨by rw[C];exact q3.len,q3.agree,q3.os,q3.tape,q3.output,q3.size,q3.frame,fun b X K=>?_,q3.drawn⟩,rfl,rfl⟩;obtain⟨s,F,D⟩:=X;obtain⟨S,k1,k2,_,_⟩:=W b s F;exact q3.owner b ⟨S,k1,by rw[k2];exact D⟩ K
end
end Go.Eng
namespace Go.Eng
def mu(P:Program)(c:Callee)(args:List AV)(m:Mem)(r:afA):Prop:=
 (match c with
  |.fn f=>kO P f args m r.v (r.mem m)
  |.yld b=>gV P b args m r.v (r.mem m))/\∀q,r.pre=some q->q.length=m.length
open Classical in
theorem gd{P:Program}{ι:Type}(p:ι->Prop)(c:ι->Callee)(a:ι->List AV)(m:ι->Mem)(r:ι->afA)(hs:∀i,p i->mu P (c i) (a i) (m i) (r i))(hc:∀i j,p i->p j->c i=c j->a i=a j->m i=m j->r i=r j):∃O:af3,adM P O/\∀i,p i->O (c i) (a i) (m i)=some (r i):=by
 refine⟨fun S X W =>if h:∃i,p i/\c i=S /\a i=X /\m i=W then some (r (Classical.choose h)) else none,?_,fun i F=>?_⟩
 .have V:∀S X W M,(if h:∃i,p i/\c i=S /\a i=X /\m i=W then some (r (Classical.choose h)) else none)=some M ->mu P S X W M :=by
   intro S X W M h;split at h
   .rename_i Z
    obtain⟨K,J,h3,G⟩:=Classical.choose_spec Z;cases h;have:=hs _ K;rw[J,h3,G] at this;exact this
   .cases h
  exact⟨fun f X W M h=>(V _ _ _ _ h).1,fun b X W M h=>(V _ _ _ _ h).1,fun S X W M q h hq=>(V _ _ _ _ h).2 q hq⟩
 .have Z:∃j,p j/\c j=c i/\a j=a i/\m j=m i:=⟨i,F,rfl,rfl,rfl⟩
  simp only[dif_pos Z];obtain⟨K,J,h3,G⟩:=Classical.choose_spec Z;rw[hc _ _ K F J h3 G]
variable{n:Nat}{r:agV}
theorem xZ(h:r.env.flatMap (fun e=>e.2.refs n)=[]):af6.refs n (.loop r)=[]:=h
variable{ks:List Nat}
theorem Qx(h:r.env.flatMap (fun e=>e.2.refs n)=[]):af6.ren (rho n ks) (.loop r)=.loop r:=af6.agm (xZ h)
theorem HU{m:Mem}(h:∀s∈m,s.refs n=[]):m.flatMap (af6.refs n)=[]:=by rw[List.flatMap_eq_nil_iff];exact h
theorem zQ{m:Mem}(h:∀s∈m,s.refs n=[]):m.map (af6.ren (rho n ks))=m:=by
 conv=>rhs;rw[<-List.map_id m]
 apply List.map_congr_left;intro s Z;rw[af6.agm (h s Z)];rfl
variable{G:FuncId->Option Func}{c:Code}{e:Exit}{fn:Func}{mem mem' :Mem}
section
variable{T:TypeId->Option TyI}{lv:Code->List Nat}{O:af3}
include T lv O
theorem Mf{K:Nat}{f:FuncId}{args:List AV}{v:AV}{I :Env}(hf:G f=some fn)(R:fn.body=some c)(Y:args.length<=fn.ntmps)(he:e=.normal\/e=.ret)(h:aT T lv O K fn.ntmps mem.length true c ⟨dV 0 args,mem,false⟩=some (e,⟨I,mem',true⟩))(Q:kf T fn.results.toList I mem' =some v)(Do:mem'.length=mem.length)(y:v.refs mem.length=[])(H:∀s∈mem',s.refs mem.length=[]):aa T lv G O K f args mem=some ⟨v,some mem',[]⟩:=by
 have X:mem'.take mem.length=mem' :=GE (by omega);unfold aa;simp only[hf,R];rw[if_pos Y,h];have Z:pg mem.length mem' 1000 (v.refs mem.length++(mem'.take mem.length).flatMap (af6.refs mem.length)) []=[]:=by rw[y,X,HU H];rfl
 rcases he with rfl | rfl
 .simp only[Q,if_true]
  rw[Z,X];simp[E5,agR,zQ H,AV.agm y]
 .simp only[Q,if_true]
  rw[Z,X];simp[E5,agR,zQ H,AV.agm y]
theorem mL{K N m0:Nat}{tp:Bool}{b:Code}{L:List Nat}(I:lv b=L)(d0 d1:Bool)(H:Env->Prop)(y:Env->Env->Prop)(h:∀Z,H Z->∃X,fW L (ab b) Z mem.length (aT T lv O K N m0 tp b) K ⟨au L (ab b) Z Z,mem,d0⟩=some (e,⟨X,mem',d1⟩)/\y Z X):
  ∃F:Env->Env,∀Z,H Z->aT T lv O K N m0 tp (.loop b) ⟨Z,mem,d0⟩=some (e,⟨F Z,mem',d1⟩)/\y Z (F Z):=by
 obtain⟨F,S⟩:=wE (p:=fun Z _=>H Z) (q:=fun Z _ V =>aT T lv O K N m0 tp (.loop b) ⟨Z,mem,d0⟩=some (e,⟨V,mem',d1⟩)/\y Z V) (fun Z _ W=>by obtain⟨X,M,J⟩:=h Z W;exact⟨X,by rw[aR,I];exact M,J⟩)
 exact⟨fun Z=>F Z true,fun Z W=>S Z true W⟩
end
def fP:Code->List (Array Tmp×Code×Code)
 |.seq a b=>fP a++fP b
 |.cond _ a b=>fP a++fP b
 |.block _ b=>fP b
 |.loop b=>fP b
 |.rangeFunc _ ps a b=>[(ps,a,b)]
 |_=>[]
def dD(f:Func):List (Array Tmp×Code×Code):=match f.body with
 |some c=>fP c
 |none=>[]
theorem Pt{env:Env}(h:env.flatMap (fun e=>e.2.refs n)=[]):tD (rho n ks) env=env:=by
 unfold tD;rw[List.flatMap_eq_nil_iff] at h;conv=>rhs;rw[<-List.map_id env]
 apply List.map_congr_left;intro e he;rw[AV.agm (h e he)];rfl
attribute [simp] af6.afF
theorem cP{P:Program}{O:af3}(key:∀c Z M r,O c Z M=some r->mu P c Z M r):adM P O:=
 ⟨fun f Z M r h=>(key _ _ _ _ h).1,fun b Z M r h=>(key _ _ _ _ h).1,fun c Z M r p h X=>(key _ _ _ _ h).2 p X⟩
variable{M:Mem}
theorem fK{P:Program}{O:af3}(y:adM P O){c:Go.Eng.Callee}{args:List AV}{r:afA}(h:O c args M=some r):mu P c args M r:=by
 refine⟨?_,fun q hq=>y.pre _ _ _ _ _ h hq⟩;cases c with
 |fn f=>exact y.fn _ _ _ _ h
 |yld b=>exact y.yld _ _ _ _ h
theorem aC{P:Program}{f:FuncId}{args:List AV}{new:Mem}{v:AV}(h:kO P f args M v (M++new)):mu P (.fn f) args M ⟨v,none,new⟩:=⟨h,fun q hq=>by cases hq⟩
theorem aE{P:Program}{f:FuncId}{args:List AV}{v:AV}(h:kO P f args M v M):mu P (.fn f) args M ⟨v,none,[]⟩:=aC (by simpa using h)
def ahJ(s s' :af6):Prop:=s=s' \/∃o es X Z,s' =.cells o es X/\s=.cells o es Z /\Z <+: X
theorem ahJ.row{k:IntKind}{o:Bool}{es:Nat}{l r:List Nat}(h:l <+: r):ahJ (.cells o es (iN k l)) (.cells o es (iN k r)):=by obtain⟨t,rfl⟩:=h;exact .inr ⟨o,es,_,_,rfl,rfl,iN k t,by rw[<-eO]⟩
theorem kO.ahj{P:Program}{f:FuncId}{args:List AV}{m m1 m2:Mem}{v:AV}(h:kO P f args m v m1)(y:m2.length=m1.length)(hc:∀(b:Nat) s,m2[b]? =some s->∃O,m1[b]? =some O /\ahJ s O):kO P f args m v m2:=by
 refine⟨h.1,fun base μ w Vs hG hH hV=>(h.2 base μ w Vs hG hH hV).mono ?_⟩;rintro e w' ⟨V,v',m',μ',rfl,q1,q2,q3,rfl,rfl⟩;have X:∀b Z,m2[b]? =some Z->∃W,m'[b]? =some W/\W.own=Z.own/\(W=.HS->Z=.HS)/\agj μ' m'.length base w' (μ' b) Z:=by
  intro b Z K;obtain⟨O,S,A⟩:=hc b Z K;rcases A with rfl | ⟨o,es,cs,z,rfl,rfl,C⟩
  .exact⟨Z,S,rfl,id,q2.slot b Z S⟩
  .refine⟨_,S,rfl,(fun h=>by cases h),?_⟩
   have:=q2.slot _ _ S;simp only[agj] at this |-;obtain⟨J,el,Y,F,D,g3,R,Q⟩:=this;refine⟨J,el,Y,F,D,QQJ C.length_le g3,fun j u B=>R j u ?_,Q⟩;obtain⟨t,rfl⟩:=C;rw[Hi (gL B)];exact B
 refine⟨V,v',m2,μ',rfl,by rw[y];exact q1,q2.swap y X,⟨by rw[y];exact q3.len,q3.agree,q3.os,q3.tape,q3.output,q3.size,q3.frame,fun b K I=>?_,q3.drawn⟩,rfl,rfl⟩;obtain⟨s,F,D⟩:=K;obtain⟨W,H,k2,_,_⟩:=X b s F;exact q3.owner b ⟨W,H,by rw[k2];exact D⟩ I
variable{R:AV->Mem->Prop}
section
variable {P:Program}{T:TypeId->Option TyI}{O:af3}{K:Nat}{lv:Code->List Nat}
theorem agF.ag1(hT:dW P T){f:FuncId}{args:List AV}(hf:P.funcs[f]? =some fn)(y:fn.body=some c)(H:(fn.name == "runtime.NumGoroutine")=false)(I:args.length<=fn.ntmps)(h:AWP P true fn.ntmps mem.length c ⟨dV 0 args,mem⟩ fun e W =>(e=.normal\/e=.ret)/\∃v,kf T fn.results.toList W.env W.mem=some v/\R v W.mem):
  agF P f args mem R:=by
 refine⟨⟨fn,hf,by simp[y],H⟩,fun base μ w Vs hG hH hV=>?_⟩;refine Bn.1 (callsIn_of_wp_marks (F:=Fr none) (n:=0) hf y trivial (wpIn_mono (h none w.heap.size base μ w _ (fun _=>rfl) hH ?_ ?_ (MOk.nil w hG hH.agb (L9 _)) (L9 _)) ?_) rfl)
 .intro t
  have:=zg 0 hV t;simp only[Nat.not_lt_zero,if_false,QXX] at this;by_cases J:t<Vs.length
  .have e:(⟨Vs⟩++Array.replicate (fn.ntmps-(⟨Vs⟩:Array Value).size) undef:Array Value).getD t undef=Vs.getD t undef:=by simp only[Array.getD_eq_getD_getElem?];rw[Array.getElem?_append_left (by simpa using J)];simp[List.getD]
   show af4 μ mem.length (ad (dV 0 args) t) ((⟨Vs⟩++Array.replicate (fn.ntmps-(⟨Vs⟩:Array Value).size) undef:Array Value).getD t undef)
   rw[e];exact this
  .have:ad (dV 0 args) t=.undef:=by
    have z:=hV.length;have:∀(X:List AV) (i:Nat),i+X.length<=t->ad (dV i X) t=.undef:=by
     intro X;induction X with
     |nil=>intro i _;rfl
     |cons v X ih=>
      intro i D;simp only[List.length_cons] at D;simp only[dV,ad];rw[if_neg (by omega)];exact ih (i+1) (by omega)
    exact this args 0 (by omega)
   show af4 μ mem.length (ad (dV 0 args) t) _
   rw[this];simp[af4]
 .simp only[Array.size_append,List.size_toArray,Array.size_replicate,hV.length];omega
 .rintro e a' w' ⟨W,μ',b1,b2,b3,b4,b5,b6,he,v,hv,hR⟩
  have Z:LeavesInM (Fr none) 0 P fn a'.tmps (fun e w' =>∃V v mem' μ',e=.returned V/\af4 μ' mem'.length v V/\agh base μ' mem' w' /\Step mem.length μ mem w μ' mem' w' /\R v mem') a'.defers .returning w' :=by
   refine sQ a'.defers w' b4 b1 b6 fun w2 S C=>?_
   obtain⟨V,B,A⟩:=uP (P:=P) (fn:=fn) hT S b2 hv;exact⟨V,B,⟨V,_,_,_,rfl,A,S,C,hR⟩⟩
  rcases he with rfl | rfl
  .exact Z
  .exact Z
def bO(T:TypeId->Option TyI)(lv:Code->List Nat)(G:FuncId->Option Func)(O:af3)(K:Nat)(f:FuncId)(args:List AV)(mem:Mem):Option (AV×Mem):=
 match G f with
 |none=>none
 |some fn=>match fn.body with
  |none=>none
  |some c=>
   if args.length<=fn.ntmps then
    match aT T lv O K fn.ntmps mem.length true c ⟨dV 0 args,mem,false⟩ with
    |some (e,s)=>
     match e with
     |.normal | .ret=>
      match kf T fn.results.toList s.env s.mem with
      |some v=>some (v,s.mem)
      |none=>none
     |_=>none
    |none=>none
   else none
theorem bl(y:P.follows .mixedOrders=true)(hT:dW P T)(H:adM P O)(I:aho P G){f:FuncId}{args:List AV}{v:AV}(h:bO T lv G O K f args mem=some (v,mem')):kO P f args mem v mem' :=by
 unfold bO at h;split at h
 .cases h
 .rename_i fn X
  obtain⟨S,J,g3⟩:=I.fn _ _ X;split at h
  .cases h
  .rename_i c V
   split at h
   .rename_i F
    split at h
    .rename_i e s he
     obtain⟨D,_⟩:=dO y hT H (g3 c V) he;have Z:(e=.normal\/e=.ret)->(match kf T fn.results.toList s.env s.mem with
      |some v=>some (v,s.mem)
      |none=>none)=some (v,mem')->kO P f args mem v mem' :=by
      intro W h;split at h
      .rename_i v C
       cases h;exact agF.ag1 hT S V J F (D _ ⟨W,_,C,rfl,rfl⟩)
      .cases h
     split at h
     .exact Z (.inl rfl) h
     .exact Z (.inr rfl) h
     .cases h
    .cases h
   .cases h
theorem agQ.ag1{b:Nat}{args:List AV}(hb:mem[b]? =some (.loop r))(aeB:r.st=.ready)(hl:args.length=r.ps.toList.length)(y:∀t∈r.ps.toList,t<r.N)(h:AWP P false r.N mem.length r.assign ⟨zE r.ps.toList args r.env,mem⟩ fun e Z=>e=.normal/\∃r1,Z.mem[b]? =some (.loop r1)/\r1.st=.ready/\
   AWP P false r.N mem.length r.body ⟨Z.env,Z.mem.set b (.loop { r1 with st:=.busy })⟩ fun e X=>∃r2 j,qJ e=some j/\X.mem[b]? =some (.loop r2)/\
    R (.bool j.isNone) (X.mem.set b (.loop { r2 with st:=lD j,agI:=j }))):
  agQ P b args mem R:=by
 intro base μ w Vs hG hH hV hbl;have W:=hH.slot b _ hb;simp only[agj] at W;obtain⟨L,h1,h2,h3⟩:=W;have Do:Vs.length=L.params.size:=by rw[hV.length,hl,h3.ps];simp
 refine⟨L.fn,(L.params.zip ⟨Vs⟩).foldl (fun tmps (t,a)=>tmps.setIfInBounds t a) L.tmps,L.assign,L.body,?_,?_⟩
 .simp only[Instr.yield,Sem.run_bind,jD h1,Result.andThen_ok]
  rw[if_neg (by simp[Do])];rfl
 .refine roundIn_of_wpIn (F:=Fence.wide) trivial ?_
  have S:(L.params.zip ⟨Vs⟩).foldl (fun tmps (t,a)=>tmps.setIfInBounds t a) L.tmps=(r.ps.toList.zip Vs).foldl (fun tmps (t,a)=>tmps.setIfInBounds t a) L.tmps:=by rw[h3.ps,<-Array.foldl_toList];simp
  have J:=HI (ts:=r.ps.toList) hV h3.tmps hl (fun t ht=>by rw[h3.size];exact y t ht);rw[h3.assign,h3.body];refine wpIn_mono (F:=Fr (some (μ b).blk)) (h (some (μ b).blk) w.heap.size base μ w ⟨_,[]⟩ (fun h=>by cases h) hH (by rw[S];exact J.1) (by rw[S,J.2];exact h3.size) (MOk.nil w hG hH.agb (L9 _)) (L9 _)) ?_;rintro e a1 w1 ⟨Z,μ1,c1,c2,c3,c4,c5,c6,rfl,r1,c7,c8,hbody⟩;have D:=c1.slot b _ c7;simp only[agj] at D;obtain⟨L1,d1,d2,d3⟩:=D;have hμ:μ1 b=μ b:=c6.agree b hbl;rw[hμ] at d1;obtain⟨Y,Q,B⟩:=xN (P:=P) (r' :={ r1 with st:=.busy }) (L' :={ L1 with state:=.busy }) c1 c7 (by rw[hμ];exact d1) { d3 with st:=rfl };rw[hμ] at Y Q B;refine⟨_,?_,wpIn_mono (F:=Fr (some (μ b).blk)) (hbody (some (μ b).blk) w.heap.size base μ1 _ a1 (fun h=>by cases h) Q (by rw[X3];exact c2) c3 (c4.step c1 B) (by rw[X3];exact c5)) ?_⟩
  .simp only[Instr.beginRound,Sem.run_bind,jD d1,Result.andThen_ok,Y]
   rw[d3.st,c8];rfl
  .rintro e a2 w2 ⟨X,μ2,f1,f2,f3,f4,f5,f6,r2,j,f7,f8,f10⟩
   have C:=f1.slot b _ f8;simp only[agj] at C;obtain⟨L2,A,g2,g3⟩:=C;have hμ2:μ2 b=μ b:=by rw[f6.agree b hbl,hμ]
   rw[hμ2] at A;obtain⟨z,I,H⟩:=xN (P:=P) (r' :={ r2 with st:=lD j,agI:=j }) (L' :={ L2 with state:=lD j,pending:=j }) f1 f8 (by rw[hμ2];exact A) { g3 with st:=rfl,agI:=rfl };rw[hμ2] at z I H;have u:(Instr.endRound (μ b).blk j).run P w2=.ok (.bool j.isNone) { w2 with heap:=w2.heap.setIfInBounds (μ b).blk (.loop { L2 with state:=lD j,pending:=j }) }:=by unfold lD at z |-;simp only[Instr.endRound,Sem.run_bind,jD A,Result.andThen_ok,z];rfl
   have hS:Step mem.length μ mem w _ _ _:=((c6.trans (B.mono c5)).trans f6).trans (H.mono f5);have m:∃V v mem' μ',(Ending.returned (.bool j.isNone):Ending)=.returned V/\af4 μ' mem'.length v V/\agh base μ' mem' { w2 with heap:=w2.heap.setIfInBounds (μ b).blk (.loop { L2 with state:=lD j,pending:=j }) }/\
     Step mem.length μ mem w μ' mem' { w2 with heap:=w2.heap.setIfInBounds (μ b).blk (.loop { L2 with state:=lD j,pending:=j }) }/\R v mem' :=
    ⟨_,.bool j.isNone,_,_,rfl,by simp[af4],I,hS,f10⟩
   cases e<;>simp only[qJ,N3,reduceCtorEq] at f7<;>subst f7<;>exact⟨_,_,u,m⟩
def fZ(T:TypeId->Option TyI)(lv:Code->List Nat)(O:af3)(K:Nat)(b:Nat)(args:List AV)(mem:Mem):Option (AV×Mem):=
 match mem[b]? with
 |some (.loop r)=>
  if r.st== .ready&&decide (args.length=r.ps.toList.length)&&r.ps.toList.all (fun t=>decide (t<r.N))&&cQ r.assign&&cQ r.body then
   match aT T lv O K r.N mem.length false r.assign ⟨zE r.ps.toList args r.env,mem,true⟩ with
   |some (.normal,s1)=>match s1.mem[b]? with
    |some (.loop r1)=>
     if r1.st== .ready then
      match aT T lv O K r.N mem.length false r.body ⟨s1.env,s1.mem.set b (.loop { r1 with st:=.busy }),true⟩ with
      |some (e,s2)=>match qJ e,s2.mem[b]? with
       |some j,some (.loop r2)=>some (.bool j.isNone,s2.mem.set b (.loop { r2 with st:=lD j,agI:=j }))
       |_,_=>none
      |none=>none
     else none
    |_=>none
   |_=>none
  else none
 |_=>none
theorem ia(y:P.follows .mixedOrders=true)(hT:dW P T)(H:adM P O){b:Nat}{args:List AV}{v:AV}(h:fZ T lv O K b args mem=some (v,mem')):gV P b args mem v mem' :=by
 unfold fZ at h;split at h
 .rename_i Q X
  split at h
  .rename_i hc
   simp only[Es,L0,List.all_eq_true] at hc;obtain⟨⟨⟨⟨J,F⟩,D⟩,C⟩,B⟩:=hc;have Z:∀{x:LoopState},(x== .ready)=true->x=.ready:=fun {x} h=>by cases x<;>first | rfl | cases h
   split at h
   .rename_i I A
    obtain⟨z,a2⟩:=dO y hT H C A;split at h
    .rename_i r1 W
     split at h
     .rename_i V
      split at h
      .rename_i e s2 u
       obtain⟨m,b2⟩:=dO y hT H B u;split at h
       .rename_i j r2 Y S
        cases h;exact agQ.ag1 X (Z J) F D (z _ ⟨rfl,r1,W,Z V,m _ ⟨r2,j,Y,S,rfl,rfl⟩⟩)
       .cases h
      .cases h
     .cases h
    .cases h
   .cases h
  .cases h
 .cases h
end
end Go.Eng
namespace Go.Eng
def ZL(es:Nat)(M:Mem)(x:AV)(n:Nat)(cs:List AV):Prop:=∃b o Z,x=.slice b 0 n none/\M[b]? =some (.cells o es Z)/\Z.take cs.length=cs
def Mg(es:Nat)(M:Mem):AV->Option (List AV)
 |.slice b 0 n none=>match M[b]? with
  |some (.cells _ es' cs)=>if es' =es/\n*es<=cs.length then some (cs.take (n*es)) else none
  |_=>none
 |.y9=>some []
 |_=>none
variable{es:Nat}
theorem Mh{M:Mem}{b n:Nat}{o:Bool}{cs y :List AV}(h:M[b]? =some (.cells o es y))(H:n*es<=y.length)(hc:y.take (n*es)=cs):Mg es M (.slice b 0 n none)=some cs:=by simp[Mg,h,H,hc]
theorem OW{M:Mem}{x:AV}{cs:List AV}(h:Mg es M x=some cs):(∃n,cs.length=n*es/\ZL es M x n cs)\/(x=.y9/\cs=[]):=by
 unfold Mg at h;split at h
 .rename_i b n
  split at h
  .rename_i o Z X V
   split at h
   .rename_i hc
    obtain⟨rfl,S⟩:=hc;cases h;have W:(X.take (n*Z)).length=n*Z :=by rw[P3];omega
    exact .inl ⟨n,W,b,o,X,rfl,V,by rw[W]⟩
   .cases h
  .cases h
 .cases h;exact .inr ⟨rfl,rfl⟩
 .cases h
theorem bY{ks:List Nat}{M:Mem}{b es:Nat}{o:Bool}{cs y :List AV}(hc:AV.af9 cs=true)(h:M[b]? =some (.cells o es y))(H:y.take cs.length=cs):agH ks M b (.cells false es cs):=by
 refine⟨cT hc,o,y,h,fun j v X=>?_⟩;have V:=gL X;have S:y[j]? =cs[j]? :=by have:(y.take cs.length)[j]? =y[j]? :=QQQ V;rw[<-this,H]
 have W:=ca (ρ:=eg ks M.length) hc;rw[gT] at W;have Z:(cs.map (AV.ren (eg ks M.length)))[j]? =cs[j]? :=by rw[W]
 rw[QQX,X] at Z;rw[S,X];exact Z.symm
variable{rest:List AV}
section
variable {P:Program}{f:FuncId}{M:Mem}{x y:AV}
theorem kO.ahk{es n:Nat}{cs:List AV}{v:AV}{new:Mem}(hc:AV.af9 cs=true)(hr:AV.af9 rest=true)(H:new.all (fun s=>s.own||match s with | .HS=>true | _=>false)=true)(h:kO P f (.slice 0 0 n none::rest) [.cells false es cs] v (.cells false es cs::new))(hx:ZL es M x n cs):
  ∃b,x=.slice b 0 n none/\b<M.length/\kO P f (x::rest) M (v.ren (eg [b] M.length)) (M++new.map (af6.ren (eg [b] M.length))):=by
 obtain⟨b,o,V,rfl,X,S⟩:=hx;have W:=gL X;refine⟨b,rfl,W,?_⟩;have:=kO.frame (M:=M) [b] (m:=[.cells false es cs]) rfl (by simpa using W) (by simp only[AV.agn,AV.under,cT hr];rfl) (fun i s Z=>by
  cases i with
  |zero=>simp at Z;subst Z;exact bY hc X S
  |succ i=>simp at Z) H h
 simpa [AV.agd,AV.ren,eg,ca hr] using this
theorem iI{v:AV}(ks:List Nat)(n:Nat)(H:v.closed=true):v.ren (eg ks n)=v:=by have:=ca (vs:=[v]) (ρ:=eg ks n) (by simp[AV.af9,H]);simpa [AV.agd] using this
theorem kO.ahP{es n:Nat}{cs:List AV}{v:AV}(hc:AV.af9 cs=true)(hr:AV.af9 rest=true)(H:v.closed=true)(h:kO P f (.slice 0 0 n none::rest) [.cells false es cs] v [.cells false es cs])(hx:ZL es M x n cs):kO P f (x::rest) M v M:=by obtain⟨b,_,_,Z⟩:=kO.ahk (new:=[]) hc hr rfl h hx;simpa [iI _ _ H] using Z
end
end Go.Eng
namespace Go.Eng
mutual
def AV.same:AV->AV->Bool
 |.undef,.undef=>true
 |.bool a,.bool b=>a==b
 |.int k n,.int k' m=>decide (k=k')&&decide (n=m)
 |.str s,.str t=>s==t
 |.ptr b o,.ptr b' o' =>Nat.beq b b' &&Nat.beq o o'
 |.agk,.agk=>true
 |.slice b o n none,.slice b' o' n' none=>Nat.beq b b' &&Nat.beq o o' &&Nat.beq n n'
 |.y9,.y9=>true
 |.map b,.map b' =>Nat.beq b b'
 |.agu,.agu=>true
 |.func f X,.func W Z =>Nat.beq f W &&AV.ag3 X Z
 |.nilFunc,.nilFunc=>true
 |.nilIface,.nilIface=>true
 |.agg X,.agg Z =>AV.ag3 X Z
 |.tuple X,.tuple Z =>AV.ag3 X Z
 |_,_=>false
def AV.ag3:List AV->List AV->Bool
 | [],[]=>true
 |v::vs,w::ws=>AV.same v w&&AV.ag3 vs ws
 |_,_=>false
end
mutual
theorem AV.ah0:∀{v w:AV},AV.same v w=true->v=w
 |.undef,w,h=>by cases w<;>first | rfl | simp[AV.same] at h
 |.bool a,w,h=>by cases w<;>simp[AV.same] at h;rw[h]
 |.int k n,w,h=>by cases w<;>simp[AV.same] at h;rw[h.1,h.2]
 |.str s,w,h=>by cases w<;>simp[AV.same] at h;rw[h]
 |.ptr b o,w,h=>by cases w<;>simp[AV.same] at h;rw[h.1,h.2]
 |.agk,w,h=>by cases w<;>first | rfl | simp[AV.same] at h
 |.slice b o n c,w,h=>by
  cases w with
  |slice b' o' n' c' =>cases c<;>cases c' <;>simp[AV.same] at h;rw[h.1.1,h.1.2,h.2]
  |_=>cases c<;>simp[AV.same] at h
 |.y9,w,h=>by cases w<;>first | rfl | simp[AV.same] at h
 |.map b,w,h=>by cases w<;>simp[AV.same] at h;rw[h]
 |.agu,w,h=>by cases w<;>first | rfl | simp[AV.same] at h
 |.yield b,w,h=>by simp[AV.same] at h
 |.func f Z,w,h=>by
  cases w<;>try (simp[AV.same] at h;done)
  simp only[AV.same,Es] at h;rw[Nat.eq_of_beq_eq_true h.1,AV.agL h.2]
 |.nilFunc,w,h=>by cases w<;>first | rfl | simp[AV.same] at h
 |.iface t v,w,h=>by simp[AV.same] at h
 |.nilIface,w,h=>by cases w<;>first | rfl | simp[AV.same] at h
 |.agg Z,w,h=>by
  cases w<;>try (simp[AV.same] at h;done)
  simp only[AV.same] at h;rw[AV.agL h]
 |.tuple Z,w,h=>by
  cases w<;>try (simp[AV.same] at h;done)
  simp only[AV.same] at h;rw[AV.agL h]
theorem AV.agL:∀{vs y:List AV},AV.ag3 vs y=true->vs=y
 | [],[],_=>rfl
 | [],_::_,h=>by simp[AV.ag3] at h
 |_::_,[],h=>by simp[AV.ag3] at h
 |v::vs,w::y,h=>by simp only[AV.ag3,Es] at h;rw[AV.ah0 h.1,AV.agL h.2]
end
def qf(ks:List Nat)(M:Mem):Nat->Mem->Bool
 |_,[]=>true
 |i,.cells false es cs::r=>(match M[ks.getD i 0]? with
  |some (.cells _ es' cs')=>Nat.beq es es' &&AV.ag3 (AV.agd (eg ks M.length) cs) (cs'.take cs.length)
  |_=>false)&&AV.agn ks.length cs&&qf ks M (i+1) r
 |_,_=>false
theorem DC{ks:List Nat}{M:Mem}:∀{i:Nat} {m:Mem},qf ks M i m=true->∀(j:Nat) s,m[j]? =some s->agH ks M (ks.getD (i+j) 0) s
 |_,[],_,j,s,hj=>by simp at hj
 |i,.cells false es cs::r,h,j,s,hj=>by
  unfold qf at h;simp only[Es] at h;obtain⟨⟨X,O⟩,h3⟩:=h;cases j with
  |zero=>
   simp at hj;subst hj;refine⟨O,?_⟩;split at X
   .rename_i o K Z J
    simp only[Es] at X;obtain⟨W,G⟩:=X;have W:=Nat.eq_of_beq_eq_true W;subst W;refine⟨o,Z,J,fun k v V=>?_⟩;have F:=gL V;have S:=AV.agL G;rw[gT] at S;have:(Z.take cs.length)[k]? =Z[k]? :=QQQ F;rw[<-this,<-S,QQX,V];rfl
   .cases X
  |succ j=>
   have:=DC h3 j s (by simpa using hj);rw[show i+(j+1)=i+1+j by omega];exact this
 |i,.HS::r,h,j,s,hj=>by simp[qf] at h
 |i,.cells true es cs::r,h,j,s,hj=>by simp[qf] at h
 |i,.map es::r,h,j,s,hj=>by simp[qf] at h
 |i,.agC es::r,h,j,s,hj=>by simp[qf] at h
 |i,.loop l::r,h,j,s,hj=>by simp[qf] at h
structure agz where
 f:FuncId
 args:List AV
 m:Mem
 v:AV
 new:Mem
def agz.ask(e:agz)(args:List AV)(M:Mem):Option afA:=
 let ks:=pg 0 M 1000 (AV.ago 0 args) []
 if Nat.beq ks.length e.m.length&&ks.all (fun k=>decide (k<M.length))&&AV.agn ks.length e.args&&AV.ag3 (AV.agd (eg ks M.length) e.args) args&&qf ks M 0 e.m&&e.new.all (fun s=>s.own||match s with | .HS=>true | _=>false) then
  some ⟨e.v.ren (eg ks M.length),none,e.new.map (af6.ren (eg ks M.length))⟩ else none
variable{P:Program}
theorem agz.ahx{e:agz}(h:kO P e.f e.args e.m e.v (e.m++e.new)){args:List AV}{M:Mem}{r:afA}(hr:e.ask args M=some r):mu P (.fn e.f) args M r:=by
 unfold agz.ask at hr;simp only at hr;split at hr
 .rename_i hc
  simp only[Es] at hc;obtain⟨⟨⟨⟨⟨Z,X⟩,h3⟩,W⟩,V⟩,S⟩:=hc;cases hr;refine aC ?_;have:=kO.frame (M:=M) (pg 0 M 1000 (AV.ago 0 args) []) (Nat.eq_of_beq_eq_true Z).symm (fun k O=>by simpa using List.all_eq_true.1 X k O) h3 (fun i s K=>by simpa using DC V i s K) S h;rw[AV.agL W] at this;exact this
 .cases hr
def Ph:List agz->af3
 | [],_,_,_=>none
 |e::es,.fn f,args,M=>if Nat.beq f e.f then (match e.ask args M with
  |some r=>some r
  |none=>Ph es (.fn f) args M) else Ph es (.fn f) args M
 |_::_,.yld _,_,_=>none
theorem Xd:∀{l:List agz},(∀e∈l,kO P e.f e.args e.m e.v (e.m++e.new))->adM P (Ph l):=by
 intro l W;refine cP fun c V M r h=>?_
 induction l with
 |nil=>simp[Ph] at h
 |cons e es Z=>
  have Z:=Z (fun x S=>W x (List.mem_cons_of_mem _ S));cases c with
  |yld b=>simp[Ph] at h
  |fn f=>
   unfold Ph at h;split at h
   .rename_i X
    have X:=Nat.eq_of_beq_eq_true X;subst X;split at h
    .rename_i K O
     cases h;exact agz.ahx (W e (List.mem_cons_self ..)) O
    .exact Z h
   .exact Z h
theorem eh{T:TypeId->Option TyI}{lv:Code->List Nat}{G:FuncId->Option Func}{O:af3}{K n:Nat}(y:P.follows .mixedOrders=true)(hT:dW P T)(H:aho P G)(I:adM P O){f:FuncId}{args:List AV}{m:Mem}{v:AV}{new:Mem}(h:(A8 T lv G O K n (.fn f) args m).map (fun r=>(r.v,r.mem m))=some (v,m++new)):kO P f args m v (m++new):=by rw[Pl] at h;obtain⟨r,Z,X⟩:=h;obtain⟨h3,W⟩:=Prod.mk.inj X;have:=(pZ y hT H I n).fn _ _ _ _ Z;rw[h3,W] at this;exact this
end Go.Eng
namespace Go.Eng
open Classical in
noncomputable def tI(S:Callee->List AV->Mem->afA->Prop):af3:=fun c Z M=>if h:∃r,S c Z M r then some (Classical.choose h) else none
variable{S:Callee->List AV->Mem->afA->Prop}
theorem QD{P:Program}(h:∀c a M r,S c a M r->mu P c a M r):adM P (tI S):=cP fun c a M r Z=>by
 unfold tI at Z;split at Z
 .rename_i X
  cases Z;exact h _ _ _ _ (Classical.choose_spec X)
 .cases Z
variable{a:List AV}
theorem Gp{c:Callee}{M:Mem}(h:∃r,S c a M r):∃r,tI S c a M=some r/\S c a M r:=by refine⟨_,?_,Classical.choose_spec h⟩;unfold tI;rw[dif_pos h]
theorem kg{c:Callee}{M:Mem}{r:afA}(h:S c a M r)(hd:∀Z,S c a M Z ->Z =r):tI S c a M=some r:=by obtain⟨Z,X,W⟩:=Gp ⟨r,h⟩;rw[X,hd Z W]
theorem iG(M X:Mem)(k:Nat):(M++X)[M.length+k]? =X[k]? :=by rw[Pi (by omega)];congr 1;omega
theorem wo(M X:Mem):(M++X)[M.length]? =X[0]? :=iG M X 0
theorem H2(M X:Mem)(k:Nat)(s:af6):(M++X).set (M.length+k) s=M++X.set k s:=by rw[List.set_append_right _ _ (by omega)];congr 2;omega
theorem Xc(M X:Mem)(s:af6):(M++X).set M.length s=M++X.set 0 s:=H2 M X 0 s
theorem gN(a b:Nat):(a+b<a)=False:=by rw[eq_iff_iff,iff_false];omega
theorem xR(f:Nat->Bool):∀(i:Nat) (M:Mem),bm [] i M (bJ f i M)=M
 |_,[]=>rfl
 |i,s::M=>by simp[bJ,bm,xR f (i+1) M]
theorem wm(f:Nat->Bool):∀(i:Nat) (M:Mem) (b:Nat),(bJ f i M)[b]? =(M[b]?).map fun s=>if f (i+b) then s else .HS
 |_,[],_=>by simp[bJ]
 |i,s::M,0=>by simp[bJ]
 |i,s::M,b+1=>by simp[bJ,wm f (i+1) M b,QXY,QXJ 1 b]
theorem F9:∀(i:Nat) (M:Mem),bJ (fun _=>true) i M=M
 |_,[]=>rfl
 |i,s::M=>by simp[bJ,F9 (i+1) M]
theorem Pe(a b:Nat):(a<=b/\b<a)=False:=by rw[eq_iff_iff,iff_false];omega
theorem zT:∀(i:Nat) (M:Mem),bm [] i M M=M
 |_,[]=>rfl
 |i,s::M=>by simp[bm,zT (i+1) M]
end Go.Eng
