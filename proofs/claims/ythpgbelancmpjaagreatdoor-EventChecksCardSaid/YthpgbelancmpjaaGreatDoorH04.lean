/- See H38. -/
import Derived.Test.YthpgbelancmpjaaGreatDoorH03
set_option linter.all false
namespace Go.Eng
attribute [simp] sP yp jt au nH T9 xv LN yn aa get Yx dQ zh agm EF sL aOp Zm Zo Zn aUn AJ Oz Oy sO ym Q1 Cr sN Vp Vq xD Vi ay Oq kH cr WS jG yL Zt
attribute [simp] qM AV.refs AV.afN agp EI rho AV.ren AV.afR rZ oK kc jJ afw.mem aN mx Hq eW xx bef XY bB bb N8 WR gO aP dj iu AV.aft AV.afD Oper.looksAt Op.operands Call.operands Region.binds AV.closed AV.afA
def aw:Code->List Code
 |.seq a b=>aw a++aw b
 |.cond _ a b=>aw a++aw b
 |.block _ b=>aw b
 |.loop b=>b::aw b
 |_=>[]
def ah(f:Func):List Code:=match f.body with
 |some c=>aw c
 |none=>[]
attribute [simp] ae
section
variable (T:TypeId->Option TyI)(lv:Code->List Nat)(O:afu)(K N m0:Nat)(tp:Bool)(s:XS)
theorem Rd:aO T lv O K N m0 tp .skip s=some (.normal,s):=rfl
theorem Rc(id:Nat):aO T lv O K N m0 tp (.exit id) s=some (.exit id,s):=rfl
theorem Ua:aO T lv O K N m0 tp .ret s=some (.ret,s):=rfl
theorem zm(id:Nat)(ops:Array Oper):aO T lv O K N m0 tp (.region id ops false) s=match cr T O N m0 ops ops.toList s with
  |some s' =>some (.normal,s')
  |none=>none:=rfl
theorem Rb(id:Nat)(ops:Array Oper):aO T lv O K N m0 tp (.region id ops true) s=match aN T O N m0 ops s with
  |some s' =>some (.normal,s')
  |none=>none:=rfl
theorem Lq(a b:Code):aO T lv O K N m0 tp (.seq a b) s=match aO T lv O K N m0 tp a s with
  |some (.normal,s')=>aO T lv O K N m0 tp b s'
  |r=>r:=rfl
theorem Ra(c:Operand)(a b:Code):aO T lv O K N m0 tp (.cond c a b) s=match get s.env c with
  |.bool true=>aO T lv O K N m0 tp a s
  |.bool false=>aO T lv O K N m0 tp b s
  |_=>none:=rfl
theorem NM(id:Nat)(b:Code):aO T lv O K N m0 tp (.block id b) s=match aO T lv O K N m0 tp b s with
  |some (.exit i,s')=>if i=id then some (.normal,s') else some (.exit i,s')
  |r=>r:=rfl
theorem bw(b:Code):aO T lv O K N m0 tp (.loop b) s=ga (lv b) (ae b) s.env s.mem.length (aO T lv O K N m0 tp b) K ⟨au (lv b) (ae b) s.env s.env,s.mem,s.afS⟩:=rfl
end
attribute [simp] Rd Rc Ua zm Rb Lq Ra NM
open Classical in
theorem vy{p:Env->Bool->Prop}{q:Env->Bool->Env->Prop}(h:∀e d,p e d->∃X,q e d X):∃F:Env->Bool->Env,∀e d,p e d->q e d (F e d):=
 ⟨fun e d=>if Z:p e d then Classical.choose (h e d Z) else [],fun e d Z=>by simp only[dif_pos Z];exact Classical.choose_spec (h e d Z)⟩
theorem bZ{α:Type}{f:XS->Option (Exit×XS)}{lv wr:List Nat}{J:Env}{W:Nat}(S:α->XS)(m:α->Nat)(Inv:α->Prop)(I:Exit) (H :Mem) (d' :Bool)(Q:Env->Prop)(Y:I≠ .normal)
  (h:∀a,Inv a->(∃X V,f (S a)=some (.normal,V)/\nH lv wr J W V =S X /\Inv X /\m X <m a)\/(∃Z,f (S a)=some (I,⟨Z,H,d'⟩)/\Q Z)):
  ∀k a,Inv a->m a<k->∃Z,ga lv wr J W f k (S a)=some (I,⟨Z,H,d'⟩)/\Q Z
 |0,a,_,hk=>by omega
 |k+1,a,ha,hk=>by
  unfold ga;rcases h a ha with⟨X,V,U,R,h3,O⟩ | ⟨Z,U,h3⟩
  .rw[U]
   simp only[R];exact bZ S m Inv I H d' Q Y h k X h3 (by omega)
  .rw[U]
   refine⟨Z,?_,h3⟩;cases I<;>first | rfl | exact absurd rfl Y
theorem bG{T:TypeId->Option TyI}{lv:Code->List Nat}{O:afu}{K N m0:Nat}{tp:Bool}{b:Code}{L:List Nat}(W:lv b=L){mem H :Mem}{e:Exit}(J:Env->Prop)(I:Env->Env->Prop)(h:∀Z d,J Z->∃X,ga L (ae b) Z mem.length (aO T lv O K N m0 tp b) K ⟨au L (ae b) Z Z,mem,d⟩=some (e,⟨X,H,d⟩)/\I Z X):
  ∃F:Env->Bool->Env,∀Z d,J Z->aO T lv O K N m0 tp (.loop b) ⟨Z,mem,d⟩=some (e,⟨F Z d,H,d⟩)/\I Z (F Z d):=by
 refine vy (p:=fun Z _=>J Z) (q:=fun Z d V =>aO T lv O K N m0 tp (.loop b) ⟨Z,mem,d⟩=some (e,⟨V,H,d⟩)/\I Z V) ?_;intro Z d U;obtain⟨X,S,R⟩:=h Z d U;exact⟨X,by rw[bw,W];exact S,R⟩
theorem HI{n:Int}(h0:0<=n)(h1:n<=255):IntKind.u8.wrap n=n:=by simp only[IntKind.wrap,IntKind.bits,IntKind.signed,Bool.false_and,Bool.false_eq_true,if_false];omega
def OT(i:Option TyI):Bool:=match i with
 |some i=>match i.desc with
  |.interface _=>true
  |_=>false
 |none=>false
theorem Q2{T:TypeId->Option TyI}{t:TypeId}(h:OT (T t)=true)(r c:Bool):Wk T t r c .nilIface .nilIface=if r||c then some true else none:=by
 unfold OT at h;unfold Wk;cases hT:T t with
 |none=>rw[hT] at h;cases h
 |some i=>
  rw[hT] at h;simp only at h |-;cases hd:i.desc<;>rw[hd] at h<;>first | (cases h;done) | rfl
mutual
def AV.under(n:Nat):AV->Bool
 |.ptr b _=>decide (b<n)
 |.slice b _ _ _=>decide (b<n)
 |.map b=>decide (b<n)
 |.yield b=>decide (b<n)
 |.func _ Z=>AV.afB n Z
 |.iface _ v=>v.under n
 |.agg Z=>AV.afB n Z
 |.tuple Z=>AV.afB n Z
 |_=>true
def AV.afB(n:Nat):List AV->Bool
 | []=>true
 |v::vs=>v.under n&&AV.afB n vs
end
def back(ks:List Nat)(n:Nat)(b:Nat):Option Nat:=if b<ks.length then some (ks.getD b 0) else some (n+(b-ks.length))
mutual
theorem afx.agt{μ:Nat->Place}{N:Nat}{ks:List Nat}{H:Nat}:∀{v V},v.under ks.length=true->afx μ N (v.ren (back ks H)) V->afx (fun i=>μ (ks.getD i 0)) ks.length v V
 |.undef,V,_,_=>by simp[afx]
 |.bool b,V,_,h=>by simpa [AV.ren,afx] using h
 |.int k i,V,_,h=>by simpa [AV.ren,afx] using h
 |.str s,V,_,h=>by simpa [AV.ren,afx] using h
 |.ptr b o,V,hb,h=>by simp only[AV.under,Cs] at hb;simp only[AV.ren,back,hb,if_true,afx] at h |-;exact⟨trivial,h.2⟩
 |.afL,V,_,h=>by simpa [AV.ren,afx] using h
 |.slice b o l c,V,hb,h=>by simp only[AV.under,Cs] at hb;simp only[AV.ren,back,hb,if_true,afx] at h |-;exact⟨trivial,h.2⟩
 |.kO,V,_,h=>by simpa [AV.ren,afx] using h
 |.map b,V,hb,h=>by simp only[AV.under,Cs] at hb;simp only[AV.ren,back,hb,if_true,afx] at h |-;exact⟨trivial,h.2⟩
 |.yield b,V,hb,h=>by simp only[AV.under,Cs] at hb;simp only[AV.ren,back,hb,if_true,afx] at h |-;exact⟨trivial,h.2⟩
 |.afV,V,_,h=>by simpa [AV.ren,afx] using h
 |.func f X,V,hb,h=>by simp only[AV.under] at hb;simp only[AV.ren,afx] at h |-;obtain⟨Z,rfl,h⟩:=h;exact⟨Z,rfl,afy.agt hb h⟩
 |.nilFunc,V,_,h=>by simpa [AV.ren,afx] using h
 |.iface t v,V,hb,h=>by simp only[AV.under] at hb;simp only[AV.ren,afx] at h |-;obtain⟨U,rfl,h⟩:=h;exact⟨U,rfl,afx.agt hb h⟩
 |.nilIface,V,_,h=>by simpa [AV.ren,afx] using h
 |.agg X,V,hb,h=>by simp only[AV.under] at hb;simp only[AV.ren,afx] at h |-;obtain⟨Z,rfl,h⟩:=h;exact⟨Z,rfl,afy.agt hb h⟩
 |.tuple X,V,hb,h=>by simp only[AV.under] at hb;simp only[AV.ren,afx] at h |-;obtain⟨Z,rfl,h⟩:=h;exact⟨Z,rfl,afy.agt hb h⟩
theorem afy.agt{μ:Nat->Place}{N:Nat}{ks:List Nat}{H:Nat}:∀{vs Us},AV.afB ks.length vs=true->afy μ N (AV.afR (back ks H) vs) Us->afy (fun i=>μ (ks.getD i 0)) ks.length vs Us
 | [],Us,_,h=>by simpa [AV.afR,afy] using h
 |v::vs,Us,hb,h=>by simp only[AV.afB,Ar] at hb;simp only[AV.afR,afy] at h |-;obtain⟨U,Z,rfl,X,V⟩:=h;exact⟨U,Z,rfl,afx.agt hb.1 X,afy.agt hb.2 V⟩
end
def agb(ks:List Nat)(M:Mem)(k:Nat):afz->Prop
 |.y9=>True
 |.cells false es cs=>AV.afB ks.length cs=true/\∃o X,M[k]? =some (.cells o es X)/\∀(j:Nat) v,cs[j]? =some v->X[j]? =some (v.ren (back ks M.length))
 |.af6 es=>∃Z,(M[k]? =some (.af6 Z)\/M[k]? =some (.map Z))/\Z.length=es.length/\
   ∀(j:Nat) e,es[j]? =some e->(e.1.under ks.length=true/\e.2.under ks.length=true)/\Z[j]? =some (e.1.ren (back ks M.length),e.2.ren (back ks M.length))
 |_=>False
theorem yO{n:Nat}:∀{cs:List AV},AV.afB n cs=true->∀(j:Nat) v,cs[j]? =some v->v.under n=true
 | [],_,j,v,h=>by simp at h
 |c::cs,h,j,v,hj=>by
  simp only[AV.afB,Ar] at h;cases j with
  |zero=>simp at hj;subst hj;exact h.1
  |succ j=>exact yO h.2 j v (by simpa using hj)
theorem AA{α:Type}{cs H :List α}{g:α->α}(h:∀(j:Nat) v,cs[j]? =some v->H[j]? =some (g v)):cs.length<=H.length:=by
 by_cases Z:cs.length=0
 .omega
 .have:=h (cs.length-1) (cs[cs.length-1]'(by omega)) (by simp)
  have:=gL this;omega
section
variable {P:Program}
theorem bz.frame{f:FuncId}{args:List AV}{m new M:Mem}{v:AV}(ks:List Nat)(hl:m.length=ks.length)(hk:∀k∈ks,k<M.length)(ha:AV.afB ks.length args=true)(hm:∀(i:Nat) s,m[i]? =some s->agb ks M (ks.getD i 0) s)(hn:new.all (fun s=>s.own||match s with | .y9=>true | _=>false)=true)(h:bz P f args m v (m++new)):bz P f (AV.afR (back ks M.length) args) M (v.ren (back ks M.length)) (M++new.map (afz.ren (back ks M.length))):=by
 refine⟨h.1,fun base μ w Vs hG hH hV=>?_⟩;have Y:∀b,¬eH m b:=by
  rintro b ⟨s,R,F⟩;have:=hm b s R;cases s with
  |y9=>cases F
  |cells own es cs=>simp only[afz.own] at F;subst F;exact this
  |map es=>exact this
  |af6 es=>cases F
  |loop r=>exact this
 have hms:afJ base (fun i=>μ (ks.getD i 0)) m w:=by
  refine⟨hH.afF,fun b s R=>?_,fun b O s' X=>absurd X (Y b)⟩;have N:=hm b s R;cases s with
  |y9=>trivial
  |map es=>exact N.elim
  |af6 es=>
   obtain⟨es',h1,h2,h3⟩:=N;have R:∃B F',w.heap[(μ (ks.getD b 0)).blk]? =some (.map B F')/\ER B F'/\B.size=es'.length/\∀(j:Nat) e,es'[j]? =some e->∃E,B[j]? =some E/\Ph μ M.length e E:=by
    rcases h1 with h1 | h1
    .have:=hH.slot _ _ h1;simpa only[afM] using this
    .have:=hH.slot _ _ h1
     simp only[afM] at this;obtain⟨B,F',k1,k2,k3,k4⟩:=this;exact⟨B,F',k1,k2.2,k3,k4⟩
   obtain⟨B,F',k1,k2,k3,k4⟩:=R;simp only[afM];refine⟨B,F',k1,k2,by omega,fun j e he=>?_⟩;obtain⟨⟨u1,u2⟩,u3⟩:=h3 j e he;obtain⟨E,hE,r1,r2⟩:=k4 j _ u3;rw[hl];exact⟨E,hE,afx.agt u1 r1,afx.agt u2 r2⟩
  |loop r=>exact N.elim
  |cells own es cs=>
   cases own with
   |true=>exact N.elim
   |false=>
    obtain⟨X,o,cs',h1,h2⟩:=N;have:=hH.slot _ _ h1;simp only[afM] at this |-;obtain⟨cur,e,fr,g1,g2,g3,g4,_⟩:=this;refine⟨cur,e,fr,g1,g2,Y2 (AA h2) g3,fun j u hj=>?_,fun h=>by cases h⟩;obtain⟨V,hV,hr⟩:=g4 j _ (h2 j u hj);rw[hl];exact⟨V,hV,afx.agt (yO X j u hj) hr⟩
 have aaH:=afy.agt ha hV;rw[<-hl] at aaH;refine(h.2 base _ w Vs hG hms aaH).mono ?_;rintro e w' ⟨V,v',mem',μ',rfl,q1,q2,q3,rfl,rfl⟩;have y:afZ w w' :=⟨q3.size,fun k hk=>q3.frame k hk fun b X=>absurd X (Y b),q3.os,q3.tape,q3.output,q3.drawn⟩;have W:∀b,eH (m++new) b->w.heap.size<=(μ' b).blk:=by
  intro b X;by_cases J:(μ' b).blk<w.heap.size
  .obtain⟨b0,h0,_⟩:=q3.owner b X J
   exact absurd h0 (Y b0)
  .omega
 obtain⟨μ2,hμ2⟩:=xE (α:=Nat->Place) (fun b=>if b<M.length then μ b else μ' (b-M.length+m.length));have U:∀b,b<M.length->μ2 b=μ b:=fun b X=>by rw[hμ2];simp[X]
 have Q:∀i,μ2 (M.length+i)=μ' (m.length+i):=fun i=>by rw[hμ2];simp only;rw[if_neg (by omega)];congr 1;omega
 have hρ:∀b O,b<(m++new).length->back ks M.length b=some O ->O <(M++new.map (afz.ren (back ks M.length))).length/\μ2 O =μ' b:=by
  intro b O X S;simp only[Nm,QQm] at X |-;unfold back at S;split at S
  .rename_i J
   cases S;have aaW:ks.getD b 0∈ks:=by rw[List.getD_eq_getElem?_getD,LB J,Option.getD_some];exact List.getElem_mem J
   have:=hk _ aaW;refine⟨by omega,?_⟩;rw[U _ this];exact(q3.agree b (by omega)).symm
  .rename_i J
   cases S;refine⟨by omega,?_⟩;rw[Q,show m.length+(b-ks.length)=b by omega]
 have D:∀b s,(M++new.map (afz.ren (back ks M.length)))[b]? =some s->(b<M.length/\M[b]? =some s)\/∃i Z,b=M.length+i/\new[i]? =some Z/\s=Z.ren (back ks M.length):=by
  intro b s R;by_cases X:b<M.length
  .rw[GE X] at R
   exact .inl ⟨X,R⟩
  .rw[Ns (by omega),Y1] at R
   simp only[Pi] at R;obtain⟨Z,h1,h2⟩:=R;exact .inr ⟨b-M.length,Z,by omega,h1,h2.symm⟩
 have I:∀i Z,new[i]? =some Z->(m++new)[m.length+i]? =some Z:=by intro i Z h;rw[Ns (by omega),Nat.add_sub_cancel_left];exact h
 have C:∀i Z,new[i]? =some Z->Z≠ .y9->eH (m++new) (m.length+i):=by intro i Z h H;refine⟨Z,I i Z h,?_⟩;have:=List.all_eq_true.1 hn Z (Lo h);cases Z<;>simp_all
 have K:∀Z:afz,Z.ren (back ks M.length)≠ .y9->Z≠ .y9:=by rintro Z h rfl;exact h rfl
 refine⟨V,_,_,μ2,rfl,q1.ren hρ,⟨Y2 hH.afF y.size,fun b s R=>?_,fun b O s' X S H hbb=>?_⟩,?_,rfl,rfl⟩
 .rcases D b s R with⟨X,h1⟩ | ⟨i,Z,rfl,h1,rfl⟩
  .rw[U b X]
   refine(hH.slot b s h1).mono (by simp) U fun H=>y.heap _ ((hH.slot b s h1).agi H)
  .rw[Q]
   exact(q2.slot _ Z (I i Z h1)).ren hρ
 .obtain⟨s,R,F⟩:=X
  have ac6:=afz.af7 F;rcases D b s R with⟨X,h1⟩ | ⟨i,Z,rfl,h1,rfl⟩<;>rcases D O s' S with⟨S,G⟩ | ⟨i',s0',rfl,G,rfl⟩
  .rw[U b X,U O S]
   exact hH.sep b O s' ⟨s,h1,F⟩ G H hbb
  .rw[U b X,Q]
   have g1:=(hH.slot b s h1).agi ac6;have g2:=W _ (C i' s0' G (K _ H));omega
  .rw[U O S,Q]
   have g1:=(hH.slot O s' G).agi H;have g2:=W _ (C i Z h1 (K _ ac6));omega
  .rw[Q,Q]
   exact q2.sep _ _ s0' (C i Z h1 (K _ ac6)) (I i' s0' G) (K _ H) (by omega)
 .refine⟨by simp,U,y.os,y.tape,y.output,y.size,fun k hk _=>y.heap k hk,fun b X J=>?_,y.drawn⟩
  obtain⟨s,R,F⟩:=X;rcases D b s R with⟨X,h1⟩ | ⟨i,Z,rfl,h1,rfl⟩
  .exact⟨b,⟨s,h1,F⟩,by rw[U b X]⟩
  .rw[Q] at J
   have:=W _ (C i Z h1 (K _ (afz.af7 F)));omega
end
def iN(k:IntKind)(l:List Nat):List AV:=l.map fun n:Nat=>.int k (n:Int)
def iZ(l:List Int):List AV:=l.map fun n=>.int .i64 n
section
variable (k:IntKind)
theorem OP:iN k []=[]:=rfl
theorem cD(n:Nat)(l:List Nat):iN k (n::l)=.int k (n:Int)::iN k l:=rfl
theorem Uk(l:List Nat):(iN k l).length=l.length:=by simp[iN]
theorem dJ(l r:List Nat):iN k (l++r)=iN k l++iN k r:=by simp[iN]
section
variable (l:List Nat)
include l
theorem XN(n:Nat):iN k l++[.int k (n:Int)]=iN k (l++[n]):=by simp[iN]
theorem Uj(i:Nat):(iN k l)[i]? =(l[i]?).map fun n:Nat=>.int k (n:Int):=by simp[iN]
theorem Rf(i:Nat)(h:i<(iN k l).length):(iN k l)[i]=.int k ((l[i]'(by simpa [iN] using h):Nat):Int):=by simp[iN]
theorem iA(i:Nat):(iN k l).take i=iN k (l.take i):=by simp[iN]
theorem rV(i:Nat):(iN k l).drop i=iN k (l.drop i):=by simp[iN]
theorem YS:(iN k l).all AV.adM=true:=by simp[iN,AV.adM]
end
theorem O4(m:Nat)(l:List Nat):AV.afN m (iN k l)=[]:=by
 induction l with
 |nil=>rfl
 |cons x l ih=>simp[cD,AV.afN,AV.refs,ih]
theorem U2(ρ:Nat->Option Nat)(l:List Nat):AV.afR ρ (iN k l)=iN k l:=by
 induction l with
 |nil=>rfl
 |cons x l ih=>simp[cD,AV.afR,AV.ren,ih]
theorem Mh(m:Nat)(l:List Nat):AV.afB m (iN k l)=true:=by
 induction l with
 |nil=>rfl
 |cons x l ih=>simp[cD,AV.afB,AV.under,ih]
theorem FE(ok:Nat->Bool)(l:List Nat):AV.afD ok (iN k l)=true:=by
 induction l with
 |nil=>rfl
 |cons x l ih=>simp[cD,AV.afD,AV.aft,ih]
theorem L3(m:Nat)(o:Bool)(e:Nat)(l:List Nat):afz.refs m (.cells o e (iN k l))=[]:=by simp[afz.refs,O4]
theorem Ob(ρ:Nat->Option Nat)(o:Bool)(e:Nat)(l:List Nat):afz.ren ρ (.cells o e (iN k l))=.cells o e (iN k l):=by simp[afz.ren,U2]
theorem EM(ok:Nat->Bool)(o:Bool)(e:Nat)(l:List Nat):afz.aft ok (.cells o e (iN k l))=true:=by simp[afz.aft,FE]
theorem rW(l:Nat):jH [.int k 0] l=iN k (List.replicate l 0):=by
 induction l with
 |zero=>rfl
 |succ l ih=>rw[jH,ih,List.replicate_succ,cD];rfl
end
attribute [simp] OP Uk Uj Rf O4 U2 Mh FE L3 Ob EM YS
attribute [simp] Hx DC TyI.isAgg afz.refs afz.ren AV.under AV.afB afz.own pP lz cY Me tQ tT Yu gf qG jH AV.known AV.cells AV.adM
def Dk(k:IntKind):List AV->Option (List Nat)
 | []=>some []
 |.int k' n::l=>if k' =k/\0<=n then match Dk k l with
  |some r=>some (n.toNat::r)
  |none=>none
  else none
 |_::_=>none
theorem UJ(k:IntKind)(l:List Nat):Dk k (iN k l)=some l:=by
 induction l with
 |nil=>rfl
 |cons x l ih=>rw[cD,Dk,if_pos ⟨rfl,by omega⟩,ih];simp
theorem Dl{k:IntKind}:∀{l:List AV} {r:List Nat},Dk k l=some r->l=iN k r
 | [],r,h=>by cases h;rfl
 |v::l,r,h=>by
  cases v<;>first | (unfold Dk at h;cases h;done) | skip
  rename_i V n;unfold Dk at h;split at h
  .rename_i Z
   split at h
   .rename_i U X
    cases h;rw[cD,Dl X,Z.1];congr 2;omega
   .cases h
  .cases h
theorem dp{l:List Nat}{i:Nat}(h:i<l.length):∃x,l[i]? =some x/\l[i]=x:=⟨l[i],by simp,rfl⟩
mutual
theorem zj{n:Nat}:∀{v:AV},v.closed=true->v.under n=true
 |.ptr _ _,h=>by simp[AV.closed] at h
 |.slice _ _ _ _,h=>by simp[AV.closed] at h
 |.map _,h=>by simp[AV.closed] at h
 |.yield _,h=>by simp[AV.closed] at h
 |.func _ Z,h=>by simp only[AV.closed] at h;simp only[AV.under];exact bx h
 |.iface _ v,h=>by simp only[AV.closed] at h;simp only[AV.under];exact zj h
 |.agg Z,h=>by simp only[AV.closed] at h;simp only[AV.under];exact bx h
 |.tuple Z,h=>by simp only[AV.closed] at h;simp only[AV.under];exact bx h
 |.undef,_=>rfl
 |.bool _,_=>rfl
 |.int _ _,_=>rfl
 |.str _,_=>rfl
 |.afL,_=>rfl
 |.kO,_=>rfl
 |.afV,_=>rfl
 |.nilFunc,_=>rfl
 |.nilIface,_=>rfl
theorem bx{n:Nat}:∀{vs:List AV},AV.afA vs=true->AV.afB n vs=true
 | [],_=>rfl
 |v::vs,h=>by simp only[AV.afA,Ar] at h;simp only[AV.afB,zj h.1,bx h.2];rfl
end
mutual
theorem FG{ρ:Nat->Option Nat}:∀{v:AV},v.closed=true->v.ren ρ=v
 |.ptr _ _,h=>by simp[AV.closed] at h
 |.slice _ _ _ _,h=>by simp[AV.closed] at h
 |.map _,h=>by simp[AV.closed] at h
 |.yield _,h=>by simp[AV.closed] at h
 |.func _ Z,h=>by simp only[AV.closed] at h;simp only[AV.ren,aS h]
 |.iface _ v,h=>by simp only[AV.closed] at h;simp only[AV.ren,FG h]
 |.agg Z,h=>by simp only[AV.closed] at h;simp only[AV.ren,aS h]
 |.tuple Z,h=>by simp only[AV.closed] at h;simp only[AV.ren,aS h]
 |.undef,_=>rfl
 |.bool _,_=>rfl
 |.int _ _,_=>rfl
 |.str _,_=>rfl
 |.afL,_=>rfl
 |.kO,_=>rfl
 |.afV,_=>rfl
 |.nilFunc,_=>rfl
 |.nilIface,_=>rfl
theorem aS{ρ:Nat->Option Nat}:∀{vs:List AV},AV.afA vs=true->AV.afR ρ vs=vs
 | [],_=>rfl
 |v::vs,h=>by simp only[AV.afA,Ar] at h;simp only[AV.afR,FG h.1,aS h.2]
end
theorem xu(s n:Nat):(s:Int).tmod (n:Int)=((s%n:Nat):Int):=rfl
theorem xt(s n:Nat):(s:Int).tdiv (n:Int)=((s / n:Nat):Int):=rfl
theorem Bc(s n:Nat):(s:Int).tmod (OfNat.ofNat n)=((s%n:Nat):Int):=rfl
theorem HE(s n:Nat):(s:Int).tdiv (OfNat.ofNat n)=((s / n:Nat):Int):=rfl
theorem LZ(m:Nat)(a b:List AV):AV.afN m (a++b)=AV.afN m a++AV.afN m b:=by
 induction a with
 |nil=>rfl
 |cons x a ih=>simp[AV.afN,ih]
theorem Od(ρ:Nat->Option Nat)(a b:List AV):AV.afR ρ (a++b)=AV.afR ρ a++AV.afR ρ b:=by
 induction a with
 |nil=>rfl
 |cons x a ih=>simp[AV.afR,ih]
theorem EL(ok:Nat->Bool)(a b:List AV):AV.afD ok (a++b)=(AV.afD ok a&&AV.afD ok b):=by
 induction a with
 |nil=>rfl
 |cons x a ih=>simp[AV.afD,ih,Bool.and_assoc]
attribute [simp] LZ Od EL
def afO(k:IntKind)(M:Mem)(x:AV)(A:List Nat):Prop:=∃b o Z,x=.slice b 0 A.length none/\M[b]? =some (.cells o 1 Z)/\Z.take A.length=iN k A
def bl(k:IntKind)(M:Mem):AV->Option (List Nat)
 |.slice b 0 n none=>match M[b]? with
  |some (.cells _ 1 cs)=>if n<=cs.length then Dk k (cs.take n) else none
  |_=>none
 |_=>none
theorem br{k:IntKind}{M:Mem}{x:AV}{A:List Nat}(h:bl k M x=some A):afO k M x A:=by
 unfold bl at h;split at h
 .rename_i b n
  split at h
  .rename_i o X V
   split at h
   .rename_i S
    have Z:=Dl h;have U:n=A.length:=by have:=congrArg List.length Z;simp at this;omega
    subst U;exact⟨b,o,X,rfl,V,Z⟩
   .cases h
  .cases h
 .cases h
variable{b:Nat}{cs:List AV}
theorem aW{k:IntKind}{M:Mem}{n:Nat}{ow:Bool}{A:List Nat}(h:M[b]? =some (.cells ow 1 cs))(H:n<=cs.length)(I:cs.take n=iN k A):bl k M (.slice b 0 n none)=some A:=by simp only[bl,h];rw[if_pos H,I,UJ]
variable{o:Bool}
theorem agb.row{k:IntKind}{ks:List Nat}{M:Mem}{A:List Nat}(h:M[b]? =some (.cells o 1 cs))(H:cs.take A.length=iN k A):agb ks M b (.cells false 1 (iN k A)):=by
 refine⟨Mh _ _ _,o,cs,h,fun j v Z=>?_⟩;have X:j<A.length:=by have:=gL Z;simpa using this
 have:cs[j]? =(iN k A)[j]? :=by rw[<-H,V2 X]
 rw[this,Z];rw[Uj] at Z;simp only[Pi] at Z;obtain⟨n,_,rfl⟩:=Z;simp[AV.ren]
section
variable {P:Program}{k:IntKind}{f:FuncId}{A B:List Nat}{M:Mem}{x y:AV}
theorem bz.ag2{rest:List AV}{v:AV}{new:Mem}(hr:AV.afA rest=true)(H:new.all (fun s=>s.own||match s with | .y9=>true | _=>false)=true)(h:bz P f (.slice 0 0 A.length none::rest) [.cells false 1 (iN k A)] v (.cells false 1 (iN k A)::new))(hx:afO k M x A):
  ∃b,x=.slice b 0 A.length none/\bz P f (x::rest) M (v.ren (back [b] M.length)) (M++new.map (afz.ren (back [b] M.length))):=by
 obtain⟨b,o,cs,rfl,X,V⟩:=hx;refine⟨b,rfl,?_⟩;have U:=gL X;have:=bz.frame (M:=M) [b] (m:=[.cells false 1 (iN k A)]) rfl (by simpa using U) (by simp only[AV.afB,AV.under,bx hr];rfl) (fun i s Z=>by
  cases i with
  |zero=>simp at Z;subst Z;exact .row X V
  |succ i=>simp at Z) H h
 simpa [AV.afR,AV.ren,back,aS hr] using this
theorem bz.agq{v:AV}{new:Mem}(H:new.all (fun s=>s.own||match s with | .y9=>true | _=>false)=true)(h:bz P f [.slice 0 0 A.length none,.slice 1 0 B.length none] [.cells false 1 (iN k A),.cells false 1 (iN k B)] v (.cells false 1 (iN k A)::.cells false 1 (iN k B)::new))(hx:afO k M x A)(I:afO k M y B):
  ∃b c,x=.slice b 0 A.length none/\y=.slice c 0 B.length none/\bz P f [x,y] M (v.ren (back [b,c] M.length)) (M++new.map (afz.ren (back [b,c] M.length))):=by
 obtain⟨b,o,cs,rfl,U,R⟩:=hx;obtain⟨c,N,Q,rfl,S,X⟩:=I;refine⟨b,c,rfl,rfl,?_⟩;have O:=gL U;have V :=gL S;have:=bz.frame (M:=M) [b,c] (m:=[.cells false 1 (iN k A),.cells false 1 (iN k B)]) rfl (by simp[O,V]) (by simp) (fun i s Z=>by
  match i with
  |0=>simp at Z;subst Z;exact .row U R
  |1=>simp at Z;subst Z;exact .row S X
  |i+2=>simp at Z) H h
 simpa [AV.afR,AV.ren,back] using this
theorem bz.ahn{args:List AV}{m:Mem}{v:AV}{es:Nat}{H :List AV}(h:bz P f args m v (m++[afz.cells o es cs]))(I:H <+: cs):bz P f args m v (m++[afz.cells o es H]):=by
 refine⟨h.1,fun base μ w Vs hG hH hV=>(h.2 base μ w Vs hG hH hV).mono ?_⟩;rintro e w' ⟨V,v',m',μ',rfl,q1,q2,q3,rfl,rfl⟩;have S:∀b X,(m++[afz.cells o es H])[b]? =some X->∃R,(m++[afz.cells o es cs])[b]? =some R/\R.own=X.own/\(R=.y9->X=.y9)/\afM μ' (m++[afz.cells o es cs]).length base w' (μ' b) X:=by
  intro b X U;by_cases Q:b<m.length
  .rw[GE Q] at U
   have Z :(m++[afz.cells o es cs])[b]? =some X:=gU U _;exact⟨X,Z,rfl,id,q2.slot b X Z⟩
  .have O:b=m.length:=by have:=gL U;simp at this;omega
   subst O;simp at U;subst U;have Z :(m++[afz.cells o es cs])[m.length]? =some (afz.cells o es cs):=by simp
   refine⟨_,Z,rfl,(fun h=>by cases h),?_⟩;have:=q2.slot _ _ Z;simp only[afM] at this |-;obtain⟨N,el,D,g1,K,g3,C,Y⟩:=this;refine⟨N,el,D,g1,K,Y2 I.length_le g3,fun j u F=>C j u ?_,Y⟩;obtain⟨t,rfl⟩:=I;rw[GE (gL F)];exact F
 have G:(m++[afz.cells o es H]).length=(m++[afz.cells o es cs]).length:=by simp
 refine⟨V,_,_,μ',rfl,by rw[G];exact q1,q2.swap G S,⟨by rw[G];exact q3.len,q3.agree,q3.os,q3.tape,q3.output,q3.size,q3.frame,fun b U Q=>?_,q3.drawn⟩,rfl,rfl⟩;obtain⟨s,g1,K⟩:=U;obtain⟨R,W,J,_,_⟩:=S b s g1;exact q3.owner b ⟨R,W,by rw[J];exact K⟩ Q
end
end Go.Eng
namespace Go.Eng
def oQ(P:Program)(c:Callee)(args:List AV)(m:Mem)(r:afw):Prop:=
 (match c with
  |.fn f=>bz P f args m r.v (r.mem m)
  |.yld b=>gp P b args m r.v (r.mem m))/\∀q,r.pre=some q->q.length=m.length
open Classical in
theorem jF{P:Program}{ι:Type}(p:ι->Prop)(c:ι->Callee)(a:ι->List AV)(m:ι->Mem)(r:ι->afw)(hs:∀i,p i->oQ P (c i) (a i) (m i) (r i))(hc:∀i j,p i->p j->c i=c j->a i=a j->m i=m j->r i=r j):∃O:afu,afs P O/\∀i,p i->O (c i) (a i) (m i)=some (r i):=by
 refine⟨fun S X V =>if h:∃i,p i/\c i=S /\a i=X /\m i=V then some (r (Classical.choose h)) else none,?_,fun i K=>?_⟩
 .have U:∀S X V R,(if h:∃i,p i/\c i=S /\a i=X /\m i=V then some (r (Classical.choose h)) else none)=some R ->oQ P S X V R :=by
   intro S X V R h;split at h
   .rename_i Z
    obtain⟨Q,N,h3,M⟩:=Classical.choose_spec Z;cases h;have:=hs _ Q;rw[N,h3,M] at this;exact this
   .cases h
  exact⟨fun f X V R h=>(U _ _ _ _ h).1,fun b X V R h=>(U _ _ _ _ h).1,fun S X V R q h G=>(U _ _ _ _ h).2 q G⟩
 .have Z:∃j,p j/\c j=c i/\a j=a i/\m j=m i:=⟨i,K,rfl,rfl,rfl⟩
  simp only[dif_pos Z];obtain⟨Q,N,h3,M⟩:=Classical.choose_spec Z;rw[hc _ _ Q K N h3 M]
variable{n:Nat}{r:agz}
theorem xm(h:r.env.flatMap (fun e=>e.2.refs n)=[]):afz.refs n (.loop r)=[]:=h
variable{ks:List Nat}
theorem O5(h:r.env.flatMap (fun e=>e.2.refs n)=[]):afz.ren (rho n ks) (.loop r)=.loop r:=afz.afP (xm h)
theorem He{m:Mem}(h:∀s∈m,s.refs n=[]):m.flatMap (afz.refs n)=[]:=by rw[List.flatMap_eq_nil_iff];exact h
theorem zv{m:Mem}(h:∀s∈m,s.refs n=[]):m.map (afz.ren (rho n ks))=m:=by
 conv=>rhs;rw[<-List.map_id m]
 apply List.map_congr_left;intro s Z;rw[afz.afP (h s Z)];rfl
variable{G:FuncId->Option Func}{c:Code}{e:Exit}{fn:Func}{mem mem' :Mem}
section
variable{T:TypeId->Option TyI}{lv:Code->List Nat}{O:afu}
include T lv O
theorem KZ{K:Nat}{f:FuncId}{args:List AV}{v:AV}{J :Env}(hf:G f=some fn)(Y:fn.body=some c)(hl:args.length<=fn.ntmps)(he:e=.normal\/e=.ret)(h:aO T lv O K fn.ntmps mem.length true c ⟨dQ 0 args,mem,false⟩=some (e,⟨J,mem',true⟩))(W:jG T fn.results.toList J mem' =some v)(C':mem'.length=mem.length)(H:v.refs mem.length=[])(I:∀s∈mem',s.refs mem.length=[]):ad T lv G O K f args mem=some ⟨v,some mem',[]⟩:=by
 have X:mem'.take mem.length=mem' :=An (by omega);unfold ad;simp only[hf,Y];rw[if_pos hl,h];have Z:qM mem.length mem' 1000 (v.refs mem.length++(mem'.take mem.length).flatMap (afz.refs mem.length)) []=[]:=by rw[H,X,He I];rfl
 rcases he with rfl | rfl
 .simp only[W,if_true]
  rw[Z,X];simp[EI,agp,zv I,AV.afP H]
 .simp only[W,if_true]
  rw[Z,X];simp[EI,agp,zv I,AV.afP H]
theorem vn{K N m0:Nat}{tp:Bool}{b:Code}{L:List Nat}(J:lv b=L)(d0 d1:Bool)(I:Env->Prop)(H:Env->Env->Prop)(h:∀Z,I Z->∃X,ga L (ae b) Z mem.length (aO T lv O K N m0 tp b) K ⟨au L (ae b) Z Z,mem,d0⟩=some (e,⟨X,mem',d1⟩)/\H Z X):
  ∃F:Env->Env,∀Z,I Z->aO T lv O K N m0 tp (.loop b) ⟨Z,mem,d0⟩=some (e,⟨F Z,mem',d1⟩)/\H Z (F Z):=by
 obtain⟨F,S⟩:=vy (p:=fun Z _=>I Z) (q:=fun Z _ U =>aO T lv O K N m0 tp (.loop b) ⟨Z,mem,d0⟩=some (e,⟨U,mem',d1⟩)/\H Z U) (fun Z _ V=>by obtain⟨X,R,Q⟩:=h Z V;exact⟨X,by rw[bw,J];exact R,Q⟩)
 exact⟨fun Z=>F Z true,fun Z V=>S Z true V⟩
end
def fX:Code->List (Array Tmp×Code×Code)
 |.seq a b=>fX a++fX b
 |.cond _ a b=>fX a++fX b
 |.block _ b=>fX b
 |.loop b=>fX b
 |.rangeFunc _ ps a b=>[(ps,a,b)]
 |_=>[]
def eL(f:Func):List (Array Tmp×Code×Code):=match f.body with
 |some c=>fX c
 |none=>[]
theorem N9{env:Env}(h:env.flatMap (fun e=>e.2.refs n)=[]):sD (rho n ks) env=env:=by
 unfold sD;rw[List.flatMap_eq_nil_iff] at h;conv=>rhs;rw[<-List.map_id env]
 apply List.map_congr_left;intro e Z;rw[AV.afP (h e Z)];rfl
attribute [simp] afz.aft
theorem cG{P:Program}{O:afu}(key:∀c Z M r,O c Z M=some r->oQ P c Z M r):afs P O:=
 ⟨fun f Z M r h=>(key _ _ _ _ h).1,fun b Z M r h=>(key _ _ _ _ h).1,fun c Z M r p h X=>(key _ _ _ _ h).2 p X⟩
variable{M:Mem}
theorem ee{P:Program}{O:afu}(H:afs P O){c:Go.Eng.Callee}{args:List AV}{r:afw}(h:O c args M=some r):oQ P c args M r:=by
 refine⟨?_,fun q Z=>H.pre _ _ _ _ _ h Z⟩;cases c with
 |fn f=>exact H.fn _ _ _ _ h
 |yld b=>exact H.yld _ _ _ _ h
theorem aA{P:Program}{f:FuncId}{args:List AV}{new:Mem}{v:AV}(h:bz P f args M v (M++new)):oQ P (.fn f) args M ⟨v,none,new⟩:=⟨h,fun q Z=>by cases Z⟩
theorem cC{P:Program}{f:FuncId}{args:List AV}{v:AV}(h:bz P f args M v M):oQ P (.fn f) args M ⟨v,none,[]⟩:=aA (by simpa using h)
def ag3(s s' :afz):Prop:=s=s' \/∃o es X Z,s' =.cells o es X/\s=.cells o es Z /\Z <+: X
theorem ag3.row{k:IntKind}{o:Bool}{es:Nat}{l r:List Nat}(h:l <+: r):ag3 (.cells o es (iN k l)) (.cells o es (iN k r)):=by obtain⟨t,rfl⟩:=h;exact .inr ⟨o,es,_,_,rfl,rfl,iN k t,by rw[<-dJ]⟩
theorem bz.agu{P:Program}{f:FuncId}{args:List AV}{m H m2:Mem}{v:AV}(h:bz P f args m v H)(I:m2.length=H.length)(hc:∀(b:Nat) s,m2[b]? =some s->∃R,H[b]? =some R /\ag3 s R):bz P f args m v m2:=by
 refine⟨h.1,fun base μ w Vs hG hH hV=>(h.2 base μ w Vs hG hH hV).mono ?_⟩;rintro e w' ⟨V,v',m',μ',rfl,q1,q2,q3,rfl,rfl⟩;have X:∀b Z,m2[b]? =some Z->∃U,m'[b]? =some U/\U.own=Z.own/\(U=.y9->Z=.y9)/\afM μ' m'.length base w' (μ' b) Z:=by
  intro b Z Q;obtain⟨R,S,D⟩:=hc b Z Q;rcases D with rfl | ⟨o,es,cs,C,rfl,rfl,K⟩
  .exact⟨Z,S,rfl,id,q2.slot b Z S⟩
  .refine⟨_,S,rfl,(fun h=>by cases h),?_⟩
   have:=q2.slot _ _ S;simp only[afM] at this |-;obtain⟨O,el,B,g1,N,g3,y,Y⟩:=this;refine⟨O,el,B,g1,N,Y2 K.length_le g3,fun j u F=>y j u ?_,Y⟩;obtain⟨t,rfl⟩:=K;rw[GE (gL F)];exact F
 refine⟨V,v',m2,μ',rfl,by rw[I];exact q1,q2.swap I X,⟨by rw[I];exact q3.len,q3.agree,q3.os,q3.tape,q3.output,q3.size,q3.frame,fun b Q W=>?_,q3.drawn⟩,rfl,rfl⟩;obtain⟨s,g1,N⟩:=Q;obtain⟨U,J,k2,_,_⟩:=X b s g1;exact q3.owner b ⟨U,J,by rw[k2];exact N⟩ W
variable{R:AV->Mem->Prop}
section
variable {P:Program}{T:TypeId->Option TyI}{O:afu}{K:Nat}{lv:Code->List Nat}
theorem af8.agv(hT:dS P T){f:FuncId}{args:List AV}(hf:P.funcs[f]? =some fn)(H:fn.body=some c)(I:(fn.name == "runtime.NumGoroutine")=false)(J:args.length<=fn.ntmps)(h:AWP P true fn.ntmps mem.length c ⟨dQ 0 args,mem⟩ fun e U =>(e=.normal\/e=.ret)/\∃v,jG T fn.results.toList U.env U.mem=some v/\R v U.mem):
  af8 P f args mem R:=by
 refine⟨⟨fn,hf,by simp[H],I⟩,fun base μ w Vs hG hH hV=>?_⟩;refine AL.1 (callsIn_of_wp_marks (F:=Fr none) (n:=0) hf H trivial (wpIn_mono (h none w.heap.size base μ w _ (fun _=>rfl) hH ?_ ?_ (MOk.nil w hG hH.afF (Es _)) (Es _)) ?_) rfl)
 .intro t
  have:=yG 0 hV t;simp only[Nat.not_lt_zero,if_false,QQg] at this;by_cases Q:t<Vs.length
  .have e:(⟨Vs⟩++Array.replicate (fn.ntmps-(⟨Vs⟩:Array Value).size) undef:Array Value).getD t undef=Vs.getD t undef:=by simp only[Array.getD_eq_getD_getElem?];rw[Array.getElem?_append_left (by simpa using Q)];simp[List.getD]
   show afx μ mem.length (aa (dQ 0 args) t) ((⟨Vs⟩++Array.replicate (fn.ntmps-(⟨Vs⟩:Array Value).size) undef:Array Value).getD t undef)
   rw[e];exact this
  .have:aa (dQ 0 args) t=.undef:=by
    have y:=hV.length;have:∀(X:List AV) (i:Nat),i+X.length<=t->aa (dQ i X) t=.undef:=by
     intro X;induction X with
     |nil=>intro i _;rfl
     |cons v X ih=>
      intro i N;simp only[List.length_cons] at N;simp only[dQ,aa];rw[if_neg (by omega)];exact ih (i+1) (by omega)
    exact this args 0 (by omega)
   show afx μ mem.length (aa (dQ 0 args) t) _
   rw[this];simp[afx]
 .simp only[Array.size_append,List.size_toArray,Array.size_replicate,hV.length];omega
 .rintro e a' w' ⟨U,μ',b1,b2,b3,b4,b5,b6,he,v,hv,hR⟩
  have Z:LeavesInM (Fr none) 0 P fn a'.tmps (fun e w' =>∃V v mem' μ',e=.returned V/\afx μ' mem'.length v V/\afJ base μ' mem' w' /\Step mem.length μ mem w μ' mem' w' /\R v mem') a'.defers .returning w' :=by
   refine se a'.defers w' b4 b1 b6 fun w2 S D=>?_
   obtain⟨V,C,B⟩:=tX (P:=P) (fn:=fn) hT S b2 hv;exact⟨V,C,⟨V,_,_,_,rfl,B,S,D,hR⟩⟩
  rcases he with rfl | rfl
  .exact Z
  .exact Z
def ao(T:TypeId->Option TyI)(lv:Code->List Nat)(G:FuncId->Option Func)(O:afu)(K:Nat)(f:FuncId)(args:List AV)(mem:Mem):Option (AV×Mem):=
 match G f with
 |none=>none
 |some fn=>match fn.body with
  |none=>none
  |some c=>
   if args.length<=fn.ntmps then
    match aO T lv O K fn.ntmps mem.length true c ⟨dQ 0 args,mem,false⟩ with
    |some (e,s)=>
     match e with
     |.normal | .ret=>
      match jG T fn.results.toList s.env s.mem with
      |some v=>some (v,s.mem)
      |none=>none
     |_=>none
    |none=>none
   else none
theorem aX(H:P.follows .mixedOrders=true)(hT:dS P T)(I:afs P O)(J:agQ P G){f:FuncId}{args:List AV}{v:AV}(h:ao T lv G O K f args mem=some (v,mem')):bz P f args mem v mem' :=by
 unfold ao at h;split at h
 .cases h
 .rename_i fn X
  obtain⟨g1,S,g3⟩:=J.fn _ _ X;split at h
  .cases h
  .rename_i c U
   split at h
   .rename_i Q
    split at h
    .rename_i e s N
     obtain⟨F,_⟩:=dN H hT I (g3 c U) N;have Z:(e=.normal\/e=.ret)->(match jG T fn.results.toList s.env s.mem with
      |some v=>some (v,s.mem)
      |none=>none)=some (v,mem')->bz P f args mem v mem' :=by
      intro V h;split at h
      .rename_i v D
       cases h;exact af8.agv hT g1 U S Q (F _ ⟨V,_,D,rfl,rfl⟩)
      .cases h
     split at h
     .exact Z (.inl rfl) h
     .exact Z (.inr rfl) h
     .cases h
    .cases h
   .cases h
theorem agj.agv{b:Nat}{args:List AV}(hb:mem[b]? =some (.loop r))(I:r.st=.ready)(hl:args.length=r.ps.toList.length)(H:∀t∈r.ps.toList,t<r.N)(h:AWP P false r.N mem.length r.assign ⟨zh r.ps.toList args r.env,mem⟩ fun e Z=>e=.normal/\∃r1,Z.mem[b]? =some (.loop r1)/\r1.st=.ready/\
   AWP P false r.N mem.length r.body ⟨Z.env,Z.mem.set b (.loop { r1 with st:=.busy })⟩ fun e X=>∃r2 j,sc e=some j/\X.mem[b]? =some (.loop r2)/\
    R (.bool j.isNone) (X.mem.set b (.loop { r2 with st:=nC j,agx:=j }))):
  agj P b args mem R:=by
 intro base μ w Vs hG hH hV hbl;have U:=hH.slot b _ hb;simp only[afM] at U;obtain⟨L,J,h2,h3⟩:=U;have C':Vs.length=L.params.size:=by rw[hV.length,hl,h3.ps];simp
 refine⟨L.fn,(L.params.zip ⟨Vs⟩).foldl (fun tmps (t,a)=>tmps.setIfInBounds t a) L.tmps,L.assign,L.body,?_,?_⟩
 .simp only[Instr.yield,Sem.run_bind,iS J,Result.andThen_ok]
  rw[if_neg (by simp[C'])];rfl
 .refine roundIn_of_wpIn (F:=Fence.wide) trivial ?_
  have S:(L.params.zip ⟨Vs⟩).foldl (fun tmps (t,a)=>tmps.setIfInBounds t a) L.tmps=(r.ps.toList.zip Vs).foldl (fun tmps (t,a)=>tmps.setIfInBounds t a) L.tmps:=by rw[h3.ps,<-Array.foldl_toList];simp
  have u:=G4 (ts:=r.ps.toList) hV h3.tmps hl (fun t ht=>by rw[h3.size];exact H t ht);rw[h3.assign,h3.body];refine wpIn_mono (F:=Fr (some (μ b).blk)) (h (some (μ b).blk) w.heap.size base μ w ⟨_,[]⟩ (fun h=>by cases h) hH (by rw[S];exact u.1) (by rw[S,u.2];exact h3.size) (MOk.nil w hG hH.afF (Es _)) (Es _)) ?_;rintro e a1 w1 ⟨Z,μ1,c1,c2,c3,c4,c5,c6,rfl,r1,c7,c8,hbody⟩;have Q:=c1.slot b _ c7;simp only[afM] at Q;obtain⟨L1,d1,d2,d3⟩:=Q;have hμ:μ1 b=μ b:=c6.agree b hbl;rw[hμ] at d1;obtain⟨o,m,C⟩:=xc (P:=P) (r' :={ r1 with st:=.busy }) (L' :={ L1 with state:=.busy }) c1 c7 (by rw[hμ];exact d1) { d3 with st:=rfl };rw[hμ] at o m C;refine⟨_,?_,wpIn_mono (F:=Fr (some (μ b).blk)) (hbody (some (μ b).blk) w.heap.size base μ1 _ a1 (fun h=>by cases h) m (by rw[QQZ];exact c2) c3 (c4.step c1 C) (by rw[QQZ];exact c5)) ?_⟩
  .simp only[Instr.beginRound,Sem.run_bind,iS d1,Result.andThen_ok,o]
   rw[d3.st,c8];rfl
  .rintro e a2 w2 ⟨X,μ2,f1,f2,f3,f4,f5,f6,r2,j,f7,f8,f10⟩
   have D:=f1.slot b _ f8;simp only[afM] at D;obtain⟨L2,g1,g2,g3⟩:=D;have hμ2:μ2 b=μ b:=by rw[f6.agree b hbl,hμ]
   rw[hμ2] at g1;obtain⟨B,Y,W⟩:=xc (P:=P) (r' :={ r2 with st:=nC j,agx:=j }) (L' :={ L2 with state:=nC j,pending:=j }) f1 f8 (by rw[hμ2];exact g1) { g3 with st:=rfl,agx:=rfl };rw[hμ2] at B Y W;have IR:(Instr.endRound (μ b).blk j).run P w2=.ok (.bool j.isNone) { w2 with heap:=w2.heap.setIfInBounds (μ b).blk (.loop { L2 with state:=nC j,pending:=j }) }:=by unfold nC at B |-;simp only[Instr.endRound,Sem.run_bind,iS g1,Result.andThen_ok,B];rfl
   have hS:Step mem.length μ mem w _ _ _:=((c6.trans (C.mono c5)).trans f6).trans (W.mono f5);have y:∃V v mem' μ',(Ending.returned (.bool j.isNone):Ending)=.returned V/\afx μ' mem'.length v V/\afJ base μ' mem' { w2 with heap:=w2.heap.setIfInBounds (μ b).blk (.loop { L2 with state:=nC j,pending:=j }) }/\
     Step mem.length μ mem w μ' mem' { w2 with heap:=w2.heap.setIfInBounds (μ b).blk (.loop { L2 with state:=nC j,pending:=j }) }/\R v mem' :=
    ⟨_,.bool j.isNone,_,_,rfl,by simp[afx],Y,hS,f10⟩
   cases e<;>simp only[sc,Mp,reduceCtorEq] at f7<;>subst f7<;>exact⟨_,_,IR,y⟩
def gE(T:TypeId->Option TyI)(lv:Code->List Nat)(O:afu)(K:Nat)(b:Nat)(args:List AV)(mem:Mem):Option (AV×Mem):=
 match mem[b]? with
 |some (.loop r)=>
  if r.st== .ready&&decide (args.length=r.ps.toList.length)&&r.ps.toList.all (fun t=>decide (t<r.N))&&dm r.assign&&dm r.body then
   match aO T lv O K r.N mem.length false r.assign ⟨zh r.ps.toList args r.env,mem,true⟩ with
   |some (.normal,s1)=>match s1.mem[b]? with
    |some (.loop r1)=>
     if r1.st== .ready then
      match aO T lv O K r.N mem.length false r.body ⟨s1.env,s1.mem.set b (.loop { r1 with st:=.busy }),true⟩ with
      |some (e,s2)=>match sc e,s2.mem[b]? with
       |some j,some (.loop r2)=>some (.bool j.isNone,s2.mem.set b (.loop { r2 with st:=nC j,agx:=j }))
       |_,_=>none
      |none=>none
     else none
    |_=>none
   |_=>none
  else none
 |_=>none
theorem iL(H:P.follows .mixedOrders=true)(hT:dS P T)(I:afs P O){b:Nat}{args:List AV}{v:AV}(h:gE T lv O K b args mem=some (v,mem')):gp P b args mem v mem' :=by
 unfold gE at h;split at h
 .rename_i W X
  split at h
  .rename_i Q
   simp only[Ar,Cs,List.all_eq_true] at Q;obtain⟨⟨⟨⟨N,F⟩,D⟩,C⟩,B⟩:=Q;have Z:∀{x:LoopState},(x== .ready)=true->x=.ready:=fun {x} h=>by cases x<;>first | rfl | cases h
   split at h
   .rename_i J y
    obtain⟨u,a2⟩:=dN H hT I C y;split at h
    .rename_i r1 V
     split at h
     .rename_i U
      split at h
      .rename_i e s2 o
       obtain⟨m,b2⟩:=dN H hT I B o;split at h
       .rename_i j r2 Y S
        cases h;exact agj.agv X (Z N) F D (u _ ⟨rfl,r1,V,Z U,m _ ⟨r2,j,Y,S,rfl,rfl⟩⟩)
       .cases h
      .cases h
     .cases h
    .cases h
   .cases h
  .cases h
 .cases h
end
end Go.Eng
namespace Go.Eng
def Zk(es:Nat)(M:Mem)(x:AV)(n:Nat)(cs:List AV):Prop:=∃b o Z,x=.slice b 0 n none/\M[b]? =some (.cells o es Z)/\Z.take cs.length=cs
def Lb(es:Nat)(M:Mem):AV->Option (List AV)
 |.slice b 0 n none=>match M[b]? with
  |some (.cells _ es' cs)=>if es' =es/\n*es<=cs.length then some (cs.take (n*es)) else none
  |_=>none
 |.kO=>some []
 |_=>none
variable{es:Nat}
theorem TZ{M:Mem}{b n:Nat}{o:Bool}{cs H :List AV}(h:M[b]? =some (.cells o es H))(I:n*es<=H.length)(hc:H.take (n*es)=cs):Lb es M (.slice b 0 n none)=some cs:=by simp[Lb,h,I,hc]
theorem NH{M:Mem}{x:AV}{cs:List AV}(h:Lb es M x=some cs):(∃n,cs.length=n*es/\Zk es M x n cs)\/(x=.kO/\cs=[]):=by
 unfold Lb at h;split at h
 .rename_i b n
  split at h
  .rename_i o Z X U
   split at h
   .rename_i S
    obtain⟨rfl,R⟩:=S;cases h;have V:(X.take (n*Z)).length=n*Z :=by rw[M0];omega
    exact .inl ⟨n,V,b,o,X,rfl,U,by rw[V]⟩
   .cases h
  .cases h
 .cases h;exact .inr ⟨rfl,rfl⟩
 .cases h
theorem gm{ks:List Nat}{M:Mem}{b es:Nat}{o:Bool}{cs H :List AV}(hc:AV.afA cs=true)(h:M[b]? =some (.cells o es H))(I:H.take cs.length=cs):agb ks M b (.cells false es cs):=by
 refine⟨bx hc,o,H,h,fun j v X=>?_⟩;have U:=gL X;have S:H[j]? =cs[j]? :=by have:(H.take cs.length)[j]? =H[j]? :=V2 U;rw[<-this,I]
 have V:=aS (ρ:=back ks M.length) hc;rw[gZ] at V;have Z:(cs.map (AV.ren (back ks M.length)))[j]? =cs[j]? :=by rw[V]
 rw[Y1,X] at Z;rw[S,X];exact Z.symm
variable{rest:List AV}
section
variable {P:Program}{f:FuncId}{M:Mem}{x y:AV}
theorem bz.agY{es n:Nat}{cs:List AV}{v:AV}{new:Mem}(hc:AV.afA cs=true)(hr:AV.afA rest=true)(H:new.all (fun s=>s.own||match s with | .y9=>true | _=>false)=true)(h:bz P f (.slice 0 0 n none::rest) [.cells false es cs] v (.cells false es cs::new))(hx:Zk es M x n cs):
  ∃b,x=.slice b 0 n none/\b<M.length/\bz P f (x::rest) M (v.ren (back [b] M.length)) (M++new.map (afz.ren (back [b] M.length))):=by
 obtain⟨b,o,U,rfl,X,S⟩:=hx;have V:=gL X;refine⟨b,rfl,V,?_⟩;have:=bz.frame (M:=M) [b] (m:=[.cells false es cs]) rfl (by simpa using V) (by simp only[AV.afB,AV.under,bx hr];rfl) (fun i s Z=>by
  cases i with
  |zero=>simp at Z;subst Z;exact gm hc X S
  |succ i=>simp at Z) H h
 simpa [AV.afR,AV.ren,back,aS hr] using this
theorem DA{v:AV}(ks:List Nat)(n:Nat)(H:v.closed=true):v.ren (back ks n)=v:=by have:=aS (vs:=[v]) (ρ:=back ks n) (by simp[AV.afA,H]);simpa [AV.afR] using this
theorem bz.ahJ{es n:Nat}{cs:List AV}{v:AV}(hc:AV.afA cs=true)(hr:AV.afA rest=true)(H:v.closed=true)(h:bz P f (.slice 0 0 n none::rest) [.cells false es cs] v [.cells false es cs])(hx:Zk es M x n cs):bz P f (x::rest) M v M:=by obtain⟨b,_,_,Z⟩:=bz.agY (new:=[]) hc hr rfl h hx;simpa [DA _ _ H] using Z
end
end Go.Eng
namespace Go.Eng
mutual
def AV.same:AV->AV->Bool
 |.undef,.undef=>true
 |.bool a,.bool b=>a==b
 |.int k n,.int k' m=>decide (k=k')&&decide (n=m)
 |.str s,.str t=>s==t
 |.ptr b o,.ptr b' o' =>Nat.beq b b' &&Nat.beq o o'
 |.afL,.afL=>true
 |.slice b o n none,.slice b' o' n' none=>Nat.beq b b' &&Nat.beq o o' &&Nat.beq n n'
 |.kO,.kO=>true
 |.map b,.map b' =>Nat.beq b b'
 |.afV,.afV=>true
 |.func f X,.func V Z =>Nat.beq f V &&AV.ag4 X Z
 |.nilFunc,.nilFunc=>true
 |.nilIface,.nilIface=>true
 |.agg X,.agg Z =>AV.ag4 X Z
 |.tuple X,.tuple Z =>AV.ag4 X Z
 |_,_=>false
def AV.ag4:List AV->List AV->Bool
 | [],[]=>true
 |v::vs,w::ws=>AV.same v w&&AV.ag4 vs ws
 |_,_=>false
end
structure ail where
 f:FuncId
 args:List AV
 m:Mem
 v:AV
 new:Mem
theorem si{P:Program}{T:TypeId->Option TyI}{lv:Code->List Nat}{G:FuncId->Option Func}{O:afu}{K n:Nat}(H:P.follows .mixedOrders=true)(hT:dS P T)(I:agQ P G)(J:afs P O){f:FuncId}{args:List AV}{m:Mem}{v:AV}{new:Mem}(h:(EC T lv G O K n (.fn f) args m).map (fun r=>(r.v,r.mem m))=some (v,m++new)):bz P f args m v (m++new):=by rw[Pi] at h;obtain⟨r,Z,X⟩:=h;obtain⟨h3,V⟩:=Prod.mk.inj X;have:=(pS H hT I J n).fn _ _ _ _ Z;rw[h3,V] at this;exact this
open Classical in
noncomputable def kW(S:Callee->List AV->Mem->afw->Prop):afu:=fun c Z M=>if h:∃r,S c Z M r then some (Classical.choose h) else none
variable{S:Callee->List AV->Mem->afw->Prop}
theorem HA{P:Program}(h:∀c a M r,S c a M r->oQ P c a M r):afs P (kW S):=cG fun c a M r Z=>by
 unfold kW at Z;split at Z
 .rename_i X
  cases Z;exact h _ _ _ _ (Classical.choose_spec X)
 .cases Z
variable{a:List AV}
theorem RI{c:Callee}{M:Mem}(h:∃r,S c a M r):∃r,kW S c a M=some r/\S c a M r:=by refine⟨_,?_,Classical.choose_spec h⟩;unfold kW;rw[dif_pos h]
theorem DJ{c:Callee}{M:Mem}{r:afw}(h:S c a M r)(hd:∀Z,S c a M Z ->Z =r):kW S c a M=some r:=by obtain⟨Z,X,V⟩:=RI ⟨r,h⟩;rw[X,hd Z V]
theorem jz(M X:Mem)(k:Nat):(M++X)[M.length+k]? =X[k]? :=by rw[Ns (by omega)];congr 1;omega
theorem qc(M X:Mem):(M++X)[M.length]? =X[0]? :=jz M X 0
theorem UG(M X:Mem)(k:Nat)(s:afz):(M++X).set (M.length+k) s=M++X.set k s:=by rw[List.set_append_right _ _ (by omega)];congr 2;omega
theorem WJ(M X:Mem)(s:afz):(M++X).set M.length s=M++X.set 0 s:=UG M X 0 s
theorem xe(f:Nat->Bool):∀(i:Nat) (M:Mem),bb [] i M (bB f i M)=M
 |_,[]=>rfl
 |i,s::M=>by simp[bB,bb,xe f (i+1) M]
theorem mg(f:Nat->Bool):∀(i:Nat) (M:Mem) (b:Nat),(bB f i M)[b]? =(M[b]?).map fun s=>if f (i+b) then s else .y9
 |_,[],_=>by simp[bB]
 |i,s::M,0=>by simp[bB]
 |i,s::M,b+1=>by simp[bB,mg f (i+1) M b,QXZ,QXX 1 b]
theorem FA:∀(i:Nat) (M:Mem),bB (fun _=>true) i M=M
 |_,[]=>rfl
 |i,s::M=>by simp[bB,FA (i+1) M]
theorem NW(a b:Nat):(a<=b/\b<a)=False:=by rw[eq_iff_iff,iff_false];omega
theorem zx:∀(i:Nat) (M:Mem),bb [] i M M=M
 |_,[]=>rfl
 |i,s::M=>by simp[bb,zx (i+1) M]
end Go.Eng
