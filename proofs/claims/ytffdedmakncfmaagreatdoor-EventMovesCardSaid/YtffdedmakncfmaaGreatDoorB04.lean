/- See B54. -/
import Derived.Test.YtffdedmakncfmaaGreatDoorB03
set_option linter.all false
namespace Go.Eng
attribute [simp] OU Xl ss xL iO ay uO Su Pf Lv xK BP sj ab get WL dv yL afX D9 sg aOp Xk Xn Xm aUn At OB OA so V2 Qz BL sn EF Lj wV TR kq Ov jT dx Vo jg yj Xq
attribute [simp] qf AV.refs AV.afm af0 Ed rho AV.ren AV.afp rD jc jK jm y9.mem aK mP GR dW wQ bef Wo cc bQ Oa Vn iq br eO iy AV.ae6 AV.afa Oper.looksAt Op.operands Call.operands Region.binds AV.closed AV.ae8
def aE:Code→List Code
 |.seq a b=>aE a++aE b
 |.cond _ a b=>aE a++aE b
 |.block _ b=>aE b
 |.loop b=>b::aE b
 |_=>[]
def ah(f:Func):List Code:=match f.body with
 |some c=>aE c
 |none=>[]
attribute [simp] ad
section
variable (T:TypeId→Option TyI)(lv:Code→List Nat)(O:ae3)(K N m0:Nat)(tp:Bool)(s:XS)
theorem QN:bh T lv O K N m0 tp .skip s=some (.normal,s):=rfl
theorem QM(id:Nat):bh T lv O K N m0 tp (.exit id) s=some (.exit id,s):=rfl
theorem Sw:bh T lv O K N m0 tp .ret s=some (.ret,s):=rfl
theorem KT(id:Nat)(ops:Array Oper):bh T lv O K N m0 tp (.region id ops false) s=match dx T O N m0 ops ops.toList s with
  |some s' =>some (.normal,s')
  |none=>none:=rfl
theorem QL(id:Nat)(ops:Array Oper):bh T lv O K N m0 tp (.region id ops true) s=match aK T O N m0 ops s with
  |some s' =>some (.normal,s')
  |none=>none:=rfl
theorem Sx(a b:Code):bh T lv O K N m0 tp (.seq a b) s=match bh T lv O K N m0 tp a s with
  |some (.normal,s')=>bh T lv O K N m0 tp b s'
  |r=>r:=rfl
theorem QK(c:Operand)(a b:Code):bh T lv O K N m0 tp (.cond c a b) s=match get s.env c with
  |.bool true=>bh T lv O K N m0 tp a s
  |.bool false=>bh T lv O K N m0 tp b s
  |_=>none:=rfl
theorem NQ(id:Nat)(b:Code):bh T lv O K N m0 tp (.block id b) s=match bh T lv O K N m0 tp b s with
  |some (.exit i,s')=>if i=id then some (.normal,s') else some (.exit i,s')
  |r=>r:=rfl
theorem bp(b:Code):bh T lv O K N m0 tp (.loop b) s=gi (lv b) (ad b) s.env s.mem.length (bh T lv O K N m0 tp b) K ⟨ay (lv b) (ad b) s.env s.env,s.mem,s.afv⟩:=rfl
end
attribute [simp] QN QM Sw KT QL Sx QK NQ
open Classical in
theorem pN{p:Env→Bool→Prop}{q:Env→Bool→Env→Prop}(h:∀e d,p e d→∃X,q e d X):∃F:Env→Bool→Env,∀e d,p e d→q e d (F e d):=
 ⟨fun e d=>if Z:p e d then Classical.choose (h e d Z) else [],fun e d Z=>by simp only[dif_pos Z];exact Classical.choose_spec (h e d Z)⟩
theorem bx{α:Type}{f:XS→Option (Exit×XS)}{lv wr:List Nat}{I:Env}{J:Nat}(S:α→XS)(m:α→Nat)(Inv:α→Prop)(H:Exit) (y :Mem) (d' :Bool)(Q:Env→Prop)(W:H≠ .normal)
  (h:∀a,Inv a→(∃X V,f (S a)=some (.normal,V)∧uO lv wr I J V =S X ∧Inv X ∧m X <m a)∨(∃Z,f (S a)=some (H,⟨Z,y,d'⟩)∧Q Z)):
  ∀k a,Inv a→m a<k→∃Z,gi lv wr I J f k (S a)=some (H,⟨Z,y,d'⟩)∧Q Z
 |0,a,_,hk=>by omega
 |k+1,a,ha,hk=>by
  unfold gi;rcases h a ha with⟨X,V,U,R,h3,O⟩ | ⟨Z,U,h3⟩
  ·rw[U]
   simp only[R];exact bx S m Inv H y d' Q W h k X h3 (by omega)
  ·rw[U]
   refine⟨Z,?_,h3⟩;cases H<;>first | rfl | exact absurd rfl W
theorem bj{T:TypeId→Option TyI}{lv:Code→List Nat}{O:ae3}{K N m0:Nat}{tp:Bool}{b:Code}{L:List Nat}(J:lv b=L){mem y :Mem}{e:Exit}(I:Env→Prop)(H:Env→Env→Prop)(h:∀Z d,I Z→∃X,gi L (ad b) Z mem.length (bh T lv O K N m0 tp b) K ⟨ay L (ad b) Z Z,mem,d⟩=some (e,⟨X,y,d⟩)∧H Z X):
  ∃F:Env→Bool→Env,∀Z d,I Z→bh T lv O K N m0 tp (.loop b) ⟨Z,mem,d⟩=some (e,⟨F Z d,y,d⟩)∧H Z (F Z d):=by
 refine pN (p:=fun Z _=>I Z) (q:=fun Z d V =>bh T lv O K N m0 tp (.loop b) ⟨Z,mem,d⟩=some (e,⟨V,y,d⟩)∧H Z V) ?_;intro Z d U;obtain⟨X,S,R⟩:=h Z d U;exact⟨X,by rw[bp,J];exact S,R⟩
theorem G9{n:Int}(h0:0≤n)(h1:n≤255):IntKind.u8.wrap n=n:=by simp only[IntKind.wrap,IntKind.bits,IntKind.signed,Bool.false_and,Bool.false_eq_true,if_false];omega
def OT(i:Option TyI):Bool:=match i with
 |some i=>match i.desc with
  |.interface _=>true
  |_=>false
 |none=>false
theorem QA{T:TypeId→Option TyI}{t:TypeId}(h:OT (T t)=true)(r c:Bool):V4 T t r c .nilIface .nilIface=if r||c then some true else none:=by
 unfold OT at h;unfold V4;cases hT:T t with
 |none=>rw[hT] at h;cases h
 |some i=>
  rw[hT] at h;simp only at h ⊢;cases hd:i.desc<;>rw[hd] at h<;>first | (cases h;done) | rfl
mutual
def AV.under(n:Nat):AV→Bool
 |.ptr b _=>decide (b<n)
 |.slice b _ _ _=>decide (b<n)
 |.map b=>decide (b<n)
 |.yield b=>decide (b<n)
 |.func _ Z=>AV.afd n Z
 |.iface _ v=>v.under n
 |.agg Z=>AV.afd n Z
 |.tuple Z=>AV.afd n Z
 |_=>true
def AV.afd(n:Nat):List AV→Bool
 | []=>true
 |v::vs=>v.under n&&AV.afd n vs
end
def eL(ks:List Nat)(n:Nat)(b:Nat):Option Nat:=if b<ks.length then some (ks.getD b 0) else some (n+(b-ks.length))
mutual
theorem ae5.af4{μ:Nat→Place}{N:Nat}{ks:List Nat}{y:Nat}:∀{v V},v.under ks.length=true→ae5 μ N (v.ren (eL ks y)) V→ae5 (fun i=>μ (ks.getD i 0)) ks.length v V
 |.undef,V,_,_=>by simp[ae5]
 |.bool b,V,_,h=>by simpa [AV.ren,ae5] using h
 |.int k i,V,_,h=>by simpa [AV.ren,ae5] using h
 |.str s,V,_,h=>by simpa [AV.ren,ae5] using h
 |.ptr b o,V,hb,h=>by simp only[AV.under,decide_eq_true_eq] at hb;simp only[AV.ren,eL,hb,if_true,ae5] at h ⊢;exact⟨trivial,h.2⟩
 |.afk,V,_,h=>by simpa [AV.ren,ae5] using h
 |.slice b o l c,V,hb,h=>by simp only[AV.under,decide_eq_true_eq] at hb;simp only[AV.ren,eL,hb,if_true,ae5] at h ⊢;exact⟨trivial,h.2⟩
 |.qF,V,_,h=>by simpa [AV.ren,ae5] using h
 |.map b,V,hb,h=>by simp only[AV.under,decide_eq_true_eq] at hb;simp only[AV.ren,eL,hb,if_true,ae5] at h ⊢;exact⟨trivial,h.2⟩
 |.yield b,V,hb,h=>by simp only[AV.under,decide_eq_true_eq] at hb;simp only[AV.ren,eL,hb,if_true,ae5] at h ⊢;exact⟨trivial,h.2⟩
 |.aft,V,_,h=>by simpa [AV.ren,ae5] using h
 |.func f X,V,hb,h=>by simp only[AV.under] at hb;simp only[AV.ren,ae5] at h ⊢;obtain⟨Z,rfl,h⟩:=h;exact⟨Z,rfl,ae7.af4 hb h⟩
 |.nilFunc,V,_,h=>by simpa [AV.ren,ae5] using h
 |.iface t v,V,hb,h=>by simp only[AV.under] at hb;simp only[AV.ren,ae5] at h ⊢;obtain⟨U,rfl,h⟩:=h;exact⟨U,rfl,ae5.af4 hb h⟩
 |.nilIface,V,_,h=>by simpa [AV.ren,ae5] using h
 |.agg X,V,hb,h=>by simp only[AV.under] at hb;simp only[AV.ren,ae5] at h ⊢;obtain⟨Z,rfl,h⟩:=h;exact⟨Z,rfl,ae7.af4 hb h⟩
 |.tuple X,V,hb,h=>by simp only[AV.under] at hb;simp only[AV.ren,ae5] at h ⊢;obtain⟨Z,rfl,h⟩:=h;exact⟨Z,rfl,ae7.af4 hb h⟩
theorem ae7.af4{μ:Nat→Place}{N:Nat}{ks:List Nat}{y:Nat}:∀{vs Us},AV.afd ks.length vs=true→ae7 μ N (AV.afp (eL ks y) vs) Us→ae7 (fun i=>μ (ks.getD i 0)) ks.length vs Us
 | [],Us,_,h=>by simpa [AV.afp,ae7] using h
 |v::vs,Us,hb,h=>by simp only[AV.afd,Bool.and_eq_true] at hb;simp only[AV.afp,ae7] at h ⊢;obtain⟨U,Z,rfl,X,V⟩:=h;exact⟨U,Z,rfl,ae5.af4 hb.1 X,ae7.af4 hb.2 V⟩
end
def afM(ks:List Nat)(M:Mem)(k:Nat):afb→Prop
 |.qK=>True
 |.cells false es cs=>AV.afd ks.length cs=true∧∃o X,M[k]? =some (.cells o es X)∧∀(j:Nat) v,cs[j]? =some v→X[j]? =some (v.ren (eL ks M.length))
 |.afH es=>∃Z,(M[k]? =some (.afH Z)∨M[k]? =some (.map Z))∧Z.length=es.length∧
   ∀(j:Nat) e,es[j]? =some e→(e.1.under ks.length=true∧e.2.under ks.length=true)∧Z[j]? =some (e.1.ren (eL ks M.length),e.2.ren (eL ks M.length))
 |_=>False
theorem yu{n:Nat}:∀{cs:List AV},AV.afd n cs=true→∀(j:Nat) v,cs[j]? =some v→v.under n=true
 | [],_,j,v,h=>by simp at h
 |c::cs,h,j,v,hj=>by
  simp only[AV.afd,Bool.and_eq_true] at h;cases j with
  |zero=>simp at hj;subst hj;exact h.1
  |succ j=>exact yu h.2 j v (by simpa using hj)
theorem Ai{α:Type}{cs y :List α}{g:α→α}(h:∀(j:Nat) v,cs[j]? =some v→y[j]? =some (g v)):cs.length≤y.length:=by
 by_cases Z:cs.length=0
 ·omega
 ·have:=h (cs.length-1) (cs[cs.length-1]'(by omega)) (by simp)
  have:=gL this;omega
section
variable {P:Program}
theorem kO.frame{f:FuncId}{args:List AV}{m new M:Mem}{v:AV}(ks:List Nat)(hl:m.length=ks.length)(hk:∀k∈ks,k<M.length)(ha:AV.afd ks.length args=true)(hm:∀(i:Nat) s,m[i]? =some s→afM ks M (ks.getD i 0) s)(hn:new.all (fun s=>s.own||match s with | .qK=>true | _=>false)=true)(h:kO P f args m v (m++new)):kO P f (AV.afp (eL ks M.length) args) M (v.ren (eL ks M.length)) (M++new.map (afb.ren (eL ks M.length))):=by
 refine⟨h.1,fun base μ w Vs hG hH hV=>?_⟩;have G:∀b,¬ek m b:=by
  rintro b ⟨s,U,Q⟩;have:=hm b s U;cases s with
  |qK=>cases Q
  |cells own es cs=>simp only[afb.own] at Q;subst Q;exact this
  |map es=>exact this
  |afH es=>cases Q
  |loop r=>exact this
 have ZW:afj base (fun i=>μ (ks.getD i 0)) m w:=by
  refine⟨hH.afe,fun b s U=>?_,fun b R s' X=>absurd X (G b)⟩;have I:=hm b s U;cases s with
  |qK=>trivial
  |map es=>exact I.elim
  |afH es=>
   obtain⟨Zd,h1,H,h3⟩:=I;have U:∃L J,w.heap[(μ (ks.getD b 0)).blk]? =some (.map L J)∧El L J∧L.size=Zd.length∧∀(j:Nat) e,Zd[j]? =some e→∃E,L[j]? =some E∧Pm μ M.length e E:=by
    rcases h1 with h1 | h1
    ·have:=hH.slot _ _ h1;simpa only[afl] using this
    ·have:=hH.slot _ _ h1
     simp only[afl] at this;obtain⟨L,J,k1,k2,k3,k4⟩:=this;exact⟨L,J,k1,k2.2,k3,k4⟩
   obtain⟨L,J,k1,k2,k3,k4⟩:=U;simp only[afl];refine⟨L,J,k1,k2,by omega,fun j e he=>?_⟩;obtain⟨⟨u1,u2⟩,u3⟩:=h3 j e he;obtain⟨E,hE,r1,r2⟩:=k4 j _ u3;rw[hl];exact⟨E,hE,ae5.af4 u1 r1,ae5.af4 u2 r2⟩
  |loop r=>exact I.elim
  |cells own es cs=>
   cases own with
   |true=>exact I.elim
   |false=>
    obtain⟨X,o,Yr,h1,H⟩:=I;have:=hH.slot _ _ h1;simp only[afl] at this ⊢;obtain⟨cur,e,fr,g1,g2,g3,g4,_⟩:=this;refine⟨cur,e,fr,g1,g2,Nat.le_trans (Ai H) g3,fun j u hj=>?_,fun h=>by cases h⟩;obtain⟨V,hV,hr⟩:=g4 j _ (H j u hj);rw[hl];exact⟨V,hV,ae5.af4 (yu X j u hj) hr⟩
 have Zm:=ae7.af4 ha hV;rw[←hl] at Zm;refine(h.2 base _ w Vs hG ZW Zm).mono ?_;rintro e w' ⟨V,v',mem',μ',rfl,q1,q2,q3,rfl,rfl⟩;have K:afy w w' :=⟨q3.size,fun k hk=>q3.frame k hk fun b X=>absurd X (G b),q3.os,q3.tape,q3.output,q3.drawn⟩;have F:∀b,ek (m++new) b→w.heap.size≤(μ' b).blk:=by
  intro b X;by_cases D:(μ' b).blk<w.heap.size
  ·obtain⟨b0,h0,_⟩:=q3.owner b X D
   exact absurd h0 (G b0)
  ·omega
 obtain⟨μ2,y⟩:=xE (α:=Nat→Place) (fun b=>if b<M.length then μ b else μ' (b-M.length+m.length));have O:∀b,b<M.length→μ2 b=μ b:=fun b X=>by rw[y];simp[X]
 have S:∀i,μ2 (M.length+i)=μ' (m.length+i):=fun i=>by rw[y];simp only;rw[if_neg (by omega)];congr 1;omega
 have hρ:∀b R,b<(m++new).length→eL ks M.length b=some R →R <(M++new.map (afb.ren (eL ks M.length))).length∧μ2 R =μ' b:=by
  intro b R X N;simp only[List.length_append,List.length_map] at X ⊢;unfold eL at N;split at N
  ·rename_i D
   cases N;have Y9:ks.getD b 0∈ks:=by rw[List.getD_eq_getElem?_getD,List.getElem?_eq_getElem D,Option.getD_some];exact List.getElem_mem D
   have:=hk _ Y9;refine⟨by omega,?_⟩;rw[O _ this];exact(q3.agree b (by omega)).symm
  ·rename_i D
   cases N;refine⟨by omega,?_⟩;rw[S,show m.length+(b-ks.length)=b by omega]
 have YJ:∀b s,(M++new.map (afb.ren (eL ks M.length)))[b]? =some s→(b<M.length∧M[b]? =some s)∨∃i Z,b=M.length+i∧new[i]? =some Z∧s=Z.ren (eL ks M.length):=by
  intro b s U;by_cases X:b<M.length
  ·rw[List.getElem?_append_left X] at U
   exact .inl ⟨X,U⟩
  ·rw[List.getElem?_append_right (by omega),List.getElem?_map] at U
   simp only[Option.map_eq_some_iff] at U;obtain⟨Z,h1,H⟩:=U;exact .inr ⟨b-M.length,Z,by omega,h1,H.symm⟩
 have C:∀i Z,new[i]? =some Z→(m++new)[m.length+i]? =some Z:=by intro i Z h;rw[List.getElem?_append_right (by omega),Nat.add_sub_cancel_left];exact h
 have Zw:∀i Z,new[i]? =some Z→Z≠ .qK→ek (m++new) (m.length+i):=by intro i Z h B;refine⟨Z,C i Z h,?_⟩;have:=List.all_eq_true.1 hn Z (List.mem_of_getElem? h);cases Z<;>simp_all
 have ZE:∀Z:afb,Z.ren (eL ks M.length)≠ .qK→Z≠ .qK:=by rintro Z h rfl;exact h rfl
 refine⟨V,_,_,μ2,rfl,q1.ren hρ,⟨Nat.le_trans hH.afe K.size,fun b s U=>?_,fun b R s' X N B YI=>?_⟩,?_,rfl,rfl⟩
 ·rcases YJ b s U with⟨X,h1⟩ | ⟨i,Z,rfl,h1,rfl⟩
  ·rw[O b X]
   refine(hH.slot b s h1).mono (by simp) O fun B=>K.heap _ ((hH.slot b s h1).afR B)
  ·rw[S]
   exact(q2.slot _ Z (C i Z h1)).ren hρ
 ·obtain⟨s,U,Q⟩:=X
  have Y:=afb.afI Q;rcases YJ b s U with⟨X,h1⟩ | ⟨i,Z,rfl,h1,rfl⟩<;>rcases YJ R s' N with⟨N,YZ⟩ | ⟨i',W,rfl,YZ,rfl⟩
  ·rw[O b X,O R N]
   exact hH.sep b R s' ⟨s,h1,Q⟩ YZ B YI
  ·rw[O b X,S]
   have g1:=(hH.slot b s h1).afR Y;have g2:=F _ (Zw i' W YZ (ZE _ B));omega
  ·rw[O R N,S]
   have g1:=(hH.slot R s' YZ).afR B;have g2:=F _ (Zw i Z h1 (ZE _ Y));omega
  ·rw[S,S]
   exact q2.sep _ _ W (Zw i Z h1 (ZE _ Y)) (C i' W YZ) (ZE _ B) (by omega)
 ·refine⟨by simp,O,K.os,K.tape,K.output,K.size,fun k hk _=>K.heap k hk,fun b X D=>?_,K.drawn⟩
  obtain⟨s,U,Q⟩:=X;rcases YJ b s U with⟨X,h1⟩ | ⟨i,Z,rfl,h1,rfl⟩
  ·exact⟨b,⟨s,h1,Q⟩,by rw[O b X]⟩
  ·rw[S] at D
   have:=F _ (Zw i Z h1 (ZE _ (afb.afI Q)));omega
end
def iN(k:IntKind)(l:List Nat):List AV:=l.map fun n:Nat=>.int k (n:Int)
def iZ(l:List Int):List AV:=l.map fun n=>.int .i64 n
section
variable (k:IntKind)
theorem OP:iN k []=[]:=rfl
theorem ca(n:Nat)(l:List Nat):iN k (n::l)=.int k (n:Int)::iN k l:=rfl
theorem SF(l:List Nat):(iN k l).length=l.length:=by simp[iN]
theorem dh(l r:List Nat):iN k (l++r)=iN k l++iN k r:=by simp[iN]
section
variable (l:List Nat)
include l
theorem Wg(n:Nat):iN k l++[.int k (n:Int)]=iN k (l++[n]):=by simp[iN]
theorem SE(i:Nat):(iN k l)[i]? =(l[i]?).map fun n:Nat=>.int k (n:Int):=by simp[iN]
theorem QP(i:Nat)(h:i<(iN k l).length):(iN k l)[i]=.int k ((l[i]'(by simpa [iN] using h):Nat):Int):=by simp[iN]
theorem gW(i:Nat):(iN k l).take i=iN k (l.take i):=by simp[iN]
theorem ru(i:Nat):(iN k l).drop i=iN k (l.drop i):=by simp[iN]
theorem W3:(iN k l).all AV.ae9=true:=by simp[iN,AV.ae9]
end
theorem O6(m:Nat)(l:List Nat):AV.afm m (iN k l)=[]:=by
 induction l with
 |nil=>rfl
 |cons x l ih=>simp[ca,AV.afm,AV.refs,ih]
theorem Tz(ρ:Nat→Option Nat)(l:List Nat):AV.afp ρ (iN k l)=iN k l:=by
 induction l with
 |nil=>rfl
 |cons x l ih=>simp[ca,AV.afp,AV.ren,ih]
theorem LY(m:Nat)(l:List Nat):AV.afd m (iN k l)=true:=by
 induction l with
 |nil=>rfl
 |cons x l ih=>simp[ca,AV.afd,AV.under,ih]
theorem EW(ok:Nat→Bool)(l:List Nat):AV.afa ok (iN k l)=true:=by
 induction l with
 |nil=>rfl
 |cons x l ih=>simp[ca,AV.afa,AV.ae6,ih]
theorem LK(m:Nat)(o:Bool)(e:Nat)(l:List Nat):afb.refs m (.cells o e (iN k l))=[]:=by simp[afb.refs,O6]
theorem Od(ρ:Nat→Option Nat)(o:Bool)(e:Nat)(l:List Nat):afb.ren ρ (.cells o e (iN k l))=.cells o e (iN k l):=by simp[afb.ren,Tz]
theorem Eh(ok:Nat→Bool)(o:Bool)(e:Nat)(l:List Nat):afb.ae6 ok (.cells o e (iN k l))=true:=by simp[afb.ae6,EW]
theorem rz(l:Nat):fD [.int k 0] l=iN k (List.replicate l 0):=by
 induction l with
 |zero=>rfl
 |succ l ih=>rw[fD,ih,List.replicate_succ,ca];rfl
end
attribute [simp] OP SF SE QP O6 Tz LY EW LK Od Eh W3
attribute [simp] G1 yk TyI.isAgg afb.refs afb.ren AV.under AV.afd afb.own oY kD mG Ak th tn WI fH qd fD AV.known AV.cells AV.ae9
def CB(k:IntKind):List AV→Option (List Nat)
 | []=>some []
 |.int k' n::l=>if k' =k∧0≤n then match CB k l with
  |some r=>some (n.toNat::r)
  |none=>none
  else none
 |_::_=>none
theorem Tg(k:IntKind)(l:List Nat):CB k (iN k l)=some l:=by
 induction l with
 |nil=>rfl
 |cons x l ih=>rw[ca,CB,if_pos ⟨rfl,by omega⟩,ih];simp
theorem CC{k:IntKind}:∀{l:List AV} {r:List Nat},CB k l=some r→l=iN k r
 | [],r,h=>by cases h;rfl
 |v::l,r,h=>by
  cases v<;>first | (unfold CB at h;cases h;done) | skip
  rename_i V n;unfold CB at h;split at h
  ·rename_i Z
   split at h
   ·rename_i U X
    cases h;rw[ca,CC X,Z.1];congr 2;omega
   ·cases h
  ·cases h
theorem cM{l:List Nat}{i:Nat}(h:i<l.length):∃x,l[i]? =some x∧l[i]=x:=⟨l[i],by simp,rfl⟩
mutual
theorem yN{n:Nat}:∀{v:AV},v.closed=true→v.under n=true
 |.ptr _ _,h=>by simp[AV.closed] at h
 |.slice _ _ _ _,h=>by simp[AV.closed] at h
 |.map _,h=>by simp[AV.closed] at h
 |.yield _,h=>by simp[AV.closed] at h
 |.func _ Z,h=>by simp only[AV.closed] at h;simp only[AV.under];exact aX h
 |.iface _ v,h=>by simp only[AV.closed] at h;simp only[AV.under];exact yN h
 |.agg Z,h=>by simp only[AV.closed] at h;simp only[AV.under];exact aX h
 |.tuple Z,h=>by simp only[AV.closed] at h;simp only[AV.under];exact aX h
 |.undef,_=>rfl
 |.bool _,_=>rfl
 |.int _ _,_=>rfl
 |.str _,_=>rfl
 |.afk,_=>rfl
 |.qF,_=>rfl
 |.aft,_=>rfl
 |.nilFunc,_=>rfl
 |.nilIface,_=>rfl
theorem aX{n:Nat}:∀{vs:List AV},AV.ae8 vs=true→AV.afd n vs=true
 | [],_=>rfl
 |v::vs,h=>by simp only[AV.ae8,Bool.and_eq_true] at h;simp only[AV.afd,yN h.1,aX h.2];rfl
end
mutual
theorem EY{ρ:Nat→Option Nat}:∀{v:AV},v.closed=true→v.ren ρ=v
 |.ptr _ _,h=>by simp[AV.closed] at h
 |.slice _ _ _ _,h=>by simp[AV.closed] at h
 |.map _,h=>by simp[AV.closed] at h
 |.yield _,h=>by simp[AV.closed] at h
 |.func _ Z,h=>by simp only[AV.closed] at h;simp only[AV.ren,aM h]
 |.iface _ v,h=>by simp only[AV.closed] at h;simp only[AV.ren,EY h]
 |.agg Z,h=>by simp only[AV.closed] at h;simp only[AV.ren,aM h]
 |.tuple Z,h=>by simp only[AV.closed] at h;simp only[AV.ren,aM h]
 |.undef,_=>rfl
 |.bool _,_=>rfl
 |.int _ _,_=>rfl
 |.str _,_=>rfl
 |.afk,_=>rfl
 |.qF,_=>rfl
 |.aft,_=>rfl
 |.nilFunc,_=>rfl
 |.nilIface,_=>rfl
theorem aM{ρ:Nat→Option Nat}:∀{vs:List AV},AV.ae8 vs=true→AV.afp ρ vs=vs
 | [],_=>rfl
 |v::vs,h=>by simp only[AV.ae8,Bool.and_eq_true] at h;simp only[AV.afp,EY h.1,aM h.2]
end
theorem wP(s n:Nat):(s:Int).tmod (n:Int)=((s%n:Nat):Int):=rfl
theorem wO(s n:Nat):(s:Int).tdiv (n:Int)=((s / n:Nat):Int):=rfl
theorem AM(s n:Nat):(s:Int).tmod (OfNat.ofNat n)=((s%n:Nat):Int):=rfl
theorem G4(s n:Nat):(s:Int).tdiv (OfNat.ofNat n)=((s / n:Nat):Int):=rfl
theorem LJ(m:Nat)(a b:List AV):AV.afm m (a++b)=AV.afm m a++AV.afm m b:=by
 induction a with
 |nil=>rfl
 |cons x a ih=>simp[AV.afm,ih]
theorem Of(ρ:Nat→Option Nat)(a b:List AV):AV.afp ρ (a++b)=AV.afp ρ a++AV.afp ρ b:=by
 induction a with
 |nil=>rfl
 |cons x a ih=>simp[AV.afp,ih]
theorem Eg(ok:Nat→Bool)(a b:List AV):AV.afa ok (a++b)=(AV.afa ok a&&AV.afa ok b):=by
 induction a with
 |nil=>rfl
 |cons x a ih=>simp[AV.afa,ih,Bool.and_assoc]
attribute [simp] LJ Of Eg
def afi(k:IntKind)(M:Mem)(x:AV)(A:List Nat):Prop:=∃b o Z,x=.slice b 0 A.length none∧M[b]? =some (.cells o 1 Z)∧Z.take A.length=iN k A
def aW(k:IntKind)(M:Mem):AV→Option (List Nat)
 |.slice b 0 n none=>match M[b]? with
  |some (.cells _ 1 cs)=>if n≤cs.length then CB k (cs.take n) else none
  |_=>none
 |_=>none
theorem aY{k:IntKind}{M:Mem}{x:AV}{A:List Nat}(h:aW k M x=some A):afi k M x A:=by
 unfold aW at h;split at h
 ·rename_i b n
  split at h
  ·rename_i o X V
   split at h
   ·rename_i S
    have Z:=CC h;have U:n=A.length:=by have:=congrArg List.length Z;simp at this;omega
    subst U;exact⟨b,o,X,rfl,V,Z⟩
   ·cases h
  ·cases h
 ·cases h
variable{b:Nat}{cs:List AV}
theorem aR{k:IntKind}{M:Mem}{n:Nat}{ow:Bool}{A:List Nat}(h:M[b]? =some (.cells ow 1 cs))(y:n≤cs.length)(H:cs.take n=iN k A):aW k M (.slice b 0 n none)=some A:=by simp only[aW,h];rw[if_pos y,H,Tg]
variable{o:Bool}
theorem afM.row{k:IntKind}{ks:List Nat}{M:Mem}{A:List Nat}(h:M[b]? =some (.cells o 1 cs))(y:cs.take A.length=iN k A):afM ks M b (.cells false 1 (iN k A)):=by
 refine⟨LY _ _ _,o,cs,h,fun j v Z=>?_⟩;have X:j<A.length:=by have:=gL Z;simpa using this
 have:cs[j]? =(iN k A)[j]? :=by rw[←y,List.getElem?_take_of_lt X]
 rw[this,Z];rw[SE] at Z;simp only[Option.map_eq_some_iff] at Z;obtain⟨n,_,rfl⟩:=Z;simp[AV.ren]
section
variable {P:Program}{k:IntKind}{f:FuncId}{A B:List Nat}{M:Mem}{x y:AV}
theorem kO.agJ{rest:List AV}{v:AV}{new:Mem}(hr:AV.ae8 rest=true)(H:new.all (fun s=>s.own||match s with | .qK=>true | _=>false)=true)(h:kO P f (.slice 0 0 A.length none::rest) [.cells false 1 (iN k A)] v (.cells false 1 (iN k A)::new))(I:afi k M x A):
  ∃b,x=.slice b 0 A.length none∧kO P f (x::rest) M (v.ren (eL [b] M.length)) (M++new.map (afb.ren (eL [b] M.length))):=by
 obtain⟨b,o,cs,rfl,X,V⟩:=I;refine⟨b,rfl,?_⟩;have U:=gL X;have:=kO.frame (M:=M) [b] (m:=[.cells false 1 (iN k A)]) rfl (by simpa using U) (by simp only[AV.afd,AV.under,aX hr];rfl) (fun i s Z=>by
  cases i with
  |zero=>simp at Z;subst Z;exact .row X V
  |succ i=>simp at Z) H h
 simpa [AV.afp,AV.ren,eL,aM hr] using this
theorem kO.af1{v:AV}{new:Mem}(H:new.all (fun s=>s.own||match s with | .qK=>true | _=>false)=true)(h:kO P f [.slice 0 0 A.length none,.slice 1 0 B.length none] [.cells false 1 (iN k A),.cells false 1 (iN k B)] v (.cells false 1 (iN k A)::.cells false 1 (iN k B)::new))(I:afi k M x A)(J:afi k M y B):
  ∃b c,x=.slice b 0 A.length none∧y=.slice c 0 B.length none∧kO P f [x,y] M (v.ren (eL [b,c] M.length)) (M++new.map (afb.ren (eL [b,c] M.length))):=by
 obtain⟨b,o,cs,rfl,V,S⟩:=I;obtain⟨c,O,N,rfl,U,X⟩:=J;refine⟨b,c,rfl,rfl,?_⟩;have R:=gL V;have Q :=gL U;have:=kO.frame (M:=M) [b,c] (m:=[.cells false 1 (iN k A),.cells false 1 (iN k B)]) rfl (by simp[R,Q]) (by simp) (fun i s Z=>by
  match i with
  |0=>simp at Z;subst Z;exact .row V S
  |1=>simp at Z;subst Z;exact .row U X
  |i+2=>simp at Z) H h
 simpa [AV.afp,AV.ren,eL] using this
theorem kO.agY{args:List AV}{m:Mem}{v:AV}{es:Nat}{H :List AV}(h:kO P f args m v (m++[afb.cells o es cs]))(I:H <+: cs):kO P f args m v (m++[afb.cells o es H]):=by
 refine⟨h.1,fun base μ w Vs hG hH hV=>(h.2 base μ w Vs hG hH hV).mono ?_⟩;rintro e w' ⟨V,v',m',μ',rfl,q1,q2,q3,rfl,rfl⟩;have U:∀b Z,(m++[afb.cells o es H])[b]? =some Z→∃S,(m++[afb.cells o es cs])[b]? =some S∧S.own=Z.own∧(S=.qK→Z=.qK)∧afl μ' (m++[afb.cells o es cs]).length base w' (μ' b) Z:=by
  intro b Z X;by_cases Q:b<m.length
  ·rw[List.getElem?_append_left Q] at X
   have R :(m++[afb.cells o es cs])[b]? =some Z:=gU X _;exact⟨Z,R,rfl,id,q2.slot b Z R⟩
  ·have F:b=m.length:=by have:=gL X;simp at this;omega
   subst F;simp at X;subst X;have R :(m++[afb.cells o es cs])[m.length]? =some (afb.cells o es cs):=by simp
   refine⟨_,R,rfl,(fun h=>by cases h),?_⟩;have:=q2.slot _ _ R;simp only[afl] at this ⊢;obtain⟨O,el,D,N,L,g3,C,Y⟩:=this;refine⟨O,el,D,N,L,Nat.le_trans I.length_le g3,fun j u G=>C j u ?_,Y⟩;obtain⟨t,rfl⟩:=I;rw[List.getElem?_append_left (gL G)];exact G
 have K:(m++[afb.cells o es H]).length=(m++[afb.cells o es cs]).length:=by simp
 refine⟨V,_,_,μ',rfl,by rw[K];exact q1,q2.swap K U,⟨by rw[K];exact q3.len,q3.agree,q3.os,q3.tape,q3.output,q3.size,q3.frame,fun b X Q=>?_,q3.drawn⟩,rfl,rfl⟩;obtain⟨s,N,L⟩:=X;obtain⟨S,W,J,_,_⟩:=U b s N;exact q3.owner b ⟨S,W,by rw[J];exact L⟩ Q
end
end Go.Eng
namespace Go.Eng
def qh(P:Program)(c:Callee)(args:List AV)(m:Mem)(r:y9):Prop:=
 (match c with
  |.fn f=>kO P f args m r.v (r.mem m)
  |.yld b=>fN P b args m r.v (r.mem m))∧∀q,r.pre=some q→q.length=m.length
open Classical in
theorem jf{P:Program}{ι:Type}(p:ι→Prop)(c:ι→Callee)(a:ι→List AV)(m:ι→Mem)(r:ι→y9)(hs:∀i,p i→qh P (c i) (a i) (m i) (r i))(hc:∀i j,p i→p j→c i=c j→a i=a j→m i=m j→r i=r j):∃O:ae3,qS P O∧∀i,p i→O (c i) (a i) (m i)=some (r i):=by
 refine⟨fun S X V =>if h:∃i,p i∧c i=S ∧a i=X ∧m i=V then some (r (Classical.choose h)) else none,?_,fun i L=>?_⟩
 ·have U:∀S X V R,(if h:∃i,p i∧c i=S ∧a i=X ∧m i=V then some (r (Classical.choose h)) else none)=some R →qh P S X V R :=by
   intro S X V R h;split at h
   ·rename_i Z
    obtain⟨Q,N,h3,M⟩:=Classical.choose_spec Z;cases h;have:=hs _ Q;rw[N,h3,M] at this;exact this
   ·cases h
  exact⟨fun f X V R h=>(U _ _ _ _ h).1,fun b X V R h=>(U _ _ _ _ h).1,fun S X V R q h K=>(U _ _ _ _ h).2 q K⟩
 ·have Z:∃j,p j∧c j=c i∧a j=a i∧m j=m i:=⟨i,L,rfl,rfl,rfl⟩
  simp only[dif_pos Z];obtain⟨Q,N,h3,M⟩:=Classical.choose_spec Z;rw[hc _ _ Q L N h3 M]
variable{n:Nat}{r:agd}
theorem wJ(h:r.env.flatMap (fun e=>e.2.refs n)=[]):afb.refs n (.loop r)=[]:=h
variable{ks:List Nat}
theorem O7(h:r.env.flatMap (fun e=>e.2.refs n)=[]):afb.ren (rho n ks) (.loop r)=.loop r:=afb.afn (wJ h)
theorem GG{m:Mem}(h:∀s∈m,s.refs n=[]):m.flatMap (afb.refs n)=[]:=by rw[List.flatMap_eq_nil_iff];exact h
theorem yU{m:Mem}(h:∀s∈m,s.refs n=[]):m.map (afb.ren (rho n ks))=m:=by
 conv=>rhs;rw[←List.map_id m]
 apply List.map_congr_left;intro s Z;rw[afb.afn (h s Z)];rfl
variable{G:FuncId→Option Func}{c:Code}{e:Exit}{fn:Func}{mem mem' :Mem}
section
variable{T:TypeId→Option TyI}{lv:Code→List Nat}{O:ae3}
include T lv O
theorem KF{K:Nat}{f:FuncId}{args:List AV}{v:AV}{I :Env}(hf:G f=some fn)(W:fn.body=some c)(Y:args.length≤fn.ntmps)(he:e=.normal∨e=.ret)(h:bh T lv O K fn.ntmps mem.length true c ⟨dv 0 args,mem,false⟩=some (e,⟨I,mem',true⟩))(J:jg T fn.results.toList I mem' =some v)(D':mem'.length=mem.length)(y:v.refs mem.length=[])(H:∀s∈mem',s.refs mem.length=[]):aa T lv G O K f args mem=some ⟨v,some mem',[]⟩:=by
 have Z:mem'.take mem.length=mem' :=List.take_of_length_le (by omega);unfold aa;simp only[hf,W];rw[if_pos Y,h];have X:qf mem.length mem' 1000 (v.refs mem.length++(mem'.take mem.length).flatMap (afb.refs mem.length)) []=[]:=by rw[y,Z,GG H];rfl
 rcases he with rfl | rfl
 ·simp only[J,if_true]
  rw[X,Z];simp[Ed,af0,yU H,AV.afn y]
 ·simp only[J,if_true]
  rw[X,Z];simp[Ed,af0,yU H,AV.afn y]
theorem uI{K N m0:Nat}{tp:Bool}{b:Code}{L:List Nat}(I:lv b=L)(d0 d1:Bool)(H:Env→Prop)(y:Env→Env→Prop)(h:∀Z,H Z→∃X,gi L (ad b) Z mem.length (bh T lv O K N m0 tp b) K ⟨ay L (ad b) Z Z,mem,d0⟩=some (e,⟨X,mem',d1⟩)∧y Z X):
  ∃F:Env→Env,∀Z,H Z→bh T lv O K N m0 tp (.loop b) ⟨Z,mem,d0⟩=some (e,⟨F Z,mem',d1⟩)∧y Z (F Z):=by
 obtain⟨F,S⟩:=pN (p:=fun Z _=>H Z) (q:=fun Z _ U =>bh T lv O K N m0 tp (.loop b) ⟨Z,mem,d0⟩=some (e,⟨U,mem',d1⟩)∧y Z U) (fun Z _ V=>by obtain⟨X,R,Q⟩:=h Z V;exact⟨X,by rw[bp,I];exact R,Q⟩)
 exact⟨fun Z=>F Z true,fun Z V=>S Z true V⟩
end
def fB:Code→List (Array Tmp×Code×Code)
 |.seq a b=>fB a++fB b
 |.cond _ a b=>fB a++fB b
 |.block _ b=>fB b
 |.loop b=>fB b
 |.rangeFunc _ ps a b=>[(ps,a,b)]
 |_=>[]
def ee(f:Func):List (Array Tmp×Code×Code):=match f.body with
 |some c=>fB c
 |none=>[]
theorem Ob{env:Env}(h:env.flatMap (fun e=>e.2.refs n)=[]):rW (rho n ks) env=env:=by
 unfold rW;rw[List.flatMap_eq_nil_iff] at h;conv=>rhs;rw[←List.map_id env]
 apply List.map_congr_left;intro e Z;rw[AV.afn (h e Z)];rfl
attribute [simp] afb.ae6
theorem bZ{P:Program}{O:ae3}(key:∀c Z M r,O c Z M=some r→qh P c Z M r):qS P O:=
 ⟨fun f Z M r h=>(key _ _ _ _ h).1,fun b Z M r h=>(key _ _ _ _ h).1,fun c Z M r p h X=>(key _ _ _ _ h).2 p X⟩
variable{M:Mem}
theorem dr{P:Program}{O:ae3}(y:qS P O){c:Go.Eng.Callee}{args:List AV}{r:y9}(h:O c args M=some r):qh P c args M r:=by
 refine⟨?_,fun q Z=>y.pre _ _ _ _ _ h Z⟩;cases c with
 |fn f=>exact y.fn _ _ _ _ h
 |yld b=>exact y.yld _ _ _ _ h
theorem aw{P:Program}{f:FuncId}{args:List AV}{new:Mem}{v:AV}(h:kO P f args M v (M++new)):qh P (.fn f) args M ⟨v,none,new⟩:=⟨h,fun q Z=>by cases Z⟩
theorem aF{P:Program}{f:FuncId}{args:List AV}{v:AV}(h:kO P f args M v M):qh P (.fn f) args M ⟨v,none,[]⟩:=aw (by simpa using h)
def agK(s s' :afb):Prop:=s=s' ∨∃o es Z X,s' =.cells o es Z∧s=.cells o es X ∧X <+: Z
theorem agK.row{k:IntKind}{o:Bool}{es:Nat}{l r:List Nat}(h:l <+: r):agK (.cells o es (iN k l)) (.cells o es (iN k r)):=by obtain⟨t,rfl⟩:=h;exact .inr ⟨o,es,_,_,rfl,rfl,iN k t,by rw[←dh]⟩
theorem kO.af5{P:Program}{f:FuncId}{args:List AV}{m y m2:Mem}{v:AV}(h:kO P f args m v y)(H:m2.length=y.length)(hc:∀(b:Nat) s,m2[b]? =some s→∃R,y[b]? =some R ∧agK s R):kO P f args m v m2:=by
 refine⟨h.1,fun base μ w Vs hG hH hV=>(h.2 base μ w Vs hG hH hV).mono ?_⟩;rintro e w' ⟨V,v',m',μ',rfl,q1,q2,q3,rfl,rfl⟩;have X:∀b Z,m2[b]? =some Z→∃U,m'[b]? =some U∧U.own=Z.own∧(U=.qK→Z=.qK)∧afl μ' m'.length base w' (μ' b) Z:=by
  intro b Z Q;obtain⟨R,S,D⟩:=hc b Z Q;rcases D with rfl | ⟨o,es,cs,Yr,rfl,rfl,K⟩
  ·exact⟨Z,S,rfl,id,q2.slot b Z S⟩
  ·refine⟨_,S,rfl,(fun h=>by cases h),?_⟩
   have:=q2.slot _ _ S;simp only[afl] at this ⊢;obtain⟨O,el,C,N,L,g3,B,Y⟩:=this;refine⟨O,el,C,N,L,Nat.le_trans K.length_le g3,fun j u F=>B j u ?_,Y⟩;obtain⟨t,rfl⟩:=K;rw[List.getElem?_append_left (gL F)];exact F
 refine⟨V,v',m2,μ',rfl,by rw[H];exact q1,q2.swap H X,⟨by rw[H];exact q3.len,q3.agree,q3.os,q3.tape,q3.output,q3.size,q3.frame,fun b Q W=>?_,q3.drawn⟩,rfl,rfl⟩;obtain⟨s,N,L⟩:=Q;obtain⟨U,J,I,_,_⟩:=X b s N;exact q3.owner b ⟨U,J,by rw[I];exact L⟩ W
variable{R:AV→Mem→Prop}
section
variable {P:Program}{T:TypeId→Option TyI}{O:ae3}{K:Nat}{lv:Code→List Nat}
theorem afJ.af6(hT:cW P T){f:FuncId}{args:List AV}(hf:P.funcs[f]? =some fn)(y:fn.body=some c)(H:(fn.name == "runtime.NumGoroutine")=false)(I:args.length≤fn.ntmps)(h:AWP P true fn.ntmps mem.length c ⟨dv 0 args,mem⟩ fun e U =>(e=.normal∨e=.ret)∧∃v,jg T fn.results.toList U.env U.mem=some v∧R v U.mem):
  afJ P f args mem R:=by
 refine⟨⟨fn,hf,by simp[y],H⟩,fun base μ w Vs hG hH hV=>?_⟩;refine Ax.1 (callsIn_of_wp_marks (F:=Fr none) (n:=0) hf y trivial (wpIn_mono (h none w.heap.size base μ w _ (fun _=>rfl) hH ?_ ?_ (MOk.nil w hG hH.afe (Nat.le_refl _)) (Nat.le_refl _)) ?_) rfl)
 ·intro t
  have:=ya 0 hV t;simp only[Nat.not_lt_zero,if_false,Nat.sub_zero] at this;by_cases Q:t<Vs.length
  ·have e:(⟨Vs⟩++Array.replicate (fn.ntmps-(⟨Vs⟩:Array Value).size) undef:Array Value).getD t undef=Vs.getD t undef:=by simp only[Array.getD_eq_getD_getElem?];rw[Array.getElem?_append_left (by simpa using Q)];simp[List.getD]
   show ae5 μ mem.length (ab (dv 0 args) t) ((⟨Vs⟩++Array.replicate (fn.ntmps-(⟨Vs⟩:Array Value).size) undef:Array Value).getD t undef)
   rw[e];exact this
  ·have:ab (dv 0 args) t=.undef:=by
    have B:=hV.length;have:∀(X:List AV) (i:Nat),i+X.length≤t→ab (dv i X) t=.undef:=by
     intro X;induction X with
     |nil=>intro i _;rfl
     |cons v X ih=>
      intro i N;simp only[List.length_cons] at N;simp only[dv,ab];rw[if_neg (by omega)];exact ih (i+1) (by omega)
    exact this args 0 (by omega)
   show ae5 μ mem.length (ab (dv 0 args) t) _
   rw[this];simp[ae5]
 ·simp only[Array.size_append,List.size_toArray,Array.size_replicate,hV.length];omega
 ·rintro e a' w' ⟨U,μ',b1,b2,b3,b4,b5,b6,he,v,hv,hR⟩
  have Z:LeavesInM (Fr none) 0 P fn a'.tmps (fun e w' =>∃V v mem' μ',e=.returned V∧ae5 μ' mem'.length v V∧afj base μ' mem' w' ∧Step mem.length μ mem w μ' mem' w' ∧R v mem') a'.defers .returning w' :=by
   refine rG a'.defers w' b4 b1 b6 fun w2 S L=>?_
   obtain⟨V,D,C⟩:=tx (P:=P) (fn:=fn) hT S b2 hv;exact⟨V,D,⟨V,_,_,_,rfl,C,S,L,hR⟩⟩
  rcases he with rfl | rfl
  ·exact Z
  ·exact Z
def dI(T:TypeId→Option TyI)(lv:Code→List Nat)(G:FuncId→Option Func)(O:ae3)(K:Nat)(f:FuncId)(args:List AV)(mem:Mem):Option (AV×Mem):=
 match G f with
 |none=>none
 |some fn=>match fn.body with
  |none=>none
  |some c=>
   if args.length≤fn.ntmps then
    match bh T lv O K fn.ntmps mem.length true c ⟨dv 0 args,mem,false⟩ with
    |some (e,s)=>
     match e with
     |.normal | .ret=>
      match jg T fn.results.toList s.env s.mem with
      |some v=>some (v,s.mem)
      |none=>none
     |_=>none
    |none=>none
   else none
theorem cV(y:P.follows .mixedOrders=true)(hT:cW P T)(H:qS P O)(I:agp P G){f:FuncId}{args:List AV}{v:AV}(h:dI T lv G O K f args mem=some (v,mem')):kO P f args mem v mem' :=by
 unfold dI at h;split at h
 ·cases h
 ·rename_i fn X
  obtain⟨S,Q,g3⟩:=I.fn _ _ X;split at h
  ·cases h
  ·rename_i c U
   split at h
   ·rename_i N
    split at h
    ·rename_i e s L
     obtain⟨F,_⟩:=dp y hT H (g3 c U) L;have Z:(e=.normal∨e=.ret)→(match jg T fn.results.toList s.env s.mem with
      |some v=>some (v,s.mem)
      |none=>none)=some (v,mem')→kO P f args mem v mem' :=by
      intro V h;split at h
      ·rename_i v D
       cases h;exact afJ.af6 hT S U Q N (F _ ⟨V,_,D,rfl,rfl⟩)
      ·cases h
     split at h
     ·exact Z (.inl rfl) h
     ·exact Z (.inr rfl) h
     ·cases h
    ·cases h
   ·cases h
theorem afT.af6{b:Nat}{args:List AV}(hb:mem[b]? =some (.loop r))(I:r.st=.ready)(H:args.length=r.ps.toList.length)(y:∀t∈r.ps.toList,t<r.N)(h:AWP P false r.N mem.length r.assign ⟨yL r.ps.toList args r.env,mem⟩ fun e Z=>e=.normal∧∃r1,Z.mem[b]? =some (.loop r1)∧r1.st=.ready∧
   AWP P false r.N mem.length r.body ⟨Z.env,Z.mem.set b (.loop { r1 with st:=.busy })⟩ fun e X=>∃r2 j,rF e=some j∧X.mem[b]? =some (.loop r2)∧
    R (.bool j.isNone) (X.mem.set b (.loop { r2 with st:=mN j,agc:=j }))):
  afT P b args mem R:=by
 intro base μ w Vs hG hH hV Y5;have u:=hH.slot b _ hb;simp only[afl] at u;obtain⟨L,h1,h2,h3⟩:=u;have D':Vs.length=L.params.size:=by rw[hV.length,H,h3.ps];simp
 refine⟨L.fn,(L.params.zip ⟨Vs⟩).foldl (fun tmps (t,a)=>tmps.setIfInBounds t a) L.tmps,L.assign,L.body,?_,?_⟩
 ·simp only[Instr.yield,Sem.run_bind,iu h1,Result.andThen_ok]
  rw[if_neg (by simp[D'])];rfl
 ·refine roundIn_of_wpIn (F:=Fence.wide) trivial ?_
  have U:(L.params.zip ⟨Vs⟩).foldl (fun tmps (t,a)=>tmps.setIfInBounds t a) L.tmps=(r.ps.toList.zip Vs).foldl (fun tmps (t,a)=>tmps.setIfInBounds t a) L.tmps:=by rw[h3.ps,←Array.foldl_toList];simp
  have o:=Gt (ts:=r.ps.toList) hV h3.tmps H (fun t ht=>by rw[h3.size];exact y t ht);rw[h3.assign,h3.body];refine wpIn_mono (F:=Fr (some (μ b).blk)) (h (some (μ b).blk) w.heap.size base μ w ⟨_,[]⟩ (fun h=>by cases h) hH (by rw[U];exact o.1) (by rw[U,o.2];exact h3.size) (MOk.nil w hG hH.afe (Nat.le_refl _)) (Nat.le_refl _)) ?_;rintro e a1 w1 ⟨Z,μ1,c1,c2,c3,c4,c5,c6,rfl,r1,c7,c8,hbody⟩;have S:=c1.slot b _ c7;simp only[afl] at S;obtain⟨L1,d1,d2,d3⟩:=S;have hμ:μ1 b=μ b:=c6.agree b Y5;rw[hμ] at d1;obtain⟨m,Y,D⟩:=wz (P:=P) (r' :={ r1 with st:=.busy }) (L' :={ L1 with state:=.busy }) c1 c7 (by rw[hμ];exact d1) { d3 with st:=rfl };rw[hμ] at m Y D;refine⟨_,?_,wpIn_mono (F:=Fr (some (μ b).blk)) (hbody (some (μ b).blk) w.heap.size base μ1 _ a1 (fun h=>by cases h) Y (by rw[List.length_set];exact c2) c3 (c4.step c1 D) (by rw[List.length_set];exact c5)) ?_⟩
  ·simp only[Instr.beginRound,Sem.run_bind,iu d1,Result.andThen_ok,m]
   rw[d3.st,c8];rfl
  ·rintro e a2 w2 ⟨X,μ2,f1,f2,f3,f4,f5,f6,r2,j,f7,f8,f10⟩
   have Q:=f1.slot b _ f8;simp only[afl] at Q;obtain⟨L2,g1,g2,g3⟩:=Q;have hμ2:μ2 b=μ b:=by rw[f6.agree b Y5,hμ]
   rw[hμ2] at g1;obtain⟨C,W,J⟩:=wz (P:=P) (r' :={ r2 with st:=mN j,agc:=j }) (L' :={ L2 with state:=mN j,pending:=j }) f1 f8 (by rw[hμ2];exact g1) { g3 with st:=rfl,agc:=rfl };rw[hμ2] at C W J;have Yz:(Instr.endRound (μ b).blk j).run P w2=.ok (.bool j.isNone) { w2 with heap:=w2.heap.setIfInBounds (μ b).blk (.loop { L2 with state:=mN j,pending:=j }) }:=by unfold mN at C ⊢;simp only[Instr.endRound,Sem.run_bind,iu g1,Result.andThen_ok,C];rfl
   have hS:Step mem.length μ mem w _ _ _:=((c6.trans (D.mono c5)).trans f6).trans (J.mono f5);have B:∃V v mem' μ',(Ending.returned (.bool j.isNone):Ending)=.returned V∧ae5 μ' mem'.length v V∧afj base μ' mem' { w2 with heap:=w2.heap.setIfInBounds (μ b).blk (.loop { L2 with state:=mN j,pending:=j }) }∧
     Step mem.length μ mem w μ' mem' { w2 with heap:=w2.heap.setIfInBounds (μ b).blk (.loop { L2 with state:=mN j,pending:=j }) }∧R v mem' :=
    ⟨_,.bool j.isNone,_,_,rfl,by simp[ae5],W,hS,f10⟩
   cases e<;>simp only[rF,Option.some.injEq,reduceCtorEq] at f7<;>subst f7<;>exact⟨_,_,Yz,B⟩
def fW(T:TypeId→Option TyI)(lv:Code→List Nat)(O:ae3)(K:Nat)(b:Nat)(args:List AV)(mem:Mem):Option (AV×Mem):=
 match mem[b]? with
 |some (.loop r)=>
  if r.st== .ready&&decide (args.length=r.ps.toList.length)&&r.ps.toList.all (fun t=>decide (t<r.N))&&cK r.assign&&cK r.body then
   match bh T lv O K r.N mem.length false r.assign ⟨yL r.ps.toList args r.env,mem,true⟩ with
   |some (.normal,s1)=>match s1.mem[b]? with
    |some (.loop r1)=>
     if r1.st== .ready then
      match bh T lv O K r.N mem.length false r.body ⟨s1.env,s1.mem.set b (.loop { r1 with st:=.busy }),true⟩ with
      |some (e,s2)=>match rF e,s2.mem[b]? with
       |some j,some (.loop r2)=>some (.bool j.isNone,s2.mem.set b (.loop { r2 with st:=mN j,agc:=j }))
       |_,_=>none
      |none=>none
     else none
    |_=>none
   |_=>none
  else none
 |_=>none
theorem im(y:P.follows .mixedOrders=true)(hT:cW P T)(H:qS P O){b:Nat}{args:List AV}{v:AV}(h:fW T lv O K b args mem=some (v,mem')):fN P b args mem v mem' :=by
 unfold fW at h;split at h
 ·rename_i W X
  split at h
  ·rename_i V
   simp only[Bool.and_eq_true,decide_eq_true_eq,List.all_eq_true] at V;obtain⟨⟨⟨⟨U,S⟩,Q⟩,N⟩,L⟩:=V;have Z:∀{x:LoopState},(x== .ready)=true→x=.ready:=fun {x} h=>by cases x<;>first | rfl | cases h
   split at h
   ·rename_i J F
    obtain⟨D,I⟩:=dp y hT H N F;split at h
    ·rename_i r1 C
     split at h
     ·rename_i B
      split at h
      ·rename_i e s2 u
       obtain⟨o,b2⟩:=dp y hT H L u;split at h
       ·rename_i j r2 m Y
        cases h;exact afT.af6 X (Z U) S Q (D _ ⟨rfl,r1,C,Z B,o _ ⟨r2,j,m,Y,rfl,rfl⟩⟩)
       ·cases h
      ·cases h
     ·cases h
    ·cases h
   ·cases h
  ·cases h
 ·cases h
end
end Go.Eng
namespace Go.Eng
def VE(es:Nat)(M:Mem)(x:AV)(n:Nat)(cs:List AV):Prop:=∃b o Z,x=.slice b 0 n none∧M[b]? =some (.cells o es Z)∧Z.take cs.length=cs
def KH(es:Nat)(M:Mem):AV→Option (List AV)
 |.slice b 0 n none=>match M[b]? with
  |some (.cells _ Zd cs)=>if Zd =es∧n*es≤cs.length then some (cs.take (n*es)) else none
  |_=>none
 |.qF=>some []
 |_=>none
variable{es:Nat}
theorem Se{M:Mem}{b n:Nat}{o:Bool}{cs y :List AV}(h:M[b]? =some (.cells o es y))(H:n*es≤y.length)(hc:y.take (n*es)=cs):KH es M (.slice b 0 n none)=some cs:=by simp[KH,h,H,hc]
theorem NL{M:Mem}{x:AV}{cs:List AV}(h:KH es M x=some cs):(∃n,cs.length=n*es∧VE es M x n cs)∨(x=.qF∧cs=[]):=by
 unfold KH at h;split at h
 ·rename_i b n
  split at h
  ·rename_i o Z X U
   split at h
   ·rename_i S
    obtain⟨rfl,R⟩:=S;cases h;have V:(X.take (n*Z)).length=n*Z :=by rw[List.length_take];omega
    exact .inl ⟨n,V,b,o,X,rfl,U,by rw[V]⟩
   ·cases h
  ·cases h
 ·cases h;exact .inr ⟨rfl,rfl⟩
 ·cases h
theorem fe{ks:List Nat}{M:Mem}{b es:Nat}{o:Bool}{cs y :List AV}(hc:AV.ae8 cs=true)(h:M[b]? =some (.cells o es y))(H:y.take cs.length=cs):afM ks M b (.cells false es cs):=by
 refine⟨aX hc,o,y,h,fun j v Z=>?_⟩;have U:=gL Z;have S:y[j]? =cs[j]? :=by have:(y.take cs.length)[j]? =y[j]? :=List.getElem?_take_of_lt U;rw[←this,H]
 have X:=aM (ρ:=eL ks M.length) hc;rw[gE] at X;have V:(cs.map (AV.ren (eL ks M.length)))[j]? =cs[j]? :=by rw[X]
 rw[List.getElem?_map,Z] at V;rw[S,Z];exact V.symm
variable{rest:List AV}
section
variable {P:Program}{f:FuncId}{M:Mem}{x y:AV}
theorem kO.agm{es n:Nat}{cs:List AV}{v:AV}{new:Mem}(hc:AV.ae8 cs=true)(hr:AV.ae8 rest=true)(H:new.all (fun s=>s.own||match s with | .qK=>true | _=>false)=true)(h:kO P f (.slice 0 0 n none::rest) [.cells false es cs] v (.cells false es cs::new))(I:VE es M x n cs):
  ∃b,x=.slice b 0 n none∧b<M.length∧kO P f (x::rest) M (v.ren (eL [b] M.length)) (M++new.map (afb.ren (eL [b] M.length))):=by
 obtain⟨b,o,S,rfl,X,U⟩:=I;have V:=gL X;refine⟨b,rfl,V,?_⟩;have:=kO.frame (M:=M) [b] (m:=[.cells false es cs]) rfl (by simpa using V) (by simp only[AV.afd,AV.under,aX hr];rfl) (fun i s Z=>by
  cases i with
  |zero=>simp at Z;subst Z;exact fe hc X U
  |succ i=>simp at Z) H h
 simpa [AV.afp,AV.ren,eL,aM hr] using this
theorem kO.ahi{es I n J:Nat}{cs H:List AV}{v:AV}{new:Mem}(hc:AV.ae8 cs=true)(W:AV.ae8 H=true)(hr:AV.ae8 rest=true)(Y:new.all (fun s=>s.own||match s with | .qK=>true | _=>false)=true)(h:kO P f (.slice 0 0 n none::.slice 1 0 J none::rest) [.cells false es cs,.cells false I H] v (.cells false es cs::.cells false I H::new))(hx:VE es M x n cs)(hy:VE I M y J H):
  ∃b c,x=.slice b 0 n none∧y=.slice c 0 J none∧b<M.length∧c<M.length∧kO P f (x::y::rest) M (v.ren (eL [b,c] M.length)) (M++new.map (afb.ren (eL [b,c] M.length))):=by
 obtain⟨b,o,N,rfl,U,Q⟩:=hx;obtain⟨c,L,O,rfl,Z,V⟩:=hy;have S:=gL U;have R :=gL Z;refine⟨b,c,rfl,rfl,S,R,?_⟩;have:=kO.frame (M:=M) [b,c] (m:=[.cells false es cs,.cells false I H]) rfl (by simp[S,R]) (by simp only[AV.afd,AV.under,aX hr];rfl) (fun i s X=>by
  match i with
  |0=>simp at X;subst X;exact fe hc U Q
  |1=>simp at X;subst X;exact fe W Z V
  |i+2=>simp at X) Y h
 simpa [AV.afp,AV.ren,eL,aM hr] using this
theorem rX{v:AV}(ks:List Nat)(n:Nat)(H:v.closed=true):v.ren (eL ks n)=v:=by have:=aM (vs:=[v]) (ρ:=eL ks n) (by simp[AV.ae8,H]);simpa [AV.afp] using this
theorem kO.agz{es n:Nat}{cs:List AV}{v:AV}(hc:AV.ae8 cs=true)(hr:AV.ae8 rest=true)(H:v.closed=true)(h:kO P f (.slice 0 0 n none::rest) [.cells false es cs] v [.cells false es cs])(I:VE es M x n cs):kO P f (x::rest) M v M:=by obtain⟨b,_,_,Z⟩:=kO.agm (new:=[]) hc hr rfl h I;simpa [rX _ _ H] using Z
theorem kO.agA{es I n J:Nat}{cs H:List AV}{v:AV}(hc:AV.ae8 cs=true)(W:AV.ae8 H=true)(hr:AV.ae8 rest=true)(Y:v.closed=true)(h:kO P f (.slice 0 0 n none::.slice 1 0 J none::rest) [.cells false es cs,.cells false I H] v [.cells false es cs,.cells false I H])(hx:VE es M x n cs)(hy:VE I M y J H):kO P f (x::y::rest) M v M:=by obtain⟨b,c,_,_,_,_,Z⟩:=kO.ahi (new:=[]) hc W hr rfl h hx hy;simpa [rX _ _ Y] using Z
end
end Go.Eng
namespace Go.Eng
mutual
def AV.same:AV→AV→Bool
 |.undef,.undef=>true
 |.bool a,.bool b=>a==b
 |.int k n,.int k' m=>decide (k=k')&&decide (n=m)
 |.str s,.str t=>s==t
 |.ptr b o,.ptr b' o' =>Nat.beq b b' &&Nat.beq o o'
 |.afk,.afk=>true
 |.slice b o n none,.slice b' o' n' none=>Nat.beq b b' &&Nat.beq o o' &&Nat.beq n n'
 |.qF,.qF=>true
 |.map b,.map b' =>Nat.beq b b'
 |.aft,.aft=>true
 |.func f Z,.func V X =>Nat.beq f V &&AV.agL Z X
 |.nilFunc,.nilFunc=>true
 |.nilIface,.nilIface=>true
 |.agg Z,.agg X =>AV.agL Z X
 |.tuple Z,.tuple X =>AV.agL Z X
 |_,_=>false
def AV.agL:List AV→List AV→Bool
 | [],[]=>true
 |v::vs,w::ws=>AV.same v w&&AV.agL vs ws
 |_,_=>false
end
structure ahS where
 f:FuncId
 args:List AV
 m:Mem
 v:AV
 new:Mem
theorem rJ{P:Program}{T:TypeId→Option TyI}{lv:Code→List Nat}{G:FuncId→Option Func}{O:ae3}{K n:Nat}(y:P.follows .mixedOrders=true)(hT:cW P T)(H:agp P G)(I:qS P O){f:FuncId}{args:List AV}{m:Mem}{v:AV}{new:Mem}(h:(DZ T lv G O K n (.fn f) args m).map (fun r=>(r.v,r.mem m))=some (v,m++new)):kO P f args m v (m++new):=by rw[Option.map_eq_some_iff] at h;obtain⟨r,Z,X⟩:=h;obtain⟨h3,V⟩:=Prod.mk.inj X;have:=(pc y hT H I n).fn _ _ _ _ Z;rw[h3,V] at this;exact this
open Classical in
noncomputable def yo(S:Callee→List AV→Mem→y9→Prop):ae3:=fun c Z M=>if h:∃r,S c Z M r then some (Classical.choose h) else none
variable{S:Callee→List AV→Mem→y9→Prop}
theorem AL{P:Program}(h:∀c a M r,S c a M r→qh P c a M r):qS P (yo S):=bZ fun c a M r Z=>by
 unfold yo at Z;split at Z
 ·rename_i X
  cases Z;exact h _ _ _ _ (Classical.choose_spec X)
 ·cases Z
variable{a:List AV}
theorem Re{c:Callee}{M:Mem}(h:∃r,S c a M r):∃r,yo S c a M=some r∧S c a M r:=by refine⟨_,?_,Classical.choose_spec h⟩;unfold yo;rw[dif_pos h]
theorem lK{c:Callee}{M:Mem}{r:y9}(h:S c a M r)(hd:∀Z,S c a M Z →Z =r):yo S c a M=some r:=by obtain⟨Z,X,V⟩:=Re ⟨r,h⟩;rw[X,hd Z V]
theorem Tb(M X:Mem)(k:Nat):(M++X)[M.length+k]? =X[k]? :=by rw[List.getElem?_append_right (by omega)];congr 1;omega
theorem Wl(M X:Mem):(M++X)[M.length]? =X[0]? :=Tb M X 0
theorem Tc(M X:Mem)(k:Nat)(s:afb):(M++X).set (M.length+k) s=M++X.set k s:=by rw[List.set_append_right _ _ (by omega)];congr 2;omega
theorem Vf(M X:Mem)(s:afb):(M++X).set M.length s=M++X.set 0 s:=Tc M X 0 s
theorem wB(f:Nat→Bool):∀(i:Nat) (M:Mem),bQ [] i M (cc f i M)=M
 |_,[]=>rfl
 |i,s::M=>by simp[cc,bQ,wB f (i+1) M]
theorem uK(f:Nat→Bool):∀(i:Nat) (M:Mem) (b:Nat),(cc f i M)[b]? =(M[b]?).map fun s=>if f (i+b) then s else .qK
 |_,[],_=>by simp[cc]
 |i,s::M,0=>by simp[cc]
 |i,s::M,b+1=>by simp[cc,uK f (i+1) M b,Nat.add_assoc,Nat.add_comm 1 b]
theorem ER:∀(i:Nat) (M:Mem),cc (fun _=>true) i M=M
 |_,[]=>rfl
 |i,s::M=>by simp[cc,ER (i+1) M]
theorem NZ(a b:Nat):(a≤b∧b<a)=False:=by rw[eq_iff_iff,iff_false];omega
theorem yW:∀(i:Nat) (M:Mem),bQ [] i M M=M
 |_,[]=>rfl
 |i,s::M=>by simp[bQ,yW (i+1) M]
end Go.Eng
