/- See C54. -/
import Derived.Test.YtffdedmakncfmaaGreatDoorC03
set_option linter.all false
namespace Go.Eng
attribute [simp] Qc Zl tK yJ jv aA sS T7 QD Mw yI CC tH ad get YE dC zD agH ES tE aOp Zk Zn Zm aUn Be PQ PO tJ XE RY mV tI Fx Mj xU Vo dy PH kF dF W3 jK za Zq
attribute [simp] qZ AV.refs AV.af6 agK EW rho AV.ren AV.af9 sL jI ky jR y9.mem aH n9 HH dm xQ bef Yf bK bt Pp W1 iL bq fg jc AV.afP AV.afV Oper.looksAt Op.operands Call.operands Region.binds AV.closed AV.afT
def aE:Code→List Code
 |.seq a b=>aE a++aE b
 |.cond _ a b=>aE a++aE b
 |.block _ b=>aE b
 |.loop b=>b::aE b
 |_=>[]
def ah(f:Func):List Code:=match f.body with
 |some c=>aE c
 |none=>[]
attribute [simp] ae
section
variable (T:TypeId→Option TyI)(lv:Code→List Nat)(O:afF)(K N m0:Nat)(tp:Bool)(s:XS)
theorem Sh:aW T lv O K N m0 tp .skip s=some (.normal,s):=rfl
theorem Sg(id:Nat):aW T lv O K N m0 tp (.exit id) s=some (.exit id,s):=rfl
theorem T9:aW T lv O K N m0 tp .ret s=some (.ret,s):=rfl
theorem L4(id:Nat)(ops:Array Oper):aW T lv O K N m0 tp (.region id ops false) s=match dF T O N m0 ops ops.toList s with
  |some s' =>some (.normal,s')
  |none=>none:=rfl
theorem Sf(id:Nat)(ops:Array Oper):aW T lv O K N m0 tp (.region id ops true) s=match aH T O N m0 ops s with
  |some s' =>some (.normal,s')
  |none=>none:=rfl
theorem Ua(a b:Code):aW T lv O K N m0 tp (.seq a b) s=match aW T lv O K N m0 tp a s with
  |some (.normal,s')=>aW T lv O K N m0 tp b s'
  |r=>r:=rfl
theorem Se(c:Operand)(a b:Code):aW T lv O K N m0 tp (.cond c a b) s=match get s.env c with
  |.bool true=>aW T lv O K N m0 tp a s
  |.bool false=>aW T lv O K N m0 tp b s
  |_=>none:=rfl
theorem O2(id:Nat)(b:Code):aW T lv O K N m0 tp (.block id b) s=match aW T lv O K N m0 tp b s with
  |some (.exit i,s')=>if i=id then some (.normal,s') else some (.exit i,s')
  |r=>r:=rfl
theorem aT(b:Code):aW T lv O K N m0 tp (.loop b) s=ga (lv b) (ae b) s.env s.mem.length (aW T lv O K N m0 tp b) K ⟨aA (lv b) (ae b) s.env s.env,s.mem,s.agf⟩:=rfl
end
attribute [simp] Sh Sg T9 L4 Sf Ua Se O2
open Classical in
theorem qJ{p:Env→Bool→Prop}{q:Env→Bool→Env→Prop}(h:∀e d,p e d→∃X,q e d X):∃F:Env→Bool→Env,∀e d,p e d→q e d (F e d):=
 ⟨fun e d=>if Z:p e d then Classical.choose (h e d Z) else [],fun e d Z=>by simp only[dif_pos Z];exact Classical.choose_spec (h e d Z)⟩
theorem bz{α:Type}{f:XS→Option (Exit×XS)}{lv wr:List Nat}{I:Env}{J:Nat}(S:α→XS)(m:α→Nat)(Inv:α→Prop)(H:Exit) (y :Mem) (d' :Bool)(Q:Env→Prop)(W:H≠ .normal)
  (h:∀a,Inv a→(∃X V,f (S a)=some (.normal,V)∧sS lv wr I J V =S X ∧Inv X ∧m X <m a)∨(∃Z,f (S a)=some (H,⟨Z,y,d'⟩)∧Q Z)):
  ∀k a,Inv a→m a<k→∃Z,ga lv wr I J f k (S a)=some (H,⟨Z,y,d'⟩)∧Q Z
 |0,a,_,hk=>by omega
 |k+1,a,ha,hk=>by
  unfold ga;rcases h a ha with⟨X,V,U,R,h3,O⟩ | ⟨Z,U,h3⟩
  ·rw[U]
   simp only[R];exact bz S m Inv H y d' Q W h k X h3 (by omega)
  ·rw[U]
   refine⟨Z,?_,h3⟩;cases H<;>first | rfl | exact absurd rfl W
theorem bj{T:TypeId→Option TyI}{lv:Code→List Nat}{O:afF}{K N m0:Nat}{tp:Bool}{b:Code}{L:List Nat}(J:lv b=L){mem y :Mem}{e:Exit}(I:Env→Prop)(H:Env→Env→Prop)(h:∀Z d,I Z→∃X,ga L (ae b) Z mem.length (aW T lv O K N m0 tp b) K ⟨aA L (ae b) Z Z,mem,d⟩=some (e,⟨X,y,d⟩)∧H Z X):
  ∃F:Env→Bool→Env,∀Z d,I Z→aW T lv O K N m0 tp (.loop b) ⟨Z,mem,d⟩=some (e,⟨F Z d,y,d⟩)∧H Z (F Z d):=by
 refine qJ (p:=fun Z _=>I Z) (q:=fun Z d V =>aW T lv O K N m0 tp (.loop b) ⟨Z,mem,d⟩=some (e,⟨V,y,d⟩)∧H Z V) ?_;intro Z d U;obtain⟨X,S,R⟩:=h Z d U;exact⟨X,by rw[aT,J];exact S,R⟩
theorem HY{n:Int}(h0:0≤n)(h1:n≤255):IntKind.u8.wrap n=n:=by simp only[IntKind.wrap,IntKind.bits,IntKind.signed,Bool.false_and,Bool.false_eq_true,if_false];omega
def Qb(i:Option TyI):Bool:=match i with
 |some i=>match i.desc with
  |.interface _=>true
  |_=>false
 |none=>false
theorem RZ{T:TypeId→Option TyI}{t:TypeId}(h:Qb (T t)=true)(r c:Bool):XF T t r c .nilIface .nilIface=if r||c then some true else none:=by
 unfold Qb at h;unfold XF;cases hT:T t with
 |none=>rw[hT] at h;cases h
 |some i=>
  rw[hT] at h;simp only at h ⊢;cases hd:i.desc<;>rw[hd] at h<;>first | (cases h;done) | rfl
mutual
def AV.under(n:Nat):AV→Bool
 |.ptr b _=>decide (b<n)
 |.slice b _ _ _=>decide (b<n)
 |.map b=>decide (b<n)
 |.yield b=>decide (b<n)
 |.func _ Z=>AV.afX n Z
 |.iface _ v=>v.under n
 |.agg Z=>AV.afX n Z
 |.tuple Z=>AV.afX n Z
 |_=>true
def AV.afX(n:Nat):List AV→Bool
 | []=>true
 |v::vs=>v.under n&&AV.afX n vs
end
def fj(ks:List Nat)(n:Nat)(b:Nat):Option Nat:=if b<ks.length then some (ks.getD b 0) else some (n+(b-ks.length))
mutual
theorem afQ.agP{μ:Nat→Place}{N:Nat}{ks:List Nat}{y:Nat}:∀{v V},v.under ks.length=true→afQ μ N (v.ren (fj ks y)) V→afQ (fun i=>μ (ks.getD i 0)) ks.length v V
 |.undef,V,_,_=>by simp[afQ]
 |.bool b,V,_,h=>by simpa [AV.ren,afQ] using h
 |.int k i,V,_,h=>by simpa [AV.ren,afQ] using h
 |.str s,V,_,h=>by simpa [AV.ren,afQ] using h
 |.ptr b o,V,hb,h=>by simp only[AV.under,decide_eq_true_eq] at hb;simp only[AV.ren,fj,hb,if_true,afQ] at h ⊢;exact⟨trivial,h.2⟩
 |.af4,V,_,h=>by simpa [AV.ren,afQ] using h
 |.slice b o l c,V,hb,h=>by simp only[AV.under,decide_eq_true_eq] at hb;simp only[AV.ren,fj,hb,if_true,afQ] at h ⊢;exact⟨trivial,h.2⟩
 |.qF,V,_,h=>by simpa [AV.ren,afQ] using h
 |.map b,V,hb,h=>by simp only[AV.under,decide_eq_true_eq] at hb;simp only[AV.ren,fj,hb,if_true,afQ] at h ⊢;exact⟨trivial,h.2⟩
 |.yield b,V,hb,h=>by simp only[AV.under,decide_eq_true_eq] at hb;simp only[AV.ren,fj,hb,if_true,afQ] at h ⊢;exact⟨trivial,h.2⟩
 |.age,V,_,h=>by simpa [AV.ren,afQ] using h
 |.func f X,V,hb,h=>by simp only[AV.under] at hb;simp only[AV.ren,afQ] at h ⊢;obtain⟨Z,rfl,h⟩:=h;exact⟨Z,rfl,afS.agP hb h⟩
 |.nilFunc,V,_,h=>by simpa [AV.ren,afQ] using h
 |.iface t v,V,hb,h=>by simp only[AV.under] at hb;simp only[AV.ren,afQ] at h ⊢;obtain⟨U,rfl,h⟩:=h;exact⟨U,rfl,afQ.agP hb h⟩
 |.nilIface,V,_,h=>by simpa [AV.ren,afQ] using h
 |.agg X,V,hb,h=>by simp only[AV.under] at hb;simp only[AV.ren,afQ] at h ⊢;obtain⟨Z,rfl,h⟩:=h;exact⟨Z,rfl,afS.agP hb h⟩
 |.tuple X,V,hb,h=>by simp only[AV.under] at hb;simp only[AV.ren,afQ] at h ⊢;obtain⟨Z,rfl,h⟩:=h;exact⟨Z,rfl,afS.agP hb h⟩
theorem afS.agP{μ:Nat→Place}{N:Nat}{ks:List Nat}{y:Nat}:∀{vs Us},AV.afX ks.length vs=true→afS μ N (AV.af9 (fj ks y) vs) Us→afS (fun i=>μ (ks.getD i 0)) ks.length vs Us
 | [],Us,_,h=>by simpa [AV.af9,afS] using h
 |v::vs,Us,hb,h=>by simp only[AV.afX,Bool.and_eq_true] at hb;simp only[AV.af9,afS] at h ⊢;obtain⟨U,Z,rfl,X,V⟩:=h;exact⟨U,Z,rfl,afQ.agP hb.1 X,afS.agP hb.2 V⟩
end
def agx(ks:List Nat)(M:Mem)(k:Nat):afU→Prop
 |.qK=>True
 |.cells false es cs=>AV.afX ks.length cs=true∧∃o X,M[k]? =some (.cells o es X)∧∀(j:Nat) v,cs[j]? =some v→X[j]? =some (v.ren (fj ks M.length))
 |.agq es=>∃Z,(M[k]? =some (.agq Z)∨M[k]? =some (.map Z))∧Z.length=es.length∧
   ∀(j:Nat) e,es[j]? =some e→(e.1.under ks.length=true∧e.2.under ks.length=true)∧Z[j]? =some (e.1.ren (fj ks M.length),e.2.ren (fj ks M.length))
 |_=>False
theorem zg{n:Nat}:∀{cs:List AV},AV.afX n cs=true→∀(j:Nat) v,cs[j]? =some v→v.under n=true
 | [],_,j,v,h=>by simp at h
 |c::cs,h,j,v,hj=>by
  simp only[AV.afX,Bool.and_eq_true] at h;cases j with
  |zero=>simp at hj;subst hj;exact h.1
  |succ j=>exact zg h.2 j v (by simpa using hj)
theorem AZ{α:Type}{cs y :List α}{g:α→α}(h:∀(j:Nat) v,cs[j]? =some v→y[j]? =some (g v)):cs.length≤y.length:=by
 by_cases Z:cs.length=0
 ·omega
 ·have:=h (cs.length-1) (cs[cs.length-1]'(by omega)) (by simp)
  have:=gL this;omega
section
variable {P:Program}
theorem kO.frame{f:FuncId}{args:List AV}{m new M:Mem}{v:AV}(ks:List Nat)(hl:m.length=ks.length)(hk:∀k∈ks,k<M.length)(ha:AV.afX ks.length args=true)(hm:∀(i:Nat) s,m[i]? =some s→agx ks M (ks.getD i 0) s)(hn:new.all (fun s=>s.own||match s with | .qK=>true | _=>false)=true)(h:kO P f args m v (m++new)):kO P f (AV.af9 (fj ks M.length) args) M (v.ren (fj ks M.length)) (M++new.map (afU.ren (fj ks M.length))):=by
 refine⟨h.1,fun base μ w Vs hG hH hV=>?_⟩;have Y:∀b,¬ef m b:=by
  rintro b ⟨s,S,K⟩;have:=hm b s S;cases s with
  |qK=>cases K
  |cells own es cs=>simp only[afU.own] at K;subst K;exact this
  |map es=>exact this
  |agq es=>cases K
  |loop r=>exact this
 have hms:af3 base (fun i=>μ (ks.getD i 0)) m w:=by
  refine⟨hH.afY,fun b s S=>?_,fun b Q s' X=>absurd X (Y b)⟩;have O:=hm b s S;cases s with
  |qK=>trivial
  |map es=>exact O.elim
  |agq es=>
   obtain⟨es',h1,h2,h3⟩:=O;have S:∃C IR,w.heap[(μ (ks.getD b 0)).blk]? =some (.map C IR)∧E9 C IR∧C.size=es'.length∧∀(j:Nat) e,es'[j]? =some e→∃E,C[j]? =some E∧QI μ M.length e E:=by
    rcases h1 with h1 | h1
    ·have:=hH.slot _ _ h1;simpa only[af5] using this
    ·have:=hH.slot _ _ h1
     simp only[af5] at this;obtain⟨C,IR,k1,k2,k3,k4⟩:=this;exact⟨C,IR,k1,k2.2,k3,k4⟩
   obtain⟨C,IR,k1,k2,k3,k4⟩:=S;simp only[af5];refine⟨C,IR,k1,k2,by omega,fun j e he=>?_⟩;obtain⟨⟨u1,u2⟩,u3⟩:=h3 j e he;obtain⟨E,hE,r1,r2⟩:=k4 j _ u3;rw[hl];exact⟨E,hE,afQ.agP u1 r1,afQ.agP u2 r2⟩
  |loop r=>exact O.elim
  |cells own es cs=>
   cases own with
   |true=>exact O.elim
   |false=>
    obtain⟨X,o,cs',h1,h2⟩:=O;have:=hH.slot _ _ h1;simp only[af5] at this ⊢;obtain⟨cur,e,fr,g1,g2,g3,g4,_⟩:=this;refine⟨cur,e,fr,g1,g2,Nat.le_trans (AZ h2) g3,fun j u hj=>?_,fun h=>by cases h⟩;obtain⟨V,hV,hr⟩:=g4 j _ (h2 j u hj);rw[hl];exact⟨V,hV,afQ.agP (zg X j u hj) hr⟩
 have aaz:=afS.agP ha hV;rw[←hl] at aaz;refine(h.2 base _ w Vs hG hms aaz).mono ?_;rintro e w' ⟨V,v',mem',μ',rfl,q1,q2,q3,rfl,rfl⟩;have B:agk w w' :=⟨q3.size,fun k hk=>q3.frame k hk fun b X=>absurd X (Y b),q3.os,q3.tape,q3.output,q3.drawn⟩;have W:∀b,ef (m++new) b→w.heap.size≤(μ' b).blk:=by
  intro b X;by_cases J:(μ' b).blk<w.heap.size
  ·obtain⟨b0,h0,_⟩:=q3.owner b X J
   exact absurd h0 (Y b0)
  ·omega
 obtain⟨μ2,hμ2⟩:=xE (α:=Nat→Place) (fun b=>if b<M.length then μ b else μ' (b-M.length+m.length));have U:∀b,b<M.length→μ2 b=μ b:=fun b X=>by rw[hμ2];simp[X]
 have R:∀i,μ2 (M.length+i)=μ' (m.length+i):=fun i=>by rw[hμ2];simp only;rw[if_neg (by omega)];congr 1;omega
 have hρ:∀b Q,b<(m++new).length→fj ks M.length b=some Q →Q <(M++new.map (afU.ren (fj ks M.length))).length∧μ2 Q =μ' b:=by
  intro b Q X G;simp only[List.length_append,List.length_map] at X ⊢;unfold fj at G;split at G
  ·rename_i J
   cases G;have aaI:ks.getD b 0∈ks:=by rw[List.getD_eq_getElem?_getD,List.getElem?_eq_getElem J,Option.getD_some];exact List.getElem_mem J
   have:=hk _ aaI;refine⟨by omega,?_⟩;rw[U _ this];exact(q3.agree b (by omega)).symm
  ·rename_i J
   cases G;refine⟨by omega,?_⟩;rw[R,show m.length+(b-ks.length)=b by omega]
 have F:∀b s,(M++new.map (afU.ren (fj ks M.length)))[b]? =some s→(b<M.length∧M[b]? =some s)∨∃i Z,b=M.length+i∧new[i]? =some Z∧s=Z.ren (fj ks M.length):=by
  intro b s S;by_cases X:b<M.length
  ·rw[List.getElem?_append_left X] at S
   exact .inl ⟨X,S⟩
  ·rw[List.getElem?_append_right (by omega),List.getElem?_map] at S
   simp only[Option.map_eq_some_iff] at S;obtain⟨Z,h1,h2⟩:=S;exact .inr ⟨b-M.length,Z,by omega,h1,h2.symm⟩
 have I:∀i Z,new[i]? =some Z→(m++new)[m.length+i]? =some Z:=by intro i Z h;rw[List.getElem?_append_right (by omega),Nat.add_sub_cancel_left];exact h
 have D:∀i Z,new[i]? =some Z→Z≠ .qK→ef (m++new) (m.length+i):=by intro i Z h H;refine⟨Z,I i Z h,?_⟩;have:=List.all_eq_true.1 hn Z (List.mem_of_getElem? h);cases Z<;>simp_all
 have N:∀Z:afU,Z.ren (fj ks M.length)≠ .qK→Z≠ .qK:=by rintro Z h rfl;exact h rfl
 refine⟨V,_,_,μ2,rfl,q1.ren hρ,⟨Nat.le_trans hH.afY B.size,fun b s S=>?_,fun b Q s' X G H hbb=>?_⟩,?_,rfl,rfl⟩
 ·rcases F b s S with⟨X,h1⟩ | ⟨i,Z,rfl,h1,rfl⟩
  ·rw[U b X]
   refine(hH.slot b s h1).mono (by simp) U fun H=>B.heap _ ((hH.slot b s h1).agA H)
  ·rw[R]
   exact(q2.slot _ Z (I i Z h1)).ren hρ
 ·obtain⟨s,S,K⟩:=X
  have y:=afU.agr K;rcases F b s S with⟨X,h1⟩ | ⟨i,Z,rfl,h1,rfl⟩<;>rcases F Q s' G with⟨G,L⟩ | ⟨i',s0',rfl,L,rfl⟩
  ·rw[U b X,U Q G]
   exact hH.sep b Q s' ⟨s,h1,K⟩ L H hbb
  ·rw[U b X,R]
   have g1:=(hH.slot b s h1).agA y;have g2:=W _ (D i' s0' L (N _ H));omega
  ·rw[U Q G,R]
   have g1:=(hH.slot Q s' L).agA H;have g2:=W _ (D i Z h1 (N _ y));omega
  ·rw[R,R]
   exact q2.sep _ _ s0' (D i Z h1 (N _ y)) (I i' s0' L) (N _ H) (by omega)
 ·refine⟨by simp,U,B.os,B.tape,B.output,B.size,fun k hk _=>B.heap k hk,fun b X J=>?_,B.drawn⟩
  obtain⟨s,S,K⟩:=X;rcases F b s S with⟨X,h1⟩ | ⟨i,Z,rfl,h1,rfl⟩
  ·exact⟨b,⟨s,h1,K⟩,by rw[U b X]⟩
  ·rw[R] at J
   have:=W _ (D i Z h1 (N _ (afU.agr K)));omega
end
def iN(k:IntKind)(l:List Nat):List AV:=l.map fun n:Nat=>.int k (n:Int)
def iZ(l:List Int):List AV:=l.map fun n=>.int .i64 n
section
variable (k:IntKind)
theorem P7:iN k []=[]:=rfl
theorem ca(n:Nat)(l:List Nat):iN k (n::l)=.int k (n:Int)::iN k l:=rfl
theorem Uj(l:List Nat):(iN k l).length=l.length:=by simp[iN]
theorem dn(l r:List Nat):iN k (l++r)=iN k l++iN k r:=by simp[iN]
section
variable (l:List Nat)
include l
theorem XW(n:Nat):iN k l++[.int k (n:Int)]=iN k (l++[n]):=by simp[iN]
theorem Ui(i:Nat):(iN k l)[i]? =(l[i]?).map fun n:Nat=>.int k (n:Int):=by simp[iN]
theorem Sj(i:Nat)(h:i<(iN k l).length):(iN k l)[i]=.int k ((l[i]'(by simpa [iN] using h):Nat):Int):=by simp[iN]
theorem iA(i:Nat):(iN k l).take i=iN k (l.take i):=by simp[iN]
theorem sH(i:Nat):(iN k l).drop i=iN k (l.drop i):=by simp[iN]
theorem YZ:(iN k l).all AV.afR=true:=by simp[iN,AV.afR]
end
theorem Qt(m:Nat)(l:List Nat):AV.af6 m (iN k l)=[]:=by
 induction l with
 |nil=>rfl
 |cons x l ih=>simp[ca,AV.af6,AV.refs,ih]
theorem UY(ρ:Nat→Option Nat)(l:List Nat):AV.af9 ρ (iN k l)=iN k l:=by
 induction l with
 |nil=>rfl
 |cons x l ih=>simp[ca,AV.af9,AV.ren,ih]
theorem MX(m:Nat)(l:List Nat):AV.afX m (iN k l)=true:=by
 induction l with
 |nil=>rfl
 |cons x l ih=>simp[ca,AV.afX,AV.under,ih]
theorem FO(ok:Nat→Bool)(l:List Nat):AV.afV ok (iN k l)=true:=by
 induction l with
 |nil=>rfl
 |cons x l ih=>simp[ca,AV.afV,AV.afP,ih]
theorem MJ(m:Nat)(o:Bool)(e:Nat)(l:List Nat):afU.refs m (.cells o e (iN k l))=[]:=by simp[afU.refs,Qt]
theorem Ps(ρ:Nat→Option Nat)(o:Bool)(e:Nat)(l:List Nat):afU.ren ρ (.cells o e (iN k l))=.cells o e (iN k l):=by simp[afU.ren,UY]
theorem E3(ok:Nat→Bool)(o:Bool)(e:Nat)(l:List Nat):afU.afP ok (.cells o e (iN k l))=true:=by simp[afU.afP,FO]
theorem sI(l:Nat):fY [.int k 0] l=iN k (List.replicate l 0):=by
 induction l with
 |zero=>rfl
 |succ l ih=>rw[fY,ih,List.replicate_succ,ca];rfl
end
attribute [simp] P7 Uj Ui Sj Qt UY MX FO MJ Ps E3 YZ
attribute [simp] HP zb TyI.isAgg afU.refs afU.ren AV.under AV.afX afU.own qg lf nM A7 ux uy Yz gh qX fY AV.known AV.cells AV.afR
def Dx(k:IntKind):List AV→Option (List Nat)
 | []=>some []
 |.int k' n::l=>if k' =k∧0≤n then match Dx k l with
  |some r=>some (n.toNat::r)
  |none=>none
  else none
 |_::_=>none
theorem UH(k:IntKind)(l:List Nat):Dx k (iN k l)=some l:=by
 induction l with
 |nil=>rfl
 |cons x l ih=>rw[ca,Dx,if_pos ⟨rfl,by omega⟩,ih];simp
theorem Dy{k:IntKind}:∀{l:List AV} {r:List Nat},Dx k l=some r→l=iN k r
 | [],r,h=>by cases h;rfl
 |v::l,r,h=>by
  cases v<;>first | (unfold Dx at h;cases h;done) | skip
  rename_i V n;unfold Dx at h;split at h
  ·rename_i Z
   split at h
   ·rename_i U X
    cases h;rw[ca,Dy X,Z.1];congr 2;omega
   ·cases h
  ·cases h
theorem cO{l:List Nat}{i:Nat}(h:i<l.length):∃x,l[i]? =some x∧l[i]=x:=⟨l[i],by simp,rfl⟩
mutual
theorem zF{n:Nat}:∀{v:AV},v.closed=true→v.under n=true
 |.ptr _ _,h=>by simp[AV.closed] at h
 |.slice _ _ _ _,h=>by simp[AV.closed] at h
 |.map _,h=>by simp[AV.closed] at h
 |.yield _,h=>by simp[AV.closed] at h
 |.func _ Z,h=>by simp only[AV.closed] at h;simp only[AV.under];exact bl h
 |.iface _ v,h=>by simp only[AV.closed] at h;simp only[AV.under];exact zF h
 |.agg Z,h=>by simp only[AV.closed] at h;simp only[AV.under];exact bl h
 |.tuple Z,h=>by simp only[AV.closed] at h;simp only[AV.under];exact bl h
 |.undef,_=>rfl
 |.bool _,_=>rfl
 |.int _ _,_=>rfl
 |.str _,_=>rfl
 |.af4,_=>rfl
 |.qF,_=>rfl
 |.age,_=>rfl
 |.nilFunc,_=>rfl
 |.nilIface,_=>rfl
theorem bl{n:Nat}:∀{vs:List AV},AV.afT vs=true→AV.afX n vs=true
 | [],_=>rfl
 |v::vs,h=>by simp only[AV.afT,Bool.and_eq_true] at h;simp only[AV.afX,zF h.1,bl h.2];rfl
end
mutual
theorem FQ{ρ:Nat→Option Nat}:∀{v:AV},v.closed=true→v.ren ρ=v
 |.ptr _ _,h=>by simp[AV.closed] at h
 |.slice _ _ _ _,h=>by simp[AV.closed] at h
 |.map _,h=>by simp[AV.closed] at h
 |.yield _,h=>by simp[AV.closed] at h
 |.func _ Z,h=>by simp only[AV.closed] at h;simp only[AV.ren,aO h]
 |.iface _ v,h=>by simp only[AV.closed] at h;simp only[AV.ren,FQ h]
 |.agg Z,h=>by simp only[AV.closed] at h;simp only[AV.ren,aO h]
 |.tuple Z,h=>by simp only[AV.closed] at h;simp only[AV.ren,aO h]
 |.undef,_=>rfl
 |.bool _,_=>rfl
 |.int _ _,_=>rfl
 |.str _,_=>rfl
 |.af4,_=>rfl
 |.qF,_=>rfl
 |.age,_=>rfl
 |.nilFunc,_=>rfl
 |.nilIface,_=>rfl
theorem aO{ρ:Nat→Option Nat}:∀{vs:List AV},AV.afT vs=true→AV.af9 ρ vs=vs
 | [],_=>rfl
 |v::vs,h=>by simp only[AV.afT,Bool.and_eq_true] at h;simp only[AV.af9,FQ h.1,aO h.2]
end
theorem xO(s n:Nat):(s:Int).tmod (n:Int)=((s%n:Nat):Int):=rfl
theorem xN(s n:Nat):(s:Int).tdiv (n:Int)=((s / n:Nat):Int):=rfl
theorem Bx(s n:Nat):(s:Int).tmod (OfNat.ofNat n)=((s%n:Nat):Int):=rfl
theorem HT(s n:Nat):(s:Int).tdiv (OfNat.ofNat n)=((s / n:Nat):Int):=rfl
theorem MI(m:Nat)(a b:List AV):AV.af6 m (a++b)=AV.af6 m a++AV.af6 m b:=by
 induction a with
 |nil=>rfl
 |cons x a ih=>simp[AV.af6,ih]
theorem Pv(ρ:Nat→Option Nat)(a b:List AV):AV.af9 ρ (a++b)=AV.af9 ρ a++AV.af9 ρ b:=by
 induction a with
 |nil=>rfl
 |cons x a ih=>simp[AV.af9,ih]
theorem EZ(ok:Nat→Bool)(a b:List AV):AV.afV ok (a++b)=(AV.afV ok a&&AV.afV ok b):=by
 induction a with
 |nil=>rfl
 |cons x a ih=>simp[AV.afV,ih,Bool.and_assoc]
attribute [simp] MI Pv EZ
def af0(k:IntKind)(M:Mem)(x:AV)(A:List Nat):Prop:=∃b o Z,x=.slice b 0 A.length none∧M[b]? =some (.cells o 1 Z)∧Z.take A.length=iN k A
def aZ(k:IntKind)(M:Mem):AV→Option (List Nat)
 |.slice b 0 n none=>match M[b]? with
  |some (.cells _ 1 cs)=>if n≤cs.length then Dx k (cs.take n) else none
  |_=>none
 |_=>none
theorem ba{k:IntKind}{M:Mem}{x:AV}{A:List Nat}(h:aZ k M x=some A):af0 k M x A:=by
 unfold aZ at h;split at h
 ·rename_i b n
  split at h
  ·rename_i o X V
   split at h
   ·rename_i S
    have Z:=Dy h;have U:n=A.length:=by have:=congrArg List.length Z;simp at this;omega
    subst U;exact⟨b,o,X,rfl,V,Z⟩
   ·cases h
  ·cases h
 ·cases h
variable{b:Nat}{cs:List AV}
theorem aP{k:IntKind}{M:Mem}{n:Nat}{ow:Bool}{A:List Nat}(h:M[b]? =some (.cells ow 1 cs))(y:n≤cs.length)(H:cs.take n=iN k A):aZ k M (.slice b 0 n none)=some A:=by simp only[aZ,h];rw[if_pos y,H,UH]
variable{o:Bool}
theorem agx.row{k:IntKind}{ks:List Nat}{M:Mem}{A:List Nat}(h:M[b]? =some (.cells o 1 cs))(y:cs.take A.length=iN k A):agx ks M b (.cells false 1 (iN k A)):=by
 refine⟨MX _ _ _,o,cs,h,fun j v Z=>?_⟩;have X:j<A.length:=by have:=gL Z;simpa using this
 have:cs[j]? =(iN k A)[j]? :=by rw[←y,List.getElem?_take_of_lt X]
 rw[this,Z];rw[Ui] at Z;simp only[Option.map_eq_some_iff] at Z;obtain⟨n,_,rfl⟩:=Z;simp[AV.ren]
section
variable {P:Program}{k:IntKind}{f:FuncId}{A B:List Nat}{M:Mem}{x y:AV}
theorem kO.ahp{rest:List AV}{v:AV}{new:Mem}(hr:AV.afT rest=true)(H:new.all (fun s=>s.own||match s with | .qK=>true | _=>false)=true)(h:kO P f (.slice 0 0 A.length none::rest) [.cells false 1 (iN k A)] v (.cells false 1 (iN k A)::new))(I:af0 k M x A):
  ∃b,x=.slice b 0 A.length none∧kO P f (x::rest) M (v.ren (fj [b] M.length)) (M++new.map (afU.ren (fj [b] M.length))):=by
 obtain⟨b,o,cs,rfl,X,V⟩:=I;refine⟨b,rfl,?_⟩;have U:=gL X;have:=kO.frame (M:=M) [b] (m:=[.cells false 1 (iN k A)]) rfl (by simpa using U) (by simp only[AV.afX,AV.under,bl hr];rfl) (fun i s Z=>by
  cases i with
  |zero=>simp at Z;subst Z;exact .row X V
  |succ i=>simp at Z) H h
 simpa [AV.af9,AV.ren,fj,aO hr] using this
theorem kO.agM{v:AV}{new:Mem}(H:new.all (fun s=>s.own||match s with | .qK=>true | _=>false)=true)(h:kO P f [.slice 0 0 A.length none,.slice 1 0 B.length none] [.cells false 1 (iN k A),.cells false 1 (iN k B)] v (.cells false 1 (iN k A)::.cells false 1 (iN k B)::new))(I:af0 k M x A)(J:af0 k M y B):
  ∃b c,x=.slice b 0 A.length none∧y=.slice c 0 B.length none∧kO P f [x,y] M (v.ren (fj [b,c] M.length)) (M++new.map (afU.ren (fj [b,c] M.length))):=by
 obtain⟨b,o,cs,rfl,V,S⟩:=I;obtain⟨c,N,R,rfl,U,X⟩:=J;refine⟨b,c,rfl,rfl,?_⟩;have Q:=gL V;have O :=gL U;have:=kO.frame (M:=M) [b,c] (m:=[.cells false 1 (iN k A),.cells false 1 (iN k B)]) rfl (by simp[Q,O]) (by simp) (fun i s Z=>by
  match i with
  |0=>simp at Z;subst Z;exact .row V S
  |1=>simp at Z;subst Z;exact .row U X
  |i+2=>simp at Z) H h
 simpa [AV.af9,AV.ren,fj] using this
theorem kO.ahE{args:List AV}{m:Mem}{v:AV}{es:Nat}{H :List AV}(h:kO P f args m v (m++[afU.cells o es cs]))(I:H <+: cs):kO P f args m v (m++[afU.cells o es H]):=by
 refine⟨h.1,fun base μ w Vs hG hH hV=>(h.2 base μ w Vs hG hH hV).mono ?_⟩;rintro e w' ⟨V,v',m',μ',rfl,q1,q2,q3,rfl,rfl⟩;have U:∀b Z,(m++[afU.cells o es H])[b]? =some Z→∃S,(m++[afU.cells o es cs])[b]? =some S∧S.own=Z.own∧(S=.qK→Z=.qK)∧af5 μ' (m++[afU.cells o es cs]).length base w' (μ' b) Z:=by
  intro b Z X;by_cases Q:b<m.length
  ·rw[List.getElem?_append_left Q] at X
   have R :(m++[afU.cells o es cs])[b]? =some Z:=gU X _;exact⟨Z,R,rfl,id,q2.slot b Z R⟩
  ·have O:b=m.length:=by have:=gL X;simp at this;omega
   subst O;simp at X;subst X;have R :(m++[afU.cells o es cs])[m.length]? =some (afU.cells o es cs):=by simp
   refine⟨_,R,rfl,(fun h=>by cases h),?_⟩;have:=q2.slot _ _ R;simp only[af5] at this ⊢;obtain⟨N,el,D,L,K,g3,C,Y⟩:=this;refine⟨N,el,D,L,K,Nat.le_trans I.length_le g3,fun j u F=>C j u ?_,Y⟩;obtain⟨t,rfl⟩:=I;rw[List.getElem?_append_left (gL F)];exact F
 have G:(m++[afU.cells o es H]).length=(m++[afU.cells o es cs]).length:=by simp
 refine⟨V,_,_,μ',rfl,by rw[G];exact q1,q2.swap G U,⟨by rw[G];exact q3.len,q3.agree,q3.os,q3.tape,q3.output,q3.size,q3.frame,fun b X Q=>?_,q3.drawn⟩,rfl,rfl⟩;obtain⟨s,L,K⟩:=X;obtain⟨S,W,J,_,_⟩:=U b s L;exact q3.owner b ⟨S,W,by rw[J];exact K⟩ Q
end
end Go.Eng
namespace Go.Eng
def rb(P:Program)(c:Callee)(args:List AV)(m:Mem)(r:y9):Prop:=
 (match c with
  |.fn f=>kO P f args m r.v (r.mem m)
  |.yld b=>gk P b args m r.v (r.mem m))∧∀q,r.pre=some q→q.length=m.length
open Classical in
theorem jJ{P:Program}{ι:Type}(p:ι→Prop)(c:ι→Callee)(a:ι→List AV)(m:ι→Mem)(r:ι→y9)(hs:∀i,p i→rb P (c i) (a i) (m i) (r i))(hc:∀i j,p i→p j→c i=c j→a i=a j→m i=m j→r i=r j):∃O:afF,qS P O∧∀i,p i→O (c i) (a i) (m i)=some (r i):=by
 refine⟨fun S X V =>if h:∃i,p i∧c i=S ∧a i=X ∧m i=V then some (r (Classical.choose h)) else none,?_,fun i L=>?_⟩
 ·have U:∀S X V R,(if h:∃i,p i∧c i=S ∧a i=X ∧m i=V then some (r (Classical.choose h)) else none)=some R →rb P S X V R :=by
   intro S X V R h;split at h
   ·rename_i Z
    obtain⟨Q,N,h3,M⟩:=Classical.choose_spec Z;cases h;have:=hs _ Q;rw[N,h3,M] at this;exact this
   ·cases h
  exact⟨fun f X V R h=>(U _ _ _ _ h).1,fun b X V R h=>(U _ _ _ _ h).1,fun S X V R q h K=>(U _ _ _ _ h).2 q K⟩
 ·have Z:∃j,p j∧c j=c i∧a j=a i∧m j=m i:=⟨i,L,rfl,rfl,rfl⟩
  simp only[dif_pos Z];obtain⟨Q,N,h3,M⟩:=Classical.choose_spec Z;rw[hc _ _ Q L N h3 M]
variable{n:Nat}{r:agY}
theorem xH(h:r.env.flatMap (fun e=>e.2.refs n)=[]):afU.refs n (.loop r)=[]:=h
variable{ks:List Nat}
theorem Qu(h:r.env.flatMap (fun e=>e.2.refs n)=[]):afU.ren (rho n ks) (.loop r)=.loop r:=afU.af7 (xH h)
theorem Hx{m:Mem}(h:∀s∈m,s.refs n=[]):m.flatMap (afU.refs n)=[]:=by rw[List.flatMap_eq_nil_iff];exact h
theorem zM{m:Mem}(h:∀s∈m,s.refs n=[]):m.map (afU.ren (rho n ks))=m:=by
 conv=>rhs;rw[←List.map_id m]
 apply List.map_congr_left;intro s Z;rw[afU.af7 (h s Z)];rfl
variable{G:FuncId→Option Func}{c:Code}{e:Exit}{fn:Func}{mem mem' :Mem}
section
variable{T:TypeId→Option TyI}{lv:Code→List Nat}{O:afF}
include T lv O
theorem LP{K:Nat}{f:FuncId}{args:List AV}{v:AV}{I :Env}(hf:G f=some fn)(W:fn.body=some c)(Y:args.length≤fn.ntmps)(he:e=.normal∨e=.ret)(h:aW T lv O K fn.ntmps mem.length true c ⟨dC 0 args,mem,false⟩=some (e,⟨I,mem',true⟩))(J:jK T fn.results.toList I mem' =some v)(G':mem'.length=mem.length)(y:v.refs mem.length=[])(H:∀s∈mem',s.refs mem.length=[]):aa T lv G O K f args mem=some ⟨v,some mem',[]⟩:=by
 have X:mem'.take mem.length=mem' :=List.take_of_length_le (by omega);unfold aa;simp only[hf,W];rw[if_pos Y,h];have Z:qZ mem.length mem' 1000 (v.refs mem.length++(mem'.take mem.length).flatMap (afU.refs mem.length)) []=[]:=by rw[y,X,Hx H];rfl
 rcases he with rfl | rfl
 ·simp only[J,if_true]
  rw[Z,X];simp[EW,agK,zM H,AV.af7 y]
 ·simp only[J,if_true]
  rw[Z,X];simp[EW,agK,zM H,AV.af7 y]
theorem v7{K N m0:Nat}{tp:Bool}{b:Code}{L:List Nat}(I:lv b=L)(d0 d1:Bool)(H:Env→Prop)(y:Env→Env→Prop)(h:∀Z,H Z→∃X,ga L (ae b) Z mem.length (aW T lv O K N m0 tp b) K ⟨aA L (ae b) Z Z,mem,d0⟩=some (e,⟨X,mem',d1⟩)∧y Z X):
  ∃F:Env→Env,∀Z,H Z→aW T lv O K N m0 tp (.loop b) ⟨Z,mem,d0⟩=some (e,⟨F Z,mem',d1⟩)∧y Z (F Z):=by
 obtain⟨F,S⟩:=qJ (p:=fun Z _=>H Z) (q:=fun Z _ U =>aW T lv O K N m0 tp (.loop b) ⟨Z,mem,d0⟩=some (e,⟨U,mem',d1⟩)∧y Z U) (fun Z _ V=>by obtain⟨X,R,Q⟩:=h Z V;exact⟨X,by rw[aT,I];exact R,Q⟩)
 exact⟨fun Z=>F Z true,fun Z V=>S Z true V⟩
end
def fW:Code→List (Array Tmp×Code×Code)
 |.seq a b=>fW a++fW b
 |.cond _ a b=>fW a++fW b
 |.block _ b=>fW b
 |.loop b=>fW b
 |.rangeFunc _ ps a b=>[(ps,a,b)]
 |_=>[]
def ej(f:Func):List (Array Tmp×Code×Code):=match f.body with
 |some c=>fW c
 |none=>[]
theorem Pq{env:Env}(h:env.flatMap (fun e=>e.2.refs n)=[]):tf (rho n ks) env=env:=by
 unfold tf;rw[List.flatMap_eq_nil_iff] at h;conv=>rhs;rw[←List.map_id env]
 apply List.map_congr_left;intro e Z;rw[AV.af7 (h e Z)];rfl
attribute [simp] afU.afP
theorem cf{P:Program}{O:afF}(key:∀c Z M r,O c Z M=some r→rb P c Z M r):qS P O:=
 ⟨fun f Z M r h=>(key _ _ _ _ h).1,fun b Z M r h=>(key _ _ _ _ h).1,fun c Z M r p h X=>(key _ _ _ _ h).2 p X⟩
variable{M:Mem}
theorem dN{P:Program}{O:afF}(y:qS P O){c:Go.Eng.Callee}{args:List AV}{r:y9}(h:O c args M=some r):rb P c args M r:=by
 refine⟨?_,fun q Z=>y.pre _ _ _ _ _ h Z⟩;cases c with
 |fn f=>exact y.fn _ _ _ _ h
 |yld b=>exact y.yld _ _ _ _ h
theorem aC{P:Program}{f:FuncId}{args:List AV}{new:Mem}{v:AV}(h:kO P f args M v (M++new)):rb P (.fn f) args M ⟨v,none,new⟩:=⟨h,fun q Z=>by cases Z⟩
theorem bG{P:Program}{f:FuncId}{args:List AV}{v:AV}(h:kO P f args M v M):rb P (.fn f) args M ⟨v,none,[]⟩:=aC (by simpa using h)
def ahq(s s' :afU):Prop:=s=s' ∨∃o es X Z,s' =.cells o es X∧s=.cells o es Z ∧Z <+: X
theorem ahq.row{k:IntKind}{o:Bool}{es:Nat}{l r:List Nat}(h:l <+: r):ahq (.cells o es (iN k l)) (.cells o es (iN k r)):=by obtain⟨t,rfl⟩:=h;exact .inr ⟨o,es,_,_,rfl,rfl,iN k t,by rw[←dn]⟩
theorem kO.agQ{P:Program}{f:FuncId}{args:List AV}{m y m2:Mem}{v:AV}(h:kO P f args m v y)(H:m2.length=y.length)(hc:∀(b:Nat) s,m2[b]? =some s→∃R,y[b]? =some R ∧ahq s R):kO P f args m v m2:=by
 refine⟨h.1,fun base μ w Vs hG hH hV=>(h.2 base μ w Vs hG hH hV).mono ?_⟩;rintro e w' ⟨V,v',m',μ',rfl,q1,q2,q3,rfl,rfl⟩;have X:∀b Z,m2[b]? =some Z→∃U,m'[b]? =some U∧U.own=Z.own∧(U=.qK→Z=.qK)∧af5 μ' m'.length base w' (μ' b) Z:=by
  intro b Z Q;obtain⟨R,S,D⟩:=hc b Z Q;rcases D with rfl | ⟨o,es,cs,C,rfl,rfl,K⟩
  ·exact⟨Z,S,rfl,id,q2.slot b Z S⟩
  ·refine⟨_,S,rfl,(fun h=>by cases h),?_⟩
   have:=q2.slot _ _ S;simp only[af5] at this ⊢;obtain⟨O,el,B,N,L,g3,Y,W⟩:=this;refine⟨O,el,B,N,L,Nat.le_trans K.length_le g3,fun j u F=>Y j u ?_,W⟩;obtain⟨t,rfl⟩:=K;rw[List.getElem?_append_left (gL F)];exact F
 refine⟨V,v',m2,μ',rfl,by rw[H];exact q1,q2.swap H X,⟨by rw[H];exact q3.len,q3.agree,q3.os,q3.tape,q3.output,q3.size,q3.frame,fun b Q J=>?_,q3.drawn⟩,rfl,rfl⟩;obtain⟨s,N,L⟩:=Q;obtain⟨U,I,k2,_,_⟩:=X b s N;exact q3.owner b ⟨U,I,by rw[k2];exact L⟩ J
variable{R:AV→Mem→Prop}
section
variable {P:Program}{T:TypeId→Option TyI}{O:afF}{K:Nat}{lv:Code→List Nat}
theorem ags.agR(hT:cX P T){f:FuncId}{args:List AV}(hf:P.funcs[f]? =some fn)(y:fn.body=some c)(H:(fn.name == "runtime.NumGoroutine")=false)(I:args.length≤fn.ntmps)(h:AWP P true fn.ntmps mem.length c ⟨dC 0 args,mem⟩ fun e U =>(e=.normal∨e=.ret)∧∃v,jK T fn.results.toList U.env U.mem=some v∧R v U.mem):
  ags P f args mem R:=by
 refine⟨⟨fn,hf,by simp[y],H⟩,fun base μ w Vs hG hH hV=>?_⟩;refine Bi.1 (callsIn_of_wp_marks (F:=Fr none) (n:=0) hf y trivial (wpIn_mono (h none w.heap.size base μ w _ (fun _=>rfl) hH ?_ ?_ (MOk.nil w hG hH.afY (Nat.le_refl _)) (Nat.le_refl _)) ?_) rfl)
 ·intro t
  have:=yW 0 hV t;simp only[Nat.not_lt_zero,if_false,Nat.sub_zero] at this;by_cases Q:t<Vs.length
  ·have e:(⟨Vs⟩++Array.replicate (fn.ntmps-(⟨Vs⟩:Array Value).size) undef:Array Value).getD t undef=Vs.getD t undef:=by simp only[Array.getD_eq_getD_getElem?];rw[Array.getElem?_append_left (by simpa using Q)];simp[List.getD]
   show afQ μ mem.length (ad (dC 0 args) t) ((⟨Vs⟩++Array.replicate (fn.ntmps-(⟨Vs⟩:Array Value).size) undef:Array Value).getD t undef)
   rw[e];exact this
  ·have:ad (dC 0 args) t=.undef:=by
    have B:=hV.length;have:∀(X:List AV) (i:Nat),i+X.length≤t→ad (dC i X) t=.undef:=by
     intro X;induction X with
     |nil=>intro i _;rfl
     |cons v X ih=>
      intro i N;simp only[List.length_cons] at N;simp only[dC,ad];rw[if_neg (by omega)];exact ih (i+1) (by omega)
    exact this args 0 (by omega)
   show afQ μ mem.length (ad (dC 0 args) t) _
   rw[this];simp[afQ]
 ·simp only[Array.size_append,List.size_toArray,Array.size_replicate,hV.length];omega
 ·rintro e a' w' ⟨U,μ',b1,b2,b3,b4,b5,b6,he,v,hv,hR⟩
  have Z:LeavesInM (Fr none) 0 P fn a'.tmps (fun e w' =>∃V v mem' μ',e=.returned V∧afQ μ' mem'.length v V∧af3 base μ' mem' w' ∧Step mem.length μ mem w μ' mem' w' ∧R v mem') a'.defers .returning w' :=by
   refine sO a'.defers w' b4 b1 b6 fun w2 S L=>?_
   obtain⟨V,D,C⟩:=uF (P:=P) (fn:=fn) hT S b2 hv;exact⟨V,D,⟨V,_,_,_,rfl,C,S,L,hR⟩⟩
  rcases he with rfl | rfl
  ·exact Z
  ·exact Z
def dV(T:TypeId→Option TyI)(lv:Code→List Nat)(G:FuncId→Option Func)(O:afF)(K:Nat)(f:FuncId)(args:List AV)(mem:Mem):Option (AV×Mem):=
 match G f with
 |none=>none
 |some fn=>match fn.body with
  |none=>none
  |some c=>
   if args.length≤fn.ntmps then
    match aW T lv O K fn.ntmps mem.length true c ⟨dC 0 args,mem,false⟩ with
    |some (e,s)=>
     match e with
     |.normal | .ret=>
      match jK T fn.results.toList s.env s.mem with
      |some v=>some (v,s.mem)
      |none=>none
     |_=>none
    |none=>none
   else none
theorem dZ(y:P.follows .mixedOrders=true)(hT:cX P T)(H:qS P O)(I:ag9 P G){f:FuncId}{args:List AV}{v:AV}(h:dV T lv G O K f args mem=some (v,mem')):kO P f args mem v mem' :=by
 unfold dV at h;split at h
 ·cases h
 ·rename_i fn X
  obtain⟨S,Q,g3⟩:=I.fn _ _ X;split at h
  ·cases h
  ·rename_i c U
   split at h
   ·rename_i N
    split at h
    ·rename_i e s L
     obtain⟨F,_⟩:=dv y hT H (g3 c U) L;have Z:(e=.normal∨e=.ret)→(match jK T fn.results.toList s.env s.mem with
      |some v=>some (v,s.mem)
      |none=>none)=some (v,mem')→kO P f args mem v mem' :=by
      intro V h;split at h
      ·rename_i v D
       cases h;exact ags.agR hT S U Q N (F _ ⟨V,_,D,rfl,rfl⟩)
      ·cases h
     split at h
     ·exact Z (.inl rfl) h
     ·exact Z (.inr rfl) h
     ·cases h
    ·cases h
   ·cases h
theorem agC.agR{b:Nat}{args:List AV}(hb:mem[b]? =some (.loop r))(H:r.st=.ready)(hl:args.length=r.ps.toList.length)(y:∀t∈r.ps.toList,t<r.N)(h:AWP P false r.N mem.length r.assign ⟨zD r.ps.toList args r.env,mem⟩ fun e Z=>e=.normal∧∃r1,Z.mem[b]? =some (.loop r1)∧r1.st=.ready∧
   AWP P false r.N mem.length r.body ⟨Z.env,Z.mem.set b (.loop { r1 with st:=.busy })⟩ fun e X=>∃r2 j,sN e=some j∧X.mem[b]? =some (.loop r2)∧
    R (.bool j.isNone) (X.mem.set b (.loop { r2 with st:=nY j,agX:=j }))):
  agC P b args mem R:=by
 intro base μ w Vs hG hH hV hbl;have U:=hH.slot b _ hb;simp only[af5] at U;obtain⟨L,h1,h2,h3⟩:=U;have G':Vs.length=L.params.size:=by rw[hV.length,hl,h3.ps];simp
 refine⟨L.fn,(L.params.zip ⟨Vs⟩).foldl (fun tmps (t,a)=>tmps.setIfInBounds t a) L.tmps,L.assign,L.body,?_,?_⟩
 ·simp only[Instr.yield,Sem.run_bind,iX h1,Result.andThen_ok]
  rw[if_neg (by simp[G'])];rfl
 ·refine roundIn_of_wpIn (F:=Fence.wide) trivial ?_
  have S:(L.params.zip ⟨Vs⟩).foldl (fun tmps (t,a)=>tmps.setIfInBounds t a) L.tmps=(r.ps.toList.zip Vs).foldl (fun tmps (t,a)=>tmps.setIfInBounds t a) L.tmps:=by rw[h3.ps,←Array.foldl_toList];simp
  have m:=Hk (ts:=r.ps.toList) hV h3.tmps hl (fun t ht=>by rw[h3.size];exact y t ht);rw[h3.assign,h3.body];refine wpIn_mono (F:=Fr (some (μ b).blk)) (h (some (μ b).blk) w.heap.size base μ w ⟨_,[]⟩ (fun h=>by cases h) hH (by rw[S];exact m.1) (by rw[S,m.2];exact h3.size) (MOk.nil w hG hH.afY (Nat.le_refl _)) (Nat.le_refl _)) ?_;rintro e a1 w1 ⟨Z,μ1,c1,c2,c3,c4,c5,c6,rfl,r1,c7,c8,hbody⟩;have Q:=c1.slot b _ c7;simp only[af5] at Q;obtain⟨L1,d1,d2,d3⟩:=Q;have hμ:μ1 b=μ b:=c6.agree b hbl;rw[hμ] at d1;obtain⟨Y,W,C⟩:=xv (P:=P) (r' :={ r1 with st:=.busy }) (L' :={ L1 with state:=.busy }) c1 c7 (by rw[hμ];exact d1) { d3 with st:=rfl };rw[hμ] at Y W C;refine⟨_,?_,wpIn_mono (F:=Fr (some (μ b).blk)) (hbody (some (μ b).blk) w.heap.size base μ1 _ a1 (fun h=>by cases h) W (by rw[List.length_set];exact c2) c3 (c4.step c1 C) (by rw[List.length_set];exact c5)) ?_⟩
  ·simp only[Instr.beginRound,Sem.run_bind,iX d1,Result.andThen_ok,Y]
   rw[d3.st,c8];rfl
  ·rintro e a2 w2 ⟨X,μ2,f1,f2,f3,f4,f5,f6,r2,j,f7,f8,f10⟩
   have D:=f1.slot b _ f8;simp only[af5] at D;obtain⟨L2,g1,g2,g3⟩:=D;have hμ2:μ2 b=μ b:=by rw[f6.agree b hbl,hμ]
   rw[hμ2] at g1;obtain⟨B,J,I⟩:=xv (P:=P) (r' :={ r2 with st:=nY j,agX:=j }) (L' :={ L2 with state:=nY j,pending:=j }) f1 f8 (by rw[hμ2];exact g1) { g3 with st:=rfl,agX:=rfl };rw[hμ2] at B J I;have u:(Instr.endRound (μ b).blk j).run P w2=.ok (.bool j.isNone) { w2 with heap:=w2.heap.setIfInBounds (μ b).blk (.loop { L2 with state:=nY j,pending:=j }) }:=by unfold nY at B ⊢;simp only[Instr.endRound,Sem.run_bind,iX g1,Result.andThen_ok,B];rfl
   have hS:Step mem.length μ mem w _ _ _:=((c6.trans (C.mono c5)).trans f6).trans (I.mono f5);have o:∃V v mem' μ',(Ending.returned (.bool j.isNone):Ending)=.returned V∧afQ μ' mem'.length v V∧af3 base μ' mem' { w2 with heap:=w2.heap.setIfInBounds (μ b).blk (.loop { L2 with state:=nY j,pending:=j }) }∧
     Step mem.length μ mem w μ' mem' { w2 with heap:=w2.heap.setIfInBounds (μ b).blk (.loop { L2 with state:=nY j,pending:=j }) }∧R v mem' :=
    ⟨_,.bool j.isNone,_,_,rfl,by simp[afQ],J,hS,f10⟩
   cases e<;>simp only[sN,Option.some.injEq,reduceCtorEq] at f7<;>subst f7<;>exact⟨_,_,u,o⟩
def gC(T:TypeId→Option TyI)(lv:Code→List Nat)(O:afF)(K:Nat)(b:Nat)(args:List AV)(mem:Mem):Option (AV×Mem):=
 match mem[b]? with
 |some (.loop r)=>
  if r.st== .ready&&decide (args.length=r.ps.toList.length)&&r.ps.toList.all (fun t=>decide (t<r.N))&&cM r.assign&&cM r.body then
   match aW T lv O K r.N mem.length false r.assign ⟨zD r.ps.toList args r.env,mem,true⟩ with
   |some (.normal,s1)=>match s1.mem[b]? with
    |some (.loop r1)=>
     if r1.st== .ready then
      match aW T lv O K r.N mem.length false r.body ⟨s1.env,s1.mem.set b (.loop { r1 with st:=.busy }),true⟩ with
      |some (e,s2)=>match sN e,s2.mem[b]? with
       |some j,some (.loop r2)=>some (.bool j.isNone,s2.mem.set b (.loop { r2 with st:=nY j,agX:=j }))
       |_,_=>none
      |none=>none
     else none
    |_=>none
   |_=>none
  else none
 |_=>none
theorem iK(y:P.follows .mixedOrders=true)(hT:cX P T)(H:qS P O){b:Nat}{args:List AV}{v:AV}(h:gC T lv O K b args mem=some (v,mem')):gk P b args mem v mem' :=by
 unfold gC at h;split at h
 ·rename_i W X
  split at h
  ·rename_i Q
   simp only[Bool.and_eq_true,decide_eq_true_eq,List.all_eq_true] at Q;obtain⟨⟨⟨⟨N,L⟩,F⟩,D⟩,C⟩:=Q;have Z:∀{x:LoopState},(x== .ready)=true→x=.ready:=fun {x} h=>by cases x<;>first | rfl | cases h
   split at h
   ·rename_i J B
    obtain⟨u,I⟩:=dv y hT H D B;split at h
    ·rename_i r1 V
     split at h
     ·rename_i U
      split at h
      ·rename_i e s2 o
       obtain⟨m,b2⟩:=dv y hT H C o;split at h
       ·rename_i j r2 Y S
        cases h;exact agC.agR X (Z N) L F (u _ ⟨rfl,r1,V,Z U,m _ ⟨r2,j,Y,S,rfl,rfl⟩⟩)
       ·cases h
      ·cases h
     ·cases h
    ·cases h
   ·cases h
  ·cases h
 ·cases h
end
end Go.Eng
namespace Go.Eng
def Xh(es:Nat)(M:Mem)(x:AV)(n:Nat)(cs:List AV):Prop:=∃b o Z,x=.slice b 0 n none∧M[b]? =some (.cells o es Z)∧Z.take cs.length=cs
def LR(es:Nat)(M:Mem):AV→Option (List AV)
 |.slice b 0 n none=>match M[b]? with
  |some (.cells _ es' cs)=>if es' =es∧n*es≤cs.length then some (cs.take (n*es)) else none
  |_=>none
 |.qF=>some []
 |_=>none
variable{es:Nat}
theorem TU{M:Mem}{b n:Nat}{o:Bool}{cs y :List AV}(h:M[b]? =some (.cells o es y))(H:n*es≤y.length)(hc:y.take (n*es)=cs):LR es M (.slice b 0 n none)=some cs:=by simp[LR,h,H,hc]
theorem OW{M:Mem}{x:AV}{cs:List AV}(h:LR es M x=some cs):(∃n,cs.length=n*es∧Xh es M x n cs)∨(x=.qF∧cs=[]):=by
 unfold LR at h;split at h
 ·rename_i b n
  split at h
  ·rename_i o Z X U
   split at h
   ·rename_i S
    obtain⟨rfl,R⟩:=S;cases h;have V:(X.take (n*Z)).length=n*Z :=by rw[List.length_take];omega
    exact .inl ⟨n,V,b,o,X,rfl,U,by rw[V]⟩
   ·cases h
  ·cases h
 ·cases h;exact .inr ⟨rfl,rfl⟩
 ·cases h
theorem cW{ks:List Nat}{M:Mem}{b es:Nat}{o:Bool}{cs y :List AV}(hc:AV.afT cs=true)(h:M[b]? =some (.cells o es y))(H:y.take cs.length=cs):agx ks M b (.cells false es cs):=by
 refine⟨bl hc,o,y,h,fun j v X=>?_⟩;have U:=gL X;have S:y[j]? =cs[j]? :=by have:(y.take cs.length)[j]? =y[j]? :=List.getElem?_take_of_lt U;rw[←this,H]
 have V:=aO (ρ:=fj ks M.length) hc;rw[jf] at V;have Z:(cs.map (AV.ren (fj ks M.length)))[j]? =cs[j]? :=by rw[V]
 rw[List.getElem?_map,X] at Z;rw[S,X];exact Z.symm
variable{rest:List AV}
section
variable {P:Program}{f:FuncId}{M:Mem}{x y:AV}
theorem kO.ag5{es n:Nat}{cs:List AV}{v:AV}{new:Mem}(hc:AV.afT cs=true)(hr:AV.afT rest=true)(H:new.all (fun s=>s.own||match s with | .qK=>true | _=>false)=true)(h:kO P f (.slice 0 0 n none::rest) [.cells false es cs] v (.cells false es cs::new))(I:Xh es M x n cs):
  ∃b,x=.slice b 0 n none∧b<M.length∧kO P f (x::rest) M (v.ren (fj [b] M.length)) (M++new.map (afU.ren (fj [b] M.length))):=by
 obtain⟨b,o,U,rfl,X,S⟩:=I;have V:=gL X;refine⟨b,rfl,V,?_⟩;have:=kO.frame (M:=M) [b] (m:=[.cells false es cs]) rfl (by simpa using V) (by simp only[AV.afX,AV.under,bl hr];rfl) (fun i s Z=>by
  cases i with
  |zero=>simp at Z;subst Z;exact cW hc X S
  |succ i=>simp at Z) H h
 simpa [AV.af9,AV.ren,fj,aO hr] using this
theorem kO.ahY{es I n J:Nat}{cs H:List AV}{v:AV}{new:Mem}(hc:AV.afT cs=true)(W:AV.afT H=true)(hr:AV.afT rest=true)(Y:new.all (fun s=>s.own||match s with | .qK=>true | _=>false)=true)(h:kO P f (.slice 0 0 n none::.slice 1 0 J none::rest) [.cells false es cs,.cells false I H] v (.cells false es cs::.cells false I H::new))(hx:Xh es M x n cs)(hy:Xh I M y J H):
  ∃b c,x=.slice b 0 n none∧y=.slice c 0 J none∧b<M.length∧c<M.length∧kO P f (x::y::rest) M (v.ren (fj [b,c] M.length)) (M++new.map (afU.ren (fj [b,c] M.length))):=by
 obtain⟨b,o,Q,rfl,U,O⟩:=hx;obtain⟨c,L,N,rfl,Z,V⟩:=hy;have S:=gL U;have R :=gL Z;refine⟨b,c,rfl,rfl,S,R,?_⟩;have:=kO.frame (M:=M) [b,c] (m:=[.cells false es cs,.cells false I H]) rfl (by simp[S,R]) (by simp only[AV.afX,AV.under,bl hr];rfl) (fun i s X=>by
  match i with
  |0=>simp at X;subst X;exact cW hc U O
  |1=>simp at X;subst X;exact cW W Z V
  |i+2=>simp at X) Y h
 simpa [AV.af9,AV.ren,fj,aO hr] using this
theorem mu{v:AV}(ks:List Nat)(n:Nat)(H:v.closed=true):v.ren (fj ks n)=v:=by have:=aO (vs:=[v]) (ρ:=fj ks n) (by simp[AV.afT,H]);simpa [AV.af9] using this
theorem kO.ag6{es n:Nat}{cs:List AV}{v:AV}(hc:AV.afT cs=true)(hr:AV.afT rest=true)(H:v.closed=true)(h:kO P f (.slice 0 0 n none::rest) [.cells false es cs] v [.cells false es cs])(I:Xh es M x n cs):kO P f (x::rest) M v M:=by obtain⟨b,_,_,Z⟩:=kO.ag5 (new:=[]) hc hr rfl h I;simpa [mu _ _ H] using Z
theorem kO.ahj{es I n W:Nat}{cs H:List AV}{v:AV}(hc:AV.afT cs=true)(J:AV.afT H=true)(hr:AV.afT rest=true)(Y:v.closed=true)(h:kO P f (.slice 0 0 n none::.slice 1 0 W none::rest) [.cells false es cs,.cells false I H] v [.cells false es cs,.cells false I H])(hx:Xh es M x n cs)(hy:Xh I M y W H):kO P f (x::y::rest) M v M:=by obtain⟨b,c,_,_,_,_,Z⟩:=kO.ahY (new:=[]) hc J hr rfl h hx hy;simpa [mu _ _ Y] using Z
end
end Go.Eng
namespace Go.Eng
mutual
def AV.same:AV→AV→Bool
 |.undef,.undef=>true
 |.bool a,.bool b=>a==b
 |.int k n,.int k' m=>decide (k=k')&&decide (n=m)
 |.str s,.str t=>s==t
 |.ptr b o,.ptr b' o' =>Nat.beq b b' &&Nat.beq o o'
 |.af4,.af4=>true
 |.slice b o n none,.slice b' o' n' none=>Nat.beq b b' &&Nat.beq o o' &&Nat.beq n n'
 |.qF,.qF=>true
 |.map b,.map b' =>Nat.beq b b'
 |.age,.age=>true
 |.func f X,.func V Z =>Nat.beq f V &&AV.ahr X Z
 |.nilFunc,.nilFunc=>true
 |.nilIface,.nilIface=>true
 |.agg X,.agg Z =>AV.ahr X Z
 |.tuple X,.tuple Z =>AV.ahr X Z
 |_,_=>false
def AV.ahr:List AV→List AV→Bool
 | [],[]=>true
 |v::vs,w::ws=>AV.same v w&&AV.ahr vs ws
 |_,_=>false
end
structure aiB where
 f:FuncId
 args:List AV
 m:Mem
 v:AV
 new:Mem
theorem sR{P:Program}{T:TypeId→Option TyI}{lv:Code→List Nat}{G:FuncId→Option Func}{O:afF}{K n:Nat}(y:P.follows .mixedOrders=true)(hT:cX P T)(H:ag9 P G)(I:qS P O){f:FuncId}{args:List AV}{m:Mem}{v:AV}{new:Mem}(h:(EO T lv G O K n (.fn f) args m).map (fun r=>(r.v,r.mem m))=some (v,m++new)):kO P f args m v (m++new):=by rw[Option.map_eq_some_iff] at h;obtain⟨r,Z,X⟩:=h;obtain⟨h3,V⟩:=Prod.mk.inj X;have:=(qj y hT H I n).fn _ _ _ _ Z;rw[h3,V] at this;exact this
open Classical in
noncomputable def o9(S:Callee→List AV→Mem→y9→Prop):afF:=fun c Z M=>if h:∃r,S c Z M r then some (Classical.choose h) else none
variable{S:Callee→List AV→Mem→y9→Prop}
theorem uf{P:Program}(h:∀c a M r,S c a M r→rb P c a M r):qS P (o9 S):=cf fun c a M r Z=>by
 unfold o9 at Z;split at Z
 ·rename_i X
  cases Z;exact h _ _ _ _ (Classical.choose_spec X)
 ·cases Z
variable{a:List AV}
theorem SN{c:Callee}{M:Mem}(h:∃r,S c a M r):∃r,o9 S c a M=some r∧S c a M r:=by refine⟨_,?_,Classical.choose_spec h⟩;unfold o9;rw[dif_pos h]
theorem gx{c:Callee}{M:Mem}{r:y9}(h:S c a M r)(hd:∀Z,S c a M Z →Z =r):o9 S c a M=some r:=by obtain⟨Z,X,V⟩:=SN ⟨r,h⟩;rw[X,hd Z V]
theorem UC(M X:Mem)(k:Nat):(M++X)[M.length+k]? =X[k]? :=by rw[List.getElem?_append_right (by omega)];congr 1;omega
theorem X9(M X:Mem):(M++X)[M.length]? =X[0]? :=UC M X 0
theorem UD(M X:Mem)(k:Nat)(s:afU):(M++X).set (M.length+k) s=M++X.set k s:=by rw[List.set_append_right _ _ (by omega)];congr 2;omega
theorem WS(M X:Mem)(s:afU):(M++X).set M.length s=M++X.set 0 s:=UD M X 0 s
theorem xx(f:Nat→Bool):∀(i:Nat) (M:Mem),bt [] i M (bK f i M)=M
 |_,[]=>rfl
 |i,s::M=>by simp[bK,bt,xx f (i+1) M]
theorem v8(f:Nat→Bool):∀(i:Nat) (M:Mem) (b:Nat),(bK f i M)[b]? =(M[b]?).map fun s=>if f (i+b) then s else .qK
 |_,[],_=>by simp[bK]
 |i,s::M,0=>by simp[bK]
 |i,s::M,b+1=>by simp[bK,v8 f (i+1) M b,Nat.add_assoc,Nat.add_comm 1 b]
theorem FJ:∀(i:Nat) (M:Mem),bK (fun _=>true) i M=M
 |_,[]=>rfl
 |i,s::M=>by simp[bK,FJ (i+1) M]
theorem Pd(a b:Nat):(a≤b∧b<a)=False:=by rw[eq_iff_iff,iff_false];omega
theorem zO:∀(i:Nat) (M:Mem),bt [] i M M=M
 |_,[]=>rfl
 |i,s::M=>by simp[bt,zO (i+1) M]
end Go.Eng
