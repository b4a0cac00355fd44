/- See F54. -/
import Derived.Test.YtgafjliihahjgaaGreatDoorF03
set_option linter.all false
namespace Go.Eng
attribute [simp] PL Zu se xr BN aD ic Ue jE Me xq BH rZ ad get YI dX yp afO DH rQ aOp Zt Zw Zv aUn Ad Pw Pv sd DB Rv ns sa Et L5 wH Vu bL Pm jK fa Xa kq xN Zz
attribute [simp] uO AV.refs AV.afc afI L3 rho AV.ren AV.ae3 ra jb jC jt aeQ.mem aB lh Hb dB wD bef Yq bl aW O5 W7 gu aJ eK ig AV.aeR AV.aeW Oper.looksAt Op.operands Call.operands Region.binds AV.closed AV.ae0
def aG:Code→List Code
 |.seq a b=>aG a++aG b
 |.cond _ a b=>aG a++aG b
 |.block _ b=>aG b
 |.loop b=>b::aG b
 |_=>[]
def ai(f:Func):List Code:=match f.body with
 |some c=>aG c
 |none=>[]
attribute [simp] ab
section
variable (T:TypeId→Option TyI)(lv:Code→List Nat)(O:aeT)(K N m0:Nat)(tp:Bool)(s:XS)
theorem RL:aM T lv O K N m0 tp .skip s=some (.normal,s):=rfl
theorem RK(id:Nat):aM T lv O K N m0 tp (.exit id) s=some (.exit id,s):=rfl
theorem Ug:aM T lv O K N m0 tp .ret s=some (.ret,s):=rfl
theorem LJ(id:Nat)(ops:Array Oper):aM T lv O K N m0 tp (.region id ops false) s=match fa T O N m0 ops ops.toList s with
  |some s' =>some (.normal,s')
  |none=>none:=rfl
theorem RJ(id:Nat)(ops:Array Oper):aM T lv O K N m0 tp (.region id ops true) s=match aB T O N m0 ops s with
  |some s' =>some (.normal,s')
  |none=>none:=rfl
theorem Ui(a b:Code):aM T lv O K N m0 tp (.seq a b) s=match aM T lv O K N m0 tp a s with
  |some (.normal,s')=>aM T lv O K N m0 tp b s'
  |r=>r:=rfl
theorem RI(c:Operand)(a b:Code):aM T lv O K N m0 tp (.cond c a b) s=match get s.env c with
  |.bool true=>aM T lv O K N m0 tp a s
  |.bool false=>aM T lv O K N m0 tp b s
  |_=>none:=rfl
theorem OF(id:Nat)(b:Code):aM T lv O K N m0 tp (.block id b) s=match aM T lv O K N m0 tp b s with
  |some (.exit i,s')=>if i=id then some (.normal,s') else some (.exit i,s')
  |r=>r:=rfl
theorem aQ(b:Code):aM T lv O K N m0 tp (.loop b) s=er (lv b) (ab b) s.env s.mem.length (aM T lv O K N m0 tp b) K ⟨aD (lv b) (ab b) s.env s.env,s.mem,s.ae9⟩:=rfl
end
attribute [simp] RL RK Ug LJ RJ Ui RI OF
open Classical in
theorem uQ{p:Env→Bool→Prop}{q:Env→Bool→Env→Prop}(h:∀e d,p e d→∃X,q e d X):∃F:Env→Bool→Env,∀e d,p e d→q e d (F e d):=
 ⟨fun e d=>if Z:p e d then Classical.choose (h e d Z) else [],fun e d Z=>by simp only[dif_pos Z];exact Classical.choose_spec (h e d Z)⟩
theorem dh{α:Type}{f:XS→Option (Exit×XS)}{lv wr:List Nat}{I:Env}{m1:Nat}(S:α→XS)(m:α→Nat)(Inv:α→Prop)(G:Exit) (A :Mem) (H :Bool)(Q:Env→Prop)(he:G≠ .normal)
  (h:∀a,Inv a→(∃X W,f (S a)=some (.normal,W)∧ic lv wr I m1 W =S X ∧Inv X ∧m X <m a)∨(∃Z,f (S a)=some (G,⟨Z,A,H⟩)∧Q Z)):
  ∀k a,Inv a→m a<k→∃Z,er lv wr I m1 f k (S a)=some (G,⟨Z,A,H⟩)∧Q Z
 |0,a,_,hk=>by omega
 |k+1,a,ha,hk=>by
  unfold er;rcases h a ha with⟨X,W,V,O,h3,M⟩ | ⟨Z,V,h3⟩
  ·rw[V]
   simp only[O];exact dh S m Inv G A H Q he h k X h3 (by omega)
  ·rw[V]
   refine⟨Z,?_,h3⟩;cases G<;>first | rfl | exact absurd rfl he
theorem cD{T:TypeId→Option TyI}{lv:Code→List Nat}{O:aeT}{K N m0:Nat}{tp:Bool}{b:Code}{L:List Nat}(I:lv b=L){mem A :Mem}{e:Exit}(H:Env→Prop)(G:Env→Env→Prop)(h:∀Z d,H Z→∃X,er L (ab b) Z mem.length (aM T lv O K N m0 tp b) K ⟨aD L (ab b) Z Z,mem,d⟩=some (e,⟨X,A,d⟩)∧G Z X):
  ∃F:Env→Bool→Env,∀Z d,H Z→aM T lv O K N m0 tp (.loop b) ⟨Z,mem,d⟩=some (e,⟨F Z d,A,d⟩)∧G Z (F Z d):=by
 refine uQ (p:=fun Z _=>H Z) (q:=fun Z d W =>aM T lv O K N m0 tp (.loop b) ⟨Z,mem,d⟩=some (e,⟨W,A,d⟩)∧G Z W) ?_;intro Z d V;obtain⟨X,S,M⟩:=h Z d V;exact⟨X,by rw[aQ,I];exact S,M⟩
theorem Hp{n:Int}(h0:0≤n)(A:n≤255):IntKind.u8.wrap n=n:=by simp only[IntKind.wrap,IntKind.bits,IntKind.signed,Bool.false_and,Bool.false_eq_true,if_false];omega
def PK(i:Option TyI):Bool:=match i with
 |some i=>match i.desc with
  |.interface _=>true
  |_=>false
 |none=>false
theorem Rw{T:TypeId→Option TyI}{t:TypeId}(h:PK (T t)=true)(r c:Bool):Vx T t r c .nilIface .nilIface=if r||c then some true else none:=by
 unfold PK at h;unfold Vx;cases hT:T t with
 |none=>rw[hT] at h;cases h
 |some i=>
  rw[hT] at h;simp only at h ⊢;cases hd:i.desc<;>rw[hd] at h<;>first | (cases h;done) | rfl
mutual
def AV.under(n:Nat):AV→Bool
 |.ptr b _=>decide (b<n)
 |.slice b _ _ _=>decide (b<n)
 |.map b=>decide (b<n)
 |.yield b=>decide (b<n)
 |.func _ Z=>AV.afa n Z
 |.iface _ v=>v.under n
 |.agg Z=>AV.afa n Z
 |.tuple Z=>AV.afa n Z
 |_=>true
def AV.afa(n:Nat):List AV→Bool
 | []=>true
 |v::vs=>v.under n&&AV.afa n vs
end
def dL(ks:List Nat)(n:Nat)(b:Nat):Option Nat:=if b<ks.length then some (ks.getD b 0) else some (n+(b-ks.length))
mutual
theorem aeU.afR{μ:Nat→Place}{N:Nat}{ks:List Nat}{A:Nat}:∀{v V},v.under ks.length=true→aeU μ N (v.ren (dL ks A)) V→aeU (fun i=>μ (ks.getD i 0)) ks.length v V
 |.undef,V,_,_=>by simp[aeU]
 |.bool b,V,_,h=>by simpa [AV.ren,aeU] using h
 |.int k i,V,_,h=>by simpa [AV.ren,aeU] using h
 |.str s,V,_,h=>by simpa [AV.ren,aeU] using h
 |.ptr b o,V,hb,h=>by simp only[AV.under,decide_eq_true_eq] at hb;simp only[AV.ren,dL,hb,if_true,aeU] at h ⊢;exact⟨trivial,h.2⟩
 |.afd,V,_,h=>by simpa [AV.ren,aeU] using h
 |.slice b o l c,V,hb,h=>by simp only[AV.under,decide_eq_true_eq] at hb;simp only[AV.ren,dL,hb,if_true,aeU] at h ⊢;exact⟨trivial,h.2⟩
 |.y9,V,_,h=>by simpa [AV.ren,aeU] using h
 |.map b,V,hb,h=>by simp only[AV.under,decide_eq_true_eq] at hb;simp only[AV.ren,dL,hb,if_true,aeU] at h ⊢;exact⟨trivial,h.2⟩
 |.yield b,V,hb,h=>by simp only[AV.under,decide_eq_true_eq] at hb;simp only[AV.ren,dL,hb,if_true,aeU] at h ⊢;exact⟨trivial,h.2⟩
 |.afl,V,_,h=>by simpa [AV.ren,aeU] using h
 |.func f X,V,hb,h=>by simp only[AV.under] at hb;simp only[AV.ren,aeU] at h ⊢;obtain⟨Z,rfl,h⟩:=h;exact⟨Z,rfl,aeV.afR hb h⟩
 |.nilFunc,V,_,h=>by simpa [AV.ren,aeU] using h
 |.iface t v,V,hb,h=>by simp only[AV.under] at hb;simp only[AV.ren,aeU] at h ⊢;obtain⟨U,rfl,h⟩:=h;exact⟨U,rfl,aeU.afR hb h⟩
 |.nilIface,V,_,h=>by simpa [AV.ren,aeU] using h
 |.agg X,V,hb,h=>by simp only[AV.under] at hb;simp only[AV.ren,aeU] at h ⊢;obtain⟨Z,rfl,h⟩:=h;exact⟨Z,rfl,aeV.afR hb h⟩
 |.tuple X,V,hb,h=>by simp only[AV.under] at hb;simp only[AV.ren,aeU] at h ⊢;obtain⟨Z,rfl,h⟩:=h;exact⟨Z,rfl,aeV.afR hb h⟩
theorem aeV.afR{μ:Nat→Place}{N:Nat}{ks:List Nat}{A:Nat}:∀{vs Us},AV.afa ks.length vs=true→aeV μ N (AV.ae3 (dL ks A) vs) Us→aeV (fun i=>μ (ks.getD i 0)) ks.length vs Us
 | [],Us,_,h=>by simpa [AV.ae3,aeV] using h
 |v::vs,Us,hb,h=>by simp only[AV.afa,Bool.and_eq_true] at hb;simp only[AV.ae3,aeV] at h ⊢;obtain⟨U,Z,rfl,X,W⟩:=h;exact⟨U,Z,rfl,aeU.afR hb.1 X,aeV.afR hb.2 W⟩
end
def tI(ks:List Nat)(M:Mem)(k:Nat):aeY→Prop
 |.aeP=>True
 |.cells false es cs=>AV.afa ks.length cs=true∧∃o X,M[k]? =some (.cells o es X)∧∀(j:Nat) v,cs[j]? =some v→X[j]? =some (v.ren (dL ks M.length))
 |.afr es=>∃Z,(M[k]? =some (.afr Z)∨M[k]? =some (.map Z))∧Z.length=es.length∧
   ∀(j:Nat) e,es[j]? =some e→(e.1.under ks.length=true∧e.2.under ks.length=true)∧Z[j]? =some (e.1.ren (dL ks M.length),e.2.ren (dL ks M.length))
 |_=>False
theorem EY{n:Nat}:∀{cs:List AV},AV.afa n cs=true→∀(j:Nat) v,cs[j]? =some v→v.under n=true
 | [],_,j,v,h=>by simp at h
 |c::cs,h,j,v,hj=>by
  simp only[AV.afa,Bool.and_eq_true] at h;cases j with
  |zero=>simp at hj;subst hj;exact h.1
  |succ j=>exact EY h.2 j v (by simpa using hj)
theorem zU{α:Type}{cs A :List α}{g:α→α}(h:∀(j:Nat) v,cs[j]? =some v→A[j]? =some (g v)):cs.length≤A.length:=by
 by_cases Z:cs.length=0
 ·omega
 ·have:=h (cs.length-1) (cs[cs.length-1]'(by omega)) (by simp)
  have:=gL this;omega
section
variable {P:Program}
theorem kO.frame{f:FuncId}{args:List AV}{m new M:Mem}{v:AV}(ks:List Nat)(hl:m.length=ks.length)(hk:∀k∈ks,k<M.length)(ha:AV.afa ks.length args=true)(hm:∀(i:Nat) s,m[i]? =some s→tI ks M (ks.getD i 0) s)(hn:new.all (fun s=>s.own||match s with | .aeP=>true | _=>false)=true)(h:kO P f args m v (m++new)):kO P f (AV.ae3 (dL ks M.length) args) M (v.ren (dL ks M.length)) (M++new.map (aeY.ren (dL ks M.length))):=by
 refine⟨h.1,fun base μ w Vs hG hH hV=>?_⟩;have G:∀b,¬eh m b:=by
  rintro b ⟨s,O,B⟩;have:=hm b s O;cases s with
  |aeP=>cases B
  |cells own es cs=>simp only[aeY.own] at B;subst B;exact this
  |map es=>exact this
  |afr es=>cases B
  |loop r=>exact this
 have hms:ae5 base (fun i=>μ (ks.getD i 0)) m w:=by
  refine⟨hH.ae1,fun b s O=>?_,fun b J s' X=>absurd X (G b)⟩;have F:=hm b s O;cases s with
  |aeP=>trivial
  |map es=>exact F.elim
  |afr es=>
   obtain⟨es',W,h2,h3⟩:=F;have O:∃I IR,w.heap[(μ (ks.getD b 0)).blk]? =some (.map I IR)∧DQ I IR∧I.size=es'.length∧∀(j:Nat) e,es'[j]? =some e→∃E,I[j]? =some E∧Qg μ M.length e E:=by
    rcases W with W | W
    ·have:=hH.slot _ _ W;simpa only[ae7] using this
    ·have:=hH.slot _ _ W
     simp only[ae7] at this;obtain⟨I,IR,k1,k2,k3,k4⟩:=this;exact⟨I,IR,k1,k2.2,k3,k4⟩
   obtain⟨I,IR,k1,k2,k3,k4⟩:=O;simp only[ae7];refine⟨I,IR,k1,k2,by omega,fun j e he=>?_⟩;obtain⟨⟨u1,u2⟩,u3⟩:=h3 j e he;obtain⟨E,hE,r1,r2⟩:=k4 j _ u3;rw[hl];exact⟨E,hE,aeU.afR u1 r1,aeU.afR u2 r2⟩
  |loop r=>exact F.elim
  |cells own es cs=>
   cases own with
   |true=>exact F.elim
   |false=>
    obtain⟨X,o,cs',W,h2⟩:=F;have:=hH.slot _ _ W;simp only[ae7] at this ⊢;obtain⟨cur,e,fr,g1,g2,g3,g4,_⟩:=this;refine⟨cur,e,fr,g1,g2,Nat.le_trans (zU h2) g3,fun j u hj=>?_,fun h=>by cases h⟩;obtain⟨V,hV,hr⟩:=g4 j _ (h2 j u hj);rw[hl];exact⟨V,hV,aeU.afR (EY X j u hj) hr⟩
 have aaw:=aeV.afR ha hV;rw[←hl] at aaw;refine(h.2 base _ w Vs hG hms aaw).mono ?_;rintro e w' ⟨V,v',mem',μ',rfl,q1,q2,q3,rfl,rfl⟩;have H:afn w w' :=⟨q3.size,fun k hk=>q3.frame k hk fun b X=>absurd X (G b),q3.os,q3.tape,q3.output,q3.drawn⟩;have A:∀b,eh (m++new) b→w.heap.size≤(μ' b).blk:=by
  intro b X;by_cases FS:(μ' b).blk<w.heap.size
  ·obtain⟨b0,h0,_⟩:=q3.owner b X FS
   exact absurd h0 (G b0)
  ·omega
 obtain⟨μ2,hμ2⟩:=xE (α:=Nat→Place) (fun b=>if b<M.length then μ b else μ' (b-M.length+m.length));have S:∀b,b<M.length→μ2 b=μ b:=fun b X=>by rw[hμ2];simp[X]
 have K:∀i,μ2 (M.length+i)=μ' (m.length+i):=fun i=>by rw[hμ2];simp only;rw[if_neg (by omega)];congr 1;omega
 have hρ:∀b J,b<(m++new).length→dL ks M.length b=some J →J <(M++new.map (aeY.ren (dL ks M.length))).length∧μ2 J =μ' b:=by
  intro b J X z;simp only[List.length_append,List.length_map] at X ⊢;unfold dL at z;split at z
  ·rename_i FS
   cases z;have aas:ks.getD b 0∈ks:=by rw[List.getD_eq_getElem?_getD,List.getElem?_eq_getElem FS,Option.getD_some];exact List.getElem_mem FS
   have:=hk _ aas;refine⟨by omega,?_⟩;rw[S _ this];exact(q3.agree b (by omega)).symm
  ·rename_i FS
   cases z;refine⟨by omega,?_⟩;rw[K,show m.length+(b-ks.length)=b by omega]
 have Y:∀b s,(M++new.map (aeY.ren (dL ks M.length)))[b]? =some s→(b<M.length∧M[b]? =some s)∨∃i Z,b=M.length+i∧new[i]? =some Z∧s=Z.ren (dL ks M.length):=by
  intro b s O;by_cases X:b<M.length
  ·rw[List.getElem?_append_left X] at O
   exact .inl ⟨X,O⟩
  ·rw[List.getElem?_append_right (by omega),List.getElem?_map] at O
   simp only[Option.map_eq_some_iff] at O;obtain⟨Z,W,h2⟩:=O;exact .inr ⟨b-M.length,Z,by omega,W,h2.symm⟩
 have aaA:∀i Z,new[i]? =some Z→(m++new)[m.length+i]? =some Z:=by intro i Z h;rw[List.getElem?_append_right (by omega),Nat.add_sub_cancel_left];exact h
 have R:∀i Z,new[i]? =some Z→Z≠ .aeP→eh (m++new) (m.length+i):=by intro i Z h S';refine⟨Z,aaA i Z h,?_⟩;have:=List.all_eq_true.1 hn Z (List.mem_of_getElem? h);cases Z<;>simp_all
 have D:∀Z:aeY,Z.ren (dL ks M.length)≠ .aeP→Z≠ .aeP:=by rintro Z h rfl;exact h rfl
 refine⟨V,_,_,μ2,rfl,q1.ren hρ,⟨Nat.le_trans hH.ae1 H.size,fun b s O=>?_,fun b J s' X z S' hbb=>?_⟩,?_,rfl,rfl⟩
 ·rcases Y b s O with⟨X,W⟩ | ⟨i,Z,rfl,W,rfl⟩
  ·rw[S b X]
   refine(hH.slot b s W).mono (by simp) S fun S'=>H.heap _ ((hH.slot b s W).afE S')
  ·rw[K]
   exact(q2.slot _ Z (aaA i Z W)).ren hρ
 ·obtain⟨s,O,B⟩:=X
  have acu:=aeY.aft B;rcases Y b s O with⟨X,W⟩ | ⟨i,Z,rfl,W,rfl⟩<;>rcases Y J s' z with⟨z,C⟩ | ⟨i',s0',rfl,C,rfl⟩
  ·rw[S b X,S J z]
   exact hH.sep b J s' ⟨s,W,B⟩ C S' hbb
  ·rw[S b X,K]
   have g1:=(hH.slot b s W).afE acu;have g2:=A _ (R i' s0' C (D _ S'));omega
  ·rw[S J z,K]
   have g1:=(hH.slot J s' C).afE S';have g2:=A _ (R i Z W (D _ acu));omega
  ·rw[K,K]
   exact q2.sep _ _ s0' (R i Z W (D _ acu)) (aaA i' s0' C) (D _ S') (by omega)
 ·refine⟨by simp,S,H.os,H.tape,H.output,H.size,fun k hk _=>H.heap k hk,fun b X FS=>?_,H.drawn⟩
  obtain⟨s,O,B⟩:=X;rcases Y b s O with⟨X,W⟩ | ⟨i,Z,rfl,W,rfl⟩
  ·exact⟨b,⟨s,W,B⟩,by rw[S b X]⟩
  ·rw[K] at FS
   have:=A _ (R i Z W (D _ (aeY.aft B)));omega
end
def iN(k:IntKind)(l:List Nat):List AV:=l.map fun n:Nat=>.int k (n:Int)
def iZ(l:List Int):List AV:=l.map fun n=>.int .i64 n
section
variable (k:IntKind)
theorem YZ:iN k []=[]:=rfl
theorem GQ(n:Nat)(l:List Nat):iN k (n::l)=.int k (n:Int)::iN k l:=rfl
section
variable (l:List Nat)
include l
theorem Up:(iN k l).length=l.length:=by simp[iN]
theorem YY(i:Nat):(iN k l)[i]? =(l[i]?).map fun n:Nat=>.int k (n:Int):=by simp[iN]
theorem RM(i:Nat)(h:i<(iN k l).length):(iN k l)[i]=.int k ((l[i]'(by simpa [iN] using h):Nat):Int):=by simp[iN]
theorem YX:(iN k l).all AV.aeS=true:=by simp[iN,AV.aeS]
end
theorem P5(m:Nat)(l:List Nat):AV.afc m (iN k l)=[]:=by
 induction l with
 |nil=>rfl
 |cons x l ih=>simp[GQ,AV.afc,AV.refs,ih]
theorem Vb(ρ:Nat→Option Nat)(l:List Nat):AV.ae3 ρ (iN k l)=iN k l:=by
 induction l with
 |nil=>rfl
 |cons x l ih=>simp[GQ,AV.ae3,AV.ren,ih]
theorem Vq(m:Nat)(l:List Nat):AV.afa m (iN k l)=true:=by
 induction l with
 |nil=>rfl
 |cons x l ih=>simp[GQ,AV.afa,AV.under,ih]
theorem EH(ok:Nat→Bool)(l:List Nat):AV.aeW ok (iN k l)=true:=by
 induction l with
 |nil=>rfl
 |cons x l ih=>simp[GQ,AV.aeW,AV.aeR,ih]
theorem Mv(m:Nat)(o:Bool)(e:Nat)(l:List Nat):aeY.refs m (.cells o e (iN k l))=[]:=by simp[aeY.refs,P5]
theorem O7(ρ:Nat→Option Nat)(o:Bool)(e:Nat)(l:List Nat):aeY.ren ρ (.cells o e (iN k l))=.cells o e (iN k l):=by simp[aeY.ren,Vb]
theorem DM(ok:Nat→Bool)(o:Bool)(e:Nat)(l:List Nat):aeY.aeR ok (.cells o e (iN k l))=true:=by simp[aeY.aeR,EH]
end
attribute [simp] YZ Up YY RM P5 Vb Vq EH Mv O7 DM YX
attribute [simp] Hk wA TyI.isAgg aeY.refs aeY.ren AV.under AV.afa aeY.own jk kD iy xP th tl YH fZ pB gJ AV.known AV.cells AV.aeS
def Xu(k:IntKind):List AV→Option (List Nat)
 | []=>some []
 |.int k' n::l=>if k' =k∧0≤n then match Xu k l with
  |some r=>some (n.toNat::r)
  |none=>none
  else none
 |_::_=>none
def YK(k:IntKind)(M:Mem):AV→Option (List Nat)
 |.y9=>some []
 |.slice b o n _=>match M[b]? with
  |some (.cells _ 1 cs)=>if o+n≤cs.length then Xu k ((cs.drop o).take n) else none
  |_=>none
 |_=>none
mutual
theorem yr{n:Nat}:∀{v:AV},v.closed=true→v.under n=true
 |.ptr _ _,h=>by simp[AV.closed] at h
 |.slice _ _ _ _,h=>by simp[AV.closed] at h
 |.map _,h=>by simp[AV.closed] at h
 |.yield _,h=>by simp[AV.closed] at h
 |.func _ Z,h=>by simp only[AV.closed] at h;simp only[AV.under];exact cI h
 |.iface _ v,h=>by simp only[AV.closed] at h;simp only[AV.under];exact yr h
 |.agg Z,h=>by simp only[AV.closed] at h;simp only[AV.under];exact cI h
 |.tuple Z,h=>by simp only[AV.closed] at h;simp only[AV.under];exact cI h
 |.undef,_=>rfl
 |.bool _,_=>rfl
 |.int _ _,_=>rfl
 |.str _,_=>rfl
 |.afd,_=>rfl
 |.y9,_=>rfl
 |.afl,_=>rfl
 |.nilFunc,_=>rfl
 |.nilIface,_=>rfl
theorem cI{n:Nat}:∀{vs:List AV},AV.ae0 vs=true→AV.afa n vs=true
 | [],_=>rfl
 |v::vs,h=>by simp only[AV.ae0,Bool.and_eq_true] at h;simp only[AV.afa,yr h.1,cI h.2];rfl
end
mutual
theorem EK{ρ:Nat→Option Nat}:∀{v:AV},v.closed=true→v.ren ρ=v
 |.ptr _ _,h=>by simp[AV.closed] at h
 |.slice _ _ _ _,h=>by simp[AV.closed] at h
 |.map _,h=>by simp[AV.closed] at h
 |.yield _,h=>by simp[AV.closed] at h
 |.func _ Z,h=>by simp only[AV.closed] at h;simp only[AV.ren,ca h]
 |.iface _ v,h=>by simp only[AV.closed] at h;simp only[AV.ren,EK h]
 |.agg Z,h=>by simp only[AV.closed] at h;simp only[AV.ren,ca h]
 |.tuple Z,h=>by simp only[AV.closed] at h;simp only[AV.ren,ca h]
 |.undef,_=>rfl
 |.bool _,_=>rfl
 |.int _ _,_=>rfl
 |.str _,_=>rfl
 |.afd,_=>rfl
 |.y9,_=>rfl
 |.afl,_=>rfl
 |.nilFunc,_=>rfl
 |.nilIface,_=>rfl
theorem ca{ρ:Nat→Option Nat}:∀{vs:List AV},AV.ae0 vs=true→AV.ae3 ρ vs=vs
 | [],_=>rfl
 |v::vs,h=>by simp only[AV.ae0,Bool.and_eq_true] at h;simp only[AV.ae3,EK h.1,ca h.2]
end
theorem Ar(s n:Nat):(s:Int).tmod (n:Int)=((s%n:Nat):Int):=rfl
theorem Hm(s n:Nat):(s:Int).tdiv (n:Int)=((s / n:Nat):Int):=rfl
theorem Mu(m:Nat)(a b:List AV):AV.afc m (a++b)=AV.afc m a++AV.afc m b:=by
 induction a with
 |nil=>rfl
 |cons x a ih=>simp[AV.afc,ih]
theorem O9(ρ:Nat→Option Nat)(a b:List AV):AV.ae3 ρ (a++b)=AV.ae3 ρ a++AV.ae3 ρ b:=by
 induction a with
 |nil=>rfl
 |cons x a ih=>simp[AV.ae3,ih]
theorem gm(ok:Nat→Bool)(a b:List AV):AV.aeW ok (a++b)=(AV.aeW ok a&&AV.aeW ok b):=by
 induction a with
 |nil=>rfl
 |cons x a ih=>simp[AV.aeW,ih,Bool.and_assoc]
attribute [simp] Mu O9 gm
def afb(k:IntKind)(M:Mem)(x:AV)(A:List Nat):Prop:=∃b o Z,x=.slice b 0 A.length none∧M[b]? =some (.cells o 1 Z)∧Z.take A.length=iN k A
section
variable {P:Program}{k:IntKind}{f:FuncId}{A B:List Nat}{M:Mem}{x y:AV}
end
def jS(P:Program)(c:Callee)(args:List AV)(m:Mem)(r:aeQ):Prop:=
 (match c with
  |.fn f=>kO P f args m r.v (r.mem m)
  |.yld b=>pG P b args m r.v (r.mem m))∧∀q,r.pre=some q→q.length=m.length
open Classical in
theorem ko{P:Program}{ι:Type}(p:ι→Prop)(c:ι→Callee)(a:ι→List AV)(m:ι→Mem)(r:ι→aeQ)(hs:∀i,p i→jS P (c i) (a i) (m i) (r i))(hc:∀i j,p i→p j→c i=c j→a i=a j→m i=m j→r i=r j):∃O:aeT,HS P O∧∀i,p i→O (c i) (a i) (m i)=some (r i):=by
 refine⟨fun S X W =>if h:∃i,p i∧c i=S ∧a i=X ∧m i=W then some (r (Classical.choose h)) else none,?_,fun i D=>?_⟩
 ·have V:∀S X W M,(if h:∃i,p i∧c i=S ∧a i=X ∧m i=W then some (r (Classical.choose h)) else none)=some M →jS P S X W M :=by
   intro S X W M h;split at h
   ·rename_i Z
    obtain⟨K,J,h3,F⟩:=Classical.choose_spec Z;cases h;have:=hs _ K;rw[J,h3,F] at this;exact this
   ·cases h
  exact⟨fun f X W M h=>(V _ _ _ _ h).1,fun b X W M h=>(V _ _ _ _ h).1,fun S X W M q h hq=>(V _ _ _ _ h).2 q hq⟩
 ·have Z:∃j,p j∧c j=c i∧a j=a i∧m j=m i:=⟨i,D,rfl,rfl,rfl⟩
  simp only[dif_pos Z];obtain⟨K,J,h3,F⟩:=Classical.choose_spec Z;rw[hc _ _ K D J h3 F]
variable{mem mem' :Mem}
theorem uJ{T:TypeId→Option TyI}{lv:Code→List Nat}{O:aeT}{K N m0:Nat}{tp:Bool}{b:Code}{L:List Nat}(H:lv b=L){e:Exit}(d0 d1:Bool)(G:Env→Prop)(A:Env→Env→Prop)(h:∀Z,G Z→∃X,er L (ab b) Z mem.length (aM T lv O K N m0 tp b) K ⟨aD L (ab b) Z Z,mem,d0⟩=some (e,⟨X,mem',d1⟩)∧A Z X):
  ∃F:Env→Env,∀Z,G Z→aM T lv O K N m0 tp (.loop b) ⟨Z,mem,d0⟩=some (e,⟨F Z,mem',d1⟩)∧A Z (F Z):=by
 obtain⟨F,S⟩:=uQ (p:=fun Z _=>G Z) (q:=fun Z _ V =>aM T lv O K N m0 tp (.loop b) ⟨Z,mem,d0⟩=some (e,⟨V,mem',d1⟩)∧A Z V) (fun Z _ W=>by obtain⟨X,M,J⟩:=h Z W;exact⟨X,by rw[aQ,H];exact M,J⟩)
 exact⟨fun Z=>F Z true,fun Z W=>S Z true W⟩
def na:Code→List (Array Tmp×Code×Code)
 |.seq a b=>na a++na b
 |.cond _ a b=>na a++na b
 |.block _ b=>na b
 |.loop b=>na b
 |.rangeFunc _ ps a b=>[(ps,a,b)]
 |_=>[]
def rE(f:Func):List (Array Tmp×Code×Code):=match f.body with
 |some c=>na c
 |none=>[]
attribute [simp] aeY.aeR
theorem dE{P:Program}{O:aeT}(key:∀c Z M r,O c Z M=some r→jS P c Z M r):HS P O:=
 ⟨fun f Z M r h=>(key _ _ _ _ h).1,fun b Z M r h=>(key _ _ _ _ h).1,fun c Z M r p h X=>(key _ _ _ _ h).2 p X⟩
variable{M:Mem}
theorem jx{P:Program}{O:aeT}(A:HS P O){c:Go.Eng.Callee}{args:List AV}{r:aeQ}(h:O c args M=some r):jS P c args M r:=by
 refine⟨?_,fun q hq=>A.pre _ _ _ _ _ h hq⟩;cases c with
 |fn f=>exact A.fn _ _ _ _ h
 |yld b=>exact A.yld _ _ _ _ h
theorem aI{P:Program}{f:FuncId}{args:List AV}{new:Mem}{v:AV}(h:kO P f args M v (M++new)):jS P (.fn f) args M ⟨v,none,new⟩:=⟨h,fun q hq=>by cases hq⟩
theorem aU{P:Program}{f:FuncId}{args:List AV}{v:AV}(h:kO P f args M v M):jS P (.fn f) args M ⟨v,none,[]⟩:=aI (by simpa using h)
def ZX(s s' :aeY):Prop:=s=s' ∨∃o es X Z,s' =.cells o es X∧s=.cells o es Z ∧Z <+: X
variable{R:AV→Mem→Prop}{b:Nat}
section
variable {P:Program}{T:TypeId→Option TyI}{O:aeT}{K:Nat}{lv:Code→List Nat}
theorem afu.afS(hT:cW P T){f:FuncId}{fn:Func}{c:Code}{args:List AV}(A:P.funcs[f]? =some fn)(G:fn.body=some c)(H:(fn.name == "runtime.NumGoroutine")=false)(I:args.length≤fn.ntmps)(h:AWP P true fn.ntmps mem.length c ⟨dX 0 args,mem⟩ fun e W =>(e=.normal∨e=.ret)∧∃v,kq T fn.results.toList W.env W.mem=some v∧R v W.mem):
  afu P f args mem R:=by
 refine⟨⟨fn,A,by simp[G],H⟩,fun base μ w Vs hG hH hV=>?_⟩;refine Ag.1 (callsIn_of_wp_marks (F:=Fr none) (n:=0) A G trivial (wpIn_mono (h none w.heap.size base μ w _ (fun _=>rfl) hH ?_ ?_ (MOk.nil w hG hH.ae1 (Nat.le_refl _)) (Nat.le_refl _)) ?_) rfl)
 ·intro t
  have:=xG 0 hV t;simp only[Nat.not_lt_zero,if_false,Nat.sub_zero] at this;by_cases J:t<Vs.length
  ·have e:(⟨Vs⟩++Array.replicate (fn.ntmps-(⟨Vs⟩:Array Value).size) undef:Array Value).getD t undef=Vs.getD t undef:=by simp only[Array.getD_eq_getD_getElem?];rw[Array.getElem?_append_left (by simpa using J)];simp[List.getD]
   show aeU μ mem.length (ad (dX 0 args) t) ((⟨Vs⟩++Array.replicate (fn.ntmps-(⟨Vs⟩:Array Value).size) undef:Array Value).getD t undef)
   rw[e];exact this
  ·have:ad (dX 0 args) t=.undef:=by
    have u:=hV.length;have:∀(X:List AV) (i:Nat),i+X.length≤t→ad (dX i X) t=.undef:=by
     intro X;induction X with
     |nil=>intro i _;rfl
     |cons v X ih=>
      intro i D;simp only[List.length_cons] at D;simp only[dX,ad];rw[if_neg (by omega)];exact ih (i+1) (by omega)
    exact this args 0 (by omega)
   show aeU μ mem.length (ad (dX 0 args) t) _
   rw[this];simp[aeU]
 ·simp only[Array.size_append,List.size_toArray,Array.size_replicate,hV.length];omega
 ·rintro e a' w' ⟨W,μ',b1,b2,b3,b4,b5,b6,he,v,hv,hR⟩
  have Z:LeavesInM (Fr none) 0 P fn a'.tmps (fun e w' =>∃V v mem' μ',e=.returned V∧aeU μ' mem'.length v V∧ae5 base μ' mem' w' ∧Step mem.length μ mem w μ' mem' w' ∧R v mem') a'.defers .returning w' :=by
   refine rh a'.defers w' b4 b1 b6 fun w2 S C=>?_
   obtain⟨V,B,z⟩:=tD (P:=P) (fn:=fn) hT S b2 hv;exact⟨V,B,⟨V,_,_,_,rfl,z,S,C,hR⟩⟩
  rcases he with rfl | rfl
  ·exact Z
  ·exact Z
def cB(T:TypeId→Option TyI)(lv:Code→List Nat)(G:FuncId→Option Func)(O:aeT)(K:Nat)(f:FuncId)(args:List AV)(mem:Mem):Option (AV×Mem):=
 match G f with
 |none=>none
 |some fn=>match fn.body with
  |none=>none
  |some c=>
   if args.length≤fn.ntmps then
    match aM T lv O K fn.ntmps mem.length true c ⟨dX 0 args,mem,false⟩ with
    |some (e,s)=>
     match e with
     |.normal | .ret=>
      match kq T fn.results.toList s.env s.mem with
      |some v=>some (v,s.mem)
      |none=>none
     |_=>none
    |none=>none
   else none
theorem bZ(A:P.follows .mixedOrders=true)(hT:cW P T)(H:HS P O){G:FuncId→Option Func}(I:agi P G){f:FuncId}{args:List AV}{v:AV}(h:cB T lv G O K f args mem=some (v,mem')):kO P f args mem v mem' :=by
 unfold cB at h;split at h
 ·cases h
 ·rename_i fn X
  obtain⟨S,J,g3⟩:=I.fn _ _ X;split at h
  ·cases h
  ·rename_i c V
   split at h
   ·rename_i F
    split at h
    ·rename_i e s he
     obtain⟨D,_⟩:=dw A hT H (g3 c V) he;have Z:(e=.normal∨e=.ret)→(match kq T fn.results.toList s.env s.mem with
      |some v=>some (v,s.mem)
      |none=>none)=some (v,mem')→kO P f args mem v mem' :=by
      intro W h;split at h
      ·rename_i v C
       cases h;exact afu.afS hT S V J F (D _ ⟨W,_,C,rfl,rfl⟩)
      ·cases h
     split at h
     ·exact Z (.inl rfl) h
     ·exact Z (.inr rfl) h
     ·cases h
    ·cases h
   ·cases h
theorem afH.afS{args:List AV}{r:afT}(hb:mem[b]? =some (.loop r))(adJ:r.st=.ready)(hl:args.length=r.ps.toList.length)(A:∀t∈r.ps.toList,t<r.N)(h:AWP P false r.N mem.length r.assign ⟨yp r.ps.toList args r.env,mem⟩ fun e Z=>e=.normal∧∃r1,Z.mem[b]? =some (.loop r1)∧r1.st=.ready∧
   AWP P false r.N mem.length r.body ⟨Z.env,Z.mem.set b (.loop { r1 with st:=.busy })⟩ fun e X=>∃r2 j,B9 e=some j∧X.mem[b]? =some (.loop r2)∧
    R (.bool j.isNone) (X.mem.set b (.loop { r2 with st:=mW j,afy:=j }))):
  afH P b args mem R:=by
 intro base μ w Vs hG hH hV hbl;have W:=hH.slot b _ hb;simp only[ae7] at W;obtain⟨L,h1,h2,h3⟩:=W;have H':Vs.length=L.params.size:=by rw[hV.length,hl,h3.ps];simp
 refine⟨L.fn,(L.params.zip ⟨Vs⟩).foldl (fun tmps (t,a)=>tmps.setIfInBounds t a) L.tmps,L.assign,L.body,?_,?_⟩
 ·simp only[Instr.yield,Sem.run_bind,iE h1,Result.andThen_ok]
  rw[if_neg (by simp[H'])];rfl
 ·refine roundIn_of_wpIn (F:=Fence.wide) trivial ?_
  have S:(L.params.zip ⟨Vs⟩).foldl (fun tmps (t,a)=>tmps.setIfInBounds t a) L.tmps=(r.ps.toList.zip Vs).foldl (fun tmps (t,a)=>tmps.setIfInBounds t a) L.tmps:=by rw[h3.ps,←Array.foldl_toList];simp
  have m:=GD (ts:=r.ps.toList) hV h3.tmps hl (fun t ht=>by rw[h3.size];exact A t ht);rw[h3.assign,h3.body];refine wpIn_mono (F:=Fr (some (μ b).blk)) (h (some (μ b).blk) w.heap.size base μ w ⟨_,[]⟩ (fun h=>by cases h) hH (by rw[S];exact m.1) (by rw[S,m.2];exact h3.size) (MOk.nil w hG hH.ae1 (Nat.le_refl _)) (Nat.le_refl _)) ?_;rintro e a1 w1 ⟨Z,μ1,c1,c2,c3,c4,c5,c6,rfl,r1,c7,c8,hbody⟩;have J:=c1.slot b _ c7;simp only[ae7] at J;obtain⟨L1,d1,d2,d3⟩:=J;have hμ:μ1 b=μ b:=c6.agree b hbl;rw[hμ] at d1;obtain⟨Y,I,C⟩:=vX (P:=P) (r' :={ r1 with st:=.busy }) (L' :={ L1 with state:=.busy }) c1 c7 (by rw[hμ];exact d1) { d3 with st:=rfl };rw[hμ] at Y I C;refine⟨_,?_,wpIn_mono (F:=Fr (some (μ b).blk)) (hbody (some (μ b).blk) w.heap.size base μ1 _ a1 (fun h=>by cases h) I (by rw[List.length_set];exact c2) c3 (c4.step c1 C) (by rw[List.length_set];exact c5)) ?_⟩
  ·simp only[Instr.beginRound,Sem.run_bind,iE d1,Result.andThen_ok,Y]
   rw[d3.st,c8];rfl
  ·rintro e a2 w2 ⟨X,μ2,f1,f2,f3,f4,f5,f6,r2,j,f7,f8,f10⟩
   have D:=f1.slot b _ f8;simp only[ae7] at D;obtain⟨L2,B,g2,g3⟩:=D;have hμ2:μ2 b=μ b:=by rw[f6.agree b hbl,hμ]
   rw[hμ2] at B;obtain⟨z,H,G⟩:=vX (P:=P) (r' :={ r2 with st:=mW j,afy:=j }) (L' :={ L2 with state:=mW j,pending:=j }) f1 f8 (by rw[hμ2];exact B) { g3 with st:=rfl,afy:=rfl };rw[hμ2] at z H G;have X':(Instr.endRound (μ b).blk j).run P w2=.ok (.bool j.isNone) { w2 with heap:=w2.heap.setIfInBounds (μ b).blk (.loop { L2 with state:=mW j,pending:=j }) }:=by unfold mW at z ⊢;simp only[Instr.endRound,Sem.run_bind,iE B,Result.andThen_ok,z];rfl
   have hS:Step mem.length μ mem w _ _ _:=((c6.trans (C.mono c5)).trans f6).trans (G.mono f5);have u:∃V v mem' μ',(Ending.returned (.bool j.isNone):Ending)=.returned V∧aeU μ' mem'.length v V∧ae5 base μ' mem' { w2 with heap:=w2.heap.setIfInBounds (μ b).blk (.loop { L2 with state:=mW j,pending:=j }) }∧
     Step mem.length μ mem w μ' mem' { w2 with heap:=w2.heap.setIfInBounds (μ b).blk (.loop { L2 with state:=mW j,pending:=j }) }∧R v mem' :=
    ⟨_,.bool j.isNone,_,_,rfl,by simp[aeU],H,hS,f10⟩
   cases e<;>simp only[B9,Option.some.injEq,reduceCtorEq] at f7<;>subst f7<;>exact⟨_,_,X',u⟩
def si(T:TypeId→Option TyI)(lv:Code→List Nat)(O:aeT)(K:Nat)(b:Nat)(args:List AV)(mem:Mem):Option (AV×Mem):=
 match mem[b]? with
 |some (.loop r)=>
  if r.st== .ready&&decide (args.length=r.ps.toList.length)&&r.ps.toList.all (fun t=>decide (t<r.N))&&dK r.assign&&dK r.body then
   match aM T lv O K r.N mem.length false r.assign ⟨yp r.ps.toList args r.env,mem,true⟩ with
   |some (.normal,s1)=>match s1.mem[b]? with
    |some (.loop r1)=>
     if r1.st== .ready then
      match aM T lv O K r.N mem.length false r.body ⟨s1.env,s1.mem.set b (.loop { r1 with st:=.busy }),true⟩ with
      |some (e,s2)=>match B9 e,s2.mem[b]? with
       |some j,some (.loop r2)=>some (.bool j.isNone,s2.mem.set b (.loop { r2 with st:=mW j,afy:=j }))
       |_,_=>none
      |none=>none
     else none
    |_=>none
   |_=>none
  else none
 |_=>none
theorem zQ(A:P.follows .mixedOrders=true)(hT:cW P T)(G:HS P O){args:List AV}{v:AV}(h:si T lv O K b args mem=some (v,mem')):pG P b args mem v mem' :=by
 unfold si at h;split at h
 ·rename_i H X
  split at h
  ·rename_i hc
   simp only[Bool.and_eq_true,decide_eq_true_eq,List.all_eq_true] at hc;obtain⟨⟨⟨⟨J,F⟩,D⟩,C⟩,B⟩:=hc;have Z:∀{x:LoopState},(x== .ready)=true→x=.ready:=fun {x} h=>by cases x<;>first | rfl | cases h
   split at h
   ·rename_i s1 z
    obtain⟨u,a2⟩:=dw A hT G C z;split at h
    ·rename_i r1 W
     split at h
     ·rename_i V
      split at h
      ·rename_i e s2 m
       obtain⟨Y,b2⟩:=dw A hT G B m;split at h
       ·rename_i j r2 I S
        cases h;exact afH.afS X (Z J) F D (u _ ⟨rfl,r1,W,Z V,Y _ ⟨r2,j,I,S,rfl,rfl⟩⟩)
       ·cases h
      ·cases h
     ·cases h
    ·cases h
   ·cases h
  ·cases h
 ·cases h
end
end Go.Eng
namespace Go.Eng
def Zq(es:Nat)(M:Mem)(x:AV)(n:Nat)(cs:List AV):Prop:=∃b o Z,x=.slice b 0 n none∧M[b]? =some (.cells o es Z)∧Z.take cs.length=cs
def Lu(es:Nat)(M:Mem):AV→Option (List AV)
 |.slice b 0 n none=>match M[b]? with
  |some (.cells _ es' cs)=>if es' =es∧n*es≤cs.length then some (cs.take (n*es)) else none
  |_=>none
 |.y9=>some []
 |_=>none
variable{cs cs' :List AV}{es:Nat}{o:Bool}
theorem Lv{M:Mem}{b n:Nat}(h:M[b]? =some (.cells o es cs'))(A:n*es≤cs'.length)(hc:cs'.take (n*es)=cs):Lu es M (.slice b 0 n none)=some cs:=by simp[Lu,h,A,hc]
theorem OA{M:Mem}{x:AV}(h:Lu es M x=some cs):(∃n,cs.length=n*es∧Zq es M x n cs)∨(x=.y9∧cs=[]):=by
 unfold Lu at h;split at h
 ·rename_i b n
  split at h
  ·rename_i o Z cs' W
   split at h
   ·rename_i hc
    obtain⟨rfl,V⟩:=hc;cases h;have X:(cs'.take (n*Z)).length=n*Z :=by rw[List.length_take];omega
    exact .inl ⟨n,X,b,o,cs',rfl,W,by rw[X]⟩
   ·cases h
  ·cases h
 ·cases h;exact .inr ⟨rfl,rfl⟩
 ·cases h
theorem bu{ks:List Nat}{M:Mem}{b es:Nat}(hc:AV.ae0 cs=true)(h:M[b]? =some (.cells o es cs'))(A:cs'.take cs.length=cs):tI ks M b (.cells false es cs):=by
 refine⟨cI hc,o,cs',h,fun j v X=>?_⟩;have V:=gL X;have S:cs'[j]? =cs[j]? :=by have:(cs'.take cs.length)[j]? =cs'[j]? :=List.getElem?_take_of_lt V;rw[←this,A]
 have W:=ca (ρ:=dL ks M.length) hc;rw[gb] at W;have Z:(cs.map (AV.ren (dL ks M.length)))[j]? =cs[j]? :=by rw[W]
 rw[List.getElem?_map,X] at Z;rw[S,X];exact Z.symm
variable{n:Nat}{rest:List AV}
section
variable {P:Program}{f:FuncId}{M:Mem}{x y:AV}
theorem kO.af3{v:AV}{new:Mem}(hc:AV.ae0 cs=true)(A:AV.ae0 rest=true)(G:new.all (fun s=>s.own||match s with | .aeP=>true | _=>false)=true)(h:kO P f (.slice 0 0 n none::rest) [.cells false es cs] v (.cells false es cs::new))(H:Zq es M x n cs):
  ∃b,x=.slice b 0 n none∧b<M.length∧kO P f (x::rest) M (v.ren (dL [b] M.length)) (M++new.map (aeY.ren (dL [b] M.length))):=by
 obtain⟨b,o,cs',rfl,X,V⟩:=H;have W:=gL X;refine⟨b,rfl,W,?_⟩;have:=kO.frame (M:=M) [b] (m:=[.cells false es cs]) rfl (by simpa using W) (by simp only[AV.afa,AV.under,cI A];rfl) (fun i s Z=>by
  cases i with
  |zero=>simp at Z;subst Z;exact bu hc X V
  |succ i=>simp at Z) G h
 simpa [AV.ae3,AV.ren,dL,ca A] using this
theorem dG{v:AV}(ks:List Nat)(n:Nat)(A:v.closed=true):v.ren (dL ks n)=v:=by have:=ca (vs:=[v]) (ρ:=dL ks n) (by simp[AV.ae0,A]);simpa [AV.ae3] using this
theorem kO.agI{v:AV}(hc:AV.ae0 cs=true)(A:AV.ae0 rest=true)(G:v.closed=true)(h:kO P f (.slice 0 0 n none::rest) [.cells false es cs] v [.cells false es cs])(H:Zq es M x n cs):kO P f (x::rest) M v M:=by obtain⟨b,_,_,Z⟩:=kO.af3 (new:=[]) hc A rfl h H;simpa [dG _ _ G] using Z
end
end Go.Eng
namespace Go.Eng
mutual
def AV.same:AV→AV→Bool
 |.undef,.undef=>true
 |.bool a,.bool b=>a==b
 |.int k n,.int k' m=>decide (k=k')&&decide (n=m)
 |.str s,.str t=>s==t
 |.ptr b o,.ptr b' o' =>Nat.beq b b' &&Nat.beq o o'
 |.afd,.afd=>true
 |.slice b o n none,.slice b' o' n' none=>Nat.beq b b' &&Nat.beq o o' &&Nat.beq n n'
 |.y9,.y9=>true
 |.map b,.map b' =>Nat.beq b b'
 |.afl,.afl=>true
 |.func f X,.func W Z =>Nat.beq f W &&AV.afU X Z
 |.nilFunc,.nilFunc=>true
 |.nilIface,.nilIface=>true
 |.agg X,.agg Z =>AV.afU X Z
 |.tuple X,.tuple Z =>AV.afU X Z
 |_,_=>false
def AV.afU:List AV→List AV→Bool
 | [],[]=>true
 |v::vs,w::ws=>AV.same v w&&AV.afU vs ws
 |_,_=>false
end
mutual
theorem AV.agR:∀{v w:AV},AV.same v w=true→v=w
 |.undef,w,h=>by cases w<;>first | rfl | simp[AV.same] at h
 |.bool a,w,h=>by cases w<;>simp[AV.same] at h;rw[h]
 |.int k n,w,h=>by cases w<;>simp[AV.same] at h;rw[h.1,h.2]
 |.str s,w,h=>by cases w<;>simp[AV.same] at h;rw[h]
 |.ptr b o,w,h=>by cases w<;>simp[AV.same] at h;rw[h.1,h.2]
 |.afd,w,h=>by cases w<;>first | rfl | simp[AV.same] at h
 |.slice b o n c,w,h=>by
  cases w with
  |slice b' o' n' c' =>cases c<;>cases c' <;>simp[AV.same] at h;rw[h.1.1,h.1.2,h.2]
  |_=>cases c<;>simp[AV.same] at h
 |.y9,w,h=>by cases w<;>first | rfl | simp[AV.same] at h
 |.map b,w,h=>by cases w<;>simp[AV.same] at h;rw[h]
 |.afl,w,h=>by cases w<;>first | rfl | simp[AV.same] at h
 |.yield b,w,h=>by simp[AV.same] at h
 |.func f Z,w,h=>by
  cases w<;>try (simp[AV.same] at h;done)
  simp only[AV.same,Bool.and_eq_true] at h;rw[Nat.eq_of_beq_eq_true h.1,AV.afB h.2]
 |.nilFunc,w,h=>by cases w<;>first | rfl | simp[AV.same] at h
 |.iface t v,w,h=>by simp[AV.same] at h
 |.nilIface,w,h=>by cases w<;>first | rfl | simp[AV.same] at h
 |.agg Z,w,h=>by
  cases w<;>try (simp[AV.same] at h;done)
  simp only[AV.same] at h;rw[AV.afB h]
 |.tuple Z,w,h=>by
  cases w<;>try (simp[AV.same] at h;done)
  simp only[AV.same] at h;rw[AV.afB h]
theorem AV.afB:∀{vs A:List AV},AV.afU vs A=true→vs=A
 | [],[],_=>rfl
 | [],_::_,h=>by simp[AV.afU] at h
 |_::_,[],h=>by simp[AV.afU] at h
 |v::vs,w::A,h=>by simp only[AV.afU,Bool.and_eq_true] at h;rw[AV.agR h.1,AV.afB h.2]
end
def oQ(ks:List Nat)(M:Mem):Nat→Mem→Bool
 |_,[]=>true
 |i,.cells false es cs::r=>(match M[ks.getD i 0]? with
  |some (.cells _ es' cs')=>Nat.beq es es' &&AV.afU (AV.ae3 (dL ks M.length) cs) (cs'.take cs.length)
  |_=>false)&&AV.afa ks.length cs&&oQ ks M (i+1) r
 |_,_=>false
theorem Cl{ks:List Nat}{M:Mem}:∀{i:Nat}{m:Mem},oQ ks M i m=true→∀(j:Nat) s,m[j]? =some s→tI ks M (ks.getD (i+j) 0) s
 |_,[],_,j,s,hj=>by simp at hj
 |i,.cells false es cs::r,h,j,s,hj=>by
  unfold oQ at h;simp only[Bool.and_eq_true] at h;obtain⟨⟨X,O⟩,h3⟩:=h;cases j with
  |zero=>
   simp at hj;subst hj;refine⟨O,?_⟩;split at X
   ·rename_i o K Z J
    simp only[Bool.and_eq_true] at X;obtain⟨W,F⟩:=X;have W:=Nat.eq_of_beq_eq_true W;subst W;refine⟨o,Z,J,fun k v V=>?_⟩;have D:=gL V;have S:=AV.afB F;rw[gb] at S;have:(Z.take cs.length)[k]? =Z[k]? :=List.getElem?_take_of_lt D;rw[←this,←S,List.getElem?_map,V];rfl
   ·cases X
  |succ j=>
   have:=Cl h3 j s (by simpa using hj);rw[show i+(j+1)=i+1+j by omega];exact this
 |i,.aeP::r,h,j,s,hj=>by simp[oQ] at h
 |i,.cells true es cs::r,h,j,s,hj=>by simp[oQ] at h
 |i,.map es::r,h,j,s,hj=>by simp[oQ] at h
 |i,.afr es::r,h,j,s,hj=>by simp[oQ] at h
 |i,.loop l::r,h,j,s,hj=>by simp[oQ] at h
structure afp where
 f:FuncId
 args:List AV
 m:Mem
 v:AV
 new:Mem
def afp.ask(e:afp)(args:List AV)(M:Mem):Option aeQ:=
 let ks:=uO 0 M 1000 (AV.afc 0 args) []
 if Nat.beq ks.length e.m.length&&ks.all (fun k=>decide (k<M.length))&&AV.afa ks.length e.args&&AV.afU (AV.ae3 (dL ks M.length) e.args) args&&oQ ks M 0 e.m&&e.new.all (fun s=>s.own||match s with | .aeP=>true | _=>false) then
  some ⟨e.v.ren (dL ks M.length),none,e.new.map (aeY.ren (dL ks M.length))⟩ else none
variable{P:Program}
theorem afp.agt{e:afp}(h:kO P e.f e.args e.m e.v (e.m++e.new)){args:List AV}{M:Mem}{r:aeQ}(A:e.ask args M=some r):jS P (.fn e.f) args M r:=by
 unfold afp.ask at A;simp only at A;split at A
 ·rename_i hc
  simp only[Bool.and_eq_true] at hc;obtain⟨⟨⟨⟨⟨Z,X⟩,h3⟩,W⟩,V⟩,S⟩:=hc;cases A;refine aI ?_;have:=kO.frame (M:=M) (uO 0 M 1000 (AV.afc 0 args) []) (Nat.eq_of_beq_eq_true Z).symm (fun k O=>by simpa using List.all_eq_true.1 X k O) h3 (fun i s K=>by simpa using Cl V i s K) S h;rw[AV.afB W] at this;exact this
 ·cases A
def OV:List afp→aeT
 | [],_,_,_=>none
 |e::es,.fn f,args,M=>if Nat.beq f e.f then (match e.ask args M with
  |some r=>some r
  |none=>OV es (.fn f) args M) else OV es (.fn f) args M
 |_::_,.yld _,_,_=>none
theorem WV:∀{l:List afp},(∀e∈l,kO P e.f e.args e.m e.v (e.m++e.new))→HS P (OV l):=by
 intro l W;refine dE fun c V M r h=>?_
 induction l with
 |nil=>simp[OV] at h
 |cons e es Z=>
  have Z:=Z (fun x S=>W x (List.mem_cons_of_mem _ S));cases c with
  |yld b=>simp[OV] at h
  |fn f=>
   unfold OV at h;split at h
   ·rename_i X
    have X:=Nat.eq_of_beq_eq_true X;subst X;split at h
    ·rename_i K O
     cases h;exact afp.agt (W e (List.mem_cons_self ..)) O
    ·exact Z h
   ·exact Z h
theorem dJ{T:TypeId→Option TyI}{lv:Code→List Nat}{G:FuncId→Option Func}{O:aeT}{K n:Nat}(A:P.follows .mixedOrders=true)(hT:cW P T)(H:agi P G)(I:HS P O){f:FuncId}{args:List AV}{m:Mem}{v:AV}{new:Mem}(h:(sN T lv G O K n (.fn f) args m).map (fun r=>(r.v,r.mem m))=some (v,m++new)):kO P f args m v (m++new):=by rw[Option.map_eq_some_iff] at h;obtain⟨r,Z,X⟩:=h;obtain⟨h3,W⟩:=Prod.mk.inj X;have:=(gG A hT H I n).fn _ _ _ _ Z;rw[h3,W] at this;exact this
end Go.Eng
namespace Go.Eng
open Classical in
noncomputable def nb(S:Callee→List AV→Mem→aeQ→Prop):aeT:=fun c Z M=>if h:∃r,S c Z M r then some (Classical.choose h) else none
variable{S:Callee→List AV→Mem→aeQ→Prop}
theorem Aq{P:Program}(h:∀c a M r,S c a M r→jS P c a M r):HS P (nb S):=dE fun c a M r Z=>by
 unfold nb at Z;split at Z
 ·rename_i X
  cases Z;exact h _ _ _ _ (Classical.choose_spec X)
 ·cases Z
variable{a:List AV}{c:Callee}
theorem ET{M:Mem}(h:∃r,S c a M r):∃r,nb S c a M=some r∧S c a M r:=by refine⟨_,?_,Classical.choose_spec h⟩;unfold nb;rw[dif_pos h]
theorem fm{M:Mem}{r:aeQ}(h:S c a M r)(A:∀Z,S c a M Z →Z =r):nb S c a M=some r:=by obtain⟨Z,X,W⟩:=ET ⟨r,h⟩;rw[X,A Z W]
theorem fV(M X:Mem)(k:Nat):(M++X)[M.length+k]? =X[k]? :=by rw[List.getElem?_append_right (by omega)];congr 1;omega
theorem jU(M X:Mem):(M++X)[M.length]? =X[0]? :=fV M X 0
theorem G4(M X:Mem)(k:Nat)(s:aeY):(M++X).set (M.length+k) s=M++X.set k s:=by rw[List.set_append_right _ _ (by omega)];congr 2;omega
theorem WU(M X:Mem)(s:aeY):(M++X).set M.length s=M++X.set 0 s:=G4 M X 0 s
theorem oH(a b:Nat):(a+b<a)=False:=by rw[eq_iff_iff,iff_false];omega
theorem vZ(f:Nat→Bool):∀(i:Nat)(M:Mem),aW [] i M (bl f i M)=M
 |_,[]=>rfl
 |i,s::M=>by simp[bl,aW,vZ f (i+1) M]
theorem uK(f:Nat→Bool):∀(i:Nat)(M:Mem)(b:Nat),(bl f i M)[b]? =(M[b]?).map fun s=>if f (i+b) then s else .aeP
 |_,[],_=>by simp[bl]
 |i,s::M,0=>by simp[bl]
 |i,s::M,b+1=>by simp[bl,uK f (i+1) M b,Nat.add_assoc,Nat.add_comm 1 b]
theorem ED:∀(i:Nat)(M:Mem),bl (fun _=>true) i M=M
 |_,[]=>rfl
 |i,s::M=>by simp[bl,ED (i+1) M]
theorem OS(a b:Nat):(a≤b∧b<a)=False:=by rw[eq_iff_iff,iff_false];omega
theorem yF:∀(i:Nat)(M:Mem),aW [] i M M=M
 |_,[]=>rfl
 |i,s::M=>by simp[aW,yF (i+1) M]
end Go.Eng
