/- See R54. -/
import Derived.Test.YtgafjliihahjgaaGreatDoorR05
set_option linter.all false
namespace Go.Eng
attribute [simp] Nv Xl qX wB AG aD iV RU zd Ko wA Ay qU ab get Ww dL xi afp Ct qP aOp Xk Xn Xm aUn yQ Nb Na qW lD Pg nb qV Dj Kd vu Ti bk MZ jE eg U1 jZ wT Xq
attribute [simp] tT AV.refs AV.aeR afq Ka rho AV.ren AV.aeM qs iQ jy jn HS.mem aE lg Fu eY vo bef Wf bp aZ MM UX gj aJ dI gT AV.y9 AV.aeB Oper.looksAt Op.operands Call.operands Region.binds AV.closed AV.aeG
def aK:Code→List Code
 |.seq a b=>aK a++aK b
 |.cond _ a b=>aK a++aK b
 |.block _ b=>aK b
 |.loop b=>b::aK b
 |_=>[]
def ai(f:Func):List Code:=match f.body with
 |some c=>aK c
 |none=>[]
attribute [simp] aa
section
variable (T:TypeId→Option TyI) (lv:Code→List Nat) (O:adM) (K N m0:Nat) (tp:Bool) (s:XS)
theorem Pz:aN T lv O K N m0 tp .skip s=some (.normal,s):=rfl
theorem Py(id:Nat):aN T lv O K N m0 tp (.exit id) s=some (.exit id,s):=rfl
theorem RW:aN T lv O K N m0 tp .ret s=some (.ret,s):=rfl
theorem JV(id:Nat)(ops:Array Oper):aN T lv O K N m0 tp (.region id ops false) s=match eg T O N m0 ops ops.toList s with
  |some s' =>some (.normal,s')
  |none=>none:=rfl
theorem Px(id:Nat)(ops:Array Oper):aN T lv O K N m0 tp (.region id ops true) s=match aE T O N m0 ops s with
  |some s' =>some (.normal,s')
  |none=>none:=rfl
theorem RY(a b:Code):aN T lv O K N m0 tp (.seq a b) s=match aN T lv O K N m0 tp a s with
  |some (.normal,s')=>aN T lv O K N m0 tp b s'
  |r=>r:=rfl
theorem Pw(c:Operand)(a b:Code):aN T lv O K N m0 tp (.cond c a b) s=match get s.env c with
  |.bool true=>aN T lv O K N m0 tp a s
  |.bool false=>aN T lv O K N m0 tp b s
  |_=>none:=rfl
theorem Ml(id:Nat)(b:Code):aN T lv O K N m0 tp (.block id b) s=match aN T lv O K N m0 tp b s with
  |some (.exit i,s')=>if i=id then some (.normal,s') else some (.exit i,s')
  |r=>r:=rfl
theorem aI(b:Code):aN T lv O K N m0 tp (.loop b) s=ej (lv b) (aa b) s.env s.mem.length (aN T lv O K N m0 tp b) K ⟨aD (lv b) (aa b) s.env s.env,s.mem,s.aeS⟩:=rfl
end
attribute [simp] Pz Py RW JV Px RY Pw Ml
open Classical in
theorem tV{p:Env→Bool→Prop}{q:Env→Bool→Env→Prop}(h:∀e d,p e d→∃e',q e d e'):∃F:Env→Bool→Env,∀e d,p e d→q e d (F e d):=
 ⟨fun e d=>if hp:p e d then Classical.choose (h e d hp) else [],fun e d hp=>by simp only[dif_pos hp];exact Classical.choose_spec (h e d hp)⟩
theorem cV{α:Type}{f:XS→Option (Exit×XS)}{lv wr:List Nat}{z':Env}{m1:Nat}(S:α→XS) (m:α→Nat) (Inv:α→Prop) (e0:Exit) (mem' :Mem) (d' :Bool) (Q:Env→Prop) (he:e0≠ .normal)
  (h:∀a,Inv a→(∃a' s',f (S a)=some (.normal,s')∧iV lv wr z' m1 s' =S a' ∧Inv a' ∧m a' <m a)∨(∃AC,f (S a)=some (e0,⟨AC,mem',d'⟩)∧Q AC)):
  ∀k a,Inv a→m a<k→∃AC,ej lv wr z' m1 f k (S a)=some (e0,⟨AC,mem',d'⟩)∧Q AC
 |0,a,_,hk=>by omega
 |k+1,a,ha,hk=>by
  unfold ej;rcases h a ha with⟨a',s',h1,h2,h3,h4⟩ | ⟨AC,h1,h3⟩
  ·rw[h1]
   simp only[h2];exact cV S m Inv e0 mem' d' Q he h k a' h3 (by omega)
  ·rw[h1]
   refine⟨AC,?_,h3⟩;cases e0<;>first | rfl | exact absurd rfl he
theorem cv{T:TypeId→Option TyI}{lv:Code→List Nat}{O:adM}{K N m0:Nat}{tp:Bool}{b:Code}{L:List Nat}(YQ:lv b=L){mem mem' :Mem}{e:Exit}(pre:Env→Prop)(post:Env→Env→Prop)(h:∀z' d,pre z'→∃AC,ej L (aa b) z' mem.length (aN T lv O K N m0 tp b) K ⟨aD L (aa b) z' z',mem,d⟩=some (e,⟨AC,mem',d⟩)∧post z' AC):
  ∃F:Env→Bool→Env,∀z' d,pre z'→aN T lv O K N m0 tp (.loop b) ⟨z',mem,d⟩=some (e,⟨F z' d,mem',d⟩)∧post z' (F z' d):=by
 refine tV (p:=fun z' _=>pre z') (q:=fun z' d e' =>aN T lv O K N m0 tp (.loop b) ⟨z',mem,d⟩=some (e,⟨e',mem',d⟩)∧post z' e') ?_;intro z' d hp;obtain⟨AC,h1,h2⟩:=h z' d hp;exact⟨AC,by rw[aI,YQ];exact h1,h2⟩
theorem FJ{n:Int}(h0:0≤n)(h1:n≤255):IntKind.u8.wrap n=n:=by simp only[IntKind.wrap,IntKind.bits,IntKind.signed,Bool.false_and,Bool.false_eq_true,if_false];omega
def Nu(i:Option TyI):Bool:=match i with
 |some i=>match i.desc with
  |.interface _=>true
  |_=>false
 |none=>false
theorem Ph{T:TypeId→Option TyI}{t:TypeId}(h:Nu (T t)=true)(r c:Bool):Ax T t r c .nilIface .nilIface=if r||c then some true else none:=by
 unfold Nu at h;unfold Ax;cases hT:T t with
 |none=>rw[hT] at h;cases h
 |some i=>
  rw[hT] at h;simp only at h ⊢;cases hd:i.desc<;>rw[hd] at h<;>first | (cases h;done) | rfl
end Go.Eng
namespace Go.Eng
mutual
def AV.under(n:Nat):AV→Bool
 |.ptr b _=>decide (b<n)
 |.slice b _ _ _=>decide (b<n)
 |.map b=>decide (b<n)
 |.yield b=>decide (b<n)
 |.func _ cs=>AV.aeQ n cs
 |.iface _ v=>v.under n
 |.agg cs=>AV.aeQ n cs
 |.tuple cs=>AV.aeQ n cs
 |_=>true
def AV.aeQ(n:Nat):List AV→Bool
 | []=>true
 |v::vs=>v.under n&&AV.aeQ n vs
end
def aF(ks:List Nat) (n:Nat) (b:Nat):Option Nat:=if b<ks.length then some (ks.getD b 0) else some (n+(b-ks.length))
mutual
theorem aeA.aft{μ:Nat→Place}{N:Nat}{ks:List Nat}{n0:Nat}:∀{v V},v.under ks.length=true→aeA μ N (v.ren (aF ks n0)) V→aeA (fun i=>μ (ks.getD i 0)) ks.length v V
 |.undef,V,_,_=>by simp[aeA]
 |.bool b,V,_,h=>by simpa [AV.ren,aeA] using h
 |.int k i,V,_,h=>by simpa [AV.ren,aeA] using h
 |.str s,V,_,h=>by simpa [AV.ren,aeA] using h
 |.ptr b o,V,hb,h=>by simp only[AV.under,decide_eq_true_eq] at hb;simp only[AV.ren,aF,hb,if_true,aeA] at h ⊢;exact⟨trivial,h.2⟩
 |.aeT,V,_,h=>by simpa [AV.ren,aeA] using h
 |.slice b o l c,V,hb,h=>by simp only[AV.under,decide_eq_true_eq] at hb;simp only[AV.ren,aF,hb,if_true,aeA] at h ⊢;exact⟨trivial,h.2⟩
 |.kK,V,_,h=>by simpa [AV.ren,aeA] using h
 |.map b,V,hb,h=>by simp only[AV.under,decide_eq_true_eq] at hb;simp only[AV.ren,aF,hb,if_true,aeA] at h ⊢;exact⟨trivial,h.2⟩
 |.yield b,V,hb,h=>by simp only[AV.under,decide_eq_true_eq] at hb;simp only[AV.ren,aF,hb,if_true,aeA] at h ⊢;exact⟨trivial,h.2⟩
 |.ae0,V,_,h=>by simpa [AV.ren,aeA] using h
 |.func f cs,V,hb,h=>by simp only[AV.under] at hb;simp only[AV.ren,aeA] at h ⊢;obtain⟨Us,rfl,h⟩:=h;exact⟨Us,rfl,aeC.aft hb h⟩
 |.nilFunc,V,_,h=>by simpa [AV.ren,aeA] using h
 |.iface t v,V,hb,h=>by simp only[AV.under] at hb;simp only[AV.ren,aeA] at h ⊢;obtain⟨U,rfl,h⟩:=h;exact⟨U,rfl,aeA.aft hb h⟩
 |.nilIface,V,_,h=>by simpa [AV.ren,aeA] using h
 |.agg cs,V,hb,h=>by simp only[AV.under] at hb;simp only[AV.ren,aeA] at h ⊢;obtain⟨Us,rfl,h⟩:=h;exact⟨Us,rfl,aeC.aft hb h⟩
 |.tuple cs,V,hb,h=>by simp only[AV.under] at hb;simp only[AV.ren,aeA] at h ⊢;obtain⟨Us,rfl,h⟩:=h;exact⟨Us,rfl,aeC.aft hb h⟩
theorem aeC.aft{μ:Nat→Place}{N:Nat}{ks:List Nat}{n0:Nat}:∀{vs Us},AV.aeQ ks.length vs=true→aeC μ N (AV.aeM (aF ks n0) vs) Us→aeC (fun i=>μ (ks.getD i 0)) ks.length vs Us
 | [],Us,_,h=>by simpa [AV.aeM,aeC] using h
 |v::vs,Us,hb,h=>by simp only[AV.aeQ,Bool.and_eq_true] at hb;simp only[AV.aeM,aeC] at h ⊢;obtain⟨U,Ws,rfl,h1,h2⟩:=h;exact⟨U,Ws,rfl,aeA.aft hb.1 h1,aeC.aft hb.2 h2⟩
end
def so(ks:List Nat) (M:Mem) (k:Nat):aeD→Prop
 |.kO=>True
 |.cells false es cs=>AV.aeQ ks.length cs=true∧∃o Yf,M[k]? =some (.cells o es Yf)∧∀(j:Nat) v,cs[j]? =some v→Yf[j]? =some (v.ren (aF ks M.length))
 |.ae8 es=>∃YP,(M[k]? =some (.ae8 YP)∨M[k]? =some (.map YP))∧YP.length=es.length∧
   ∀(j:Nat) e,es[j]? =some e→(e.1.under ks.length=true∧e.2.under ks.length=true)∧YP[j]? =some (e.1.ren (aF ks M.length),e.2.ren (aF ks M.length))
 |_=>False
theorem DN{n:Nat}:∀{cs:List AV},AV.aeQ n cs=true→∀(j:Nat) v,cs[j]? =some v→v.under n=true
 | [],_,j,v,h=>by simp at h
 |c::cs,h,j,v,hj=>by
  simp only[AV.aeQ,Bool.and_eq_true] at h;cases j with
  |zero=>simp at hj;subst hj;exact h.1
  |succ j=>exact DN h.2 j v (by simpa using hj)
theorem yJ{α:Type}{cs Yf :List α}{g:α→α}(h:∀(j:Nat) v,cs[j]? =some v→Yf[j]? =some (g v)):cs.length≤Yf.length:=by
 by_cases h0:cs.length=0
 ·omega
 ·have:=h (cs.length-1) (cs[cs.length-1]'(by omega)) (by simp)
  have:=(gL this);omega
section
variable {P:Program}
theorem kF.frame{f:FuncId}{args:List AV}{m new M:Mem}{v:AV}(ks:List Nat)(hl:m.length=ks.length)(hk:∀k∈ks,k<M.length)(ha:AV.aeQ ks.length args=true)(hm:∀(i:Nat) s,m[i]? =some s→so ks M (ks.getD i 0) s)(hn:new.all (fun s=>s.own||match s with | .kO=>true | _=>false)=true)(h:kF P f args m v (m++new)):kF P f (AV.aeM (aF ks M.length) args) M (v.ren (aF ks M.length)) (M++new.map (aeD.ren (aF ks M.length))):=by
 refine⟨h.1,fun base μ w Vs hG hH hV=>?_⟩;have aaK:∀b,¬ei m b:=by
  rintro b ⟨s,hs,ho⟩;have:=hm b s hs;cases s with
  |kO=>cases ho
  |cells own es cs=>simp only[aeD.own] at ho;subst ho;exact this
  |map es=>exact this
  |ae8 es=>cases ho
  |loop r=>exact this
 have hms:aeL base (fun i=>μ (ks.getD i 0)) m w:=by
  refine⟨hH.aeI,fun b s hs=>?_,fun b b' s' hb=>absurd hb (aaK b)⟩;have aa7:=hm b s hs;cases s with
  |kO=>trivial
  |map es=>exact aa7.elim
  |ae8 es=>
   obtain⟨YP,h1,h2,h3⟩:=aa7;have hs:∃Do G',w.heap[(μ (ks.getD b 0)).blk]? =some (.map Do G')∧CC Do G'∧Do.size=YP.length∧∀(j:Nat) e,YP[j]? =some e→∃E,Do[j]? =some E∧NT μ M.length e E:=by
    rcases h1 with h1 | h1
    ·have:=hH.slot _ _ h1;simpa only[aeO] using this
    ·have:=hH.slot _ _ h1
     simp only[aeO] at this;obtain⟨Do,G',k1,k2,k3,k4⟩:=this;exact⟨Do,G',k1,k2.2,k3,k4⟩
   obtain⟨Do,G',k1,k2,k3,k4⟩:=hs;simp only[aeO];refine⟨Do,G',k1,k2,by omega,fun j e he=>?_⟩;obtain⟨⟨u1,u2⟩,u3⟩:=h3 j e he;obtain⟨E,hE,r1,r2⟩:=k4 j _ u3;rw[hl];exact⟨E,hE,aeA.aft u1 r1,aeA.aft u2 r2⟩
  |loop r=>exact aa7.elim
  |cells own es cs=>
   cases own with
   |true=>exact aa7.elim
   |false=>
    obtain⟨hb,o,Yf,h1,h2⟩:=aa7;have:=hH.slot _ _ h1;simp only[aeO] at this ⊢;obtain⟨cur,e,fr,g1,g2,g3,g4,_⟩:=this;refine⟨cur,e,fr,g1,g2,Nat.le_trans (yJ h2) g3,fun j u hj=>?_,fun h=>by cases h⟩;obtain⟨V,hV,hr⟩:=g4 j _ (h2 j u hj);rw[hl];exact⟨V,hV,aeA.aft (DN hb j u hj) hr⟩
 have Zi:=aeC.aft ha hV;rw[←hl] at Zi;refine(h.2 base _ w Vs hG hms Zi).mono ?_;rintro e w' ⟨V,v',mem',μ',rfl,q1,q2,q3,rfl,rfl⟩;have hg:ae4 w w' :=⟨q3.size,fun k hk=>q3.frame k hk fun b hb=>absurd hb (aaK b),q3.os,q3.tape,q3.output,q3.drawn⟩;have aae:∀b,ei (m++new) b→w.heap.size≤(μ' b).blk:=by
  intro b hb;by_cases A':(μ' b).blk<w.heap.size
  ·obtain⟨b0,h0,_⟩:=q3.owner b hb A'
   exact absurd h0 (aaK b0)
  ·omega
 obtain⟨μ2,hμ2⟩:∃μ2:Nat→Place,μ2=fun b=>if b<M.length then μ b else μ' (b-M.length+m.length):=⟨_,rfl⟩
 have Yp:∀b,b<M.length→μ2 b=μ b:=fun b hb=>by rw[hμ2];simp[hb]
 have Yx:∀i,μ2 (M.length+i)=μ' (m.length+i):=fun i=>by rw[hμ2];simp only;rw[if_neg (by omega)];congr 1;omega
 have hρ:∀b b',b<(m++new).length→aF ks M.length b=some b' →b' <(M++new.map (aeD.ren (aF ks M.length))).length∧μ2 b' =μ' b:=by
  intro b b' hb UV;simp only[List.length_append,List.length_map] at hb ⊢;unfold aF at UV;split at UV
  ·rename_i A'
   cases UV;have Yo:ks.getD b 0∈ks:=by rw[List.getD_eq_getElem?_getD,List.getElem?_eq_getElem A',Option.getD_some];exact List.getElem_mem A'
   have:=hk _ Yo;refine⟨by omega,?_⟩;rw[Yp _ this];exact(q3.agree b (by omega)).symm
  ·rename_i A'
   cases UV;refine⟨by omega,?_⟩;rw[Yx,show m.length+(b-ks.length)=b by omega]
 have Yk:∀b s,(M++new.map (aeD.ren (aF ks M.length)))[b]? =some s→(b<M.length∧M[b]? =some s)∨∃i s0,b=M.length+i∧new[i]? =some s0∧s=s0.ren (aF ks M.length):=by
  intro b s hs;by_cases hb:b<M.length
  ·rw[List.getElem?_append_left hb] at hs
   exact .inl ⟨hb,hs⟩
  ·rw[List.getElem?_append_right (by omega),List.getElem?_map] at hs
   simp only[Option.map_eq_some_iff] at hs;obtain⟨s0,h1,h2⟩:=hs;exact .inr ⟨b-M.length,s0,by omega,h1,h2.symm⟩
 have Z7:∀i s0,new[i]? =some s0→(m++new)[m.length+i]? =some s0:=by intro i s0 h;rw[List.getElem?_append_right (by omega),Nat.add_sub_cancel_left];exact h
 have Zq:∀i s0,new[i]? =some s0→s0≠ .kO→ei (m++new) (m.length+i):=by intro i s0 h PP;refine⟨s0,Z7 i s0 h,?_⟩;have:=List.all_eq_true.1 hn s0 (List.mem_of_getElem? h);cases s0<;>simp_all
 have Zu:∀s0:aeD,s0.ren (aF ks M.length)≠ .kO→s0≠ .kO:=by rintro s0 h rfl;exact h rfl
 refine⟨V,_,_,μ2,rfl,q1.ren hρ,⟨Nat.le_trans hH.aeI hg.size,fun b s hs=>?_,fun b b' s' hb UV PP YN=>?_⟩,?_,rfl,rfl⟩
 ·rcases Yk b s hs with⟨hb,h1⟩ | ⟨i,s0,rfl,h1,rfl⟩
  ·rw[Yp b hb]
   refine(hH.slot b s h1).mono (by simp) Yp fun PP=>hg.heap _ ((hH.slot b s h1).afk PP)
  ·rw[Yx]
   exact(q2.slot _ s0 (Z7 i s0 h1)).ren hρ
 ·obtain⟨s,hs,ho⟩:=hb
  have abO:=aeD.afa ho;rcases Yk b s hs with⟨hb,h1⟩ | ⟨i,s0,rfl,h1,rfl⟩<;>rcases Yk b' s' UV with⟨UV,YS⟩ | ⟨i',s0',rfl,YS,rfl⟩
  ·rw[Yp b hb,Yp b' UV]
   exact hH.sep b b' s' ⟨s,h1,ho⟩ YS PP YN
  ·rw[Yp b hb,Yx]
   have g1:=(hH.slot b s h1).afk abO;have g2:=aae _ (Zq i' s0' YS (Zu _ PP));omega
  ·rw[Yp b' UV,Yx]
   have g1:=(hH.slot b' s' YS).afk PP;have g2:=aae _ (Zq i s0 h1 (Zu _ abO));omega
  ·rw[Yx,Yx]
   exact q2.sep _ _ s0' (Zq i s0 h1 (Zu _ abO)) (Z7 i' s0' YS) (Zu _ PP) (by omega)
 ·refine⟨by simp,Yp,hg.os,hg.tape,hg.output,hg.size,fun k hk _=>hg.heap k hk,fun b hb A'=>?_,hg.drawn⟩
  obtain⟨s,hs,ho⟩:=hb;rcases Yk b s hs with⟨hb,h1⟩ | ⟨i,s0,rfl,h1,rfl⟩
  ·exact⟨b,⟨s,h1,ho⟩,by rw[Yp b hb]⟩
  ·rw[Yx] at A'
   have:=aae _ (Zq i s0 h1 (Zu _ (aeD.afa ho)));omega
end
end Go.Eng
namespace Go.Eng
def iN(k:IntKind) (l:List Nat):List AV:=l.map fun n:Nat=>.int k (n:Int)
def iZ(l:List Int):List AV:=l.map fun n=>.int .i64 n
section
variable (k:IntKind)
theorem WR:iN k []=[]:=rfl
theorem Fg(n:Nat)(l:List Nat):iN k (n::l)=.int k (n:Int)::iN k l:=rfl
section
variable (l:List Nat)
include l
theorem R7:(iN k l).length=l.length:=by simp[iN]
theorem WQ(i:Nat):(iN k l)[i]? =(l[i]?).map fun n:Nat=>.int k (n:Int):=by simp[iN]
theorem PC(i:Nat)(h:i<(iN k l).length):(iN k l)[i]=.int k ((l[i]'(by simpa [iN] using h):Nat):Int):=by simp[iN]
theorem WO:(iN k l).all AV.kS=true:=by simp[iN,AV.kS]
end
theorem NL(m:Nat)(l:List Nat):AV.aeR m (iN k l)=[]:=by
 induction l with
 |nil=>rfl
 |cons x l ih=>simp[Fg,AV.aeR,AV.refs,ih]
theorem SX(ρ:Nat→Option Nat)(l:List Nat):AV.aeM ρ (iN k l)=iN k l:=by
 induction l with
 |nil=>rfl
 |cons x l ih=>simp[Fg,AV.aeM,AV.ren,ih]
theorem Tg(m:Nat)(l:List Nat):AV.aeQ m (iN k l)=true:=by
 induction l with
 |nil=>rfl
 |cons x l ih=>simp[Fg,AV.aeQ,AV.under,ih]
theorem Dx(ok:Nat→Bool)(l:List Nat):AV.aeB ok (iN k l)=true:=by
 induction l with
 |nil=>rfl
 |cons x l ih=>simp[Fg,AV.aeB,AV.y9,ih]
theorem KB(m:Nat)(o:Bool)(e:Nat)(l:List Nat):aeD.refs m (.cells o e (iN k l))=[]:=by simp[aeD.refs,NL]
theorem MO(ρ:Nat→Option Nat)(o:Bool)(e:Nat)(l:List Nat):aeD.ren ρ (.cells o e (iN k l))=.cells o e (iN k l):=by simp[aeD.ren,SX]
theorem Cy(ok:Nat→Bool)(o:Bool)(e:Nat)(l:List Nat):aeD.y9 ok (.cells o e (iN k l))=true:=by simp[aeD.y9,Dx]
end
attribute [simp] WR R7 WQ PC NL SX Tg Dx KB MO Cy WO
attribute [simp] FC om TyI.isAgg aeD.refs aeD.ren AV.under AV.aeQ aeD.own dy kj fA tW rY rZ Wv fS oS gD AV.known AV.cells AV.kS
def Vn(k:IntKind):List AV→Option (List Nat)
 | []=>some []
 |.int k' n::l=>if k' =k∧0≤n then match Vn k l with
  |some r=>some (n.toNat::r)
  |none=>none
  else none
 |_::_=>none
def W7(k:IntKind) (M:Mem):AV→Option (List Nat)
 |.kK=>some []
 |.slice b o n _=>match M[b]? with
  |some (.cells _ 1 cs)=>if o+n≤cs.length then Vn k ((cs.drop o).take n) else none
  |_=>none
 |_=>none
mutual
theorem xl{n:Nat}:∀{v:AV},v.closed=true→v.under n=true
 |.ptr _ _,h=>by simp[AV.closed] at h
 |.slice _ _ _ _,h=>by simp[AV.closed] at h
 |.map _,h=>by simp[AV.closed] at h
 |.yield _,h=>by simp[AV.closed] at h
 |.func _ cs,h=>by simp only[AV.closed] at h;simp only[AV.under];exact cH h
 |.iface _ v,h=>by simp only[AV.closed] at h;simp only[AV.under];exact xl h
 |.agg cs,h=>by simp only[AV.closed] at h;simp only[AV.under];exact cH h
 |.tuple cs,h=>by simp only[AV.closed] at h;simp only[AV.under];exact cH h
 |.undef,_=>rfl
 |.bool _,_=>rfl
 |.int _ _,_=>rfl
 |.str _,_=>rfl
 |.aeT,_=>rfl
 |.kK,_=>rfl
 |.ae0,_=>rfl
 |.nilFunc,_=>rfl
 |.nilIface,_=>rfl
theorem cH{n:Nat}:∀{vs:List AV},AV.aeG vs=true→AV.aeQ n vs=true
 | [],_=>rfl
 |v::vs,h=>by simp only[AV.aeG,Bool.and_eq_true] at h;simp only[AV.aeQ,xl h.1,cH h.2];rfl
end
mutual
theorem Dz{ρ:Nat→Option Nat}:∀{v:AV},v.closed=true→v.ren ρ=v
 |.ptr _ _,h=>by simp[AV.closed] at h
 |.slice _ _ _ _,h=>by simp[AV.closed] at h
 |.map _,h=>by simp[AV.closed] at h
 |.yield _,h=>by simp[AV.closed] at h
 |.func _ cs,h=>by simp only[AV.closed] at h;simp only[AV.ren,bQ h]
 |.iface _ v,h=>by simp only[AV.closed] at h;simp only[AV.ren,Dz h]
 |.agg cs,h=>by simp only[AV.closed] at h;simp only[AV.ren,bQ h]
 |.tuple cs,h=>by simp only[AV.closed] at h;simp only[AV.ren,bQ h]
 |.undef,_=>rfl
 |.bool _,_=>rfl
 |.int _ _,_=>rfl
 |.str _,_=>rfl
 |.aeT,_=>rfl
 |.kK,_=>rfl
 |.ae0,_=>rfl
 |.nilFunc,_=>rfl
 |.nilIface,_=>rfl
theorem bQ{ρ:Nat→Option Nat}:∀{vs:List AV},AV.aeG vs=true→AV.aeM ρ vs=vs
 | [],_=>rfl
 |v::vs,h=>by simp only[AV.aeG,Bool.and_eq_true] at h;simp only[AV.aeM,Dz h.1,bQ h.2]
end
theorem zc(s n:Nat):(s:Int).tmod (n:Int)=((s%n:Nat):Int):=rfl
theorem FG(s n:Nat):(s:Int).tdiv (n:Int)=((s / n:Nat):Int):=rfl
theorem KA(m:Nat)(a b:List AV):AV.aeR m (a++b)=AV.aeR m a++AV.aeR m b:=by
 induction a with
 |nil=>rfl
 |cons x a ih=>simp[AV.aeR,ih]
theorem MQ(ρ:Nat→Option Nat)(a b:List AV):AV.aeM ρ (a++b)=AV.aeM ρ a++AV.aeM ρ b:=by
 induction a with
 |nil=>rfl
 |cons x a ih=>simp[AV.aeM,ih]
theorem ef(ok:Nat→Bool)(a b:List AV):AV.aeB ok (a++b)=(AV.aeB ok a&&AV.aeB ok b):=by
 induction a with
 |nil=>rfl
 |cons x a ih=>simp[AV.aeB,ih,Bool.and_assoc]
attribute [simp] KA MQ ef
end Go.Eng
namespace Go.Eng
def aeJ(k:IntKind) (M:Mem) (x:AV) (A:List Nat):Prop:=∃b o cs,x=.slice b 0 A.length none∧M[b]? =some (.cells o 1 cs)∧cs.take A.length=iN k A
section
variable {P:Program}{k:IntKind}{f:FuncId}{A B:List Nat}{M:Mem}{x y:AV}
end
end Go.Eng
