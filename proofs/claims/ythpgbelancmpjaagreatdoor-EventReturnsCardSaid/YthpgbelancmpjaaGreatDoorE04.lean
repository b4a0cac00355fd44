/- See E54. -/
import Derived.Test.YthpgbelancmpjaaGreatDoorE03
set_option linter.all false
namespace Go.Eng
attribute [simp] NY W5 sh xo iH aw mD RB wB Kv xn Bc se ad get Wk dh yz ae6 Df rV aOp W4 W7 W6 aUn zR NF ND sg Vx PC vw sf DH Kk wH Te ee Ny jD dN US iW xP Xb
attribute [simp] pR AV.refs AV.aew ae1 Di rho AV.ren AV.aez rh iU jx iY aee.mem aK mE Ga dT wE bef VW bG bn Nh UR ie ba fg iz AV.aef AV.ael Oper.looksAt Op.operands Call.operands Region.binds AV.closed AV.aej
def aG:Code→List Code
 |.seq a b=>aG a++aG b
 |.cond _ a b=>aG a++aG b
 |.block _ b=>aG b
 |.loop b=>b::aG b
 |_=>[]
def ah(f:Func):List Code:=match f.body with
 |some c=>aG c
 |none=>[]
attribute [simp] ae
section
variable (T:TypeId→Option TyI)(lv:Code→List Nat)(O:y9)(K N m0:Nat)(tp:Bool)(s:XS)
theorem PR:aS T lv O K N m0 tp .skip s=some (.normal,s):=rfl
theorem PQ(id:Nat):aS T lv O K N m0 tp (.exit id) s=some (.exit id,s):=rfl
theorem RD:aS T lv O K N m0 tp .ret s=some (.ret,s):=rfl
theorem J5(id:Nat)(ops:Array Oper):aS T lv O K N m0 tp (.region id ops false) s=match dN T O N m0 ops ops.toList s with
  |some s' =>some (.normal,s')
  |none=>none:=rfl
theorem PO(id:Nat)(ops:Array Oper):aS T lv O K N m0 tp (.region id ops true) s=match aK T O N m0 ops s with
  |some s' =>some (.normal,s')
  |none=>none:=rfl
theorem RE(a b:Code):aS T lv O K N m0 tp (.seq a b) s=match aS T lv O K N m0 tp a s with
  |some (.normal,s')=>aS T lv O K N m0 tp b s'
  |r=>r:=rfl
theorem PN(c:Operand)(a b:Code):aS T lv O K N m0 tp (.cond c a b) s=match get s.env c with
  |.bool true=>aS T lv O K N m0 tp a s
  |.bool false=>aS T lv O K N m0 tp b s
  |_=>none:=rfl
theorem MU(id:Nat)(b:Code):aS T lv O K N m0 tp (.block id b) s=match aS T lv O K N m0 tp b s with
  |some (.exit i,s')=>if i=id then some (.normal,s') else some (.exit i,s')
  |r=>r:=rfl
theorem bh(b:Code):aS T lv O K N m0 tp (.loop b) s=fy (lv b) (ae b) s.env s.mem.length (aS T lv O K N m0 tp b) K ⟨aw (lv b) (ae b) s.env s.env,s.mem,s.aeC⟩:=rfl
end
attribute [simp] PR PQ RD J5 PO RE PN MU
open Classical in
theorem rO{p:Env→Bool→Prop}{q:Env→Bool→Env→Prop}(h:∀e d,p e d→∃X,q e d X):∃F:Env→Bool→Env,∀e d,p e d→q e d (F e d):=
 ⟨fun e d=>if Z:p e d then Classical.choose (h e d Z) else [],fun e d Z=>by simp only[dif_pos Z];exact Classical.choose_spec (h e d Z)⟩
theorem bO{α:Type}{f:XS→Option (Exit×XS)}{lv wr:List Nat}{J:Env}{W:Nat}(S:α→XS)(m:α→Nat)(Inv:α→Prop)(I:Exit) (H :Mem) (d' :Bool)(Q:Env→Prop)(Y:I≠ .normal)
  (h:∀a,Inv a→(∃X V,f (S a)=some (.normal,V)∧mD lv wr J W V =S X ∧Inv X ∧m X <m a)∨(∃Z,f (S a)=some (I,⟨Z,H,d'⟩)∧Q Z)):
  ∀k a,Inv a→m a<k→∃Z,fy lv wr J W f k (S a)=some (I,⟨Z,H,d'⟩)∧Q Z
 |0,a,_,hk=>by omega
 |k+1,a,ha,hk=>by
  unfold fy;rcases h a ha with⟨X,V,U,R,h3,O⟩ | ⟨Z,U,h3⟩
  ·rw[U]
   simp only[R];exact bO S m Inv I H d' Q Y h k X h3 (by omega)
  ·rw[U]
   refine⟨Z,?_,h3⟩;cases I<;>first | rfl | exact absurd rfl Y
theorem bw{T:TypeId→Option TyI}{lv:Code→List Nat}{O:y9}{K N m0:Nat}{tp:Bool}{b:Code}{L:List Nat}(W:lv b=L){mem H :Mem}{e:Exit}(J:Env→Prop)(I:Env→Env→Prop)(h:∀Z d,J Z→∃X,fy L (ae b) Z mem.length (aS T lv O K N m0 tp b) K ⟨aw L (ae b) Z Z,mem,d⟩=some (e,⟨X,H,d⟩)∧I Z X):
  ∃F:Env→Bool→Env,∀Z d,J Z→aS T lv O K N m0 tp (.loop b) ⟨Z,mem,d⟩=some (e,⟨F Z d,H,d⟩)∧I Z (F Z d):=by
 refine rO (p:=fun Z _=>J Z) (q:=fun Z d V =>aS T lv O K N m0 tp (.loop b) ⟨Z,mem,d⟩=some (e,⟨V,H,d⟩)∧I Z V) ?_;intro Z d U;obtain⟨X,S,R⟩:=h Z d U;exact⟨X,by rw[bh,W];exact S,R⟩
theorem xX{n:Int}(h0:0≤n)(h1:n≤255):IntKind.u8.wrap n=n:=by simp only[IntKind.wrap,IntKind.bits,IntKind.signed,Bool.false_and,Bool.false_eq_true,if_false];omega
def NX(i:Option TyI):Bool:=match i with
 |some i=>match i.desc with
  |.interface _=>true
  |_=>false
 |none=>false
theorem PD{T:TypeId→Option TyI}{t:TypeId}(h:NX (T t)=true)(r c:Bool):Vy T t r c .nilIface .nilIface=if r||c then some true else none:=by
 unfold NX at h;unfold Vy;cases hT:T t with
 |none=>rw[hT] at h;cases h
 |some i=>
  rw[hT] at h;simp only at h ⊢;cases hd:i.desc<;>rw[hd] at h<;>first | (cases h;done) | rfl
mutual
def AV.under(n:Nat):AV→Bool
 |.ptr b _=>decide (b<n)
 |.slice b _ _ _=>decide (b<n)
 |.map b=>decide (b<n)
 |.yield b=>decide (b<n)
 |.func _ Z=>AV.aen n Z
 |.iface _ v=>v.under n
 |.agg Z=>AV.aen n Z
 |.tuple Z=>AV.aen n Z
 |_=>true
def AV.aen(n:Nat):List AV→Bool
 | []=>true
 |v::vs=>v.under n&&AV.aen n vs
end
def fq(ks:List Nat)(n:Nat)(b:Nat):Option Nat:=if b<ks.length then some (ks.getD b 0) else some (n+(b-ks.length))
mutual
theorem aeg.afc{μ:Nat→Place}{N:Nat}{ks:List Nat}{H:Nat}:∀{v V},v.under ks.length=true→aeg μ N (v.ren (fq ks H)) V→aeg (fun i=>μ (ks.getD i 0)) ks.length v V
 |.undef,V,_,_=>by simp[aeg]
 |.bool b,V,_,h=>by simpa [AV.ren,aeg] using h
 |.int k i,V,_,h=>by simpa [AV.ren,aeg] using h
 |.str s,V,_,h=>by simpa [AV.ren,aeg] using h
 |.ptr b o,V,hb,h=>by simp only[AV.under,decide_eq_true_eq] at hb;simp only[AV.ren,fq,hb,if_true,aeg] at h ⊢;exact⟨trivial,h.2⟩
 |.aet,V,_,h=>by simpa [AV.ren,aeg] using h
 |.slice b o l c,V,hb,h=>by simp only[AV.under,decide_eq_true_eq] at hb;simp only[AV.ren,fq,hb,if_true,aeg] at h ⊢;exact⟨trivial,h.2⟩
 |.qF,V,_,h=>by simpa [AV.ren,aeg] using h
 |.map b,V,hb,h=>by simp only[AV.under,decide_eq_true_eq] at hb;simp only[AV.ren,fq,hb,if_true,aeg] at h ⊢;exact⟨trivial,h.2⟩
 |.yield b,V,hb,h=>by simp only[AV.under,decide_eq_true_eq] at hb;simp only[AV.ren,fq,hb,if_true,aeg] at h ⊢;exact⟨trivial,h.2⟩
 |.aeF,V,_,h=>by simpa [AV.ren,aeg] using h
 |.func f X,V,hb,h=>by simp only[AV.under] at hb;simp only[AV.ren,aeg] at h ⊢;obtain⟨Z,rfl,h⟩:=h;exact⟨Z,rfl,aeh.afc hb h⟩
 |.nilFunc,V,_,h=>by simpa [AV.ren,aeg] using h
 |.iface t v,V,hb,h=>by simp only[AV.under] at hb;simp only[AV.ren,aeg] at h ⊢;obtain⟨U,rfl,h⟩:=h;exact⟨U,rfl,aeg.afc hb h⟩
 |.nilIface,V,_,h=>by simpa [AV.ren,aeg] using h
 |.agg X,V,hb,h=>by simp only[AV.under] at hb;simp only[AV.ren,aeg] at h ⊢;obtain⟨Z,rfl,h⟩:=h;exact⟨Z,rfl,aeh.afc hb h⟩
 |.tuple X,V,hb,h=>by simp only[AV.under] at hb;simp only[AV.ren,aeg] at h ⊢;obtain⟨Z,rfl,h⟩:=h;exact⟨Z,rfl,aeh.afc hb h⟩
theorem aeh.afc{μ:Nat→Place}{N:Nat}{ks:List Nat}{H:Nat}:∀{vs Us},AV.aen ks.length vs=true→aeh μ N (AV.aez (fq ks H) vs) Us→aeh (fun i=>μ (ks.getD i 0)) ks.length vs Us
 | [],Us,_,h=>by simpa [AV.aez,aeh] using h
 |v::vs,Us,hb,h=>by simp only[AV.aen,Bool.and_eq_true] at hb;simp only[AV.aez,aeh] at h ⊢;obtain⟨U,Z,rfl,X,V⟩:=h;exact⟨U,Z,rfl,aeg.afc hb.1 X,aeh.afc hb.2 V⟩
end
def ae2(ks:List Nat)(M:Mem)(k:Nat):aek→Prop
 |.qK=>True
 |.cells false es cs=>AV.aen ks.length cs=true∧∃o X,M[k]? =some (.cells o es X)∧∀(j:Nat) v,cs[j]? =some v→X[j]? =some (v.ren (fq ks M.length))
 |.aeO es=>∃Z,(M[k]? =some (.aeO Z)∨M[k]? =some (.map Z))∧Z.length=es.length∧
   ∀(j:Nat) e,es[j]? =some e→(e.1.under ks.length=true∧e.2.under ks.length=true)∧Z[j]? =some (e.1.ren (fq ks M.length),e.2.ren (fq ks M.length))
 |_=>False
theorem xU{n:Nat}:∀{cs:List AV},AV.aen n cs=true→∀(j:Nat) v,cs[j]? =some v→v.under n=true
 | [],_,j,v,h=>by simp at h
 |c::cs,h,j,v,hj=>by
  simp only[AV.aen,Bool.and_eq_true] at h;cases j with
  |zero=>simp at hj;subst hj;exact h.1
  |succ j=>exact xU h.2 j v (by simpa using hj)
theorem zG{α:Type}{cs H :List α}{g:α→α}(h:∀(j:Nat) v,cs[j]? =some v→H[j]? =some (g v)):cs.length≤H.length:=by
 by_cases Z:cs.length=0
 ·omega
 ·have:=h (cs.length-1) (cs[cs.length-1]'(by omega)) (by simp)
  have:=gL this;omega
section
variable {P:Program}
theorem kO.frame{f:FuncId}{args:List AV}{m new M:Mem}{v:AV}(ks:List Nat)(hl:m.length=ks.length)(hk:∀k∈ks,k<M.length)(ha:AV.aen ks.length args=true)(hm:∀(i:Nat) s,m[i]? =some s→ae2 ks M (ks.getD i 0) s)(hn:new.all (fun s=>s.own||match s with | .qK=>true | _=>false)=true)(h:kO P f args m v (m++new)):kO P f (AV.aez (fq ks M.length) args) M (v.ren (fq ks M.length)) (M++new.map (aek.ren (fq ks M.length))):=by
 refine⟨h.1,fun base μ w Vs hG hH hV=>?_⟩;have G:∀b,¬dQ m b:=by
  rintro b ⟨s,U,R⟩;have:=hm b s U;cases s with
  |qK=>cases R
  |cells own es cs=>simp only[aek.own] at R;subst R;exact this
  |map es=>exact this
  |aeO es=>cases R
  |loop r=>exact this
 have ZC:aes base (fun i=>μ (ks.getD i 0)) m w:=by
  refine⟨hH.aep,fun b s U=>?_,fun b S s' X=>absurd X (G b)⟩;have J:=hm b s U;cases s with
  |qK=>trivial
  |map es=>exact J.elim
  |aeO es=>
   obtain⟨YT,h1,I,h3⟩:=J;have U:∃L W,w.heap[(μ (ks.getD b 0)).blk]? =some (.map L W)∧Dq L W∧L.size=YT.length∧∀(j:Nat) e,YT[j]? =some e→∃E,L[j]? =some E∧Oz μ M.length e E:=by
    rcases h1 with h1 | h1
    ·have:=hH.slot _ _ h1;simpa only[aeu] using this
    ·have:=hH.slot _ _ h1
     simp only[aeu] at this;obtain⟨L,W,k1,k2,k3,k4⟩:=this;exact⟨L,W,k1,k2.2,k3,k4⟩
   obtain⟨L,W,k1,k2,k3,k4⟩:=U;simp only[aeu];refine⟨L,W,k1,k2,by omega,fun j e he=>?_⟩;obtain⟨⟨u1,u2⟩,u3⟩:=h3 j e he;obtain⟨E,hE,r1,r2⟩:=k4 j _ u3;rw[hl];exact⟨E,hE,aeg.afc u1 r1,aeg.afc u2 r2⟩
  |loop r=>exact J.elim
  |cells own es cs=>
   cases own with
   |true=>exact J.elim
   |false=>
    obtain⟨X,o,Ye,h1,I⟩:=J;have:=hH.slot _ _ h1;simp only[aeu] at this ⊢;obtain⟨cur,e,fr,g1,g2,g3,g4,_⟩:=this;refine⟨cur,e,fr,g1,g2,Nat.le_trans (zG I) g3,fun j u hj=>?_,fun h=>by cases h⟩;obtain⟨V,hV,hr⟩:=g4 j _ (I j u hj);rw[hl];exact⟨V,hV,aeg.afc (xU X j u hj) hr⟩
 have Y8:=aeh.afc ha hV;rw[←hl] at Y8;refine(h.2 base _ w Vs hG ZC Y8).mono ?_;rintro e w' ⟨V,v',mem',μ',rfl,q1,q2,q3,rfl,rfl⟩;have K:aeJ w w' :=⟨q3.size,fun k hk=>q3.frame k hk fun b X=>absurd X (G b),q3.os,q3.tape,q3.output,q3.drawn⟩;have F:∀b,dQ (m++new) b→w.heap.size≤(μ' b).blk:=by
  intro b X;by_cases D:(μ' b).blk<w.heap.size
  ·obtain⟨b0,h0,_⟩:=q3.owner b X D
   exact absurd h0 (G b0)
  ·omega
 obtain⟨μ2,H⟩:=xE (α:=Nat→Place) (fun b=>if b<M.length then μ b else μ' (b-M.length+m.length));have O:∀b,b<M.length→μ2 b=μ b:=fun b X=>by rw[H];simp[X]
 have C:∀i,μ2 (M.length+i)=μ' (m.length+i):=fun i=>by rw[H];simp only;rw[if_neg (by omega)];congr 1;omega
 have hρ:∀b S,b<(m++new).length→fq ks M.length b=some S →S <(M++new.map (aek.ren (fq ks M.length))).length∧μ2 S =μ' b:=by
  intro b S X N;simp only[List.length_append,List.length_map] at X ⊢;unfold fq at N;split at N
  ·rename_i D
   cases N;have YN:ks.getD b 0∈ks:=by rw[List.getD_eq_getElem?_getD,List.getElem?_eq_getElem D,Option.getD_some];exact List.getElem_mem D
   have:=hk _ YN;refine⟨by omega,?_⟩;rw[O _ this];exact(q3.agree b (by omega)).symm
  ·rename_i D
   cases N;refine⟨by omega,?_⟩;rw[C,show m.length+(b-ks.length)=b by omega]
 have Yw:∀b s,(M++new.map (aek.ren (fq ks M.length)))[b]? =some s→(b<M.length∧M[b]? =some s)∨∃i Z,b=M.length+i∧new[i]? =some Z∧s=Z.ren (fq ks M.length):=by
  intro b s U;by_cases X:b<M.length
  ·rw[List.getElem?_append_left X] at U
   exact .inl ⟨X,U⟩
  ·rw[List.getElem?_append_right (by omega),List.getElem?_map] at U
   simp only[Option.map_eq_some_iff] at U;obtain⟨Z,h1,I⟩:=U;exact .inr ⟨b-M.length,Z,by omega,h1,I.symm⟩
 have ZZ:∀i Z,new[i]? =some Z→(m++new)[m.length+i]? =some Z:=by intro i Z h;rw[List.getElem?_append_right (by omega),Nat.add_sub_cancel_left];exact h
 have Ze:∀i Z,new[i]? =some Z→Z≠ .qK→dQ (m++new) (m.length+i):=by intro i Z h B;refine⟨Z,ZZ i Z h,?_⟩;have:=List.all_eq_true.1 hn Z (List.mem_of_getElem? h);cases Z<;>simp_all
 have Zl:∀Z:aek,Z.ren (fq ks M.length)≠ .qK→Z≠ .qK:=by rintro Z h rfl;exact h rfl
 refine⟨V,_,_,μ2,rfl,q1.ren hρ,⟨Nat.le_trans hH.aep K.size,fun b s U=>?_,fun b S s' X N B Yo=>?_⟩,?_,rfl,rfl⟩
 ·rcases Yw b s U with⟨X,h1⟩ | ⟨i,Z,rfl,h1,rfl⟩
  ·rw[O b X]
   refine(hH.slot b s h1).mono (by simp) O fun B=>K.heap _ ((hH.slot b s h1).aeY B)
  ·rw[C]
   exact(q2.slot _ Z (ZZ i Z h1)).ren hρ
 ·obtain⟨s,U,R⟩:=X
  have A:=aek.aeP R;rcases Yw b s U with⟨X,h1⟩ | ⟨i,Z,rfl,h1,rfl⟩<;>rcases Yw S s' N with⟨N,Yz⟩ | ⟨i',Y,rfl,Yz,rfl⟩
  ·rw[O b X,O S N]
   exact hH.sep b S s' ⟨s,h1,R⟩ Yz B Yo
  ·rw[O b X,C]
   have g1:=(hH.slot b s h1).aeY A;have g2:=F _ (Ze i' Y Yz (Zl _ B));omega
  ·rw[O S N,C]
   have g1:=(hH.slot S s' Yz).aeY B;have g2:=F _ (Ze i Z h1 (Zl _ A));omega
  ·rw[C,C]
   exact q2.sep _ _ Y (Ze i Z h1 (Zl _ A)) (ZZ i' Y Yz) (Zl _ B) (by omega)
 ·refine⟨by simp,O,K.os,K.tape,K.output,K.size,fun k hk _=>K.heap k hk,fun b X D=>?_,K.drawn⟩
  obtain⟨s,U,R⟩:=X;rcases Yw b s U with⟨X,h1⟩ | ⟨i,Z,rfl,h1,rfl⟩
  ·exact⟨b,⟨s,h1,R⟩,by rw[O b X]⟩
  ·rw[C] at D
   have:=F _ (Ze i Z h1 (Zl _ (aek.aeP R)));omega
end
def iN(k:IntKind)(l:List Nat):List AV:=l.map fun n:Nat=>.int k (n:Int)
def iZ(l:List Int):List AV:=l.map fun n=>.int .i64 n
section
variable (k:IntKind)
theorem RR:iN k []=[]:=rfl
theorem cB(n:Nat)(l:List Nat):iN k (n::l)=.int k (n:Int)::iN k l:=rfl
theorem RQ(l:List Nat):(iN k l).length=l.length:=by simp[iN]
theorem dU(l r:List Nat):iN k (l++r)=iN k l++iN k r:=by simp[iN]
section
variable (l:List Nat)
include l
theorem VM(n:Nat):iN k l++[.int k (n:Int)]=iN k (l++[n]):=by simp[iN]
theorem RP(i:Nat):(iN k l)[i]? =(l[i]?).map fun n:Nat=>.int k (n:Int):=by simp[iN]
theorem PV(i:Nat)(h:i<(iN k l).length):(iN k l)[i]=.int k ((l[i]'(by simpa [iN] using h):Nat):Int):=by simp[iN]
theorem iu(i:Nat):(iN k l).take i=iN k (l.take i):=by simp[iN]
theorem ra(i:Nat):(iN k l).drop i=iN k (l.drop i):=by simp[iN]
theorem WH:(iN k l).all AV.aei=true:=by simp[iN,AV.aei]
end
theorem Of(m:Nat)(l:List Nat):AV.aew m (iN k l)=[]:=by
 induction l with
 |nil=>rfl
 |cons x l ih=>simp[cB,AV.aew,AV.refs,ih]
theorem SE(ρ:Nat→Option Nat)(l:List Nat):AV.aez ρ (iN k l)=iN k l:=by
 induction l with
 |nil=>rfl
 |cons x l ih=>simp[cB,AV.aez,AV.ren,ih]
theorem KX(m:Nat)(l:List Nat):AV.aen m (iN k l)=true:=by
 induction l with
 |nil=>rfl
 |cons x l ih=>simp[cB,AV.aen,AV.under,ih]
theorem DX(ok:Nat→Bool)(l:List Nat):AV.ael ok (iN k l)=true:=by
 induction l with
 |nil=>rfl
 |cons x l ih=>simp[cB,AV.ael,AV.aef,ih]
theorem KK(m:Nat)(o:Bool)(e:Nat)(l:List Nat):aek.refs m (.cells o e (iN k l))=[]:=by simp[aek.refs,Of]
theorem Nk(ρ:Nat→Option Nat)(o:Bool)(e:Nat)(l:List Nat):aek.ren ρ (.cells o e (iN k l))=.cells o e (iN k l):=by simp[aek.ren,SE]
theorem Dl(ok:Nat→Bool)(o:Bool)(e:Nat)(l:List Nat):aek.aef ok (.cells o e (iN k l))=true:=by simp[aek.aef,DX]
theorem vJ(l:Nat):fS [.int k 0] l=iN k (List.replicate l 0):=by
 induction l with
 |zero=>rfl
 |succ l ih=>rw[fS,ih,List.replicate_succ,cB];rfl
end
attribute [simp] RR RQ RP PV Of SE KX DX KK Nk Dl WH
attribute [simp] Gj xQ TyI.isAgg aek.refs aek.ren AV.under AV.aen aek.own oJ kj mq zJ sV sW Wg fK pP fS AV.known AV.cells AV.aei
def BU(k:IntKind):List AV→Option (List Nat)
 | []=>some []
 |.int k' n::l=>if k' =k∧0≤n then match BU k l with
  |some r=>some (n.toNat::r)
  |none=>none
  else none
 |_::_=>none
theorem Sh(k:IntKind)(l:List Nat):BU k (iN k l)=some l:=by
 induction l with
 |nil=>rfl
 |cons x l ih=>rw[cB,BU,if_pos ⟨rfl,by omega⟩,ih];simp
theorem BV{k:IntKind}:∀{l:List AV} {r:List Nat},BU k l=some r→l=iN k r
 | [],r,h=>by cases h;rfl
 |v::l,r,h=>by
  cases v<;>first | (unfold BU at h;cases h;done) | skip
  rename_i V n;unfold BU at h;split at h
  ·rename_i Z
   split at h
   ·rename_i U X
    cases h;rw[cB,BV X,Z.1];congr 2;omega
   ·cases h
  ·cases h
theorem dW{l:List Nat}{i:Nat}(h:i<l.length):∃x,l[i]? =some x∧l[i]=x:=⟨l[i],by simp,rfl⟩
mutual
theorem yB{n:Nat}:∀{v:AV},v.closed=true→v.under n=true
 |.ptr _ _,h=>by simp[AV.closed] at h
 |.slice _ _ _ _,h=>by simp[AV.closed] at h
 |.map _,h=>by simp[AV.closed] at h
 |.yield _,h=>by simp[AV.closed] at h
 |.func _ Z,h=>by simp only[AV.closed] at h;simp only[AV.under];exact aX h
 |.iface _ v,h=>by simp only[AV.closed] at h;simp only[AV.under];exact yB h
 |.agg Z,h=>by simp only[AV.closed] at h;simp only[AV.under];exact aX h
 |.tuple Z,h=>by simp only[AV.closed] at h;simp only[AV.under];exact aX h
 |.undef,_=>rfl
 |.bool _,_=>rfl
 |.int _ _,_=>rfl
 |.str _,_=>rfl
 |.aet,_=>rfl
 |.qF,_=>rfl
 |.aeF,_=>rfl
 |.nilFunc,_=>rfl
 |.nilIface,_=>rfl
theorem aX{n:Nat}:∀{vs:List AV},AV.aej vs=true→AV.aen n vs=true
 | [],_=>rfl
 |v::vs,h=>by simp only[AV.aej,Bool.and_eq_true] at h;simp only[AV.aen,yB h.1,aX h.2];rfl
end
mutual
theorem DZ{ρ:Nat→Option Nat}:∀{v:AV},v.closed=true→v.ren ρ=v
 |.ptr _ _,h=>by simp[AV.closed] at h
 |.slice _ _ _ _,h=>by simp[AV.closed] at h
 |.map _,h=>by simp[AV.closed] at h
 |.yield _,h=>by simp[AV.closed] at h
 |.func _ Z,h=>by simp only[AV.closed] at h;simp only[AV.ren,aL h]
 |.iface _ v,h=>by simp only[AV.closed] at h;simp only[AV.ren,DZ h]
 |.agg Z,h=>by simp only[AV.closed] at h;simp only[AV.ren,aL h]
 |.tuple Z,h=>by simp only[AV.closed] at h;simp only[AV.ren,aL h]
 |.undef,_=>rfl
 |.bool _,_=>rfl
 |.int _ _,_=>rfl
 |.str _,_=>rfl
 |.aet,_=>rfl
 |.qF,_=>rfl
 |.aeF,_=>rfl
 |.nilFunc,_=>rfl
 |.nilIface,_=>rfl
theorem aL{ρ:Nat→Option Nat}:∀{vs:List AV},AV.aej vs=true→AV.aez ρ vs=vs
 | [],_=>rfl
 |v::vs,h=>by simp only[AV.aej,Bool.and_eq_true] at h;simp only[AV.aez,DZ h.1,aL h.2]
end
theorem pf(s n:Nat):(s:Int).tmod (n:Int)=((s%n:Nat):Int):=rfl
theorem pe(s n:Nat):(s:Int).tdiv (n:Int)=((s / n:Nat):Int):=rfl
theorem Af(s n:Nat):(s:Int).tmod (OfNat.ofNat n)=((s%n:Nat):Int):=rfl
theorem U2(s n:Nat):(s:Int).tdiv (OfNat.ofNat n)=((s / n:Nat):Int):=rfl
theorem KJ(m:Nat)(a b:List AV):AV.aew m (a++b)=AV.aew m a++AV.aew m b:=by
 induction a with
 |nil=>rfl
 |cons x a ih=>simp[AV.aew,ih]
theorem Nn(ρ:Nat→Option Nat)(a b:List AV):AV.aez ρ (a++b)=AV.aez ρ a++AV.aez ρ b:=by
 induction a with
 |nil=>rfl
 |cons x a ih=>simp[AV.aez,ih]
theorem jy(ok:Nat→Bool)(a b:List AV):AV.ael ok (a++b)=(AV.ael ok a&&AV.ael ok b):=by
 induction a with
 |nil=>rfl
 |cons x a ih=>simp[AV.ael,ih,Bool.and_assoc]
attribute [simp] KJ Nn jy
def aev(k:IntKind)(M:Mem)(x:AV)(A:List Nat):Prop:=∃b o Z,x=.slice b 0 A.length none∧M[b]? =some (.cells o 1 Z)∧Z.take A.length=iN k A
def bP(k:IntKind)(M:Mem):AV→Option (List Nat)
 |.slice b 0 n none=>match M[b]? with
  |some (.cells _ 1 cs)=>if n≤cs.length then BU k (cs.take n) else none
  |_=>none
 |_=>none
theorem bU{k:IntKind}{M:Mem}{x:AV}{A:List Nat}(h:bP k M x=some A):aev k M x A:=by
 unfold bP at h;split at h
 ·rename_i b n
  split at h
  ·rename_i o X V
   split at h
   ·rename_i S
    have Z:=BV h;have U:n=A.length:=by have:=congrArg List.length Z;simp at this;omega
    subst U;exact⟨b,o,X,rfl,V,Z⟩
   ·cases h
  ·cases h
 ·cases h
variable{b:Nat}{cs:List AV}
theorem bz{k:IntKind}{M:Mem}{n:Nat}{H:Bool}{A:List Nat}(h:M[b]? =some (.cells H 1 cs))(I:n≤cs.length)(J:cs.take n=iN k A):bP k M (.slice b 0 n none)=some A:=by simp only[bP,h];rw[if_pos I,J,Sh]
variable{o:Bool}
theorem ae2.row{k:IntKind}{ks:List Nat}{M:Mem}{A:List Nat}(h:M[b]? =some (.cells o 1 cs))(H:cs.take A.length=iN k A):ae2 ks M b (.cells false 1 (iN k A)):=by
 refine⟨KX _ _ _,o,cs,h,fun j v Z=>?_⟩;have X:j<A.length:=by have:=gL Z;simpa using this
 have:cs[j]? =(iN k A)[j]? :=by rw[←H,List.getElem?_take_of_lt X]
 rw[this,Z];rw[RP] at Z;simp only[Option.map_eq_some_iff] at Z;obtain⟨n,_,rfl⟩:=Z;simp[AV.ren]
section
variable {P:Program}{k:IntKind}{f:FuncId}{A B:List Nat}{M:Mem}{x y:AV}
theorem kO.ago{rest:List AV}{v:AV}{new:Mem}(hr:AV.aej rest=true)(H:new.all (fun s=>s.own||match s with | .qK=>true | _=>false)=true)(h:kO P f (.slice 0 0 A.length none::rest) [.cells false 1 (iN k A)] v (.cells false 1 (iN k A)::new))(I:aev k M x A):
  ∃b,x=.slice b 0 A.length none∧kO P f (x::rest) M (v.ren (fq [b] M.length)) (M++new.map (aek.ren (fq [b] M.length))):=by
 obtain⟨b,o,cs,rfl,X,V⟩:=I;refine⟨b,rfl,?_⟩;have U:=gL X;have:=kO.frame (M:=M) [b] (m:=[.cells false 1 (iN k A)]) rfl (by simpa using U) (by simp only[AV.aen,AV.under,aX hr];rfl) (fun i s Z=>by
  cases i with
  |zero=>simp at Z;subst Z;exact .row X V
  |succ i=>simp at Z) H h
 simpa [AV.aez,AV.ren,fq,aL hr] using this
theorem kO.afn{v:AV}{new:Mem}(H:new.all (fun s=>s.own||match s with | .qK=>true | _=>false)=true)(h:kO P f [.slice 0 0 A.length none,.slice 1 0 B.length none] [.cells false 1 (iN k A),.cells false 1 (iN k B)] v (.cells false 1 (iN k A)::.cells false 1 (iN k B)::new))(I:aev k M x A)(J:aev k M y B):
  ∃b c,x=.slice b 0 A.length none∧y=.slice c 0 B.length none∧kO P f [x,y] M (v.ren (fq [b,c] M.length)) (M++new.map (aek.ren (fq [b,c] M.length))):=by
 obtain⟨b,o,cs,rfl,V,S⟩:=I;obtain⟨c,N,L,rfl,U,X⟩:=J;refine⟨b,c,rfl,rfl,?_⟩;have R:=gL V;have O :=gL U;have:=kO.frame (M:=M) [b,c] (m:=[.cells false 1 (iN k A),.cells false 1 (iN k B)]) rfl (by simp[R,O]) (by simp) (fun i s Z=>by
  match i with
  |0=>simp at Z;subst Z;exact .row V S
  |1=>simp at Z;subst Z;exact .row U X
  |i+2=>simp at Z) H h
 simpa [AV.aez,AV.ren,fq] using this
theorem kO.af5{args:List AV}{m:Mem}{v:AV}{es:Nat}{H :List AV}(h:kO P f args m v (m++[aek.cells o es cs]))(I:H <+: cs):kO P f args m v (m++[aek.cells o es H]):=by
 refine⟨h.1,fun base μ w Vs hG hH hV=>(h.2 base μ w Vs hG hH hV).mono ?_⟩;rintro e w' ⟨V,v',m',μ',rfl,q1,q2,q3,rfl,rfl⟩;have U:∀b Z,(m++[aek.cells o es H])[b]? =some Z→∃S,(m++[aek.cells o es cs])[b]? =some S∧S.own=Z.own∧(S=.qK→Z=.qK)∧aeu μ' (m++[aek.cells o es cs]).length base w' (μ' b) Z:=by
  intro b Z X;by_cases O:b<m.length
  ·rw[List.getElem?_append_left O] at X
   have R :(m++[aek.cells o es cs])[b]? =some Z:=gU X _;exact⟨Z,R,rfl,id,q2.slot b Z R⟩
  ·have D:b=m.length:=by have:=gL X;simp at this;omega
   subst D;simp at X;subst X;have R :(m++[aek.cells o es cs])[m.length]? =some (aek.cells o es cs):=by simp
   refine⟨_,R,rfl,(fun h=>by cases h),?_⟩;have:=q2.slot _ _ R;simp only[aeu] at this ⊢;obtain⟨N,el,C,L,K,g3,Y,W⟩:=this;refine⟨N,el,C,L,K,Nat.le_trans I.length_le g3,fun j u F=>Y j u ?_,W⟩;obtain⟨t,rfl⟩:=I;rw[List.getElem?_append_left (gL F)];exact F
 have G:(m++[aek.cells o es H]).length=(m++[aek.cells o es cs]).length:=by simp
 refine⟨V,_,_,μ',rfl,by rw[G];exact q1,q2.swap G U,⟨by rw[G];exact q3.len,q3.agree,q3.os,q3.tape,q3.output,q3.size,q3.frame,fun b X O=>?_,q3.drawn⟩,rfl,rfl⟩;obtain⟨s,L,K⟩:=X;obtain⟨S,J,k2,_,_⟩:=U b s L;exact q3.owner b ⟨S,J,by rw[k2];exact K⟩ O
end
end Go.Eng
namespace Go.Eng
def pW(P:Program)(c:Callee)(args:List AV)(m:Mem)(r:aee):Prop:=
 (match c with
  |.fn f=>kO P f args m r.v (r.mem m)
  |.yld b=>fO P b args m r.v (r.mem m))∧∀q,r.pre=some q→q.length=m.length
open Classical in
theorem iV{P:Program}{ι:Type}(p:ι→Prop)(c:ι→Callee)(a:ι→List AV)(m:ι→Mem)(r:ι→aee)(H:∀i,p i→pW P (c i) (a i) (m i) (r i))(hc:∀i j,p i→p j→c i=c j→a i=a j→m i=m j→r i=r j):∃O:y9,qS P O∧∀i,p i→O (c i) (a i) (m i)=some (r i):=by
 refine⟨fun S X V =>if h:∃i,p i∧c i=S ∧a i=X ∧m i=V then some (r (Classical.choose h)) else none,?_,fun i K=>?_⟩
 ·have U:∀S X V R,(if h:∃i,p i∧c i=S ∧a i=X ∧m i=V then some (r (Classical.choose h)) else none)=some R →pW P S X V R :=by
   intro S X V R h;split at h
   ·rename_i Z
    obtain⟨N,M,h3,L⟩:=Classical.choose_spec Z;cases h;have:=H _ N;rw[M,h3,L] at this;exact this
   ·cases h
  exact⟨fun f X V R h=>(U _ _ _ _ h).1,fun b X V R h=>(U _ _ _ _ h).1,fun S X V R q h G=>(U _ _ _ _ h).2 q G⟩
 ·have Z:∃j,p j∧c j=c i∧a j=a i∧m j=m i:=⟨i,K,rfl,rfl,rfl⟩
  simp only[dif_pos Z];obtain⟨N,M,h3,L⟩:=Classical.choose_spec Z;rw[hc _ _ N K M h3 L]
variable{n:Nat}{r:afk}
theorem wh(h:r.env.flatMap (fun e=>e.2.refs n)=[]):aek.refs n (.loop r)=[]:=h
variable{ks:List Nat}
theorem Og(h:r.env.flatMap (fun e=>e.2.refs n)=[]):aek.ren (rho n ks) (.loop r)=.loop r:=aek.aex (wh h)
theorem FR{m:Mem}(h:∀s∈m,s.refs n=[]):m.flatMap (aek.refs n)=[]:=by rw[List.flatMap_eq_nil_iff];exact h
theorem yH{m:Mem}(h:∀s∈m,s.refs n=[]):m.map (aek.ren (rho n ks))=m:=by
 conv=>rhs;rw[←List.map_id m]
 apply List.map_congr_left;intro s Z;rw[aek.aex (h s Z)];rfl
variable{G:FuncId→Option Func}{c:Code}{e:Exit}{fn:Func}{mem mem' :Mem}
section
variable{T:TypeId→Option TyI}{lv:Code→List Nat}{O:y9}
include T lv O
theorem JV{K:Nat}{f:FuncId}{args:List AV}{v:AV}{J :Env}(hf:G f=some fn)(Y:fn.body=some c)(hl:args.length≤fn.ntmps)(he:e=.normal∨e=.ret)(h:aS T lv O K fn.ntmps mem.length true c ⟨dh 0 args,mem,false⟩=some (e,⟨J,mem',true⟩))(W:iW T fn.results.toList J mem' =some v)(H':mem'.length=mem.length)(H:v.refs mem.length=[])(I:∀s∈mem',s.refs mem.length=[]):aa T lv G O K f args mem=some ⟨v,some mem',[]⟩:=by
 have Z:mem'.take mem.length=mem' :=List.take_of_length_le (by omega);unfold aa;simp only[hf,Y];rw[if_pos hl,h];have X:pR mem.length mem' 1000 (v.refs mem.length++(mem'.take mem.length).flatMap (aek.refs mem.length)) []=[]:=by rw[H,Z,FR I];rfl
 rcases he with rfl | rfl
 ·simp only[W,if_true]
  rw[X,Z];simp[Di,ae1,yH I,AV.aex H]
 ·simp only[W,if_true]
  rw[X,Z];simp[Di,ae1,yH I,AV.aex H]
theorem uy{K N m0:Nat}{tp:Bool}{b:Code}{L:List Nat}(J:lv b=L)(d0 d1:Bool)(I:Env→Prop)(H:Env→Env→Prop)(h:∀Z,I Z→∃X,fy L (ae b) Z mem.length (aS T lv O K N m0 tp b) K ⟨aw L (ae b) Z Z,mem,d0⟩=some (e,⟨X,mem',d1⟩)∧H Z X):
  ∃F:Env→Env,∀Z,I Z→aS T lv O K N m0 tp (.loop b) ⟨Z,mem,d0⟩=some (e,⟨F Z,mem',d1⟩)∧H Z (F Z):=by
 obtain⟨F,S⟩:=rO (p:=fun Z _=>I Z) (q:=fun Z _ U =>aS T lv O K N m0 tp (.loop b) ⟨Z,mem,d0⟩=some (e,⟨U,mem',d1⟩)∧H Z U) (fun Z _ V=>by obtain⟨X,R,M⟩:=h Z V;exact⟨X,by rw[bh,J];exact R,M⟩)
 exact⟨fun Z=>F Z true,fun Z V=>S Z true V⟩
end
def fH:Code→List (Array Tmp×Code×Code)
 |.seq a b=>fH a++fH b
 |.cond _ a b=>fH a++fH b
 |.block _ b=>fH b
 |.loop b=>fH b
 |.rangeFunc _ ps a b=>[(ps,a,b)]
 |_=>[]
def dZ(f:Func):List (Array Tmp×Code×Code):=match f.body with
 |some c=>fH c
 |none=>[]
theorem Ni{env:Env}(h:env.flatMap (fun e=>e.2.refs n)=[]):rK (rho n ks) env=env:=by
 unfold rK;rw[List.flatMap_eq_nil_iff] at h;conv=>rhs;rw[←List.map_id env]
 apply List.map_congr_left;intro e Z;rw[AV.aex (h e Z)];rfl
attribute [simp] aek.aef
theorem cq{P:Program}{O:y9}(key:∀c Z M r,O c Z M=some r→pW P c Z M r):qS P O:=
 ⟨fun f Z M r h=>(key _ _ _ _ h).1,fun b Z M r h=>(key _ _ _ _ h).1,fun c Z M r p h X=>(key _ _ _ _ h).2 p X⟩
variable{M:Mem}
theorem eW{P:Program}{O:y9}(H:qS P O){c:Go.Eng.Callee}{args:List AV}{r:aee}(h:O c args M=some r):pW P c args M r:=by
 refine⟨?_,fun q Z=>H.pre _ _ _ _ _ h Z⟩;cases c with
 |fn f=>exact H.fn _ _ _ _ h
 |yld b=>exact H.yld _ _ _ _ h
theorem aC{P:Program}{f:FuncId}{args:List AV}{new:Mem}{v:AV}(h:kO P f args M v (M++new)):pW P (.fn f) args M ⟨v,none,new⟩:=⟨h,fun q Z=>by cases Z⟩
theorem aW{P:Program}{f:FuncId}{args:List AV}{v:AV}(h:kO P f args M v M):pW P (.fn f) args M ⟨v,none,[]⟩:=aC (by simpa using h)
def afP(s s' :aek):Prop:=s=s' ∨∃o es Z X,s' =.cells o es Z∧s=.cells o es X ∧X <+: Z
theorem afP.row{k:IntKind}{o:Bool}{es:Nat}{l r:List Nat}(h:l <+: r):afP (.cells o es (iN k l)) (.cells o es (iN k r)):=by obtain⟨t,rfl⟩:=h;exact .inr ⟨o,es,_,_,rfl,rfl,iN k t,by rw[←dU]⟩
theorem kO.afs{P:Program}{f:FuncId}{args:List AV}{m H m2:Mem}{v:AV}(h:kO P f args m v H)(I:m2.length=H.length)(hc:∀(b:Nat) s,m2[b]? =some s→∃R,H[b]? =some R ∧afP s R):kO P f args m v m2:=by
 refine⟨h.1,fun base μ w Vs hG hH hV=>(h.2 base μ w Vs hG hH hV).mono ?_⟩;rintro e w' ⟨V,v',m',μ',rfl,q1,q2,q3,rfl,rfl⟩;have X:∀b Z,m2[b]? =some Z→∃U,m'[b]? =some U∧U.own=Z.own∧(U=.qK→Z=.qK)∧aeu μ' m'.length base w' (μ' b) Z:=by
  intro b Z O;obtain⟨R,S,C⟩:=hc b Z O;rcases C with rfl | ⟨o,es,cs,Ye,rfl,rfl,F⟩
  ·exact⟨Z,S,rfl,id,q2.slot b Z S⟩
  ·refine⟨_,S,rfl,(fun h=>by cases h),?_⟩
   have:=q2.slot _ _ S;simp only[aeu] at this ⊢;obtain⟨N,el,B,L,K,g3,A,Y⟩:=this;refine⟨N,el,B,L,K,Nat.le_trans F.length_le g3,fun j u D=>A j u ?_,Y⟩;obtain⟨t,rfl⟩:=F;rw[List.getElem?_append_left (gL D)];exact D
 refine⟨V,v',m2,μ',rfl,by rw[I];exact q1,q2.swap I X,⟨by rw[I];exact q3.len,q3.agree,q3.os,q3.tape,q3.output,q3.size,q3.frame,fun b O W=>?_,q3.drawn⟩,rfl,rfl⟩;obtain⟨s,L,K⟩:=O;obtain⟨U,J,k2,_,_⟩:=X b s L;exact q3.owner b ⟨U,J,by rw[k2];exact K⟩ W
variable{R:AV→Mem→Prop}
section
variable {P:Program}{T:TypeId→Option TyI}{O:y9}{K:Nat}{lv:Code→List Nat}
theorem aeQ.afd(hT:cK P T){f:FuncId}{args:List AV}(hf:P.funcs[f]? =some fn)(H:fn.body=some c)(I:(fn.name == "runtime.NumGoroutine")=false)(J:args.length≤fn.ntmps)(h:AWP P true fn.ntmps mem.length c ⟨dh 0 args,mem⟩ fun e U =>(e=.normal∨e=.ret)∧∃v,iW T fn.results.toList U.env U.mem=some v∧R v U.mem):
  aeQ P f args mem R:=by
 refine⟨⟨fn,hf,by simp[H],I⟩,fun base μ w Vs hG hH hV=>?_⟩;refine zU.1 (callsIn_of_wp_marks (F:=Fr none) (n:=0) hf H trivial (wpIn_mono (h none w.heap.size base μ w _ (fun _=>rfl) hH ?_ ?_ (MOk.nil w hG hH.aep (Nat.le_refl _)) (Nat.le_refl _)) ?_) rfl)
 ·intro t
  have:=xI 0 hV t;simp only[Nat.not_lt_zero,if_false,Nat.sub_zero] at this;by_cases N:t<Vs.length
  ·have e:(⟨Vs⟩++Array.replicate (fn.ntmps-(⟨Vs⟩:Array Value).size) undef:Array Value).getD t undef=Vs.getD t undef:=by simp only[Array.getD_eq_getD_getElem?];rw[Array.getElem?_append_left (by simpa using N)];simp[List.getD]
   show aeg μ mem.length (ad (dh 0 args) t) ((⟨Vs⟩++Array.replicate (fn.ntmps-(⟨Vs⟩:Array Value).size) undef:Array Value).getD t undef)
   rw[e];exact this
  ·have:ad (dh 0 args) t=.undef:=by
    have A:=hV.length;have:∀(X:List AV) (i:Nat),i+X.length≤t→ad (dh i X) t=.undef:=by
     intro X;induction X with
     |nil=>intro i _;rfl
     |cons v X ih=>
      intro i L;simp only[List.length_cons] at L;simp only[dh,ad];rw[if_neg (by omega)];exact ih (i+1) (by omega)
    exact this args 0 (by omega)
   show aeg μ mem.length (ad (dh 0 args) t) _
   rw[this];simp[aeg]
 ·simp only[Array.size_append,List.size_toArray,Array.size_replicate,hV.length];omega
 ·rintro e a' w' ⟨U,μ',b1,b2,b3,b4,b5,b6,he,v,hv,hR⟩
  have Z:LeavesInM (Fr none) 0 P fn a'.tmps (fun e w' =>∃V v mem' μ',e=.returned V∧aeg μ' mem'.length v V∧aes base μ' mem' w' ∧Step mem.length μ mem w μ' mem' w' ∧R v mem') a'.defers .returning w' :=by
   refine rq a'.defers w' b4 b1 b6 fun w2 S D=>?_
   obtain⟨V,C,B⟩:=td (P:=P) (fn:=fn) hT S b2 hv;exact⟨V,C,⟨V,_,_,_,rfl,B,S,D,hR⟩⟩
  rcases he with rfl | rfl
  ·exact Z
  ·exact Z
def cJ(T:TypeId→Option TyI)(lv:Code→List Nat)(G:FuncId→Option Func)(O:y9)(K:Nat)(f:FuncId)(args:List AV)(mem:Mem):Option (AV×Mem):=
 match G f with
 |none=>none
 |some fn=>match fn.body with
  |none=>none
  |some c=>
   if args.length≤fn.ntmps then
    match aS T lv O K fn.ntmps mem.length true c ⟨dh 0 args,mem,false⟩ with
    |some (e,s)=>
     match e with
     |.normal | .ret=>
      match iW T fn.results.toList s.env s.mem with
      |some v=>some (v,s.mem)
      |none=>none
     |_=>none
    |none=>none
   else none
theorem bY(H:P.follows .mixedOrders=true)(hT:cK P T)(I:qS P O)(J:afw P G){f:FuncId}{args:List AV}{v:AV}(h:cJ T lv G O K f args mem=some (v,mem')):kO P f args mem v mem' :=by
 unfold cJ at h;split at h
 ·cases h
 ·rename_i fn X
  obtain⟨S,N,g3⟩:=J.fn _ _ X;split at h
  ·cases h
  ·rename_i c U
   split at h
   ·rename_i L
    split at h
    ·rename_i e s F
     obtain⟨D,_⟩:=cY H hT I (g3 c U) F;have Z:(e=.normal∨e=.ret)→(match iW T fn.results.toList s.env s.mem with
      |some v=>some (v,s.mem)
      |none=>none)=some (v,mem')→kO P f args mem v mem' :=by
      intro V h;split at h
      ·rename_i v C
       cases h;exact aeQ.afd hT S U N L (D _ ⟨V,_,C,rfl,rfl⟩)
      ·cases h
     split at h
     ·exact Z (.inl rfl) h
     ·exact Z (.inr rfl) h
     ·cases h
    ·cases h
   ·cases h
theorem ae0.afd{b:Nat}{args:List AV}(hb:mem[b]? =some (.loop r))(I:r.st=.ready)(hl:args.length=r.ps.toList.length)(H:∀t∈r.ps.toList,t<r.N)(h:AWP P false r.N mem.length r.assign ⟨yz r.ps.toList args r.env,mem⟩ fun e Z=>e=.normal∧∃r1,Z.mem[b]? =some (.loop r1)∧r1.st=.ready∧
   AWP P false r.N mem.length r.body ⟨Z.env,Z.mem.set b (.loop { r1 with st:=.busy })⟩ fun e X=>∃r2 j,rl e=some j∧X.mem[b]? =some (.loop r2)∧
    R (.bool j.isNone) (X.mem.set b (.loop { r2 with st:=mA j,afj:=j }))):
  ae0 P b args mem R:=by
 intro base μ w Vs hG hH hV YJ;have u:=hH.slot b _ hb;simp only[aeu] at u;obtain⟨L,h1,h2,h3⟩:=u;have H':Vs.length=L.params.size:=by rw[hV.length,hl,h3.ps];simp
 refine⟨L.fn,(L.params.zip ⟨Vs⟩).foldl (fun tmps (t,a)=>tmps.setIfInBounds t a) L.tmps,L.assign,L.body,?_,?_⟩
 ·simp only[Instr.yield,Sem.run_bind,iq h1,Result.andThen_ok]
  rw[if_neg (by simp[H'])];rfl
 ·refine roundIn_of_wpIn (F:=Fence.wide) trivial ?_
  have U:(L.params.zip ⟨Vs⟩).foldl (fun tmps (t,a)=>tmps.setIfInBounds t a) L.tmps=(r.ps.toList.zip Vs).foldl (fun tmps (t,a)=>tmps.setIfInBounds t a) L.tmps:=by rw[h3.ps,←Array.foldl_toList];simp
  have o:=FH (ts:=r.ps.toList) hV h3.tmps hl (fun t ht=>by rw[h3.size];exact H t ht);rw[h3.assign,h3.body];refine wpIn_mono (F:=Fr (some (μ b).blk)) (h (some (μ b).blk) w.heap.size base μ w ⟨_,[]⟩ (fun h=>by cases h) hH (by rw[U];exact o.1) (by rw[U,o.2];exact h3.size) (MOk.nil w hG hH.aep (Nat.le_refl _)) (Nat.le_refl _)) ?_;rintro e a1 w1 ⟨Z,μ1,c1,c2,c3,c4,c5,c6,rfl,r1,c7,c8,hbody⟩;have S:=c1.slot b _ c7;simp only[aeu] at S;obtain⟨L1,d1,d2,d3⟩:=S;have hμ:μ1 b=μ b:=c6.agree b YJ;rw[hμ] at d1;obtain⟨m,Y,C⟩:=vP (P:=P) (r' :={ r1 with st:=.busy }) (L' :={ L1 with state:=.busy }) c1 c7 (by rw[hμ];exact d1) { d3 with st:=rfl };rw[hμ] at m Y C;refine⟨_,?_,wpIn_mono (F:=Fr (some (μ b).blk)) (hbody (some (μ b).blk) w.heap.size base μ1 _ a1 (fun h=>by cases h) Y (by rw[List.length_set];exact c2) c3 (c4.step c1 C) (by rw[List.length_set];exact c5)) ?_⟩
  ·simp only[Instr.beginRound,Sem.run_bind,iq d1,Result.andThen_ok,m]
   rw[d3.st,c8];rfl
  ·rintro e a2 w2 ⟨X,μ2,f1,f2,f3,f4,f5,f6,r2,j,f7,f8,f10⟩
   have D:=f1.slot b _ f8;simp only[aeu] at D;obtain⟨L2,g1,g2,g3⟩:=D;have hμ2:μ2 b=μ b:=by rw[f6.agree b YJ,hμ]
   rw[hμ2] at g1;obtain⟨B,W,J⟩:=vP (P:=P) (r' :={ r2 with st:=mA j,afj:=j }) (L' :={ L2 with state:=mA j,pending:=j }) f1 f8 (by rw[hμ2];exact g1) { g3 with st:=rfl,afj:=rfl };rw[hμ2] at B W J;have XP:(Instr.endRound (μ b).blk j).run P w2=.ok (.bool j.isNone) { w2 with heap:=w2.heap.setIfInBounds (μ b).blk (.loop { L2 with state:=mA j,pending:=j }) }:=by unfold mA at B ⊢;simp only[Instr.endRound,Sem.run_bind,iq g1,Result.andThen_ok,B];rfl
   have hS:Step mem.length μ mem w _ _ _:=((c6.trans (C.mono c5)).trans f6).trans (J.mono f5);have A:∃V v mem' μ',(Ending.returned (.bool j.isNone):Ending)=.returned V∧aeg μ' mem'.length v V∧aes base μ' mem' { w2 with heap:=w2.heap.setIfInBounds (μ b).blk (.loop { L2 with state:=mA j,pending:=j }) }∧
     Step mem.length μ mem w μ' mem' { w2 with heap:=w2.heap.setIfInBounds (μ b).blk (.loop { L2 with state:=mA j,pending:=j }) }∧R v mem' :=
    ⟨_,.bool j.isNone,_,_,rfl,by simp[aeg],W,hS,f10⟩
   cases e<;>simp only[rl,Option.some.injEq,reduceCtorEq] at f7<;>subst f7<;>exact⟨_,_,XP,A⟩
def fV(T:TypeId→Option TyI)(lv:Code→List Nat)(O:y9)(K:Nat)(b:Nat)(args:List AV)(mem:Mem):Option (AV×Mem):=
 match mem[b]? with
 |some (.loop r)=>
  if r.st== .ready&&decide (args.length=r.ps.toList.length)&&r.ps.toList.all (fun t=>decide (t<r.N))&&cC r.assign&&cC r.body then
   match aS T lv O K r.N mem.length false r.assign ⟨yz r.ps.toList args r.env,mem,true⟩ with
   |some (.normal,s1)=>match s1.mem[b]? with
    |some (.loop r1)=>
     if r1.st== .ready then
      match aS T lv O K r.N mem.length false r.body ⟨s1.env,s1.mem.set b (.loop { r1 with st:=.busy }),true⟩ with
      |some (e,s2)=>match rl e,s2.mem[b]? with
       |some j,some (.loop r2)=>some (.bool j.isNone,s2.mem.set b (.loop { r2 with st:=mA j,afj:=j }))
       |_,_=>none
      |none=>none
     else none
    |_=>none
   |_=>none
  else none
 |_=>none
theorem ic(H:P.follows .mixedOrders=true)(hT:cK P T)(I:qS P O){b:Nat}{args:List AV}{v:AV}(h:fV T lv O K b args mem=some (v,mem')):fO P b args mem v mem' :=by
 unfold fV at h;split at h
 ·rename_i W X
  split at h
  ·rename_i V
   simp only[Bool.and_eq_true,decide_eq_true_eq,List.all_eq_true] at V;obtain⟨⟨⟨⟨U,S⟩,N⟩,L⟩,F⟩:=V;have Z:∀{x:LoopState},(x== .ready)=true→x=.ready:=fun {x} h=>by cases x<;>first | rfl | cases h
   split at h
   ·rename_i J D
    obtain⟨C,a2⟩:=cY H hT I L D;split at h
    ·rename_i r1 B
     split at h
     ·rename_i A
      split at h
      ·rename_i e s2 u
       obtain⟨o,b2⟩:=cY H hT I F u;split at h
       ·rename_i j r2 m Y
        cases h;exact ae0.afd X (Z U) S N (C _ ⟨rfl,r1,B,Z A,o _ ⟨r2,j,m,Y,rfl,rfl⟩⟩)
       ·cases h
      ·cases h
     ·cases h
    ·cases h
   ·cases h
  ·cases h
 ·cases h
end
end Go.Eng
namespace Go.Eng
def U7(es:Nat)(M:Mem)(x:AV)(n:Nat)(cs:List AV):Prop:=∃b o Z,x=.slice b 0 n none∧M[b]? =some (.cells o es Z)∧Z.take cs.length=cs
def JW(es:Nat)(M:Mem):AV→Option (List AV)
 |.slice b 0 n none=>match M[b]? with
  |some (.cells _ YT cs)=>if YT =es∧n*es≤cs.length then some (cs.take (n*es)) else none
  |_=>none
 |.qF=>some []
 |_=>none
variable{es:Nat}
theorem Rm{M:Mem}{b n:Nat}{o:Bool}{cs H :List AV}(h:M[b]? =some (.cells o es H))(I:n*es≤H.length)(hc:H.take (n*es)=cs):JW es M (.slice b 0 n none)=some cs:=by simp[JW,h,I,hc]
theorem MQ{M:Mem}{x:AV}{cs:List AV}(h:JW es M x=some cs):(∃n,cs.length=n*es∧U7 es M x n cs)∨(x=.qF∧cs=[]):=by
 unfold JW at h;split at h
 ·rename_i b n
  split at h
  ·rename_i o Z X U
   split at h
   ·rename_i S
    obtain⟨rfl,R⟩:=S;cases h;have V:(X.take (n*Z)).length=n*Z :=by rw[List.length_take];omega
    exact .inl ⟨n,V,b,o,X,rfl,U,by rw[V]⟩
   ·cases h
  ·cases h
 ·cases h;exact .inr ⟨rfl,rfl⟩
 ·cases h
theorem cP{ks:List Nat}{M:Mem}{b es:Nat}{o:Bool}{cs H :List AV}(hc:AV.aej cs=true)(h:M[b]? =some (.cells o es H))(I:H.take cs.length=cs):ae2 ks M b (.cells false es cs):=by
 refine⟨aX hc,o,H,h,fun j v Z=>?_⟩;have U:=gL Z;have S:H[j]? =cs[j]? :=by have:(H.take cs.length)[j]? =H[j]? :=List.getElem?_take_of_lt U;rw[←this,I]
 have X:=aL (ρ:=fq ks M.length) hc;rw[gw] at X;have V:(cs.map (AV.ren (fq ks M.length)))[j]? =cs[j]? :=by rw[X]
 rw[List.getElem?_map,Z] at V;rw[S,Z];exact V.symm
variable{rest:List AV}
section
variable {P:Program}{f:FuncId}{M:Mem}{x y:AV}
theorem kO.aff{es n:Nat}{cs:List AV}{v:AV}{new:Mem}(hc:AV.aej cs=true)(hr:AV.aej rest=true)(H:new.all (fun s=>s.own||match s with | .qK=>true | _=>false)=true)(h:kO P f (.slice 0 0 n none::rest) [.cells false es cs] v (.cells false es cs::new))(I:U7 es M x n cs):
  ∃b,x=.slice b 0 n none∧b<M.length∧kO P f (x::rest) M (v.ren (fq [b] M.length)) (M++new.map (aek.ren (fq [b] M.length))):=by
 obtain⟨b,o,S,rfl,X,U⟩:=I;have V:=gL X;refine⟨b,rfl,V,?_⟩;have:=kO.frame (M:=M) [b] (m:=[.cells false es cs]) rfl (by simpa using V) (by simp only[AV.aen,AV.under,aX hr];rfl) (fun i s Z=>by
  cases i with
  |zero=>simp at Z;subst Z;exact cP hc X U
  |succ i=>simp at Z) H h
 simpa [AV.aez,AV.ren,fq,aL hr] using this
theorem kO.agp{es I n J:Nat}{cs H:List AV}{v:AV}{new:Mem}(hc:AV.aej cs=true)(W:AV.aej H=true)(hr:AV.aej rest=true)(Y:new.all (fun s=>s.own||match s with | .qK=>true | _=>false)=true)(h:kO P f (.slice 0 0 n none::.slice 1 0 J none::rest) [.cells false es cs,.cells false I H] v (.cells false es cs::.cells false I H::new))(hx:U7 es M x n cs)(hy:U7 I M y J H):
  ∃b c,x=.slice b 0 n none∧y=.slice c 0 J none∧b<M.length∧c<M.length∧kO P f (x::y::rest) M (v.ren (fq [b,c] M.length)) (M++new.map (aek.ren (fq [b,c] M.length))):=by
 obtain⟨b,o,L,rfl,U,O⟩:=hx;obtain⟨c,K,N,rfl,Z,V⟩:=hy;have S:=gL U;have R :=gL Z;refine⟨b,c,rfl,rfl,S,R,?_⟩;have:=kO.frame (M:=M) [b,c] (m:=[.cells false es cs,.cells false I H]) rfl (by simp[S,R]) (by simp only[AV.aen,AV.under,aX hr];rfl) (fun i s X=>by
  match i with
  |0=>simp at X;subst X;exact cP hc U O
  |1=>simp at X;subst X;exact cP W Z V
  |i+2=>simp at X) Y h
 simpa [AV.aez,AV.ren,fq,aL hr] using this
theorem kW{v:AV}(ks:List Nat)(n:Nat)(H:v.closed=true):v.ren (fq ks n)=v:=by have:=aL (vs:=[v]) (ρ:=fq ks n) (by simp[AV.aej,H]);simpa [AV.aez] using this
theorem kO.afX{es n:Nat}{cs:List AV}{v:AV}(hc:AV.aej cs=true)(hr:AV.aej rest=true)(H:v.closed=true)(h:kO P f (.slice 0 0 n none::rest) [.cells false es cs] v [.cells false es cs])(I:U7 es M x n cs):kO P f (x::rest) M v M:=by obtain⟨b,_,_,Z⟩:=kO.aff (new:=[]) hc hr rfl h I;simpa [kW _ _ H] using Z
theorem kO.afI{es I n J:Nat}{cs H:List AV}{v:AV}(hc:AV.aej cs=true)(W:AV.aej H=true)(hr:AV.aej rest=true)(Y:v.closed=true)(h:kO P f (.slice 0 0 n none::.slice 1 0 J none::rest) [.cells false es cs,.cells false I H] v [.cells false es cs,.cells false I H])(hx:U7 es M x n cs)(hy:U7 I M y J H):kO P f (x::y::rest) M v M:=by obtain⟨b,c,_,_,_,_,Z⟩:=kO.agp (new:=[]) hc W hr rfl h hx hy;simpa [kW _ _ Y] using Z
end
end Go.Eng
namespace Go.Eng
mutual
def AV.same:AV→AV→Bool
 |.undef,.undef=>true
 |.bool a,.bool b=>a==b
 |.int k n,.int k' m=>decide (k=k')&&decide (n=m)
 |.str s,.str t=>s==t
 |.ptr b o,.ptr b' o' =>Nat.beq b b' &&Nat.beq o o'
 |.aet,.aet=>true
 |.slice b o n none,.slice b' o' n' none=>Nat.beq b b' &&Nat.beq o o' &&Nat.beq n n'
 |.qF,.qF=>true
 |.map b,.map b' =>Nat.beq b b'
 |.aeF,.aeF=>true
 |.func f Z,.func V X =>Nat.beq f V &&AV.afQ Z X
 |.nilFunc,.nilFunc=>true
 |.nilIface,.nilIface=>true
 |.agg Z,.agg X =>AV.afQ Z X
 |.tuple Z,.tuple X =>AV.afQ Z X
 |_,_=>false
def AV.afQ:List AV→List AV→Bool
 | [],[]=>true
 |v::vs,w::ws=>AV.same v w&&AV.afQ vs ws
 |_,_=>false
end
structure ag3 where
 f:FuncId
 args:List AV
 m:Mem
 v:AV
 new:Mem
theorem rz{P:Program}{T:TypeId→Option TyI}{lv:Code→List Nat}{G:FuncId→Option Func}{O:y9}{K n:Nat}(H:P.follows .mixedOrders=true)(hT:cK P T)(I:afw P G)(J:qS P O){f:FuncId}{args:List AV}{m:Mem}{v:AV}{new:Mem}(h:(Dc T lv G O K n (.fn f) args m).map (fun r=>(r.v,r.mem m))=some (v,m++new)):kO P f args m v (m++new):=by rw[Option.map_eq_some_iff] at h;obtain⟨r,Z,X⟩:=h;obtain⟨h3,V⟩:=Prod.mk.inj X;have:=(oK H hT I J n).fn _ _ _ _ Z;rw[h3,V] at this;exact this
open Classical in
noncomputable def wo(S:Callee→List AV→Mem→aee→Prop):y9:=fun c Z M=>if h:∃r,S c Z M r then some (Classical.choose h) else none
variable{S:Callee→List AV→Mem→aee→Prop}
theorem wq{P:Program}(h:∀c a M r,S c a M r→pW P c a M r):qS P (wo S):=cq fun c a M r Z=>by
 unfold wo at Z;split at Z
 ·rename_i X
  cases Z;exact h _ _ _ _ (Classical.choose_spec X)
 ·cases Z
variable{a:List AV}
theorem Qp{c:Callee}{M:Mem}(h:∃r,S c a M r):∃r,wo S c a M=some r∧S c a M r:=by refine⟨_,?_,Classical.choose_spec h⟩;unfold wo;rw[dif_pos h]
theorem fQ{c:Callee}{M:Mem}{r:aee}(h:S c a M r)(hd:∀Z,S c a M Z →Z =r):wo S c a M=some r:=by obtain⟨Z,X,V⟩:=Qp ⟨r,h⟩;rw[X,hd Z V]
theorem BO(M X:Mem)(k:Nat):(M++X)[M.length+k]? =X[k]? :=by rw[List.getElem?_append_right (by omega)];congr 1;omega
theorem xJ(M X:Mem):(M++X)[M.length]? =X[0]? :=BO M X 0
theorem FY(M X:Mem)(k:Nat)(s:aek):(M++X).set (M.length+k) s=M++X.set k s:=by rw[List.set_append_right _ _ (by omega)];congr 2;omega
theorem UF(M X:Mem)(s:aek):(M++X).set M.length s=M++X.set 0 s:=FY M X 0 s
theorem vU(f:Nat→Bool):∀(i:Nat) (M:Mem),bn [] i M (bG f i M)=M
 |_,[]=>rfl
 |i,s::M=>by simp[bG,bn,vU f (i+1) M]
theorem uz(f:Nat→Bool):∀(i:Nat) (M:Mem) (b:Nat),(bG f i M)[b]? =(M[b]?).map fun s=>if f (i+b) then s else .qK
 |_,[],_=>by simp[bG]
 |i,s::M,0=>by simp[bG]
 |i,s::M,b+1=>by simp[bG,uz f (i+1) M b,Nat.add_assoc,Nat.add_comm 1 b]
theorem DS:∀(i:Nat) (M:Mem),bG (fun _=>true) i M=M
 |_,[]=>rfl
 |i,s::M=>by simp[bG,DS (i+1) M]
theorem M4(a b:Nat):(a≤b∧b<a)=False:=by rw[eq_iff_iff,iff_false];omega
theorem yJ:∀(i:Nat) (M:Mem),bn [] i M M=M
 |_,[]=>rfl
 |i,s::M=>by simp[bn,yJ (i+1) M]
end Go.Eng
