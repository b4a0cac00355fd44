/- See P53. -/
import Derived.Test.YtmhkeaphiadacaaGreatDoorP04
set_option linter.all false
namespace Go.Eng
structure qS (P:Program) (O:aac):Prop where
 fn:∀f args mem r,O (.fn f) args mem=some r→mB P f args mem r.v (r.mem mem)
 yld:∀b args mem r,O (.yld b) args mem=some r→uq P b args mem r.v (r.mem mem)
 pre:∀c args mem r p,O c args mem=some r→r.pre=some p→p.length=mem.length
variable{args:List AV}{b m0:Nat}{c:Callee}{d:Bool}{k m s v x:AV}{l:List Nat}{o:Oper}{op:Op}{r:HS}
section
variable {P:Program}{T:TypeId→Option TyI}{O:aac}{mem mem' :Mem}{env:Env}
def aaz(wr:List Nat) (mem mem' :Mem):Prop:=mem.length≤mem'.length∧∀b:Nat,b<mem.length→b∉wr→mem'[b]? =mem[b]?
theorem aaz.refl(wr:List Nat)(mem:Mem):aaz wr mem mem:=⟨Nat.le_refl _,fun _ _ _=>rfl⟩
theorem aaz.push(wr:List Nat)(mem l:Mem):aaz wr mem (mem++l):=⟨by simp,fun b hb _=>List.getElem?_append_left hb⟩
theorem aaz.set(b0:Nat)(s:aae)(mem:Mem):aaz [b0] mem (mem.set b0 s):=
 ⟨by simp,fun b _ hn=>List.getElem?_set_ne (fun e=>hn (by simp[e]))⟩
theorem aaz.ab7(b0:Nat)(s:aae)(mem l:Mem):aaz [b0] mem (mem.set b0 s++l):=
 ⟨by simp,fun b hb hn=>by rw[List.getElem?_append_left (by simpa using hb)];exact List.getElem?_set_ne (fun e=>hn (by simp[e]))⟩
theorem uY{t t2:TypeId}(h:gq T mem t t2 s x=some (v,mem')):aaz (eI s) mem mem' :=by
 unfold gq at h
 repeat' split at h
 all_goals first
  |(cases h;done)
  |(cases h;exact .refl _ _)
  |(cases h;exact .push _ _ _)
  |(cases h;exact .set _ _ _)
  |(cases h;exact .ab7 _ _ _ _)
theorem J1{t:TypeId}(h:ko T mem t x v=some mem'):aaz (Sq x) mem mem' :=by
 unfold ko at h
 repeat' split at h
 all_goals first
  |(cases h;done)
  |(cases h;rename_i hx _ _ _;exact .set _ _ _)
theorem yS{t:TypeId}(h:dq T mem t m k v=some mem'):aaz (Nv m) mem mem' :=by
 unfold dq at h
 repeat' split at h
 all_goals first
  |(cases h;done)
  |(cases h;exact .set _ _ _)
theorem AI{t:TypeId}(h:qB T mem t m k=some (v,mem')):aaz (Nv m) mem mem' :=by
 unfold qB at h
 repeat' split at h
 all_goals first
  |(cases h;done)
  |(cases h;exact .set _ _ _)
theorem wz(h:km mem m s v=some mem'):aaz (Nv m) mem mem' :=by
 unfold km at h
 repeat' split at h
 all_goals first
  |(cases h;done)
  |(cases h;exact .set _ _ _)
theorem JR{e:TypeId}(h:kk T mem e=some (v,mem')):aaz l mem mem' :=by unfold kk at h;split at h<;>cases h;exact .push _ _ _
theorem Pv(h:Vk mem x=some (v,mem')):aaz l mem mem' :=by unfold Vk at h;split at h<;>cases h;exact .push _ _ _
theorem wo{t:TypeId}{n:Nat}{ps}{v:AV}{l:List Nat}(h:fH T mem t n ps=some (v,mem')):aaz l mem mem' :=by
 unfold fH at h
 repeat' split at h
 all_goals first
  |(cases h;done)
  |(cases h;exact .push _ _ _)
theorem yQ{t:TypeId}{y:AV}(h:jR T mem t x y=some (v,mem')):aaz l mem mem' :=by
 unfold jR at h
 repeat' split at h
 all_goals first
  |(cases h;done)
  |(cases h;exact .push _ _ _)
theorem Fc{pt:TypeId}{l:AV}(h:wC T mem pt x l=some (v,mem')):aaz (Sq x) mem mem' :=by
 unfold wC at h
 repeat' split at h
 all_goals first
  |(cases h;done)
  |(cases h;exact .set _ _ _)
theorem yM{s d:TypeId}(h:mW T mem s d x=some (v,mem')):aaz l mem mem' :=by
 unfold mW at h
 repeat' split at h
 all_goals first
  |(cases h;done)
  |(cases h;exact .push _ _ _)
theorem Cr{t:TypeId}(h:uX T mem t s x=some (v,mem')):aaz l mem mem' :=by
 unfold uX at h
 repeat' split at h
 all_goals first
  |(cases h;done)
  |(cases h;exact .push _ _ _)
theorem JV{t:TypeId}(h:JU T mem t x=some mem'):aaz (eI x) mem mem' :=by
 unfold JU at h
 repeat' split at h
 all_goals first
  |(cases h;done)
  |(cases h;exact .refl _ _)
  |(cases h;exact .set _ _ _)
theorem Cp{t t2:TypeId}(h:rK T mem t t2 s x=some (v,mem')):aaz (eI s) mem mem' :=by
 unfold rK at h
 repeat' split at h
 all_goals first
  |(cases h;done)
  |(cases h;exact .set _ _ _)
theorem uZ{t:TypeId}{lo hi:Option AV}(h:wB T mem t x lo hi=some (v,mem')):aaz l mem mem' :=by
 unfold wB at h
 repeat' split at h
 all_goals first
  |(cases h;done)
  |(cases h;exact .push _ _ _)
theorem JZ(h:aOp T env mem op=some (v,mem')):aaz (vH env op) mem mem' :=by
 unfold aOp at h
 repeat' split at h
 all_goals first
  |(cases h;done)
  |(cases h;exact .refl _ _)
  |exact uZ h
  |(rename_i h1;cases h;exact uZ h1)
  |exact Cp h
  |exact JR h
  |exact Pv h
  |exact wo h
  |exact yQ h
  |exact uY h
  |(rename_i h1;cases h;exact uY h1)
  |exact Cr h
  |exact yM h
  |exact Fc h
  |exact AI h
  |(cases h;exact .push _ _ _)
  |(rename_i h1;cases h;first | exact J1 h1 | exact yS h1 | exact wz h1 | exact JV h1)
theorem mX{wr:List Nat}(h:(wr.any fun b=>decide (b<m0))=false)(hb:b<m0):b∉wr:=by intro hm;have:=List.any_eq_false.1 h b hm;simp[hb] at this
theorem uj(h1:m0≤mem.length)(h2:m0≤mem'.length)(h:∀b,b<m0→mem'[b]? =mem[b]?):mem'.take m0=mem.take m0:=by
 apply List.ext_getElem?;intro b;by_cases hb:b<m0
 ·rw[List.getElem?_take_of_lt hb,List.getElem?_take_of_lt hb,h b hb]
 ·rw[List.getElem?_eq_none (by simp;omega),List.getElem?_eq_none (by simp;omega)]
def Clean(m0:Nat) (mem:Mem) (d:Bool) (mem' :Mem) (d' :Bool):Prop:=m0≤mem.length→m0≤mem'.length∧(d' =false→d=false∧mem'.take m0=mem.take m0)
theorem Clean.refl(m0:Nat)(mem:Mem)(d:Bool):Clean m0 mem d mem d:=fun h=>⟨h,fun e=>⟨e,rfl⟩⟩
theorem Clean.trans{m1 m2 m3:Mem}{d1 d2 d3:Bool}(h:Clean m0 m1 d1 m2 d2)(h' :Clean m0 m2 d2 m3 d3):Clean m0 m1 d1 m3 d3:=fun hm=>by obtain⟨a1,a2⟩:=h hm;obtain⟨b1,b2⟩:=h' a1;refine⟨b1,fun e=>?_⟩;obtain⟨c1,c2⟩:=b2 e;obtain⟨c3,c4⟩:=a2 c1;exact⟨c3,c2.trans c4⟩
theorem aaz.clean{wr:List Nat}(h:aaz wr mem mem'):Clean m0 mem d mem' (d||wr.any fun b=>decide (b<m0)):=fun hm=>by have hl:=Nat.le_trans hm h.1;refine⟨hl,fun e=>?_⟩;simp only[Bool.or_eq_false_iff] at e;exact⟨e.1,uj hm hl fun b hb=>h.2 b (by omega) (mX e.2 hb)⟩
theorem J5{f:FuncId}(h:jv env op=some (.fn f,args)):Fp env op=some (f,args):=by
 unfold jv at h;split at h
 ·split at h
  ·cases h;rename_i hx;simp[Fp,hx]
  ·cases h
  ·cases h
 ·cases h
theorem Fh(h:jv env op=some (.yld b,args)):zv env op=some (b,args):=by
 unfold jv at h;split at h
 ·split at h
  ·cases h
  ·cases h;rename_i hx;simp[zv,hx]
  ·cases h
 ·cases h
section
variable (hO:qS P O)
include hO
theorem Bo(hc:jv env o.op=some (c,args))(h:O c args mem=some r):
  vJ P T env mem o r.v (r.mem mem):=by
 cases c with
 |fn f=>exact .inr (.inl ⟨f,args,J5 hc,hO.fn _ _ _ _ h⟩)
 |yld b=>exact .inr (.inr ⟨b,args,Fh hc,hO.yld _ _ _ _ h⟩)
theorem wR(h:O c args mem=some r):mem.length≤(r.mem mem).length:=by
 unfold HS.mem;cases hp:r.pre with
 |none=>simp
 |some p=>have:=hO.pre _ _ _ _ p h hp;simp;omega
theorem Nl{d' :Bool}(h:T1 T O m0 env mem d o=some (v,mem',d')):
  vJ P T env mem o v mem' ∧Clean m0 mem d mem' d' :=by
 unfold T1 at h;split at h
 ·rename_i v' m' h1
  cases h;exact⟨.inl h1,(JZ h1).clean⟩
 ·split at h
  ·rename_i c args hc
   split at h
   ·rename_i r hr
    cases h;refine⟨Bo hO hc hr,fun hm=>⟨Nat.le_trans hm (wR hO hr),fun e=>?_⟩⟩;simp only[Bool.or_eq_false_iff,Option.isSome_eq_false_iff,Option.isNone_iff_eq_none] at e;refine⟨e.1,?_⟩;unfold HS.mem;rw[e.2];simp[List.take_append_of_le_length hm]
   ·cases h
  ·cases h
end
theorem iF(hO:qS P O) {N m0:Nat}{ops:Array Oper}:∀{l:List Oper}{s s' :XS},aX T O N m0 ops l s=some s' →
  mi P T N ops l ⟨s.env,s.mem⟩ ⟨s'.env,s'.mem⟩∧Clean m0 s.mem s.aaB s'.mem s'.aaB
 | [],s,s',h=>by cases h;exact⟨rfl,.refl _ _ _⟩
 |o::os,s,s',h=>by
  unfold aX at h;split at h
  ·rename_i hd
   split at h
   ·rename_i hw
    split at h
    ·rename_i v m dt h1
     obtain⟨a1,a2⟩:=Nl hO h1;obtain⟨b1,b2⟩:=iF hO h;exact⟨⟨true,hw,hd,(fun e=>by cases e),fun _=>⟨v,m,a1,b1⟩⟩,a2.trans b2⟩
    ·cases h
   ·rename_i hw
    obtain⟨b1,b2⟩:=iF hO h;exact⟨⟨false,hw,hd,(fun _=>b1),(fun e=>by cases e)⟩,b2⟩
   ·cases h
  ·cases h
end
end Go.Eng
namespace Go.Eng
variable{mem:Mem}
section
variable {P:Program}{T:TypeId→Option TyI}{O:aac}{N:Nat}{ops:Array Oper}
theorem gJ(Y5:Nat→Bool):∀(i:Nat) (m:Mem),(bD Y5 i m).length=m.length
 |_,[]=>rfl
 |i,s::r=>by simp[bD,gJ Y5 (i+1) r]
theorem jT(Y5:Nat→Bool):∀(i:Nat) (m:Mem) (b:Nat),(bD Y5 i m)[b]? =m[b]? ∨(bD Y5 i m)[b]? =some .qF
 |_,[],b=>.inl rfl
 |i,s::r,0=>by
  simp only[bD,List.getElem?_cons_zero];split
  ·exact .inl rfl
  ·exact .inr rfl
 |i,s::r,b+1=>by simp only[bD,List.getElem?_cons_succ];exact jT Y5 (i+1) r b
theorem Bg:∀(i:Nat) (m:Mem) (b:Nat),¬iq (bD (fun _=>false) i m) b
 |_,[],b=>by rintro ⟨s,h,_⟩;simp[bD] at h
 |i,s::r,0=>by rintro ⟨s,h,h'⟩;simp[bD] at h;exact h' h.symm
 |i,s::r,b+1=>by rintro ⟨s,h,h'⟩;simp only[bD,List.getElem?_cons_succ] at h;exact Bg (i+1) r b ⟨s,h,h'⟩
theorem mC(wr:List Nat):∀(i:Nat) (m m' :Mem),m.length≤m'.length→(bh wr i m m').length=m'.length
 |_,[],m',_=>rfl
 |_,_::_,[],h=>by simp at h
 |i,s::r,s' ::r',h=>by simp only[bh,List.length_cons] at h ⊢;rw[mC wr (i+1) r r' (by omega)]
theorem ud(wr:List Nat):∀(i:Nat) (m m' :Mem) (b:Nat),m.length≤m'.length→(bh wr i m m')[b]? =if i+b∈wr∨m.length≤b then m'[b]? else m[b]?
 |_,[],m',b,_=>by simp[bh]
 |_,_::_,[],_,h=>by simp at h
 |i,s::r,s' ::r',0,h=>by simp only[bh,List.getElem?_cons_zero,List.contains_iff_mem,Nat.add_zero,List.length_cons,Nat.le_zero_eq,Nat.add_one_ne_zero,or_false];split<;>rfl
 |i,s::r,s' ::r',b+1,h=>by simp only[List.length_cons] at h;simp only[bh,List.getElem?_cons_succ];rw[ud wr (i+1) r r' b (by omega)];simp only[List.length_cons,Nat.add_le_add_iff_right];rw[show i+1+b=i+(b+1) by omega]
theorem tY{m:Mem}{b:Nat}:cw m b=true↔iq m b:=by
 unfold cw iq;cases h:m[b]? with
 |none=>simp
 |some s=>cases s<;>simp
theorem CC:∀(i:Nat) (m:Mem) (b:Nat),i+b∈cf i m↔iq m b:=by
 intro i m;induction m generalizing i with
 |nil=>intro b;simp[cf,iq]
 |cons s r ih=>
  intro b;have hlow:∀(i:Nat) (m:Mem) (x:Nat),x∈cf i m→i≤x:=by
   intro i m;induction m generalizing i with
   |nil=>intro x h;simp[cf] at h
   |cons s r ih=>
    intro x h;have:x∈cf (i+1) r∨x=i:=by cases s<;>simp only[cf,List.mem_cons] at h<;>first | exact .inl h | exact h.symm
    rcases this with h | h
    ·have:=ih (i+1) x h;omega
    ·omega
  cases b with
  |zero=>
   have hn:¬(i+0∈cf (i+1) r):=fun h=>by have:=hlow _ _ _ h;omega
   cases s<;>simp[cf,iq]<;>simpa using hn
  |succ b=>
   have:=ih (i+1) b;rw[show i+1+b=i+(b+1) by omega] at this;have hB:iq (s::r) (b+1)↔iq r b:=by simp[iq]
   rw[hB,←this];cases s<;>simp[cf]
structure abW (P:Program) (T:TypeId→Option TyI) (N:Nat) (ops:Array Oper) (r:Rec) (o:Oper):Prop where
 dst:Cy N o=true
 wanted:rF ops r.en o=some r.wb
 en:r.en=(o.looksAt ops).map fun t=>(t,aa r.env t)
 step:r.wb=true→vJ P T r.en r.tm o r.v r.m'
 skip:r.wb=false→r.v=.tuple []∧r.m' =r.tm
 ab2:r.tm.length=r.mem.length
 ab3:∀b:Nat,r.tm[b]? =r.mem[b]? ∨r.tm[b]? =some .qF
 mono:r.mem.length≤r.m'.length
 abX:r.nx.length=r.m'.length
 nx:∀b:Nat,r.nx[b]? =if b∈r.wr∨r.mem.length≤b then r.m'[b]? else r.mem[b]?
 aa3:∀b:Nat,b<r.mem.length→b∉r.wr→iq r.tm b→r.m'[b]? =r.mem[b]?
theorem Di{tm:Mem}(h:∀b:Nat,tm[b]? =mem[b]? ∨tm[b]? =some .qF){b:Nat}(hb:iq tm b):tm[b]? =mem[b]? :=by
 rcases h b with e | e
 ·exact e
 ·obtain⟨s,h1,h2⟩:=hb
  rw[h1] at e;cases e;exact absurd rfl h2
theorem FI(hO:qS P O){bs:List Nat}{j:Nat}{o:Oper}{env:Env}{acc:List Rec}{r:Rec}(h:FH T O N ops bs j o env mem acc=some r):
  r.env=env∧r.mem=mem∧abW P T N ops r o:=by
 unfold FH at h;split at h
 ·rename_i hd
  simp only at h;split at h
  ·cases h
  ·rename_i hw
   cases h;refine⟨rfl,rfl,hd,hw,rfl,(fun e=>by cases e),(fun _=>⟨rfl,rfl⟩),gJ _ _ _,(fun b=>jT _ _ _ _),by simp[gJ],by simp[gJ],fun b=>?_,fun b _ _ hb=>absurd hb (Bg _ _ _)⟩;simp only[List.not_mem_nil,false_or];split
   ·rename_i Xr
    rw[List.getElem?_eq_none Xr,List.getElem?_eq_none (by rw[gJ];exact Xr)]
   ·rfl
  ·rename_i hw
   generalize UT bs j acc (Nd (List.map (fun t=>(t,aa env t)) (o.looksAt ops)) o.op)=Y5 at h;have htl:(bD Y5 0 mem).length=mem.length:=gJ _ _ _;split at h
   ·rename_i v m h1
    cases h;have hk:=JZ h1;rw[aaz,htl] at hk;refine⟨rfl,rfl,hd,hw,rfl,fun _=>.inl h1,(fun e=>by cases e),htl,fun b=>jT _ _ _ _,hk.1,mC _ _ _ _ hk.1,fun b=>?_,fun b hb hn X7=>?_⟩
    ·have:=ud (vH (List.map (fun t=>(t,aa env t)) (o.looksAt ops)) o.op) 0 mem m b hk.1
     rw[Nat.zero_add] at this;exact this
    ·rw[hk.2 b hb hn];exact Di (fun b=>jT Y5 0 mem b) X7
   ·split at h
    ·cases h
    ·rename_i c args hc
     split at h
     ·cases h
     ·rename_i res hres
      simp only[Option.some.injEq] at h;subst h;have A':=wR hO hres;rw[htl] at A';refine⟨rfl,rfl,hd,hw,rfl,fun _=>Bo hO hc hres,(fun e=>by cases e),htl,fun b=>jT _ _ _ _,A',mC _ _ _ _ A',fun b=>?_,fun b hb hn X7=>?_⟩
      ·have:=ud (T0 (bD Y5 0 mem) res.pre) 0 mem (res.mem (bD Y5 0 mem)) b A'
       rw[Nat.zero_add] at this;exact this
      ·cases hp:res.pre with
       |some p=>
        exfalso;apply hn;show b∈T0 (bD Y5 0 mem) res.pre
        rw[hp];show b∈cf 0 (bD Y5 0 mem)
        have:=(CC 0 (bD Y5 0 mem) b).2 X7
        rwa [Nat.zero_add] at this
       |none=>
        show(res.mem (bD Y5 0 mem))[b]? =mem[b]?
        unfold HS.mem;rw[hp];simp only[Option.getD_none];rw[List.getElem?_append_left (by rw[htl];exact hb)];exact Di (fun b=>jT Y5 0 mem b) X7
 ·cases h
def lg(P:Program) (T:TypeId→Option TyI) (N:Nat) (ops:Array Oper):List Oper→Env→Mem→List Rec→Env→Mem→Prop
 | [],env,mem,[],z',mem' =>z' =env∧mem' =mem
 |o::os,env,mem,r::rs,z',mem' =>r.env=env∧r.mem=mem∧abW P T N ops r o∧lg P T N ops os (aa4 env o.dst r.v) r.nx rs z' mem'
 |_,_,_,_,_,_=>False
theorem oO(hO:qS P O) {bs:List Nat}:∀{l:List Oper}{j:Nat}{env:Env}{mem:Mem}{acc R:List Rec}{z' :Env}{mem' :Mem},
  kS T O N ops bs j l env mem acc=some (R,z',mem')→∃rs,R=acc.reverse++rs∧lg P T N ops l env mem rs z' mem'
 | [],j,env,mem,acc,R,z',mem',h=>by simp only[kS,Option.some.injEq,Prod.mk.injEq] at h;obtain⟨rfl,rfl,rfl⟩:=h;exact⟨[],by simp,rfl,rfl⟩
 |o::os,j,env,mem,acc,R,z',mem',h=>by
  unfold kS at h;split at h
  ·cases h
  ·rename_i r hr
   obtain⟨h1,h2,h3⟩:=FI hO hr;obtain⟨rs,e,h4⟩:=oO hO h;exact⟨r::rs,by rw[e];simp,h1,h2,h3,h4⟩
def Qh(R:List Rec) (YD:Env×Mem) (j:Nat):Env×Mem:=match R[j]? with
 |some r=>(r.env,r.mem)
 |none=>YD
theorem xR:∀{l:List Oper}{env:Env}{mem:Mem}{R:List Rec}{z' :Env}{mem' :Mem},lg P T N ops l env mem R z' mem' →R.length=l.length
 | [],_,_,[],_,_,_=>rfl
 |_::_,_,_,_::_,_,_,h=>by simp only[List.length_cons];rw[xR h.2.2.2]
 | [],_,_,_::_,_,_,h=>h.elim
 |_::_,_,_,[],_,_,h=>h.elim
theorem vu:∀{l:List Oper}{env:Env}{mem:Mem}{R:List Rec}{z' :Env}{mem' :Mem},lg P T N ops l env mem R z' mem' →Qh R (z',mem') 0=(env,mem)
 | [],_,_,[],_,_,h=>by obtain⟨rfl,rfl⟩:=h;rfl
 |_::_,_,_,_::_,_,_,h=>by obtain⟨rfl,rfl,_⟩:=h;rfl
 | [],_,_,_::_,_,_,h=>h.elim
 |_::_,_,_,[],_,_,h=>h.elim
theorem Bq:∀{l:List Oper}{env:Env}{mem:Mem}{R:List Rec}{z' :Env}{mem' :Mem},lg P T N ops l env mem R z' mem' →∀(j:Nat) (o:Oper),l[j]? =some o→
  ∃r,R[j]? =some r∧abW P T N ops r o∧Qh R (z',mem') (j+1)=(aa4 r.env o.dst r.v,r.nx)
 |o::os,_,_,r::rs,z',mem',h,0,o',ho=>by cases ho;obtain⟨rfl,rfl,h3,h4⟩:=h;exact⟨r,rfl,h3,vu h4⟩
 |o::os,_,_,r::rs,z',mem',h,j+1,o',ho=>by obtain⟨_,_,_,h4⟩:=h;obtain⟨r',g1,g2,g3⟩:=Bq h4 j o' ho;exact⟨r',g1,g2,g3⟩
 | [],_,_,_,_,_,_,j,_,ho=>by simp at ho
 |_::_,_,_,[],_,_,h,_,_,_=>h.elim
theorem me:∀(i:Nat) (R:List Rec) (j:Nat) (r:Rec),R[j]? =some r→(i+j,r)∈aF i R
 |i,x::xs,0,r,h=>by cases h;simp[aF]
 |i,x::xs,j+1,r,h=>by simp only[List.getElem?_cons_succ] at h;have:=me (i+1) xs j r h;rw[show i+1+j=i+(j+1) by omega] at this;simp[aF,this]
 |_,[],_,_,h=>by simp at h
end
end Go.Eng
namespace Go.Eng
variable{R:List Rec}{bs:List Nat}{j:Nat}
section
variable {P:Program}{T:TypeId→Option TyI}{O:aac}{N:Nat}{ops:Array Oper}
def Ub(bs:List Nat) (R:List Rec) (j:Nat):List (Nat×Rec):=(aF 0 R).filter fun f=>decide (f.1<j)&& !bef bs f.1 j
def oz(n:Nat) (bs:List Nat) (R:List Rec) (YD:Env×Mem):aaN where
 E j:=(Qh R YD j).1
 M j:=(Qh R YD j).2
 En j:=match R[j]? with | some r=>r.en | none=>[]
 Tm j:=match R[j]? with | some r=>r.tm | none=>[]
 M' j:=match R[j]? with | some r=>r.m' | none=>[]
 v j:=match R[j]? with | some r=>r.v | none=>.undef
 wb j:=match R[j]? with | some r=>r.wb | none=>false
 aaX j b:=match R[j]? with | some r=>decide (b∈r.wr)||decide (r.mem.length≤b) | none=>false
 ok j b:=match R[j]? with | some r=>gR r.nx.length (Ub bs R j) b | none=>false
 cl i j:=decide (i<n)&&bef bs i j
theorem AY(h:ng ops bs=true){o:Oper}(ho:ops[j]? =some o):
  (∀e∈o.after,Region.binds .any e=true→e.on<j)∧
  (∀i,i<ops.size→bef bs i j=true→∃e∈o.after,Region.binds .any e=true∧(e.on=i∨bef bs i e.on=true))∧
  ∀(i:Nat) oi t,ops[i]? =some oi→i≠j→oi.dst=some t→(t∈o.looksAt ops∨o.dst=some t)→bef bs i j=true∨bef bs j i=true:=by
 have hj:j<ops.size:=(Array.getElem?_eq_some_iff.1 ho).1;unfold ng at h;have:=List.all_eq_true.1 h j (by simpa using hj);simp only[ho,Bool.and_eq_true,List.all_eq_true,List.mem_range] at this;obtain⟨h1,h2⟩:=this;refine⟨fun e he hb=>?_,fun i hi hb=>?_,fun i oi t hi H' ht hor=>?_⟩
 ·have:=h1 e (by simpa using he)
  simpa [hb] using this
 ·have:=(h2 i hi).1
  simp only[hb,Bool.not_true,Bool.false_or,List.any_eq_true] at this;obtain⟨e,he,hx⟩:=this;simp only[Bool.and_eq_true,Bool.or_eq_true,beq_iff_eq] at hx;exact⟨e,by simpa using he,hx.1,hx.2⟩
 ·have hil:i<ops.size:=(Array.getElem?_eq_some_iff.1 hi).1
  have:=(h2 i hil).2;simp only[hi,ht,Bool.or_eq_true,beq_iff_eq,H',false_or,Bool.and_eq_true,Bool.not_eq_true',List.contains_eq_mem,decide_eq_false_iff_not] at this;rcases this with (h3 | h3) | ⟨h3,h4⟩
  ·exact .inl h3
  ·exact .inr h3
  ·rcases hor with h5 | h5
   ·exact absurd h5 h3
   ·rw[h5] at h4;simp at h4
structure abq (bs:List Nat) (R:List Rec) (j:Nat) (r:Rec):Prop where
 wr:∀b∈r.wr,iq r.tm b
 ab5:r.v.HK (gR r.nx.length (Ub bs R j))=true
 acY:∀(b:Nat) s,b∈r.wr→r.nx[b]? =some s→s.HK (gR r.nx.length (Ub bs R j))=true
 fresh:∀(b:Nat) s,r.mem.length≤b→r.nx[b]? =some s→(s≠ .qF→s.own=true)∧s.HK (gR r.nx.length (Ub bs R j))=true
 acB:∀(i:Nat) f,i<j→R[i]? =some f→bef bs i j=false→(∀b∈f.wr,¬iq r.tm b)∧(∀b∈r.wr,¬iq f.tm b)∧∀b,f.mem.length≤b→b<f.nx.length→¬iq r.tm b
theorem Fs{r:Rec}(h:gb bs (aF 0 R) j r=true):abq bs R j r:=by
 unfold gb at h;simp only[Bool.and_eq_true] at h;obtain⟨⟨⟨⟨h1,h2⟩,h3⟩,h4⟩,h5⟩:=h;refine⟨fun b hb=>tY.1 (List.all_eq_true.1 h1 b hb),h2,fun b s hb hs=>?_,fun b s hb hs=>?_,fun i f hi hf hb=>?_⟩
 ·have:=List.all_eq_true.1 h3 b hb
  rw[hs] at this;exact this
 ·have hm:s∈r.nx.drop r.mem.length:=by apply List.mem_of_getElem? (i:=b-r.mem.length);rw[List.getElem?_drop,←hs];congr 1;omega
  have:=List.all_eq_true.1 h4 s hm;simp only[Bool.and_eq_true,Bool.or_eq_true] at this;refine⟨fun H'=>?_,this.2⟩;rcases this.1 with h | h
  ·exact h
  ·cases s<;>simp_all
 ·have W8:(i,f)∈Ub bs R j:=by unfold Ub;rw[List.mem_filter];have:=me 0 R i f hf;rw[Nat.zero_add] at this;exact⟨this,by simp[hi,hb]⟩
  have:=List.all_eq_true.1 h5 (i,f) W8;simp only[Bool.and_eq_true,List.all_eq_true,Bool.not_eq_true'] at this;obtain⟨⟨k1,k2⟩,k3⟩:=this;refine⟨fun b hb hB=>?_,fun b hb hB=>?_,fun b hb1 WE hB=>?_⟩
  ·have:=k1 b hb;rw[tY.2 hB] at this;cases this
  ·have:=k2 b hb;rw[tY.2 hB] at this;cases this
  ·obtain⟨s,hs,H'⟩:=hB
   have hm:s∈(r.tm.drop f.mem.length).take (f.nx.length-f.mem.length):=by apply List.mem_of_getElem? (i:=b-f.mem.length);rw[List.getElem?_take_of_lt (by omega),List.getElem?_drop,←hs];congr 1;omega
   have:=k3 s hm;cases s<;>simp_all
theorem Dw{env:Env}:∀(l:List Tmp) (t:Nat),(t∈l∧aa (l.map fun t=>(t,aa env t)) t=aa env t)∨(t∉l∧aa (l.map fun t=>(t,aa env t)) t=.undef)
 | [],t=>.inr ⟨by simp,rfl⟩
 |x::xs,t=>by
  simp only[List.map_cons,aa];by_cases hx:x=t
  ·subst hx;exact .inl ⟨by simp,by simp⟩
  ·simp only[hx,if_false]
   rcases Dw (env:=env) xs t with⟨h1,h2⟩ | ⟨h1,h2⟩
   ·exact .inl ⟨by simp[h1],h2⟩
   ·exact .inr ⟨by simp[h1,Ne.symm hx],h2⟩
theorem TA{m:Mem}{b:Nat}(h:iq m b):b<m.length:=by obtain⟨s,h,_⟩:=h;exact(List.getElem?_eq_some_iff.1 h).1
theorem Tv{env z' :Env}{mem mem' :Mem}(hs:ng ops bs=true)(hR:lg P T N ops ops.toList env mem R z' mem')(hC:∀(j:Nat) r,R[j]? =some r→abq bs R j r):sg P T N ops (oz ops.size bs R (z',mem')):=by
 have at_:∀(j:Nat) o,ops[j]? =some o→∃r,R[j]? =some r∧abW P T N ops r o∧Qh R (z',mem') (j+1)=(aa4 r.env o.dst r.v,r.nx):=
  fun j o ho=>Bq hR j o (by simpa using ho)
 have M_at:∀(j:Nat) r,R[j]? =some r→(oz ops.size bs R (z',mem')).M j=r.mem:=fun j r h=>by simp[oz,Qh,h]
 have lens:∀(i:Nat) ri oi,ops[i]? =some oi→R[i]? =some ri→∀(k j:Nat) rj oj,j=i+1+k→ops[j]? =some oj→R[j]? =some rj→ri.nx.length≤rj.mem.length:=by
  intro i ri oi Yb hri k;induction k with
  |zero=>
   intro j rj oj hj hoj hrj;obtain⟨r,g1,g2,g3⟩:=at_ i oi Yb;rw[hri] at g1;cases g1;have:Qh R (z',mem') (i+1)=(rj.env,rj.mem):=by rw[show i+1=j by omega];simp[Qh,hrj]
   rw[this] at g3;have:=congrArg Prod.snd g3;simp only at this;rw[this];exact Nat.le_refl _
  |succ k ih=>
   intro j rj oj hj hoj hrj;have Zu:j<ops.size:=(Array.getElem?_eq_some_iff.1 hoj).1;obtain⟨op,hop⟩:=zc (ops:=ops) (j:=j-1) (by omega);obtain⟨r,g1,g2,g3⟩:=at_ (j-1) op hop;have h1:=ih (j-1) r op (by omega) hop g1;have:Qh R (z',mem') (j-1+1)=(rj.env,rj.mem):=by rw[show j-1+1=j by omega];simp[Qh,hrj]
   rw[this] at g3;have e:=congrArg Prod.snd g3;simp only at e;have:=g2.abX;have:=g2.mono;rw[e];omega
 have lens' :∀(i j:Nat) ri rj oi oj,i<j→ops[i]? =some oi→ops[j]? =some oj→R[i]? =some ri→R[j]? =some rj→ri.nx.length≤rj.mem.length:=
  fun i j ri rj oi oj YE Yb hoj hri hrj=>lens i ri oi Yb hri (j-i-1) j rj oj (by omega) hoj hrj
 intro j o ho;obtain⟨r,hr,K,hnext⟩:=at_ j o ho;have C:=hC j r hr;have S:=AY hs ho;have Zu:j<ops.size:=(Array.getElem?_eq_some_iff.1 ho).1;have eM:(oz ops.size bs R (z',mem')).M j=r.mem:=M_at j r hr;have eM1:(oz ops.size bs R (z',mem')).M (j+1)=r.nx:=by simp[oz,hnext]
 have eE:(oz ops.size bs R (z',mem')).E j=r.env:=by simp[oz,Qh,hr]
 have eE1:(oz ops.size bs R (z',mem')).E (j+1)=aa4 r.env o.dst r.v:=by simp[oz,hnext]
 have eEn:(oz ops.size bs R (z',mem')).En j=r.en:=by simp[oz,hr]
 have eT:(oz ops.size bs R (z',mem')).Tm j=r.tm:=by simp[oz,hr]
 have eM' :(oz ops.size bs R (z',mem')).M' j=r.m' :=by simp[oz,hr]
 have ev:(oz ops.size bs R (z',mem')).v j=r.v:=by simp[oz,hr]
 have ew:(oz ops.size bs R (z',mem')).wb j=r.wb:=by simp[oz,hr]
 have XY:∀b,(oz ops.size bs R (z',mem')).aaX j b=true↔b∈r.wr∨r.mem.length≤b:=fun b=>by simp[oz,hr]
 have etouchF:∀b,(oz ops.size bs R (z',mem')).aaX j b=false↔b∉r.wr∧b<r.mem.length:=fun b=>by simp[oz,hr]
 have eok:(oz ops.size bs R (z',mem')).ok j=gR r.nx.length (Ub bs R j):=by funext b;simp[oz,hr]
 have ecl:∀i k,i<ops.size→(oz ops.size bs R (z',mem')).cl i k=bef bs i k:=fun i k hi=>by simp[oz,hi]
 have hmono:r.mem.length≤r.nx.length:=by rw[K.abX];exact K.mono
 refine⟨by rw[eEn,ew];exact K.wanted,K.dst,?_,?_,by rw[eE1,eE,ev],?_,?_,by rw[eT,eM];exact K.ab2,by rw[eT,eM];exact K.ab3,by rw[eM1,eM'];exact K.abX,by rw[eM,eM1];exact hmono,
  ?_,?_,?_,?_,?_,?_,?_,?_,?_,?_,S.1,?_⟩
 ·rw[ew,eEn,eT,ev,eM'];exact K.step
 ·rw[ew,ev,eM',eT];exact K.skip
 ·intro t
  rw[eEn,eE,K.en];rcases Dw (env:=r.env) (o.looksAt ops) t with⟨h1,h2⟩ | ⟨h1,h2⟩
  ·refine .inr ⟨h2,fun i oi hi H' ht=>?_⟩
   rw[ecl i j (Array.getElem?_eq_some_iff.1 hi).1,ecl j i Zu];exact S.2.2 i oi t hi H' ht (.inl h1)
  ·exact .inl h2
 ·intro i oi t hi H' h1 h2
  rw[ecl i j (Array.getElem?_eq_some_iff.1 hi).1,ecl j i Zu];exact S.2.2 i oi t hi H' h2 (.inr h1)
 ·intro b hb
  rw[eM1,eM',K.nx b,if_pos ((XY b).1 hb)]
 ·intro b hb ht
  rw[eM] at hb;rw[eM1,eM,K.nx b,if_neg];rw[etouchF] at ht;rintro (h | h)
  ·exact ht.1 h
  ·omega
 ·intro b hb ht hB
  rw[eM] at hb;rw[eM',eM];rw[etouchF] at ht;rw[eT] at hB;exact K.aa3 b hb ht.1 hB
 ·intro b hb
  rw[eM] at hb;exact(XY b).2 (.inr hb)
 ·intro b ht hb
  rw[eM] at hb;rw[eT];rcases (XY b).1 ht with h | h
  ·exact C.wr b h
  ·omega
 ·
  intro i oi b Yb YE hbi hti hor;obtain⟨ri,hri,Ki,hni⟩:=at_ i oi Yb;have Ci:=hC i ri hri;have eMi:(oz ops.size bs R (z',mem')).M (i+1)=ri.nx:=by simp[oz,hni]
  rw[eMi] at hbi;have hti' :b∈ri.wr∨ri.mem.length≤b:=by simpa [oz,hri] using hti
  rw[eM1,eT] at hor;rw[ecl i j (Array.getElem?_eq_some_iff.1 Yb).1,ecl j i Zu];by_cases AC:i<j
  ·cases hb:bef bs i j with
   |true=>exact .inl rfl
   |false=>
    exfalso;obtain⟨p1,p2,p3⟩:=C.acB i ri AC hri hb;have hl:=lens' i j ri r oi o AC Yb ho hri hr;have notT:¬iq r.tm b:=by
     rcases hti' with h | h
     ·exact p1 b h
     ·exact p3 b h hbi
    rcases hor with⟨g1,g2⟩ | g
    ·rcases (XY b).1 g2 with h | h
     ·exact notT (C.wr b h)
     ·omega
    ·exact notT g
  ·cases hb:bef bs j i with
   |true=>exact .inr rfl
   |false=>
    exfalso;obtain⟨p1,p2,p3⟩:=Ci.acB j r (by omega) hr hb;have hl:=lens' j i r ri o oi (by omega) ho Yb hr hri;have htl:=K.ab2;rcases hti' with h | h
    ·rcases hor with⟨g1,g2⟩ | g
     ·rcases (XY b).1 g2 with h' | h'
      ·exact p2 b h (C.wr b h')
      ·exact p3 b h' g1 (Ci.wr b h)
     ·exact p2 b h g
    ·rcases hor with⟨g1,g2⟩ | g
     ·omega
     ·have:=TA g;omega
 ·
  intro i b oi Yb WN h1 h2;obtain⟨ri,hri,Ki,hni⟩:=at_ i oi Yb;have eMi:(oz ops.size bs R (z',mem')).M (i+1)=ri.nx:=by simp[oz,hni]
  rw[M_at i ri hri] at h1;rw[eMi] at h2;rw[eok] at WN;unfold gR at WN;simp only[Bool.and_eq_true,decide_eq_true_eq,List.all_eq_true,Bool.not_eq_true',decide_eq_false_iff_not] at WN;by_cases YE:i=j
  ·exact .inl YE
  ·refine .inr ?_
   rw[ecl i j (Array.getElem?_eq_some_iff.1 Yb).1];by_cases AC:i<j
   ·cases hb:bef bs i j with
    |true=>rfl
    |false=>
     exfalso;have W8:(i,ri)∈Ub bs R j:=by unfold Ub;rw[List.mem_filter];have:=me 0 R i ri hri;rw[Nat.zero_add] at this;exact⟨this,by simp[AC,hb]⟩
     exact WN.2 (i,ri) W8 ⟨h1,h2⟩
   ·exfalso
    have hl:=lens' j i r ri o oi (by omega) ho Yb hr hri;omega
 ·rw[ev,eok];exact C.ab5
 ·intro b s ht hs
  rw[eM1] at hs;rw[eok];rcases (XY b).1 ht with h | h
  ·exact C.acY b s h hs
  ·exact(C.fresh b s h hs).2
 ·intro b s hb hs H'
  rw[eM] at hb;rw[eM1] at hs ⊢;exact⟨s,hs,(C.fresh b s hb hs).1 H'⟩
 ·intro i hb
  simp only[oz,Bool.and_eq_true,decide_eq_true_eq] at hb;obtain⟨e,h1,h2,h3⟩:=S.2.1 i hb.1 hb.2;refine⟨e,h1,h2,?_⟩;rcases h3 with h | h
  ·exact .inl h
  ·exact .inr (by simp[oz,hb.1,h])
theorem FM(hm:P.follows .mixedOrders=true)(hT:cH P T)(hO:qS P O){m0:Nat}{s s' :XS}(WI:ng ops (fX ops.toList)=true)(h:ay T O N m0 ops s=some s'):
  (∀(tp:Bool) (id:Nat) (Q:Exit→St→Prop),Q .normal ⟨s'.env,s'.mem⟩→AWP P tp N m0 (.region id ops true) ⟨s.env,s.mem⟩ Q)∧Clean m0 s.mem s.aaB s'.mem s'.aaB:=by
 unfold ay at h;simp only at h
 ·split at h
  ·cases h
  ·rename_i R env mem hr
   split at h
   ·rename_i hc
    cases h;obtain⟨rs,e,hR⟩:=oO hO hr;simp only[List.reverse_nil,List.nil_append] at e;subst e;have hC:∀(j:Nat) r,R[j]? =some r→abq (fX ops.toList) R j r:=by intro j r hj;have:=me 0 R j r hj;rw[Nat.zero_add] at this;exact Fs (List.all_eq_true.1 hc _ this)
    have hA:=Tv WI hR hC;have hz:=vu hR;have A':=xR hR;have hend:Qh R (env,mem) ops.size=(env,mem):=by unfold Qh;rw[List.getElem?_eq_none (by rw[A'];simp)]
    refine⟨fun tp id Q hq=>AN hm hT (d:=oz ops.size (fX ops.toList) R (env,mem)) hA (by simp[oz,hz]) (by simp[oz,hz]) (by simp[oz,hend]) hq,?_⟩;have key:∀(l:List Oper) (e:Env) (m:Mem) (rs:List Rec),lg P T N ops l e m rs env mem→m0≤m.length→m0≤mem.length∧((rs.any fun r=>r.wr.any fun b=>decide (b<m0))=false→mem.take m0=m.take m0):=by
     intro l;induction l with
     |nil=>
      intro e m rs h Xe;cases rs with
      |nil=>obtain⟨rfl,rfl⟩:=h;exact⟨Xe,fun _=>rfl⟩
      |cons=>exact h.elim
     |cons o os ih=>
      intro e m rs h Xe;cases rs with
      |nil=>exact h.elim
      |cons r rs=>
       obtain⟨rfl,rfl,K,h4⟩:=h;have hmono:r.mem.length≤r.nx.length:=by rw[K.abX];exact K.mono
       obtain⟨a1,a2⟩:=ih _ _ _ h4 (by omega);refine⟨a1,fun hw=>?_⟩;simp only[List.any_cons,Bool.or_eq_false_iff] at hw;rw[a2 hw.2];refine uj Xe (by omega) fun b hb=>?_
       rw[K.nx b,if_neg];rintro (h | h)
       ·exact mX hw.1 hb h
       ·omega
    intro Xe;obtain⟨a1,a2⟩:=key _ _ _ _ hR Xe;refine⟨a1,fun hd=>?_⟩;simp only[Bool.or_eq_false_iff] at hd;exact⟨hd.1,a2 hd.2⟩
   ·cases h
end
end Go.Eng
namespace Go.Eng
variable{e env y':Env}
section
variable {P:Program}{T:TypeId→Option TyI}{lv:Code→List Nat}{O:aac}{K N m0:Nat}{tp:Bool}
def VX(P:Program) (tp:Bool) (N m0:Nat) (c:Code) (s:XS) (e:Exit) (s' :XS):Prop:=
 (∀Q:Exit→St→Prop,Q e ⟨s'.env,s'.mem⟩→AWP P tp N m0 c ⟨s.env,s.mem⟩ Q)∧Clean m0 s.mem s.aaB s'.mem s'.aaB
def aaT(wr:List Nat) (e e' :Env):Prop:=∀t,t∉wr→aa e' t=aa e t
theorem aaT.refl(wr:List Nat)(e:Env):aaT wr e e:=fun _ _=>rfl
theorem aaT.trans{wr:List Nat}{e1 e2 e3:Env}(h:aaT wr e1 e2)(h' :aaT wr e2 e3):aaT wr e1 e3:=fun t ht=>(h' t ht).trans (h t ht)
theorem aaT.mono{wr wr' :List Nat}{e' :Env}(h:aaT wr e e')(hw:∀t,t∈wr→t∈wr'):aaT wr' e e' :=fun t ht=>h t fun hm=>ht (hw t hm)
theorem iu(a b:Env)(t:Nat)(h:∀e∈a,e.1≠t):aa (a++b) t=aa b t:=by
 induction a with
 |nil=>rfl
 |cons e r ih=>
  obtain⟨k,v⟩:=e;simp only[List.cons_append,aa];rw[if_neg (h (k,v) (by simp))];exact ih fun e he=>h e (by simp[he])
theorem gv(l:List Nat)(g:Nat→AV)(b:Env)(t:Nat)(h:t∈l):aa (l.map (fun t=>(t,g t))++b) t=g t:=by
 induction l with
 |nil=>cases h
 |cons x r ih=>
  simp only[List.map_cons,List.cons_append,aa];by_cases hx:x=t
  ·subst hx;rw[if_pos rfl]
  ·rw[if_neg hx]
   exact ih (by cases h with
    |head=>exact absurd rfl hx
    |tail _ h=>exact h)
theorem rY{lv wr:List Nat}(h:aaT wr y' env)(t:Nat):aa (az lv wr y' env) t=aa env t∨aa (az lv wr y' env) t=.undef:=by
 unfold az;rw[List.append_assoc];by_cases h1:t∈lv
 ·rw[gv lv (fun t=>aa env t) _ t h1];exact .inl rfl
 ·rw[iu _ _ t (by intro e he;simp only[List.mem_map] at he;obtain⟨x,hx,rfl⟩:=he;intro e;exact h1 (e▸hx))]
  by_cases h2:t∈wr
  ·rw[gv (wr.filter fun t=> !lv.contains t) (fun _=>AV.undef) _ t (by rw[List.mem_filter];exact⟨h2,by simpa using h1⟩)];exact .inr rfl
  ·rw[iu _ _ t (by intro e he;simp only[List.mem_map,List.mem_filter] at he;obtain⟨x,hx,rfl⟩:=he;intro e;exact h2 (e▸hx.1))]
   exact .inl (h t h2).symm
theorem np{lv wr:List Nat}(hl:aaT wr y' env):aaT wr y' (az lv wr y' env):=by
 intro t ht;unfold az;rw[List.append_assoc];by_cases h1:t∈lv
 ·rw[gv lv (fun t=>aa env t) _ t h1];exact hl t ht
 ·rw[iu _ _ t (by intro e he;simp only[List.mem_map] at he;obtain⟨x,hx,rfl⟩:=he;intro e;exact h1 (e▸hx)),
   iu _ _ t (by intro e he;simp only[List.mem_map,List.mem_filter] at he;obtain⟨x,hx,rfl⟩:=he;intro e;exact ht (e▸hx.1))]
theorem Bv{wr:List Nat}{o:Oper}{v:AV}(h:∀d,o.dst=some d→d∈wr):aaT wr e (aa4 e o.dst v):=by intro t ht;exact Ky fun he=>ht (h t he)
theorem kR{m0:Nat}{ops:Array Oper}:∀{l:List Oper}{s s' :XS},aX T O N m0 ops l s=some s' →aaT (l.filterMap (·.dst)) s.env s'.env
 | [],s,s',h=>by cases h;exact .refl _ _
 |o::os,s,s',h=>by
  have hm:∀t,t∈os.filterMap (·.dst)→t∈(o::os).filterMap (·.dst):=fun t ht=>by
   rw[List.filterMap_cons];split
   ·exact ht
   ·exact List.mem_cons_of_mem _ ht
  have hd:∀d,o.dst=some d→d∈(o::os).filterMap (·.dst):=fun d hd=>by rw[List.filterMap_cons];simp[hd]
  unfold aX at h;split at h
  ·split at h
   ·split at h
    ·exact(Bv hd).trans ((kR h).mono hm)
    ·cases h
   ·exact(Bv hd).trans ((kR h).mono hm)
   ·cases h
  ·cases h
theorem KN{ops:Array Oper}:∀{l:List Oper}{env:Env}{mem:Mem}{R:List Rec}{z' :Env}{mem' :Mem},lg P T N ops l env mem R z' mem' →aaT (l.filterMap (·.dst)) env z'
 | [],_,_,[],_,_,h=>by obtain⟨rfl,_⟩:=h;exact .refl _ _
 |o::os,_,_,r::rs,_,_,h=>by
  obtain⟨rfl,_,_,h4⟩:=h;have hm:∀t,t∈os.filterMap (·.dst)→t∈(o::os).filterMap (·.dst):=fun t ht=>by
   rw[List.filterMap_cons];split
   ·exact ht
   ·exact List.mem_cons_of_mem _ ht
  have hd:∀d,o.dst=some d→d∈(o::os).filterMap (·.dst):=fun d hd=>by rw[List.filterMap_cons];simp[hd]
  exact(Bv hd).trans ((KN h4).mono hm)
 | [],_,_,_::_,_,_,h=>h.elim
 |_::_,_,_,[],_,_,h=>h.elim
theorem KU(hO:qS P O){m0:Nat}{ops:Array Oper}{s s' :XS}(h:ay T O N m0 ops s=some s'):aaT (ops.toList.filterMap (·.dst)) s.env s'.env:=by
 unfold ay at h;simp only at h;split at h
 ·cases h
 ·rename_i R env mem hr
  split at h
  ·cases h
   obtain⟨rs,e,hR⟩:=oO hO hr;exact KN hR
  ·cases h
mutual
theorem aab.refs{μ:Nat→Place}{n:Nat}:∀{v V},aab μ n v V→v.refs n=[]
 |.undef,_,_=>rfl
 |.bool _,_,_=>rfl
 |.int _ _,_,_=>rfl
 |.str _,_,_=>rfl
 |.ptr b o,V,h=>by simp only[aab] at h;simp[AV.refs,h.1]
 |.aar,_,_=>rfl
 |.slice b o l c,V,h=>by simp only[aab] at h;simp[AV.refs,h.1]
 |.kO,_,_=>rfl
 |.map b,V,h=>by simp only[aab] at h;simp[AV.refs,h.1]
 |.yield b,V,h=>by simp only[aab] at h;simp[AV.refs,h.1]
 |.aau,_,_=>rfl
 |.func f cs,V,h=>by simp only[aab] at h;obtain⟨Us,_,h⟩:=h;simp[AV.refs,aad.refs h]
 |.nilFunc,_,_=>rfl
 |.iface t v,V,h=>by simp only[aab] at h;obtain⟨U,_,h⟩:=h;simp[AV.refs,aab.refs h]
 |.nilIface,_,_=>rfl
 |.agg cs,V,h=>by simp only[aab] at h;obtain⟨Us,_,h⟩:=h;simp[AV.refs,aad.refs h]
 |.tuple cs,V,h=>by simp only[aab] at h;obtain⟨Us,_,h⟩:=h;simp[AV.refs,aad.refs h]
theorem aad.refs{μ:Nat→Place}{n:Nat}:∀{vs Us},aad μ n vs Us→AV.aas n vs=[]
 | [],_,_=>rfl
 |v::vs,_,h=>by simp only[aad] at h;obtain⟨U,Ws,_,h1,h2⟩:=h;simp[AV.aas,aab.refs h1,aad.refs h2]
end
mutual
theorem AV.aax{m1:Nat}{ks:List Nat}:∀{v:AV},v.refs m1=[]→v.ren (rho m1 ks)=v
 |.undef,_=>rfl
 |.bool _,_=>rfl
 |.int _ _,_=>rfl
 |.str _,_=>rfl
 |.ptr b o,h=>by
  have hb:b<m1:=by
   by_cases hb:b<m1
   ·exact hb
   ·simp[AV.refs,hb] at h
  simp[AV.ren,rho,hb]
 |.aar,_=>rfl
 |.slice b o l c,h=>by
  have hb:b<m1:=by
   by_cases hb:b<m1
   ·exact hb
   ·simp[AV.refs,hb] at h
  simp[AV.ren,rho,hb]
 |.kO,_=>rfl
 |.map b,h=>by
  have hb:b<m1:=by
   by_cases hb:b<m1
   ·exact hb
   ·simp[AV.refs,hb] at h
  simp[AV.ren,rho,hb]
 |.yield b,h=>by
  have hb:b<m1:=by
   by_cases hb:b<m1
   ·exact hb
   ·simp[AV.refs,hb] at h
  simp[AV.ren,rho,hb]
 |.aau,_=>rfl
 |.func f cs,h=>by simp only[AV.refs] at h;simp[AV.ren,AV.aaU h]
 |.nilFunc,_=>rfl
 |.iface t v,h=>by simp only[AV.refs] at h;simp[AV.ren,AV.aax h]
 |.nilIface,_=>rfl
 |.agg cs,h=>by simp only[AV.refs] at h;simp[AV.ren,AV.aaU h]
 |.tuple cs,h=>by simp only[AV.refs] at h;simp[AV.ren,AV.aaU h]
theorem AV.aaU{m1:Nat}{ks:List Nat}:∀{vs:List AV},AV.aas m1 vs=[]→AV.aal (rho m1 ks) vs=vs
 | [],_=>rfl
 |v::vs,h=>by simp only[AV.aas,List.append_eq_nil_iff] at h;simp[AV.aal,AV.aax h.1,AV.aaU h.2]
end
variable{ks:List Nat}{m1:Nat}
theorem aae.aax{s:aae}(h:s.refs m1=[]):s.ren (rho m1 ks)=s:=by
 cases s with
 |qF=>rfl
 |cells own es cs=>simp only[aae.refs] at h;simp only[aae.ren,AV.aaU h]
 |map es=>
  simp only[aae.refs,List.flatMap_eq_nil_iff] at h;simp only[aae.ren];congr 1;conv=>rhs;rw[←List.map_id es]
  apply List.map_congr_left;intro e he;have:=h e he;rw[List.append_eq_nil_iff] at this;rw[AV.aax this.1,AV.aax this.2];rfl
 |aaF es=>
  simp only[aae.refs,List.flatMap_eq_nil_iff] at h;simp only[aae.ren];congr 1;conv=>rhs;rw[←List.map_id es]
  apply List.map_congr_left;intro e he;have:=h e he;rw[List.append_eq_nil_iff] at this;rw[AV.aax this.1,AV.aax this.2];rfl
 |loop r=>
  simp only[aae.refs,List.flatMap_eq_nil_iff] at h;simp only[aae.ren,xT];congr 1;have:r.env.map (fun e=>(e.1,e.2.ren (rho m1 ks)))=r.env:=by
   conv=>rhs;rw[←List.map_id r.env]
   apply List.map_congr_left;intro e he;rw[AV.aax (h e he)];rfl
  rw[this]
variable{Q:Exit→St→Prop}
theorem AWP.assume{c:Code}{st:St}(h:m0≤st.mem.length→(∀t,(aa st.env t).refs st.mem.length=[])→AWP P tp N m0 c st Q):AWP P tp N m0 c st Q:=
 fun ro h0 base μ w a XA h1 h2 h3 h4 h5=>h h5 (fun t=>(h2 t).refs) ro h0 base μ w a XA h1 h2 h3 h4 h5
theorem Ke{mem:Mem}(h:(mem.take m1).all (fun s=>(s.refs m1).isEmpty)=true):aaj m1 ks mem=mem.take m1++aa3 m1 ks mem:=by
 unfold aaj;congr 1;conv=>rhs;rw[←List.map_id (mem.take m1)]
 apply List.map_congr_left;intro s hs;have:=List.all_eq_true.1 h s hs;rw[List.isEmpty_iff] at this;rw[aae.aax this];rfl
variable{lw:List Nat}
section
variable{wr:List Nat}
include wr
theorem rZ{g:Nat→AV}(t:Nat):
  aa ((lw.filter fun t=>wr.contains t).map (fun t=>(t,g t))++((wr.filter fun t=> !lw.contains t).map fun t=>(t,AV.undef))++y') t=
   if t∈wr then (if t∈lw then g t else .undef) else aa y' t:=by
 rw[List.append_assoc];by_cases h2:t∈wr
 ·by_cases h1:t∈lw
  ·rw[if_pos h2,if_pos h1]
   exact gv _ g _ t (by rw[List.mem_filter];exact⟨h1,by simpa using h2⟩)
  ·rw[if_pos h2,if_neg h1,iu _ _ t (by intro e he;simp only[List.mem_map,List.mem_filter] at he;obtain⟨x,hx,rfl⟩:=he;intro e;exact h1 (e▸hx.1))]
   exact gv (wr.filter fun t=> !lw.contains t) (fun _=>AV.undef) _ t (by rw[List.mem_filter];exact⟨h2,by simpa using h1⟩)
 ·rw[if_neg h2,iu _ _ t (by intro e he;simp only[List.mem_map,List.mem_filter] at he;obtain⟨x,hx,rfl⟩:=he;intro e;exact h2 (e▸by simpa using hx.2)),
   iu _ _ t (by intro e he;simp only[List.mem_map,List.mem_filter] at he;obtain⟨x,hx,rfl⟩:=he;intro e;exact h2 (e▸hx.1))]
theorem Qe{s:XS}(h:aaT wr y' s.env):aaT wr y' (KF lw wr y' m1 s).env:=by
 unfold KF;simp only;split
 ·intro t ht
  simp only;rw[rZ,if_neg ht]
 ·exact np h
theorem DJ{s:XS}(h:aaT wr y' s.env):aaT wr y' (qV lw wr y' m1 s).env:=by
 unfold qV;split
 ·exact np h
 ·simp only
  split
  ·intro t ht
   simp only;rw[rZ,if_neg ht]
  ·split
   ·exact Qe h
   ·exact np h
theorem MT{s:XS}(hm:m0≤m1):Clean m0 s.mem s.aaB (qV lw wr y' m1 s).mem (qV lw wr y' m1 s).aaB:=by
 unfold qV;split
 ·exact .refl _ _ _
 ·rename_i hl
  have hl:=fun h=>hl (.inr h)
  simp only;split
  ·intro h
   refine⟨by simp only[List.length_append,List.length_take];omega,fun e=>⟨e,?_⟩⟩;simp only;rw[List.take_append_of_le_length (by simp only[List.length_take];omega),List.take_take];congr 1;omega
  ·split
   ·unfold KF
    simp only;split
    ·intro h
     exact⟨by show m0≤(aaj m1 _ s.mem).length;rw[eZ (by omega)];omega,fun e=>by cases e⟩
    ·exact .refl _ _ _
   ·exact .refl _ _ _
theorem Qp{s:XS}(h:aaT wr y' s.env)(h0:∀t,(aa y' t).refs m1=[])(hm:m0≤m1)(hl:m1≤s.mem.length):
  aa7 m0 ⟨s.env,s.mem⟩ ⟨(KF lw wr y' m1 s).env,(KF lw wr y' m1 s).mem⟩:=by
 unfold KF;simp only;split
 ·rename_i hk
  obtain⟨ks,YP⟩:∃ks,ks=uf m1 s.mem 1000 ((lw.flatMap fun t=>(aa s.env t).refs m1)++(s.mem.take m1).flatMap (aae.refs m1)) []:=⟨_,rfl⟩
  rw[←YP] at hk ⊢;have hw:aa7 m0 ⟨s.env,s.mem⟩ ⟨xT (rho m1 ks) s.env,aaj m1 ks s.mem⟩:=by intro base μ w tmps h1 h2 h3;obtain⟨μ1,b1,b2,b3,b4⟩:=aa7.aaj (env:=s.env) _ hk base μ w tmps h1 h2 hl;exact⟨μ1,b1,b2,Nat.le_trans hm b3,b4.mono hm⟩
  refine hw.trans (aa7.env fun t=>?_);rw[rZ,iv];by_cases h1:t∈wr
  ·rw[if_pos h1]
   by_cases h2:t∈lw
   ·rw[if_pos h2];exact .inl rfl
   ·rw[if_neg h2];exact .inr rfl
  ·rw[if_neg h1,h t h1,AV.aax (h0 t)];exact .inl rfl
 ·exact aa7.env fun t=>rY h t
theorem Qq{s:XS}(h:aaT wr y' s.env)(h0:∀t,(aa y' t).refs m1=[])(hm:m0≤m1):
  aa7 m0 ⟨s.env,s.mem⟩ ⟨(qV lw wr y' m1 s).env,(qV lw wr y' m1 s).mem⟩:=by
 unfold qV;split
 ·exact aa7.env fun t=>rY h t
 ·rename_i hl
  have hl:=fun h=>hl (.inr h)
  simp only;split
  ·rename_i hc
   rw[Bool.and_eq_true] at hc;obtain⟨hk,G'⟩:=hc;have hw:aa7 m0 ⟨s.env,s.mem⟩ ⟨xT (rho m1 (uf m1 s.mem 1000 (lw.flatMap fun t=>(aa s.env t).refs m1) [])) s.env,aaj m1 (uf m1 s.mem 1000 (lw.flatMap fun t=>(aa s.env t).refs m1) []) s.mem⟩:=by
    intro base μ w tmps h1 h2 h3;have hl' :m1≤s.mem.length:=by omega
    obtain⟨μ1,b1,b2,b3,b4⟩:=aa7.aaj (env:=s.env) _ hk base μ w tmps h1 h2 hl';exact⟨μ1,b1,b2,Nat.le_trans hm b3,b4.mono hm⟩
   rw[Ke G'] at hw;refine hw.trans (aa7.env fun t=>?_);rw[rZ,iv];by_cases h1:t∈wr
   ·rw[if_pos h1]
    by_cases h2:t∈lw
    ·rw[if_pos h2];exact .inl rfl
    ·rw[if_neg h2];exact .inr rfl
   ·rw[if_neg h1,h t h1,AV.aax (h0 t)];exact .inl rfl
  ·split
   ·exact Qp h h0 hm (by omega)
   ·exact aa7.env fun t=>rY h t
end
variable{f:XS→Option (Exit×XS)}
theorem RJ{b:Code}(hf:∀s e s',f s=some (e,s')→aaT (ab b) s.env s'.env):
  ∀(k:Nat) (s:XS) (e:Exit) (s' :XS),aaT (ab b) y' s.env→gl lw (ab b) y' m1 f k s=some (e,s')→aaT (ab b) y' s'.env:=by
 intro k;induction k with
 |zero=>intro s e s' _ h;cases h
 |succ k ih=>
  intro s e s' hI h;unfold gl at h;split at h
  ·rename_i s1 h1
   exact ih _ _ _ (DJ (hI.trans (hf _ _ _ h1))) h
  ·exact hI.trans (hf _ _ _ h)
theorem PY{b:Code}(hf:∀s e s',f s=some (e,s')→VX P tp N m0 b s e s')(hm:m0≤m1):
  ∀(k:Nat) (s:XS) (e:Exit) (s' :XS),gl lw (ab b) y' m1 f k s=some (e,s')→Clean m0 s.mem s.aaB s'.mem s'.aaB:=by
 intro k;induction k with
 |zero=>intro s e s' h;cases h
 |succ k ih=>
  intro s e s' h;unfold gl at h;split at h
  ·rename_i s1 h1
   obtain⟨_,a2⟩:=hf _ _ _ h1;exact(a2.trans (MT hm)).trans (ih _ _ _ h)
  ·exact(hf _ _ _ h).2
theorem PZ{b:Code}(hf:∀s e s',f s=some (e,s')→VX P tp N m0 b s e s' ∧aaT (ab b) s.env s'.env)(h0:∀t,(aa y' t).refs m1=[])(hm:m0≤m1)(k:Nat)(s:XS)(e:Exit)(s' :XS)(hI:aaT (ab b) y' s.env)(h:gl lw (ab b) y' m1 f k s=some (e,s'))(hq:Q e ⟨s'.env,s'.mem⟩):AWP P tp N m0 (.loop b) ⟨s.env,s.mem⟩ Q:=by
 refine Tx (σ:=Nat) (fun k st=>∃s,st=⟨s.env,s.mem⟩∧aaT (ab b) y' s.env∧gl lw (ab b) y' m1 f k s=some (e,s')) id (s:=k) ⟨s,rfl,hI,h⟩ ?_;rintro k st ⟨s,rfl,hI,hk⟩;cases k with
 |zero=>cases hk
 |succ k=>
  unfold gl at hk;split at hk
  ·rename_i s1 h1
   obtain⟨⟨a1,_⟩,a3⟩:=hf _ _ _ h1;refine AWP.acT (a1 (fun e st1=>e=.normal∧st1=⟨s1.env,s1.mem⟩) ⟨rfl,rfl⟩) ?_;rintro e1 st1 ⟨rfl,rfl⟩;exact⟨⟨(qV lw (ab b) y' m1 s1).env,(qV lw (ab b) y' m1 s1).mem⟩,Qq (hI.trans a3) h0 hm,k,⟨_,rfl,DJ (hI.trans a3),hk⟩,Nat.lt_succ_self k⟩
  ·rename_i H'
   have hne' :e≠ .normal:=by rintro rfl;exact H' s' hk
   refine((hf _ _ _ hk).1.1 (fun e1 st1=>e1=e∧st1=⟨s'.env,s'.mem⟩) ⟨rfl,rfl⟩).mono ?_;rintro e1 st1 ⟨rfl,rfl⟩;cases e1<;>first | exact absurd rfl hne' | exact hq
theorem fq(hO:qS P O):∀{c:Code}{s:XS}{e:Exit}{s' :XS},aQ T lv O K N m0 tp c s=some (e,s')→aaT (ab c) s.env s'.env
 |.skip,s,e,s',h=>by simp only[aQ,Option.some.injEq,Prod.mk.injEq] at h;obtain⟨_,rfl⟩:=h;exact .refl _ _
 |.exit id,s,e,s',h=>by simp only[aQ,Option.some.injEq,Prod.mk.injEq] at h;obtain⟨_,rfl⟩:=h;exact .refl _ _
 |.ret,s,e,s',h=>by simp only[aQ,Option.some.injEq,Prod.mk.injEq] at h;obtain⟨_,rfl⟩:=h;exact .refl _ _
 |.region id ops false,s,e,s',h=>by
  unfold aQ at h;split at h
  ·rename_i s1 h1;cases h;exact kR h1
  ·cases h
 |.region id ops true,s,e,s',h=>by
  unfold aQ at h;split at h
  ·rename_i s1 h1;cases h;exact KU hO h1
  ·cases h
 |.seq x y,s,e,s',h=>by
  unfold aQ at h;split at h
  ·rename_i s1 h1
   exact((fq hO h1).mono fun t ht=>by simp[ab,ht]).trans ((fq hO h).mono fun t ht=>by simp[ab,ht])
  ·exact(fq hO h).mono fun t ht=>by simp[ab,ht]
 |.cond c x y,s,e,s',h=>by
  unfold aQ at h;split at h
  ·exact(fq hO h).mono fun t ht=>by simp[ab,ht]
  ·exact(fq hO h).mono fun t ht=>by simp[ab,ht]
  ·cases h
 |.block id b,s,e,s',h=>by
  show aaT (ab b) s.env s'.env
  unfold aQ at h;split at h
  ·rename_i i s1 h1
   split at h
   ·cases h;exact fq hO h1
   ·cases h;exact fq hO h1
  ·exact fq hO h
 |.loop b,s,e,s',h=>by
  show aaT (ab b) s.env s'.env
  unfold aQ at h;exact RJ (fun s e s' h=>fq hO h) _ _ _ _ (np (.refl _ _)) h
 |.rangeFunc g ps asg body,s,e,s',h=>by
  unfold aQ at h;split at h
  ·split at h
   ·split at h
    ·simp only at h
     split at h
     ·split at h
      ·cases h
      ·split at h
       ·cases h;exact .refl _ _
       ·cases h
     ·cases h
    ·cases h
   ·cases h
  ·cases h
 |.label _,s,e,s',h=>by cases h
 |.goto _,s,e,s',h=>by cases h
 |.scope _,s,e,s',h=>by cases h
 |.refuse _,s,e,s',h=>by cases h
theorem dz(hm:P.follows .mixedOrders=true) (hT:cH P T) (hO:qS P O):∀{c:Code}{s:XS}{e:Exit}{s' :XS},dR c=true→aQ T lv O K N m0 tp c s=some (e,s')→VX P tp N m0 c s e s'
 |.skip,s,e,s',WI,h=>by simp only[aQ,Option.some.injEq,Prod.mk.injEq] at h;obtain⟨rfl,rfl⟩:=h;exact⟨fun Q hq=>Ty hq,.refl _ _ _⟩
 |.exit id,s,e,s',WI,h=>by simp only[aQ,Option.some.injEq,Prod.mk.injEq] at h;obtain⟨rfl,rfl⟩:=h;exact⟨fun Q hq=>Tw hq,.refl _ _ _⟩
 |.ret,s,e,s',WI,h=>by simp only[aQ,Option.some.injEq,Prod.mk.injEq] at h;obtain⟨rfl,rfl⟩:=h;exact⟨fun Q hq=>UA hq,.refl _ _ _⟩
 |.region id ops false,s,e,s',WI,h=>by
  unfold aQ at h;split at h
  ·rename_i s1 h1
   cases h;obtain⟨a1,a2⟩:=iF hO h1;exact⟨fun Q hq=>PE hT a1 hq,a2⟩
  ·cases h
 |.region id ops true,s,e,s',WI,h=>by
  unfold aQ at h;split at h
  ·rename_i s1 h1
   cases h;obtain⟨a1,a2⟩:=FM hm hT hO WI h1;exact⟨fun Q hq=>a1 tp id Q hq,a2⟩
  ·cases h
 |.seq x y,s,e,s',WI,h=>by
  unfold aQ at h;split at h
  ·rename_i s1 h1
   simp only[dR,Bool.and_eq_true] at WI;obtain⟨a1,a2⟩:=dz hm hT hO WI.1 h1;obtain⟨b1,b2⟩:=dz hm hT hO WI.2 h;exact⟨fun Q hq=>mv (a1 _ (b1 Q hq)),a2.trans b2⟩
  ·rename_i H'
   simp only[dR,Bool.and_eq_true] at WI;obtain⟨a1,a2⟩:=dz hm hT hO WI.1 h;refine⟨fun Q hq=>mv (a1 _ ?_),a2⟩;cases e<;>first | exact absurd h (H' s') | exact hq
 |.cond c x y,s,e,s',WI,h=>by
  unfold aQ at h;split at h
  ·rename_i hc
   simp only[dR,Bool.and_eq_true] at WI;obtain⟨a1,a2⟩:=dz hm hT hO WI.1 h;exact⟨fun Q hq=>NF hc (fun _=>a1 Q hq) (fun e=>by cases e),a2⟩
  ·rename_i hc
   simp only[dR,Bool.and_eq_true] at WI;obtain⟨a1,a2⟩:=dz hm hT hO WI.2 h;exact⟨fun Q hq=>NF hc (fun e=>by cases e) (fun _=>a1 Q hq),a2⟩
  ·cases h
 |.block id b,s,e,s',WI,h=>by
  unfold aQ at h;split at h
  ·rename_i i s1 h1
   obtain⟨a1,a2⟩:=dz hm hT hO (by simpa only[dR] using WI) h1;split at h
   ·rename_i hi
    cases h;exact⟨fun Q hq=>AM (a1 _ (by simp only[NI];rw[if_pos hi];exact hq)),a2⟩
   ·rename_i hi
    cases h;exact⟨fun Q hq=>AM (a1 _ (by simp only[NI];rw[if_neg hi];exact hq)),a2⟩
  ·rename_i H'
   obtain⟨a1,a2⟩:=dz hm hT hO (by simpa only[dR] using WI) h;refine⟨fun Q hq=>AM (a1 _ ?_),a2⟩;cases e<;>first | exact absurd h (H' _ s') | exact hq
 |.loop b,s,e,s',WI,h=>by
  unfold aQ at h;have hf:∀s e s',aQ T lv O K N m0 tp b s=some (e,s')→VX P tp N m0 b s e s' ∧aaT (ab b) s.env s'.env:=fun s e s' h=>⟨dz hm hT hO (by simpa only[dR] using WI) h,fq hO h⟩
  refine⟨fun Q hq=>AWP.assume fun Xe he=>Tz (aa7.env fun t=>rY (.refl _ _) t) (PZ hf he Xe _ _ _ _ (np (.refl _ _)) h hq),fun Xe=>?_⟩;exact PY (fun s e s' h=>(hf s e s' h).1) Xe _ ⟨az (lv b) (ab b) s.env s.env,s.mem,s.aaB⟩ _ _ h Xe
 |.rangeFunc g ps asg body,s,e,s',WI,h=>by
  unfold aQ at h;split at h
  ·rename_i htp
   subst htp;split at h
   ·rename_i f caps hg
    split at h
    ·rename_i r hr
     simp only at h;split at h
     ·rename_i r2 WR
      split at h
      ·cases h
      ·rename_i hb
       split at h
       ·rename_i e1 he
        cases h;have A':=wR hO hr;refine⟨fun Q hq=>Fi hg ((hO.fn _ _ _ _ hr).mono ?_),fun Xe=>⟨?_,fun hd=>?_⟩⟩
        ·rintro v m ⟨rfl,rfl⟩
         exact⟨r2,e,WR,fun e=>hb (by rw[e];rfl),he,hq⟩
        ·simp only[List.length_set]
         simp only[List.length_append] at A';omega
        ·simp only[Bool.or_eq_false_iff,Option.isSome_eq_false_iff,Option.isNone_iff_eq_none] at hd
         refine⟨hd.1,uj Xe ?_ fun b hb=>?_⟩
         ·simp only[List.length_set]
          simp only[List.length_append] at A';omega
         ·have J' :b<s.mem.length:=by omega
          show((r.mem _).set s.mem.length _)[b]? =_
          rw[List.getElem?_set_ne (by omega)];unfold HS.mem;rw[hd.2];simp only[Option.getD_none];rw[List.append_assoc,List.getElem?_append_left J']
       ·cases h
     ·cases h
    ·cases h
   ·cases h
  ·cases h
 |.label _,s,e,s',WI,h=>by cases h
 |.goto _,s,e,s',WI,h=>by cases h
 |.scope _,s,e,s',WI,h=>by cases h
 |.refuse _,s,e,s',WI,h=>by cases h
structure abw (P:Program) (G:FuncId→Option Func):Prop where
 fn:∀f fn,G f=some fn→P.funcs[f]? =some fn∧(fn.name == "runtime.NumGoroutine")=false∧∀c,fn.body=some c→dR c=true
section
variable (hm:P.follows .mixedOrders=true)(hT:cH P T)(hO:qS P O)
include hm hT hO
theorem au{G:FuncId→Option Func}(hG:abw P G){f:FuncId}{args:List AV}{mem:Mem}{r:HS}(h:ad T lv G O K f args mem=some r):mB P f args mem r.v (r.mem mem)∧∀p,r.pre=some p→p.length=mem.length:=by
 unfold ad at h;split at h
 ·cases h
 ·rename_i fn hfn
  obtain⟨g1,g2,g3⟩:=hG.fn _ _ hfn;split at h
  ·cases h
  ·rename_i c hb
   split at h
   ·rename_i hl
    split at h
    ·rename_i e s he
     obtain⟨a1,a2⟩:=dz hm hT hO (g3 c hb) he;obtain⟨b1,b2⟩:=a2 (Nat.le_refl _);have main:(e=.normal∨e=.ret)→(match jM T fn.results.toList s.env s.mem with
      |some v=>
       let m0:=mem.length
       if s.aaB then
        let ks:=uf m0 s.mem 1000 (v.refs m0++(s.mem.take m0).flatMap (aae.refs m0)) []
        if Kv m0 s.mem.length ks then
         some ⟨v.ren (rho m0 ks),some ((s.mem.take m0).map (aae.ren (rho m0 ks))),aa3 m0 ks s.mem⟩
        else none
       else
        let ks:=uf m0 s.mem 1000 (v.refs m0) []
        if Kv m0 s.mem.length ks then
         some ⟨v.ren (rho m0 ks),none,aa3 m0 ks s.mem⟩
        else none
      |none=>none:Option HS)=some r→mB P f args mem r.v (r.mem mem)∧∀p,r.pre=some p→p.length=mem.length:=by
      intro hen h;split at h
      ·rename_i v hv
       simp only at h;split at h
       ·split at h
        ·rename_i YP
         cases h;refine⟨aaM.intro hT g1 hb g2 hl (a1 _ ⟨hen,v,hv,_,YP,.inr ⟨rfl,rfl⟩⟩),fun p hp=>?_⟩;cases hp;simp only[List.length_map,List.length_take];omega
        ·cases h
       ·rename_i hd
        split at h
        ·rename_i YP
         cases h;have hd' :=(b2 (by simpa using hd)).2;rw[List.take_of_length_le (Nat.le_refl _)] at hd';exact⟨aaM.intro hT g1 hb g2 hl (a1 _ ⟨hen,v,hv,_,YP,.inl ⟨hd',rfl,rfl⟩⟩),fun p hp=>by cases hp⟩
        ·cases h
      ·cases h
     split at h
     ·exact main (.inl rfl) h
     ·exact main (.inr rfl) h
     ·cases h
    ·cases h
   ·cases h
theorem vc{b:Nat}{args:List AV}{mem:Mem}{r:HS}(h:Fo T lv O K b args mem=some r):uq P b args mem r.v (r.mem mem)∧∀p,r.pre=some p→p.length=mem.length:=by
 unfold Fo at h;split at h
 ·rename_i lp hlp
  split at h
  ·rename_i hc
   simp only[Bool.and_eq_true,decide_eq_true_eq,List.all_eq_true] at hc;obtain⟨⟨⟨⟨c1,c2⟩,c3⟩,c4⟩,c5⟩:=hc;have st_of:∀{x:LoopState},(x== .ready)=true→x=.ready:=fun {x} h=>by cases x<;>first | rfl | cases h
   split at h
   ·rename_i s1 h1
    obtain⟨a1,a2⟩:=dz hm hT hO c4 h1;split at h
    ·rename_i r1 WL
     split at h
     ·rename_i hst1
      split at h
      ·rename_i e s2 h2
       obtain⟨b1,b2⟩:=dz hm hT hO c5 h2;split at h
       ·rename_i j r2 hj WR
        simp only at h;split at h
        ·rename_i YP
         cases h;obtain⟨d1,_⟩:=a2 (Nat.le_refl _);obtain⟨d2,_⟩:=b2 (by simpa using d1);refine⟨abj.intro hlp (st_of c1) c2 c3 (a1 _ ⟨rfl,r1,WL,st_of hst1,b1 _ ⟨r2,j,_,hj,WR,YP,rfl,rfl⟩⟩),fun p hp=>?_⟩;cases hp;simp only[List.length_map,List.length_take,List.length_set];omega
        ·cases h
       ·cases h
      ·cases h
     ·cases h
    ·cases h
   ·cases h
  ·cases h
 ·cases h
end
theorem kq(hm:P.follows .mixedOrders=true) (hT:cH P T) {G:FuncId→Option Func}(hG:abw P G) (hO:qS P O):∀n,qS P (ow T lv G O K n)
 |0=>hO
 |n+1=>by
  have ih:=kq hm hT hG hO n;have key:∀c args mem r,ow T lv G O K (n+1) c args mem=some r→O c args mem=some r∨(match c with
   |.fn f=>ad T lv G (ow T lv G O K n) K f args mem
   |.yld b=>Fo T lv (ow T lv G O K n) K b args mem)=some r:=by
   intro c args mem r h;unfold ow at h;split at h
   ·rename_i r' h';cases h;exact .inl h'
   ·exact .inr h
  refine⟨fun f args mem r h=>?_,fun b args mem r h=>?_,fun c args mem r p h hp=>?_⟩
  ·rcases key _ _ _ _ h with h | h
   ·exact hO.fn _ _ _ _ h
   ·exact(au hm hT ih hG h).1
  ·rcases key _ _ _ _ h with h | h
   ·exact hO.yld _ _ _ _ h
   ·exact(vc hm hT ih h).1
  ·rcases key _ _ _ _ h with h | h
   ·exact hO.pre _ _ _ _ _ h hp
   ·cases c with
    |fn f=>exact(au hm hT ih hG h).2 p hp
    |yld b=>exact(vc hm hT ih h).2 p hp
end
end Go.Eng
namespace Go.Eng
def aC(P:Program) (t:TypeId):Option TyI:=
 match P.info? t,P.underlying t with
 |some i,some d=>match i.zero with
  |some z=>if z.cells.size=i.size then some ⟨d,i.size,i.bytes,z,!P.stoodInHeld t&& !P.eqGuardType P.depth t⟩ else none
  |none=>none
 |_,_=>none
theorem aw(P:Program):cH P (aC P):=by
 intro t i h;unfold aC at h;split at h
 ·rename_i f d h1 h2
  split at h
  ·rename_i z hz
   split at h
   ·rename_i hs
    cases h;refine⟨h2,⟨f,h1,rfl,rfl,hz⟩,hs,fun he=>?_⟩;simp only[Bool.and_eq_true,Bool.not_eq_true'] at he;exact he
   ·cases h
  ·cases h
 ·cases h
def aO(P:Program) (f:FuncId):Option Func:=match P.funcs[f]? with
 |some fn=>if fn.name == "runtime.NumGoroutine" then none else match fn.body with
  |some c=>if dR c then some fn else none
  |none=>some fn
 |none=>none
theorem ax(P:Program):abw P (aO P):=by
 refine⟨fun f fn h=>?_⟩;unfold aO at h;split at h
 ·rename_i fn' h1
  split at h
  ·cases h
  ·rename_i hn
   split at h
   ·rename_i c hb
    split at h
    ·rename_i hs
     cases h;refine⟨h1,by simpa using hn,fun c' hc=>?_⟩;rw[hb] at hc;cases hc;exact hs
    ·cases h
   ·rename_i hb
    cases h;refine⟨h1,by simpa using hn,fun c' hc=>?_⟩;rw[hb] at hc;cases hc
 ·cases h
def bt:aac:=fun _ _ _=>none
theorem ah(P:Program):qS P bt:=⟨(fun _ _ _ _ h=>by cases h),(fun _ _ _ _ h=>by cases h),(fun _ _ _ _ _ h=>by cases h)⟩
structure aaC (w w' :World):Prop where
 size:w.heap.size≤w'.heap.size
 heap:∀k,k<w.heap.size→w'.heap[k]? =w.heap[k]?
 os:w'.os=w.os
 tape:w'.tape=w.tape
 output:w'.output=w.output
 drawn:w.drawn≤w'.drawn
section
variable {P:Program}{μ:Nat→Place}{mem:Mem}{base:Nat}{w w' :World}
theorem aaC.refl(w:World):aaC w w:=⟨Nat.le_refl _,fun _ _=>rfl,rfl,rfl,rfl,Nat.le_refl _⟩
theorem aaC.acZ(h:aaC w w')(hH:aam base μ mem w):aam base μ mem w' :=by refine⟨Nat.le_trans hH.aai h.size,fun b s hs=>?_,hH.sep⟩;exact(hH.slot b s hs).mono (Nat.le_refl _) (fun _ _=>rfl) fun H'=>h.heap _ ((hH.slot b s hs).aaY H')
theorem aaC.step(h:aaC w w'){m0:Nat}(hm:m0≤mem.length):Step m0 μ mem w μ mem w' :=
 ⟨hm,fun _ _=>rfl,h.os,h.tape,h.output,h.size,fun k hk _=>h.heap k hk,fun b hb _=>⟨b,hb,rfl⟩,h.drawn⟩
theorem mB.aaR{f:FuncId}{args:List AV}{Vs:List Value}{v:AV}{V:Value}(hf:Sv P f)(XD:∀μ n Us,aad μ n args Us→Us=Vs)(hv:∀μ n,aab μ n v V)(h:∀base w,GOk P base w→Calls P f ⟨Vs⟩ w fun e w' =>e=.returned V∧aaC w w')(mem:Mem):mB P f args mem v mem:=by refine⟨hf,fun base μ w Us hG hH hV=>?_⟩;rw[XD _ _ _ hV];refine(h base w hG).mono ?_;rintro e w' ⟨rfl,hg⟩;exact⟨V,v,mem,μ,rfl,hv _ _,hg.acZ hH,hg.step (Nat.le_refl _),rfl,rfl⟩
theorem aaC.grow(w:World)(k:Nat)(os:Array Obj):aaC w { w with heap:=w.heap++os,drawn:=w.drawn+k }:=by
 refine⟨by simp,fun i hi=>?_,rfl,rfl,rfl,Nat.le_add_right _ _⟩;show(w.heap++os)[i]? =_
 rw[Array.getElem?_append_left hi]
mutual
def AV.closed:AV→Bool
 |.ptr _ _=>false
 |.slice _ _ _ _=>false
 |.map _=>false
 |.yield _=>false
 |.func _ cs=>AV.aag cs
 |.iface _ v=>v.closed
 |.agg cs=>AV.aag cs
 |.tuple cs=>AV.aag cs
 |_=>true
def AV.aag:List AV→Bool
 | []=>true
 |v::vs=>v.closed&&AV.aag vs
end
mutual
theorem aab.closed{μ μ' :Nat→Place}{n n' :Nat}:∀{v V},v.closed=true→aab μ n v V→aab μ' n' v V
 |.undef,V,_,_=>by simp[aab]
 |.bool b,V,_,h=>by simpa [aab] using h
 |.int k i,V,_,h=>by simpa [aab] using h
 |.str s,V,_,h=>by simpa [aab] using h
 |.ptr b o,V,hc,_=>by simp[AV.closed] at hc
 |.aar,V,_,h=>by simpa [aab] using h
 |.slice b o l c,V,hc,_=>by simp[AV.closed] at hc
 |.kO,V,_,h=>by simpa [aab] using h
 |.map b,V,hc,_=>by simp[AV.closed] at hc
 |.yield b,V,hc,_=>by simp[AV.closed] at hc
 |.aau,V,_,h=>by simpa [aab] using h
 |.func f cs,V,hc,h=>by simp only[aab] at h ⊢;simp only[AV.closed] at hc;obtain⟨Us,rfl,h⟩:=h;exact⟨Us,rfl,aad.closed hc h⟩
 |.nilFunc,V,_,h=>by simpa [aab] using h
 |.iface t v,V,hc,h=>by simp only[aab] at h ⊢;simp only[AV.closed] at hc;obtain⟨U,rfl,h⟩:=h;exact⟨U,rfl,aab.closed hc h⟩
 |.nilIface,V,_,h=>by simpa [aab] using h
 |.agg cs,V,hc,h=>by simp only[aab] at h ⊢;simp only[AV.closed] at hc;obtain⟨Us,rfl,h⟩:=h;exact⟨Us,rfl,aad.closed hc h⟩
 |.tuple cs,V,hc,h=>by simp only[aab] at h ⊢;simp only[AV.closed] at hc;obtain⟨Us,rfl,h⟩:=h;exact⟨Us,rfl,aad.closed hc h⟩
theorem aad.closed{μ μ' :Nat→Place}{n n' :Nat}:∀{vs Us},AV.aag vs=true→aad μ n vs Us→aad μ' n' vs Us
 | [],Us,_,h=>by simpa [aad] using h
 |v::vs,Us,hc,h=>by simp only[AV.aag,Bool.and_eq_true] at hc;simp only[aad] at h ⊢;obtain⟨U,Ws,rfl,h1,h2⟩:=h;exact⟨U,Ws,rfl,aab.closed hc.1 h1,aad.closed hc.2 h2⟩
end
theorem mB.lift{f:FuncId}{args:List AV}{v:AV}(ha:AV.aag args=true)(hv:v.closed=true)(h:mB P f args [] v [])(mem:Mem):mB P f args mem v mem:=by refine⟨h.1,fun base μ w Us hG hH hV=>?_⟩;have h0:aam base μ [] w:=⟨hH.aai,fun b s hs=>by simp at hs,fun b b' s' hb=>by obtain⟨s,hs,_⟩:=hb;simp at hs⟩;refine(h.2 base μ w Us hG h0 (aad.closed ha hV)).mono ?_;rintro e w' ⟨V,v',m',μ',rfl,q1,q2,q3,rfl,rfl⟩;have hg:aaC w w' :=⟨q3.size,fun k hk=>q3.frame k hk fun b hb=>by obtain⟨s,hs,_⟩:=hb;simp at hs,q3.os,q3.tape,q3.output,q3.drawn⟩;exact⟨V,v',mem,μ,rfl,aab.closed hv q1,hg.acZ hH,hg.step (Nat.le_refl _),rfl,rfl⟩
variable{O:aac}
theorem mB.acC{T:TypeId→Option TyI}{G:FuncId→Option Func}{K:Nat}(hm:P.follows .mixedOrders=true)(hT:cH P T)(hO:qS P O)(hG:abw P G){f:FuncId}{args:List AV}{v:AV}(ha:AV.aag args=true)(hv:v.closed=true){lv:Code→List Nat}(h:ad T lv G O K f args []=some ⟨v,none,[]⟩)(mem:Mem):mB P f args mem v mem:=
 mB.lift ha hv (au hm hT hO hG h).1 mem
def aac.or(O O' :aac):aac:=fun c args mem=>match O c args mem with
 |some r=>some r
 |none=>O' c args mem
theorem qS.or{O' :aac}(h:qS P O)(h' :qS P O'):qS P (O.or O'):=by
 have key:∀c args mem r,O.or O' c args mem=some r→O c args mem=some r∨O' c args mem=some r:=by
  intro c args mem r hr;unfold aac.or at hr;split at hr
  ·rename_i r' h1;cases hr;exact .inl h1
  ·exact .inr hr
 refine⟨fun f args mem r hr=>?_,fun b args mem r hr=>?_,fun c args mem r p hr hp=>?_⟩
 ·rcases key _ _ _ _ hr with h1 | h1
  ·exact h.fn _ _ _ _ h1
  ·exact h'.fn _ _ _ _ h1
 ·rcases key _ _ _ _ hr with h1 | h1
  ·exact h.yld _ _ _ _ h1
  ·exact h'.yld _ _ _ _ h1
 ·rcases key _ _ _ _ hr with h1 | h1
  ·exact h.pre _ _ _ _ _ h1 hp
  ·exact h'.pre _ _ _ _ _ h1 hp
def ar(F:FuncId→List AV→Option AV):aac:=fun c args _=>match c with
 |.fn f=>match F f args with
  |some v=>some ⟨v,none,[]⟩
  |none=>none
 |.yld _=>none
theorem bZ{F:FuncId→List AV→Option AV}(h:∀f args v,F f args=some v→∀mem,mB P f args mem v mem):qS P (ar F):=by
 refine⟨fun f args mem r hr=>?_,(fun b args mem r hr=>by cases hr),fun c args mem r p hr hp=>?_⟩
 ·unfold ar at hr
  simp only at hr;split at hr
  ·rename_i v hv
   cases hr;have:=h f args v hv mem;simpa [HS.mem] using this
  ·cases hr
 ·unfold ar at hr
  split at hr
  ·split at hr
   ·cases hr;cases hp
   ·cases hr
  ·cases hr
end
end Go.Eng
