/- See R54. -/
import Derived.Test.YtgafjliihahjgaaGreatDoorR04
set_option linter.all false
namespace Go.Eng
structure kP (P:Program) (O:adM):Prop where
 fn:∀f args mem r,O (.fn f) args mem=some r→kF P f args mem r.v (r.mem mem)
 yld:∀b args mem r,O (.yld b) args mem=some r→oZ P b args mem r.v (r.mem mem)
 pre:∀c args mem r p,O c args mem=some r→r.pre=some p→p.length=mem.length
variable{args:List AV}{b m0:Nat}{c:Callee}{d:Bool}{k m s v x:AV}{l:List Nat}{o:Oper}{op:Op}{r:HS}
section
variable {P:Program}{T:TypeId→Option TyI}{O:adM}{mem mem' :Mem}{env:Env}
def aeZ(wr:List Nat) (mem mem' :Mem):Prop:=mem.length≤mem'.length∧∀b:Nat,b<mem.length→b∉wr→mem'[b]? =mem[b]?
theorem aeZ.refl(wr:List Nat)(mem:Mem):aeZ wr mem mem:=⟨Nat.le_refl _,fun _ _ _=>rfl⟩
theorem aeZ.push(wr:List Nat)(mem l:Mem):aeZ wr mem (mem++l):=⟨by simp,fun b hb _=>List.getElem?_append_left hb⟩
theorem aeZ.set(b0:Nat)(s:aeD)(mem:Mem):aeZ [b0] mem (mem.set b0 s):=
 ⟨by simp,fun b _ hn=>List.getElem?_set_ne (fun e=>hn (by simp[e]))⟩
theorem aeZ.agt(b0:Nat)(s:aeD)(mem l:Mem):aeZ [b0] mem (mem.set b0 s++l):=
 ⟨by simp,fun b hb hn=>by rw[List.getElem?_append_left (by simpa using hb)];exact List.getElem?_set_ne (fun e=>hn (by simp[e]))⟩
theorem uK{t t2:TypeId}(h:dy T mem t t2 s x=some (v,mem')):aeZ (bk s) mem mem' :=by
 unfold dy at h
 repeat' split at h
 all_goals first
  |(cases h;done)
  |(cases h;exact .refl _ _)
  |(cases h;exact .push _ _ _)
  |(cases h;exact .set _ _ _)
  |(cases h;exact .agt _ _ _ _)
theorem Jy{t:TypeId}(h:rZ T mem t x v=some mem'):aeZ (Ti x) mem mem' :=by
 unfold rZ at h
 repeat' split at h
 all_goals first
  |(cases h;done)
  |(cases h;rename_i hx _ _ _;exact .set _ _ _)
theorem yC{t:TypeId}(h:eZ T mem t m k v=some mem'):aeZ (MZ m) mem mem' :=by
 unfold eZ at h
 repeat' split at h
 all_goals first
  |(cases h;done)
  |(cases h;exact .set _ _ _)
theorem Av{t:TypeId}(h:qe T mem t m k=some (v,mem')):aeZ (MZ m) mem mem' :=by
 unfold qe at h
 repeat' split at h
 all_goals first
  |(cases h;done)
  |(cases h;exact .set _ _ _)
theorem wo(h:kI mem m s v=some mem'):aeZ (MZ m) mem mem' :=by
 unfold kI at h
 repeat' split at h
 all_goals first
  |(cases h;done)
  |(cases h;exact .set _ _ _)
theorem Jo{e:TypeId}(h:rY T mem e=some (v,mem')):aeZ l mem mem' :=by unfold rY at h;split at h<;>cases h;exact .push _ _ _
theorem Pb(h:Wv mem x=some (v,mem')):aeZ l mem mem' :=by unfold Wv at h;split at h<;>cases h;exact .push _ _ _
theorem wk{t:TypeId}{n:Nat}{ps}{v:AV}{l:List Nat}(h:fS T mem t n ps=some (v,mem')):aeZ l mem mem' :=by
 unfold fS at h
 repeat' split at h
 all_goals first
  |(cases h;done)
  |(cases h;exact .push _ _ _)
theorem yA{t:TypeId}{y:AV}(h:kj T mem t x y=some (v,mem')):aeZ l mem mem' :=by
 unfold kj at h
 repeat' split at h
 all_goals first
  |(cases h;done)
  |(cases h;exact .push _ _ _)
theorem ET{pt:TypeId}{l:AV}(h:wB T mem pt x l=some (v,mem')):aeZ (Ti x) mem mem' :=by
 unfold wB at h
 repeat' split at h
 all_goals first
  |(cases h;done)
  |(cases h;exact .set _ _ _)
theorem yw{s d:TypeId}(h:na T mem s d x=some (v,mem')):aeZ l mem mem' :=by
 unfold na at h
 repeat' split at h
 all_goals first
  |(cases h;done)
  |(cases h;exact .push _ _ _)
theorem Cm{t:TypeId}(h:uJ T mem t s x=some (v,mem')):aeZ l mem mem' :=by
 unfold uJ at h
 repeat' split at h
 all_goals first
  |(cases h;done)
  |(cases h;exact .push _ _ _)
theorem Js{t:TypeId}(h:Jr T mem t x=some mem'):aeZ (bk x) mem mem' :=by
 unfold Jr at h
 repeat' split at h
 all_goals first
  |(cases h;done)
  |(cases h;exact .refl _ _)
  |(cases h;exact .set _ _ _)
theorem Ck{t t2:TypeId}(h:qU T mem t t2 s x=some (v,mem')):aeZ (bk s) mem mem' :=by
 unfold qU at h
 repeat' split at h
 all_goals first
  |(cases h;done)
  |(cases h;exact .set _ _ _)
theorem uL{t:TypeId}{lo hi:Option AV}(h:wA T mem t x lo hi=some (v,mem')):aeZ l mem mem' :=by
 unfold wA at h
 repeat' split at h
 all_goals first
  |(cases h;done)
  |(cases h;exact .push _ _ _)
theorem Jw(h:aOp T env mem op=some (v,mem')):aeZ (vu env op) mem mem' :=by
 unfold aOp at h
 repeat' split at h
 all_goals first
  |(cases h;done)
  |(cases h;exact .refl _ _)
  |exact uL h
  |(rename_i h1;cases h;exact uL h1)
  |exact Ck h
  |exact Jo h
  |exact Pb h
  |exact wk h
  |exact yA h
  |exact uK h
  |(rename_i h1;cases h;exact uK h1)
  |exact Cm h
  |exact yw h
  |exact ET h
  |exact Av h
  |(cases h;exact .push _ _ _)
  |(rename_i h1;cases h;first | exact Jy h1 | exact yC h1 | exact wo h1 | exact Js h1)
theorem ng{wr:List Nat}(h:(wr.any fun b=>decide (b<m0))=false)(hb:b<m0):b∉wr:=by intro hm;have:=List.any_eq_false.1 h b hm;simp[hb] at this
theorem tX(h1:m0≤mem.length)(h2:m0≤mem'.length)(h:∀b,b<m0→mem'[b]? =mem[b]?):mem'.take m0=mem.take m0:=by
 apply List.ext_getElem?;intro b;by_cases hb:b<m0
 ·rw[List.getElem?_take_of_lt hb,List.getElem?_take_of_lt hb,h b hb]
 ·rw[List.getElem?_eq_none (by simp;omega),List.getElem?_eq_none (by simp;omega)]
def Clean(m0:Nat) (mem:Mem) (d:Bool) (mem' :Mem) (d' :Bool):Prop:=m0≤mem.length→m0≤mem'.length∧(d' =false→d=false∧mem'.take m0=mem.take m0)
theorem Clean.refl(m0:Nat)(mem:Mem)(d:Bool):Clean m0 mem d mem d:=fun h=>⟨h,fun e=>⟨e,rfl⟩⟩
theorem Clean.trans{m1 m2 m3:Mem}{d1 d2 d3:Bool}(h:Clean m0 m1 d1 m2 d2)(h' :Clean m0 m2 d2 m3 d3):Clean m0 m1 d1 m3 d3:=fun hm=>by obtain⟨a1,a2⟩:=h hm;obtain⟨b1,b2⟩:=h' a1;refine⟨b1,fun e=>?_⟩;obtain⟨c1,c2⟩:=b2 e;obtain⟨c3,c4⟩:=a2 c1;exact⟨c3,c2.trans c4⟩
theorem aeZ.clean{wr:List Nat}(h:aeZ wr mem mem'):Clean m0 mem d mem' (d||wr.any fun b=>decide (b<m0)):=fun hm=>by have hl:=Nat.le_trans hm h.1;refine⟨hl,fun e=>?_⟩;simp only[Bool.or_eq_false_iff] at e;exact⟨e.1,tX hm hl fun b hb=>h.2 b (by omega) (ng e.2 hb)⟩
theorem JA{f:FuncId}(h:jE env op=some (.fn f,args)):E4 env op=some (f,args):=by
 unfold jE at h;split at h
 ·split at h
  ·cases h;rename_i hx;simp[E4,hx]
  ·cases h
  ·cases h
 ·cases h
theorem EW(h:jE env op=some (.yld b,args)):ze env op=some (b,args):=by
 unfold jE at h;split at h
 ·split at h
  ·cases h
  ·cases h;rename_i hx;simp[ze,hx]
  ·cases h
 ·cases h
section
variable (hO:kP P O)
include hO
theorem Bi(hc:jE env o.op=some (c,args))(h:O c args mem=some r):
  vx P T env mem o r.v (r.mem mem):=by
 cases c with
 |fn f=>exact .inr (.inl ⟨f,args,JA hc,hO.fn _ _ _ _ h⟩)
 |yld b=>exact .inr (.inr ⟨b,args,EW hc,hO.yld _ _ _ _ h⟩)
theorem wL(h:O c args mem=some r):mem.length≤(r.mem mem).length:=by
 unfold HS.mem;cases hp:r.pre with
 |none=>simp
 |some p=>have:=hO.pre _ _ _ _ p h hp;simp;omega
theorem MR{d' :Bool}(h:U1 T O m0 env mem d o=some (v,mem',d')):
  vx P T env mem o v mem' ∧Clean m0 mem d mem' d' :=by
 unfold U1 at h;split at h
 ·rename_i v' m' h1
  cases h;exact⟨.inl h1,(Jw h1).clean⟩
 ·split at h
  ·rename_i c args hc
   split at h
   ·rename_i r hr
    cases h;refine⟨Bi hO hc hr,fun hm=>⟨Nat.le_trans hm (wL hO hr),fun e=>?_⟩⟩;simp only[Bool.or_eq_false_iff,Option.isSome_eq_false_iff,Option.isNone_iff_eq_none] at e;refine⟨e.1,?_⟩;unfold HS.mem;rw[e.2];simp[List.take_append_of_le_length hm]
   ·cases h
  ·cases h
end
theorem jL(hO:kP P O) {N m0:Nat}{ops:Array Oper}:∀{l:List Oper}{s s' :XS},eg T O N m0 ops l s=some s' →
  mB P T N ops l ⟨s.env,s.mem⟩ ⟨s'.env,s'.mem⟩∧Clean m0 s.mem s.aeS s'.mem s'.aeS
 | [],s,s',h=>by cases h;exact⟨rfl,.refl _ _ _⟩
 |o::os,s,s',h=>by
  unfold eg at h;split at h
  ·rename_i hd
   split at h
   ·rename_i hw
    split at h
    ·rename_i v m dt h1
     obtain⟨a1,a2⟩:=MR hO h1;obtain⟨b1,b2⟩:=jL hO h;exact⟨⟨true,hw,hd,(fun e=>by cases e),fun _=>⟨v,m,a1,b1⟩⟩,a2.trans b2⟩
    ·cases h
   ·rename_i hw
    obtain⟨b1,b2⟩:=jL hO h;exact⟨⟨false,hw,hd,(fun _=>b1),(fun e=>by cases e)⟩,b2⟩
   ·cases h
  ·cases h
end
end Go.Eng
namespace Go.Eng
variable{mem:Mem}
section
variable {P:Program}{T:TypeId→Option TyI}{O:adM}{N:Nat}{ops:Array Oper}
theorem gN(Z6:Nat→Bool):∀(i:Nat) (m:Mem),(bp Z6 i m).length=m.length
 |_,[]=>rfl
 |i,s::r=>by simp[bp,gN Z6 (i+1) r]
theorem km(Z6:Nat→Bool):∀(i:Nat) (m:Mem) (b:Nat),(bp Z6 i m)[b]? =m[b]? ∨(bp Z6 i m)[b]? =some .kO
 |_,[],b=>.inl rfl
 |i,s::r,0=>by
  simp only[bp,List.getElem?_cons_zero];split
  ·exact .inl rfl
  ·exact .inr rfl
 |i,s::r,b+1=>by simp only[bp,List.getElem?_cons_succ];exact km Z6 (i+1) r b
theorem Ba:∀(i:Nat) (m:Mem) (b:Nat),¬il (bp (fun _=>false) i m) b
 |_,[],b=>by rintro ⟨s,h,_⟩;simp[bp] at h
 |i,s::r,0=>by rintro ⟨s,h,h'⟩;simp[bp] at h;exact h' h.symm
 |i,s::r,b+1=>by rintro ⟨s,h,h'⟩;simp only[bp,List.getElem?_cons_succ] at h;exact Ba (i+1) r b ⟨s,h,h'⟩
theorem mN(wr:List Nat):∀(i:Nat) (m m' :Mem),m.length≤m'.length→(aZ wr i m m').length=m'.length
 |_,[],m',_=>rfl
 |_,_::_,[],h=>by simp at h
 |i,s::r,s' ::r',h=>by simp only[aZ,List.length_cons] at h ⊢;rw[mN wr (i+1) r r' (by omega)]
theorem tP(wr:List Nat):∀(i:Nat) (m m' :Mem) (b:Nat),m.length≤m'.length→(aZ wr i m m')[b]? =if i+b∈wr∨m.length≤b then m'[b]? else m[b]?
 |_,[],m',b,_=>by simp[aZ]
 |_,_::_,[],_,h=>by simp at h
 |i,s::r,s' ::r',0,h=>by simp only[aZ,List.getElem?_cons_zero,List.contains_iff_mem,Nat.add_zero,List.length_cons,Nat.le_zero_eq,Nat.add_one_ne_zero,or_false];split<;>rfl
 |i,s::r,s' ::r',b+1,h=>by simp only[List.length_cons] at h;simp only[aZ,List.getElem?_cons_succ];rw[tP wr (i+1) r r' b (by omega)];simp only[List.length_cons,Nat.add_le_add_iff_right];rw[show i+1+b=i+(b+1) by omega]
theorem tJ{m:Mem}{b:Nat}:dI m b=true↔il m b:=by
 unfold dI il;cases h:m[b]? with
 |none=>simp
 |some s=>cases s<;>simp
theorem Cx:∀(i:Nat) (m:Mem) (b:Nat),i+b∈cz i m↔il m b:=by
 intro i m;induction m generalizing i with
 |nil=>intro b;simp[cz,il]
 |cons s r ih=>
  intro b;have adb:∀(i:Nat) (m:Mem) (x:Nat),x∈cz i m→i≤x:=by
   intro i m;induction m generalizing i with
   |nil=>intro x h;simp[cz] at h
   |cons s r ih=>
    intro x h;have:x∈cz (i+1) r∨x=i:=by cases s<;>simp only[cz,List.mem_cons] at h<;>first | exact .inl h | exact h.symm
    rcases this with h | h
    ·have:=ih (i+1) x h;omega
    ·omega
  cases b with
  |zero=>
   have hn:¬(i+0∈cz (i+1) r):=fun h=>by have:=adb _ _ _ h;omega
   cases s<;>simp[cz,il]<;>simpa using hn
  |succ b=>
   have:=ih (i+1) b;rw[show i+1+b=i+(b+1) by omega] at this;have hB:il (s::r) (b+1)↔il r b:=by simp[il]
   rw[hB,←this];cases s<;>simp[cz]
structure agf (P:Program) (T:TypeId→Option TyI) (N:Nat) (ops:Array Oper) (r:Rec) (o:Oper):Prop where
 dst:Ct N o=true
 wanted:qP ops r.en o=some r.wb
 en:r.en=(o.looksAt ops).map fun t=>(t,ab r.env t)
 step:r.wb=true→vx P T r.en r.tm o r.v r.m'
 skip:r.wb=false→r.v=.tuple []∧r.m' =r.tm
 ago:r.tm.length=r.mem.length
 agp:∀b:Nat,r.tm[b]? =r.mem[b]? ∨r.tm[b]? =some .kO
 mono:r.mem.length≤r.m'.length
 agh:r.nx.length=r.m'.length
 nx:∀b:Nat,r.nx[b]? =if b∈r.wr∨r.mem.length≤b then r.m'[b]? else r.mem[b]?
 afq:∀b:Nat,b<r.mem.length→b∉r.wr→il r.tm b→r.m'[b]? =r.mem[b]?
theorem C9{tm:Mem}(h:∀b:Nat,tm[b]? =mem[b]? ∨tm[b]? =some .kO){b:Nat}(hb:il tm b):tm[b]? =mem[b]? :=by
 rcases h b with e | e
 ·exact e
 ·obtain⟨s,h1,h2⟩:=hb
  rw[h1] at e;cases e;exact absurd rfl h2
theorem Fv(hO:kP P O){bs:List Nat}{j:Nat}{o:Oper}{env:Env}{acc:List Rec}{r:Rec}(h:Fu T O N ops bs j o env mem acc=some r):
  r.env=env∧r.mem=mem∧agf P T N ops r o:=by
 unfold Fu at h;split at h
 ·rename_i hd
  simp only at h;split at h
  ·cases h
  ·rename_i hw
   cases h;refine⟨rfl,rfl,hd,hw,rfl,(fun e=>by cases e),(fun _=>⟨rfl,rfl⟩),gN _ _ _,(fun b=>km _ _ _ _),by simp[gN],by simp[gN],fun b=>?_,fun b _ _ hb=>absurd hb (Ba _ _ _)⟩;simp only[List.not_mem_nil,false_or];split
   ·rename_i X7
    rw[List.getElem?_eq_none X7,List.getElem?_eq_none (by rw[gN];exact X7)]
   ·rfl
  ·rename_i hw
   generalize Wf bs j acc (MM (List.map (fun t=>(t,ab env t)) (o.looksAt ops)) o.op)=Z6 at h;have htl:(bp Z6 0 mem).length=mem.length:=gN _ _ _;split at h
   ·rename_i v m h1
    cases h;have hk:=Jw h1;rw[aeZ,htl] at hk;refine⟨rfl,rfl,hd,hw,rfl,fun _=>.inl h1,(fun e=>by cases e),htl,fun b=>km _ _ _ _,hk.1,mN _ _ _ _ hk.1,fun b=>?_,fun b hb hn Ze=>?_⟩
    ·have:=tP (vu (List.map (fun t=>(t,ab env t)) (o.looksAt ops)) o.op) 0 mem m b hk.1
     rw[Nat.zero_add] at this;exact this
    ·rw[hk.2 b hb hn];exact C9 (fun b=>km Z6 0 mem b) Ze
   ·split at h
    ·cases h
    ·rename_i c args hc
     split at h
     ·cases h
     ·rename_i res aa5
      simp only[Option.some.injEq] at h;subst h;have F':=wL hO aa5;rw[htl] at F';refine⟨rfl,rfl,hd,hw,rfl,fun _=>Bi hO hc aa5,(fun e=>by cases e),htl,fun b=>km _ _ _ _,F',mN _ _ _ _ F',fun b=>?_,fun b hb hn Ze=>?_⟩
      ·have:=tP (UX (bp Z6 0 mem) res.pre) 0 mem (res.mem (bp Z6 0 mem)) b F'
       rw[Nat.zero_add] at this;exact this
      ·cases hp:res.pre with
       |some p=>
        exfalso;apply hn;show b∈UX (bp Z6 0 mem) res.pre
        rw[hp];show b∈cz 0 (bp Z6 0 mem)
        have:=(Cx 0 (bp Z6 0 mem) b).2 Ze
        rwa [Nat.zero_add] at this
       |none=>
        show(res.mem (bp Z6 0 mem))[b]? =mem[b]?
        unfold HS.mem;rw[hp];simp only[Option.getD_none];rw[List.getElem?_append_left (by rw[htl];exact hb)];exact C9 (fun b=>km Z6 0 mem b) Ze
 ·cases h
def lH(P:Program) (T:TypeId→Option TyI) (N:Nat) (ops:Array Oper):List Oper→Env→Mem→List Rec→Env→Mem→Prop
 | [],env,mem,[],AC,mem' =>AC =env∧mem' =mem
 |o::os,env,mem,r::rs,AC,mem' =>r.env=env∧r.mem=mem∧agf P T N ops r o∧lH P T N ops os (afp env o.dst r.v) r.nx rs AC mem'
 |_,_,_,_,_,_=>False
theorem ou(hO:kP P O) {bs:List Nat}:∀{l:List Oper}{j:Nat}{env:Env}{mem:Mem}{acc R:List Rec}{AC :Env}{mem' :Mem},
  lg T O N ops bs j l env mem acc=some (R,AC,mem')→∃rs,R=acc.reverse++rs∧lH P T N ops l env mem rs AC mem'
 | [],j,env,mem,acc,R,AC,mem',h=>by simp only[lg,Option.some.injEq,Prod.mk.injEq] at h;obtain⟨rfl,rfl,rfl⟩:=h;exact⟨[],by simp,rfl,rfl⟩
 |o::os,j,env,mem,acc,R,AC,mem',h=>by
  unfold lg at h;split at h
  ·cases h
  ·rename_i r hr
   obtain⟨h1,h2,h3⟩:=Fv hO hr;obtain⟨rs,e,h4⟩:=ou hO h;exact⟨r::rs,by rw[e];simp,h1,h2,h3,h4⟩
def P7(R:List Rec) (Zg:Env×Mem) (j:Nat):Env×Mem:=match R[j]? with
 |some r=>(r.env,r.mem)
 |none=>Zg
theorem xF:∀{l:List Oper}{env:Env}{mem:Mem}{R:List Rec}{AC :Env}{mem' :Mem},lH P T N ops l env mem R AC mem' →R.length=l.length
 | [],_,_,[],_,_,_=>rfl
 |_::_,_,_,_::_,_,_,h=>by simp only[List.length_cons];rw[xF h.2.2.2]
 | [],_,_,_::_,_,_,h=>h.elim
 |_::_,_,_,[],_,_,h=>h.elim
theorem vn:∀{l:List Oper}{env:Env}{mem:Mem}{R:List Rec}{AC :Env}{mem' :Mem},lH P T N ops l env mem R AC mem' →P7 R (AC,mem') 0=(env,mem)
 | [],_,_,[],_,_,h=>by obtain⟨rfl,rfl⟩:=h;rfl
 |_::_,_,_,_::_,_,_,h=>by obtain⟨rfl,rfl,_⟩:=h;rfl
 | [],_,_,_::_,_,_,h=>h.elim
 |_::_,_,_,[],_,_,h=>h.elim
theorem Bo:∀{l:List Oper}{env:Env}{mem:Mem}{R:List Rec}{AC :Env}{mem' :Mem},lH P T N ops l env mem R AC mem' →∀(j:Nat) (o:Oper),l[j]? =some o→
  ∃r,R[j]? =some r∧agf P T N ops r o∧P7 R (AC,mem') (j+1)=(afp r.env o.dst r.v,r.nx)
 |o::os,_,_,r::rs,AC,mem',h,0,o',ho=>by cases ho;obtain⟨rfl,rfl,h3,h4⟩:=h;exact⟨r,rfl,h3,vn h4⟩
 |o::os,_,_,r::rs,AC,mem',h,j+1,o',ho=>by obtain⟨_,_,_,h4⟩:=h;obtain⟨r',g1,g2,g3⟩:=Bo h4 j o' ho;exact⟨r',g1,g2,g3⟩
 | [],_,_,_,_,_,_,j,_,ho=>by simp at ho
 |_::_,_,_,[],_,_,h,_,_,_=>h.elim
theorem mr:∀(i:Nat) (R:List Rec) (j:Nat) (r:Rec),R[j]? =some r→(i+j,r)∈aJ i R
 |i,x::xs,0,r,h=>by cases h;simp[aJ]
 |i,x::xs,j+1,r,h=>by simp only[List.getElem?_cons_succ] at h;have:=mr (i+1) xs j r h;rw[show i+1+j=i+(j+1) by omega] at this;simp[aJ,this]
 |_,[],_,_,h=>by simp at h
end
end Go.Eng
namespace Go.Eng
variable{R:List Rec}{bs:List Nat}{j:Nat}
section
variable {P:Program}{T:TypeId→Option TyI}{O:adM}{N:Nat}{ops:Array Oper}
def Vd(bs:List Nat) (R:List Rec) (j:Nat):List (Nat×Rec):=(aJ 0 R).filter fun f=>decide (f.1<j)&& !bef bs f.1 j
def n8(n:Nat) (bs:List Nat) (R:List Rec) (Zg:Env×Mem):ae9 where
 E j:=(P7 R Zg j).1
 M j:=(P7 R Zg j).2
 En j:=match R[j]? with | some r=>r.en | none=>[]
 Tm j:=match R[j]? with | some r=>r.tm | none=>[]
 M' j:=match R[j]? with | some r=>r.m' | none=>[]
 v j:=match R[j]? with | some r=>r.v | none=>.undef
 wb j:=match R[j]? with | some r=>r.wb | none=>false
 afh j b:=match R[j]? with | some r=>decide (b∈r.wr)||decide (r.mem.length≤b) | none=>false
 ok j b:=match R[j]? with | some r=>gT r.nx.length (Vd bs R j) b | none=>false
 cl i j:=decide (i<n)&&bef bs i j
theorem AO(h:nl ops bs=true){o:Oper}(ho:ops[j]? =some o):
  (∀e∈o.after,Region.binds .any e=true→e.on<j)∧
  (∀i,i<ops.size→bef bs i j=true→∃e∈o.after,Region.binds .any e=true∧(e.on=i∨bef bs i e.on=true))∧
  ∀(i:Nat) oi t,ops[i]? =some oi→i≠j→oi.dst=some t→(t∈o.looksAt ops∨o.dst=some t)→bef bs i j=true∨bef bs j i=true:=by
 have hj:j<ops.size:=(Array.getElem?_eq_some_iff.1 ho).1;unfold nl at h;have:=List.all_eq_true.1 h j (by simpa using hj);simp only[ho,Bool.and_eq_true,List.all_eq_true,List.mem_range] at this;obtain⟨h1,h2⟩:=this;refine⟨fun e he hb=>?_,fun i hi hb=>?_,fun i oi t hi PP ht hor=>?_⟩
 ·have:=h1 e (by simpa using he)
  simpa [hb] using this
 ·have:=(h2 i hi).1
  simp only[hb,Bool.not_true,Bool.false_or,List.any_eq_true] at this;obtain⟨e,he,hx⟩:=this;simp only[Bool.and_eq_true,Bool.or_eq_true,beq_iff_eq] at hx;exact⟨e,by simpa using he,hx.1,hx.2⟩
 ·have hil:i<ops.size:=(Array.getElem?_eq_some_iff.1 hi).1
  have:=(h2 i hil).2;simp only[hi,ht,Bool.or_eq_true,beq_iff_eq,PP,false_or,Bool.and_eq_true,Bool.not_eq_true',List.contains_eq_mem,decide_eq_false_iff_not] at this;rcases this with (h3 | h3) | ⟨h3,h4⟩
  ·exact .inl h3
  ·exact .inr h3
  ·rcases hor with h5 | h5
   ·exact absurd h5 h3
   ·rw[h5] at h4;simp at h4
structure afI (bs:List Nat) (R:List Rec) (j:Nat) (r:Rec):Prop where
 wr:∀b∈r.wr,il r.tm b
 agr:r.v.y9 (gT r.nx.length (Vd bs R j))=true
 ahb:∀(b:Nat) s,b∈r.wr→r.nx[b]? =some s→s.y9 (gT r.nx.length (Vd bs R j))=true
 fresh:∀(b:Nat) s,r.mem.length≤b→r.nx[b]? =some s→(s≠ .kO→s.own=true)∧s.y9 (gT r.nx.length (Vd bs R j))=true
 agU:∀(i:Nat) f,i<j→R[i]? =some f→bef bs i j=false→(∀b∈f.wr,¬il r.tm b)∧(∀b∈r.wr,¬il f.tm b)∧∀b,f.mem.length≤b→b<f.nx.length→¬il r.tm b
theorem E6{r:Rec}(h:gj bs (aJ 0 R) j r=true):afI bs R j r:=by
 unfold gj at h;simp only[Bool.and_eq_true] at h;obtain⟨⟨⟨⟨h1,h2⟩,h3⟩,h4⟩,h5⟩:=h;refine⟨fun b hb=>tJ.1 (List.all_eq_true.1 h1 b hb),h2,fun b s hb hs=>?_,fun b s hb hs=>?_,fun i f hi hf hb=>?_⟩
 ·have:=List.all_eq_true.1 h3 b hb
  rw[hs] at this;exact this
 ·have hm:s∈r.nx.drop r.mem.length:=by apply List.mem_of_getElem? (i:=b-r.mem.length);rw[List.getElem?_drop,←hs];congr 1;omega
  have:=List.all_eq_true.1 h4 s hm;simp only[Bool.and_eq_true,Bool.or_eq_true] at this;refine⟨fun PP=>?_,this.2⟩;rcases this.1 with h | h
  ·exact h
  ·cases s<;>simp_all
 ·have Yo:(i,f)∈Vd bs R j:=by unfold Vd;rw[List.mem_filter];have:=mr 0 R i f hf;rw[Nat.zero_add] at this;exact⟨this,by simp[hi,hb]⟩
  have:=List.all_eq_true.1 h5 (i,f) Yo;simp only[Bool.and_eq_true,List.all_eq_true,Bool.not_eq_true'] at this;obtain⟨⟨k1,k2⟩,k3⟩:=this;refine⟨fun b hb hB=>?_,fun b hb hB=>?_,fun b hb1 Yl hB=>?_⟩
  ·have:=k1 b hb;rw[tJ.2 hB] at this;cases this
  ·have:=k2 b hb;rw[tJ.2 hB] at this;cases this
  ·obtain⟨s,hs,PP⟩:=hB
   have hm:s∈(r.tm.drop f.mem.length).take (f.nx.length-f.mem.length):=by apply List.mem_of_getElem? (i:=b-f.mem.length);rw[List.getElem?_take_of_lt (by omega),List.getElem?_drop,←hs];congr 1;omega
   have:=k3 s hm;cases s<;>simp_all
theorem Dr{env:Env}:∀(l:List Tmp) (t:Nat),(t∈l∧ab (l.map fun t=>(t,ab env t)) t=ab env t)∨(t∉l∧ab (l.map fun t=>(t,ab env t)) t=.undef)
 | [],t=>.inr ⟨by simp,rfl⟩
 |x::xs,t=>by
  simp only[List.map_cons,ab];by_cases hx:x=t
  ·subst hx;exact .inl ⟨by simp,by simp⟩
  ·simp only[hx,if_false]
   rcases Dr (env:=env) xs t with⟨h1,h2⟩ | ⟨h1,h2⟩
   ·exact .inl ⟨by simp[h1],h2⟩
   ·exact .inr ⟨by simp[h1,Ne.symm hx],h2⟩
theorem Un{m:Mem}{b:Nat}(h:il m b):b<m.length:=by obtain⟨s,h,_⟩:=h;exact(gL h)
theorem Uh{env AC :Env}{mem mem' :Mem}(hs:nl ops bs=true)(hR:lH P T N ops ops.toList env mem R AC mem')(hC:∀(j:Nat) r,R[j]? =some r→afI bs R j r):rH P T N ops (n8 ops.size bs R (AC,mem')):=by
 have at_:∀(j:Nat) o,ops[j]? =some o→∃r,R[j]? =some r∧agf P T N ops r o∧P7 R (AC,mem') (j+1)=(afp r.env o.dst r.v,r.nx):=
  fun j o ho=>Bo hR j o (by simpa using ho)
 have M_at:∀(j:Nat) r,R[j]? =some r→(n8 ops.size bs R (AC,mem')).M j=r.mem:=fun j r h=>by simp[n8,P7,h]
 have lens:∀(i:Nat) ri oi,ops[i]? =some oi→R[i]? =some ri→∀(k j:Nat) rj oj,j=i+1+k→ops[j]? =some oj→R[j]? =some rj→ri.nx.length≤rj.mem.length:=by
  intro i ri oi Zm hri k;induction k with
  |zero=>
   intro j rj oj hj hoj hrj;obtain⟨r,g1,g2,g3⟩:=at_ i oi Zm;rw[hri] at g1;cases g1;have:P7 R (AC,mem') (i+1)=(rj.env,rj.mem):=by rw[show i+1=j by omega];simp[P7,hrj]
   rw[this] at g3;have:=congrArg Prod.snd g3;simp only at this;rw[this];exact Nat.le_refl _
  |succ k ih=>
   intro j rj oj hj hoj hrj;have hjs:j<ops.size:=(Array.getElem?_eq_some_iff.1 hoj).1;obtain⟨op,hop⟩:=yL (ops:=ops) (j:=j-1) (by omega);obtain⟨r,g1,g2,g3⟩:=at_ (j-1) op hop;have h1:=ih (j-1) r op (by omega) hop g1;have:P7 R (AC,mem') (j-1+1)=(rj.env,rj.mem):=by rw[show j-1+1=j by omega];simp[P7,hrj]
   rw[this] at g3;have e:=congrArg Prod.snd g3;simp only at e;have:=g2.agh;have:=g2.mono;rw[e];omega
 have aaJ :∀(i j:Nat) ri rj oi oj,i<j→ops[i]? =some oi→ops[j]? =some oj→R[i]? =some ri→R[j]? =some rj→ri.nx.length≤rj.mem.length:=
  fun i j ri rj oi oj Zp Zm hoj hri hrj=>lens i ri oi Zm hri (j-i-1) j rj oj (by omega) hoj hrj
 intro j o ho;obtain⟨r,hr,K,abl⟩:=at_ j o ho;have C:=hC j r hr;have S:=AO hs ho;have hjs:j<ops.size:=(Array.getElem?_eq_some_iff.1 ho).1;have eM:(n8 ops.size bs R (AC,mem')).M j=r.mem:=M_at j r hr;have eM1:(n8 ops.size bs R (AC,mem')).M (j+1)=r.nx:=by simp[n8,abl]
 have eE:(n8 ops.size bs R (AC,mem')).E j=r.env:=by simp[n8,P7,hr]
 have eE1:(n8 ops.size bs R (AC,mem')).E (j+1)=afp r.env o.dst r.v:=by simp[n8,abl]
 have eEn:(n8 ops.size bs R (AC,mem')).En j=r.en:=by simp[n8,hr]
 have eT:(n8 ops.size bs R (AC,mem')).Tm j=r.tm:=by simp[n8,hr]
 have eM' :(n8 ops.size bs R (AC,mem')).M' j=r.m' :=by simp[n8,hr]
 have ev:(n8 ops.size bs R (AC,mem')).v j=r.v:=by simp[n8,hr]
 have ew:(n8 ops.size bs R (AC,mem')).wb j=r.wb:=by simp[n8,hr]
 have Y9:∀b,(n8 ops.size bs R (AC,mem')).afh j b=true↔b∈r.wr∨r.mem.length≤b:=fun b=>by simp[n8,hr]
 have aai:∀b,(n8 ops.size bs R (AC,mem')).afh j b=false↔b∉r.wr∧b<r.mem.length:=fun b=>by simp[n8,hr]
 have eok:(n8 ops.size bs R (AC,mem')).ok j=gT r.nx.length (Vd bs R j):=by funext b;simp[n8,hr]
 have ecl:∀i k,i<ops.size→(n8 ops.size bs R (AC,mem')).cl i k=bef bs i k:=fun i k hi=>by simp[n8,hi]
 have abm:r.mem.length≤r.nx.length:=by rw[K.agh];exact K.mono
 refine⟨by rw[eEn,ew];exact K.wanted,K.dst,?_,?_,by rw[eE1,eE,ev],?_,?_,by rw[eT,eM];exact K.ago,by rw[eT,eM];exact K.agp,by rw[eM1,eM'];exact K.agh,by rw[eM,eM1];exact abm,
  ?_,?_,?_,?_,?_,?_,?_,?_,?_,?_,S.1,?_⟩
 ·rw[ew,eEn,eT,ev,eM'];exact K.step
 ·rw[ew,ev,eM',eT];exact K.skip
 ·intro t
  rw[eEn,eE,K.en];rcases Dr (env:=r.env) (o.looksAt ops) t with⟨h1,h2⟩ | ⟨h1,h2⟩
  ·refine .inr ⟨h2,fun i oi hi PP ht=>?_⟩
   rw[ecl i j (Array.getElem?_eq_some_iff.1 hi).1,ecl j i hjs];exact S.2.2 i oi t hi PP ht (.inl h1)
  ·exact .inl h2
 ·intro i oi t hi PP h1 h2
  rw[ecl i j (Array.getElem?_eq_some_iff.1 hi).1,ecl j i hjs];exact S.2.2 i oi t hi PP h2 (.inr h1)
 ·intro b hb
  rw[eM1,eM',K.nx b,if_pos ((Y9 b).1 hb)]
 ·intro b hb ht
  rw[eM] at hb;rw[eM1,eM,K.nx b,if_neg];rw[aai] at ht;rintro (h | h)
  ·exact ht.1 h
  ·omega
 ·intro b hb ht hB
  rw[eM] at hb;rw[eM',eM];rw[aai] at ht;rw[eT] at hB;exact K.afq b hb ht.1 hB
 ·intro b hb
  rw[eM] at hb;exact(Y9 b).2 (.inr hb)
 ·intro b ht hb
  rw[eM] at hb;rw[eT];rcases (Y9 b).1 ht with h | h
  ·exact C.wr b h
  ·omega
 ·
  intro i oi b Zm Zp hbi hti hor;obtain⟨ri,hri,Ki,hni⟩:=at_ i oi Zm;have Ci:=hC i ri hri;have eMi:(n8 ops.size bs R (AC,mem')).M (i+1)=ri.nx:=by simp[n8,hni]
  rw[eMi] at hbi;have acB :b∈ri.wr∨ri.mem.length≤b:=by simpa [n8,hri] using hti
  rw[eM1,eT] at hor;rw[ecl i j (Array.getElem?_eq_some_iff.1 Zm).1,ecl j i hjs];by_cases A':i<j
  ·cases hb:bef bs i j with
   |true=>exact .inl rfl
   |false=>
    exfalso;obtain⟨p1,p2,p3⟩:=C.agU i ri A' hri hb;have hl:=aaJ i j ri r oi o A' Zm ho hri hr;have acC:¬il r.tm b:=by
     rcases acB with h | h
     ·exact p1 b h
     ·exact p3 b h hbi
    rcases hor with⟨g1,g2⟩ | g
    ·rcases (Y9 b).1 g2 with h | h
     ·exact acC (C.wr b h)
     ·omega
    ·exact acC g
  ·cases hb:bef bs j i with
   |true=>exact .inr rfl
   |false=>
    exfalso;obtain⟨p1,p2,p3⟩:=Ci.agU j r (by omega) hr hb;have hl:=aaJ j i r ri o oi (by omega) ho Zm hr hri;have htl:=K.ago;rcases acB with h | h
    ·rcases hor with⟨g1,g2⟩ | g
     ·rcases (Y9 b).1 g2 with h' | h'
      ·exact p2 b h (C.wr b h')
      ·exact p3 b h' g1 (Ci.wr b h)
     ·exact p2 b h g
    ·rcases hor with⟨g1,g2⟩ | g
     ·omega
     ·have:=Un g;omega
 ·
  intro i b oi Zm XW h1 h2;obtain⟨ri,hri,Ki,hni⟩:=at_ i oi Zm;have eMi:(n8 ops.size bs R (AC,mem')).M (i+1)=ri.nx:=by simp[n8,hni]
  rw[M_at i ri hri] at h1;rw[eMi] at h2;rw[eok] at XW;unfold gT at XW;simp only[Bool.and_eq_true,decide_eq_true_eq,List.all_eq_true,Bool.not_eq_true',decide_eq_false_iff_not] at XW;by_cases Zp:i=j
  ·exact .inl Zp
  ·refine .inr ?_
   rw[ecl i j (Array.getElem?_eq_some_iff.1 Zm).1];by_cases A':i<j
   ·cases hb:bef bs i j with
    |true=>rfl
    |false=>
     exfalso;have Yo:(i,ri)∈Vd bs R j:=by unfold Vd;rw[List.mem_filter];have:=mr 0 R i ri hri;rw[Nat.zero_add] at this;exact⟨this,by simp[A',hb]⟩
     exact XW.2 (i,ri) Yo ⟨h1,h2⟩
   ·exfalso
    have hl:=aaJ j i r ri o oi (by omega) ho Zm hr hri;omega
 ·rw[ev,eok];exact C.agr
 ·intro b s ht hs
  rw[eM1] at hs;rw[eok];rcases (Y9 b).1 ht with h | h
  ·exact C.ahb b s h hs
  ·exact(C.fresh b s h hs).2
 ·intro b s hb hs PP
  rw[eM] at hb;rw[eM1] at hs ⊢;exact⟨s,hs,(C.fresh b s hb hs).1 PP⟩
 ·intro i hb
  simp only[n8,Bool.and_eq_true,decide_eq_true_eq] at hb;obtain⟨e,h1,h2,h3⟩:=S.2.1 i hb.1 hb.2;refine⟨e,h1,h2,?_⟩;rcases h3 with h | h
  ·exact .inl h
  ·exact .inr (by simp[n8,hb.1,h])
theorem Fz(hm:P.follows .mixedOrders=true)(hT:cJ P T)(hO:kP P O){m0:Nat}{s s' :XS}(XZ:nl ops (eY ops.toList)=true)(h:aE T O N m0 ops s=some s'):
  (∀(tp:Bool) (id:Nat) (Q:Exit→St→Prop),Q .normal ⟨s'.env,s'.mem⟩→AWP P tp N m0 (.region id ops true) ⟨s.env,s.mem⟩ Q)∧Clean m0 s.mem s.aeS s'.mem s'.aeS:=by
 unfold aE at h;simp only at h
 ·split at h
  ·cases h
  ·rename_i R env mem hr
   split at h
   ·rename_i hc
    cases h;obtain⟨rs,e,hR⟩:=ou hO hr;simp only[List.reverse_nil,List.nil_append] at e;subst e;have hC:∀(j:Nat) r,R[j]? =some r→afI (eY ops.toList) R j r:=by intro j r hj;have:=mr 0 R j r hj;rw[Nat.zero_add] at this;exact E6 (List.all_eq_true.1 hc _ this)
    have hA:=Uh XZ hR hC;have hz:=vn hR;have F':=xF hR;have ade:P7 R (env,mem) ops.size=(env,mem):=by unfold P7;rw[List.getElem?_eq_none (by rw[F'];simp)]
    refine⟨fun tp id Q hq=>AB hm hT (d:=n8 ops.size (eY ops.toList) R (env,mem)) hA (by simp[n8,hz]) (by simp[n8,hz]) (by simp[n8,ade]) hq,?_⟩;have key:∀(l:List Oper) (e:Env) (m:Mem) (rs:List Rec),lH P T N ops l e m rs env mem→m0≤m.length→m0≤mem.length∧((rs.any fun r=>r.wr.any fun b=>decide (b<m0))=false→mem.take m0=m.take m0):=by
     intro l;induction l with
     |nil=>
      intro e m rs h Yt;cases rs with
      |nil=>obtain⟨rfl,rfl⟩:=h;exact⟨Yt,fun _=>rfl⟩
      |cons=>exact h.elim
     |cons o os ih=>
      intro e m rs h Yt;cases rs with
      |nil=>exact h.elim
      |cons r rs=>
       obtain⟨rfl,rfl,K,h4⟩:=h;have abm:r.mem.length≤r.nx.length:=by rw[K.agh];exact K.mono
       obtain⟨a1,a2⟩:=ih _ _ _ h4 (by omega);refine⟨a1,fun hw=>?_⟩;simp only[List.any_cons,Bool.or_eq_false_iff] at hw;rw[a2 hw.2];refine tX Yt (by omega) fun b hb=>?_
       rw[K.nx b,if_neg];rintro (h | h)
       ·exact ng hw.1 hb h
       ·omega
    intro Yt;obtain⟨a1,a2⟩:=key _ _ _ _ hR Yt;refine⟨a1,fun hd=>?_⟩;simp only[Bool.or_eq_false_iff] at hd;exact⟨hd.1,a2 hd.2⟩
   ·cases h
end
end Go.Eng
namespace Go.Eng
variable{e env z':Env}
section
variable {P:Program}{T:TypeId→Option TyI}{lv:Code→List Nat}{O:adM}{K N m0:Nat}{tp:Bool}
def Xj(P:Program) (tp:Bool) (N m0:Nat) (c:Code) (s:XS) (e:Exit) (s' :XS):Prop:=
 (∀Q:Exit→St→Prop,Q e ⟨s'.env,s'.mem⟩→AWP P tp N m0 c ⟨s.env,s.mem⟩ Q)∧Clean m0 s.mem s.aeS s'.mem s'.aeS
def afd(wr:List Nat) (e e' :Env):Prop:=∀t,t∉wr→ab e' t=ab e t
theorem afd.refl(wr:List Nat)(e:Env):afd wr e e:=fun _ _=>rfl
theorem afd.trans{wr:List Nat}{e1 e2 e3:Env}(h:afd wr e1 e2)(h' :afd wr e2 e3):afd wr e1 e3:=fun t ht=>(h' t ht).trans (h t ht)
theorem afd.mono{wr wr' :List Nat}{e' :Env}(h:afd wr e e')(hw:∀t,t∈wr→t∈wr'):afd wr' e e' :=fun t ht=>h t fun hm=>ht (hw t hm)
theorem ix(a b:Env)(t:Nat)(h:∀e∈a,e.1≠t):ab (a++b) t=ab b t:=by
 induction a with
 |nil=>rfl
 |cons e r ih=>
  obtain⟨k,v⟩:=e;simp only[List.cons_append,ab];rw[if_neg (h (k,v) (by simp))];exact ih fun e he=>h e (by simp[he])
theorem gy(l:List Nat)(g:Nat→AV)(b:Env)(t:Nat)(h:t∈l):ab (l.map (fun t=>(t,g t))++b) t=g t:=by
 induction l with
 |nil=>cases h
 |cons x r ih=>
  simp only[List.map_cons,List.cons_append,ab];by_cases hx:x=t
  ·subst hx;rw[if_pos rfl]
  ·rw[if_neg hx]
   exact ih (by cases h with
    |head=>exact absurd rfl hx
    |tail _ h=>exact h)
theorem rr{lv wr:List Nat}(h:afd wr z' env)(t:Nat):ab (aD lv wr z' env) t=ab env t∨ab (aD lv wr z' env) t=.undef:=by
 unfold aD;rw[List.append_assoc];by_cases h1:t∈lv
 ·rw[gy lv (fun t=>ab env t) _ t h1];exact .inl rfl
 ·rw[ix _ _ t (by intro e he;simp only[List.mem_map] at he;obtain⟨x,hx,rfl⟩:=he;intro e;exact h1 (e▸hx))]
  by_cases h2:t∈wr
  ·rw[gy (wr.filter fun t=> !lv.contains t) (fun _=>AV.undef) _ t (by rw[List.mem_filter];exact⟨h2,by simpa using h1⟩)];exact .inr rfl
  ·rw[ix _ _ t (by intro e he;simp only[List.mem_map,List.mem_filter] at he;obtain⟨x,hx,rfl⟩:=he;intro e;exact h2 (e▸hx.1))]
   exact .inl (h t h2).symm
theorem nt{lv wr:List Nat}(hl:afd wr z' env):afd wr z' (aD lv wr z' env):=by
 intro t ht;unfold aD;rw[List.append_assoc];by_cases h1:t∈lv
 ·rw[gy lv (fun t=>ab env t) _ t h1];exact hl t ht
 ·rw[ix _ _ t (by intro e he;simp only[List.mem_map] at he;obtain⟨x,hx,rfl⟩:=he;intro e;exact h1 (e▸hx)),
   ix _ _ t (by intro e he;simp only[List.mem_map,List.mem_filter] at he;obtain⟨x,hx,rfl⟩:=he;intro e;exact ht (e▸hx.1))]
theorem Bu{wr:List Nat}{o:Oper}{v:AV}(h:∀d,o.dst=some d→d∈wr):afd wr e (afp e o.dst v):=by intro t ht;exact Kf fun he=>ht (h t he)
theorem oq{m0:Nat}{ops:Array Oper}:∀{l:List Oper}{s s' :XS},eg T O N m0 ops l s=some s' →afd (l.filterMap (·.dst)) s.env s'.env
 | [],s,s',h=>by cases h;exact .refl _ _
 |o::os,s,s',h=>by
  have hm:∀t,t∈os.filterMap (·.dst)→t∈(o::os).filterMap (·.dst):=fun t ht=>by
   rw[List.filterMap_cons];split
   ·exact ht
   ·exact List.mem_cons_of_mem _ ht
  have hd:∀d,o.dst=some d→d∈(o::os).filterMap (·.dst):=fun d hd=>by rw[List.filterMap_cons];simp[hd]
  unfold eg at h;split at h
  ·split at h
   ·split at h
    ·exact(Bu hd).trans ((oq h).mono hm)
    ·cases h
   ·exact(Bu hd).trans ((oq h).mono hm)
   ·cases h
  ·cases h
theorem Kz{ops:Array Oper}:∀{l:List Oper}{env:Env}{mem:Mem}{R:List Rec}{AC :Env}{mem' :Mem},lH P T N ops l env mem R AC mem' →afd (l.filterMap (·.dst)) env AC
 | [],_,_,[],_,_,h=>by obtain⟨rfl,_⟩:=h;exact .refl _ _
 |o::os,_,_,r::rs,_,_,h=>by
  obtain⟨rfl,_,_,h4⟩:=h;have hm:∀t,t∈os.filterMap (·.dst)→t∈(o::os).filterMap (·.dst):=fun t ht=>by
   rw[List.filterMap_cons];split
   ·exact ht
   ·exact List.mem_cons_of_mem _ ht
  have hd:∀d,o.dst=some d→d∈(o::os).filterMap (·.dst):=fun d hd=>by rw[List.filterMap_cons];simp[hd]
  exact(Bu hd).trans ((Kz h4).mono hm)
 | [],_,_,_::_,_,_,h=>h.elim
 |_::_,_,_,[],_,_,h=>h.elim
theorem KG(hO:kP P O){m0:Nat}{ops:Array Oper}{s s' :XS}(h:aE T O N m0 ops s=some s'):afd (ops.toList.filterMap (·.dst)) s.env s'.env:=by
 unfold aE at h;simp only at h;split at h
 ·cases h
 ·rename_i R env mem hr
  split at h
  ·cases h
   obtain⟨rs,e,hR⟩:=ou hO hr;exact Kz hR
  ·cases h
mutual
theorem aeA.refs{μ:Nat→Place}{n:Nat}:∀{v V},aeA μ n v V→v.refs n=[]
 |.undef,_,_=>rfl
 |.bool _,_,_=>rfl
 |.int _ _,_,_=>rfl
 |.str _,_,_=>rfl
 |.ptr b o,V,h=>by simp only[aeA] at h;simp[AV.refs,h.1]
 |.aeT,_,_=>rfl
 |.slice b o l c,V,h=>by simp only[aeA] at h;simp[AV.refs,h.1]
 |.kK,_,_=>rfl
 |.map b,V,h=>by simp only[aeA] at h;simp[AV.refs,h.1]
 |.yield b,V,h=>by simp only[aeA] at h;simp[AV.refs,h.1]
 |.ae0,_,_=>rfl
 |.func f cs,V,h=>by simp only[aeA] at h;obtain⟨Us,_,h⟩:=h;simp[AV.refs,aeC.refs h]
 |.nilFunc,_,_=>rfl
 |.iface t v,V,h=>by simp only[aeA] at h;obtain⟨U,_,h⟩:=h;simp[AV.refs,aeA.refs h]
 |.nilIface,_,_=>rfl
 |.agg cs,V,h=>by simp only[aeA] at h;obtain⟨Us,_,h⟩:=h;simp[AV.refs,aeC.refs h]
 |.tuple cs,V,h=>by simp only[aeA] at h;obtain⟨Us,_,h⟩:=h;simp[AV.refs,aeC.refs h]
theorem aeC.refs{μ:Nat→Place}{n:Nat}:∀{vs Us},aeC μ n vs Us→AV.aeR n vs=[]
 | [],_,_=>rfl
 |v::vs,_,h=>by simp only[aeC] at h;obtain⟨U,Ws,_,h1,h2⟩:=h;simp[AV.aeR,aeA.refs h1,aeC.refs h2]
end
mutual
theorem AV.aeW{m1:Nat}{ks:List Nat}:∀{v:AV},v.refs m1=[]→v.ren (rho m1 ks)=v
 |.undef,_=>rfl
 |.bool _,_=>rfl
 |.int _ _,_=>rfl
 |.str _,_=>rfl
 |.ptr b o,h=>by
  have hb:b<m1:=by
   by_cases hb:b<m1
   ·exact hb
   ·simp[AV.refs,hb] at h
  simp[AV.ren,rho,hb]
 |.aeT,_=>rfl
 |.slice b o l c,h=>by
  have hb:b<m1:=by
   by_cases hb:b<m1
   ·exact hb
   ·simp[AV.refs,hb] at h
  simp[AV.ren,rho,hb]
 |.kK,_=>rfl
 |.map b,h=>by
  have hb:b<m1:=by
   by_cases hb:b<m1
   ·exact hb
   ·simp[AV.refs,hb] at h
  simp[AV.ren,rho,hb]
 |.yield b,h=>by
  have hb:b<m1:=by
   by_cases hb:b<m1
   ·exact hb
   ·simp[AV.refs,hb] at h
  simp[AV.ren,rho,hb]
 |.ae0,_=>rfl
 |.func f cs,h=>by simp only[AV.refs] at h;simp[AV.ren,AV.aff h]
 |.nilFunc,_=>rfl
 |.iface t v,h=>by simp only[AV.refs] at h;simp[AV.ren,AV.aeW h]
 |.nilIface,_=>rfl
 |.agg cs,h=>by simp only[AV.refs] at h;simp[AV.ren,AV.aff h]
 |.tuple cs,h=>by simp only[AV.refs] at h;simp[AV.ren,AV.aff h]
theorem AV.aff{m1:Nat}{ks:List Nat}:∀{vs:List AV},AV.aeR m1 vs=[]→AV.aeM (rho m1 ks) vs=vs
 | [],_=>rfl
 |v::vs,h=>by simp only[AV.aeR,List.append_eq_nil_iff] at h;simp[AV.aeM,AV.aeW h.1,AV.aff h.2]
end
variable{ks:List Nat}{m1:Nat}
theorem aeD.aeW{s:aeD}(h:s.refs m1=[]):s.ren (rho m1 ks)=s:=by
 cases s with
 |kO=>rfl
 |cells own es cs=>simp only[aeD.refs] at h;simp only[aeD.ren,AV.aff h]
 |map es=>
  simp only[aeD.refs,List.flatMap_eq_nil_iff] at h;simp only[aeD.ren];congr 1;conv=>rhs;rw[←List.map_id es]
  apply List.map_congr_left;intro e he;have:=h e he;rw[List.append_eq_nil_iff] at this;rw[AV.aeW this.1,AV.aeW this.2];rfl
 |ae8 es=>
  simp only[aeD.refs,List.flatMap_eq_nil_iff] at h;simp only[aeD.ren];congr 1;conv=>rhs;rw[←List.map_id es]
  apply List.map_congr_left;intro e he;have:=h e he;rw[List.append_eq_nil_iff] at this;rw[AV.aeW this.1,AV.aeW this.2];rfl
 |loop r=>
  simp only[aeD.refs,List.flatMap_eq_nil_iff] at h;simp only[aeD.ren,xH];congr 1;have:r.env.map (fun e=>(e.1,e.2.ren (rho m1 ks)))=r.env:=by
   conv=>rhs;rw[←List.map_id r.env]
   apply List.map_congr_left;intro e he;rw[AV.aeW (h e he)];rfl
  rw[this]
variable{Q:Exit→St→Prop}
theorem AWP.assume{c:Code}{st:St}(h:m0≤st.mem.length→(∀t,(ab st.env t).refs st.mem.length=[])→AWP P tp N m0 c st Q):AWP P tp N m0 c st Q:=
 fun ro h0 base μ w a hro h1 h2 h3 h4 h5=>h h5 (fun t=>(h2 t).refs) ro h0 base μ w a hro h1 h2 h3 h4 h5
theorem JO{mem:Mem}(h:(mem.take m1).all (fun s=>(s.refs m1).isEmpty)=true):aeK m1 ks mem=mem.take m1++afq m1 ks mem:=by
 unfold aeK;congr 1;conv=>rhs;rw[←List.map_id (mem.take m1)]
 apply List.map_congr_left;intro s hs;have:=List.all_eq_true.1 h s hs;rw[List.isEmpty_iff] at this;rw[aeD.aeW this];rfl
variable{lw:List Nat}
section
variable{wr:List Nat}
include wr
theorem rv{g:Nat→AV}(t:Nat):
  ab ((lw.filter fun t=>wr.contains t).map (fun t=>(t,g t))++((wr.filter fun t=> !lw.contains t).map fun t=>(t,AV.undef))++z') t=
   if t∈wr then (if t∈lw then g t else .undef) else ab z' t:=by
 rw[List.append_assoc];by_cases h2:t∈wr
 ·by_cases h1:t∈lw
  ·rw[if_pos h2,if_pos h1]
   exact gy _ g _ t (by rw[List.mem_filter];exact⟨h1,by simpa using h2⟩)
  ·rw[if_pos h2,if_neg h1,ix _ _ t (by intro e he;simp only[List.mem_map,List.mem_filter] at he;obtain⟨x,hx,rfl⟩:=he;intro e;exact h1 (e▸hx.1))]
   exact gy (wr.filter fun t=> !lw.contains t) (fun _=>AV.undef) _ t (by rw[List.mem_filter];exact⟨h2,by simpa using h1⟩)
 ·rw[if_neg h2,ix _ _ t (by intro e he;simp only[List.mem_map,List.mem_filter] at he;obtain⟨x,hx,rfl⟩:=he;intro e;exact h2 (e▸by simpa using hx.2)),
   ix _ _ t (by intro e he;simp only[List.mem_map,List.mem_filter] at he;obtain⟨x,hx,rfl⟩:=he;intro e;exact h2 (e▸hx.1))]
theorem P0{s:XS}(h:afd wr z' s.env):afd wr z' (Ko lw wr z' m1 s).env:=by
 unfold Ko;simp only;split
 ·intro t ht
  simp only;rw[rv,if_neg ht]
 ·exact nt h
theorem DC{s:XS}(h:afd wr z' s.env):afd wr z' (iV lw wr z' m1 s).env:=by
 unfold iV;split
 ·exact nt h
 ·simp only
  split
  ·intro t ht
   simp only;rw[rv,if_neg ht]
  ·split
   ·exact P0 h
   ·exact nt h
theorem Mh{s:XS}(hm:m0≤m1):Clean m0 s.mem s.aeS (iV lw wr z' m1 s).mem (iV lw wr z' m1 s).aeS:=by
 unfold iV;split
 ·exact .refl _ _ _
 ·rename_i hl
  have hl:=fun h=>hl (.inr h)
  simp only;split
  ·intro h
   refine⟨by simp only[List.length_append,List.length_take];omega,fun e=>⟨e,?_⟩⟩;simp only;rw[List.take_append_of_le_length (by simp only[List.length_take];omega),List.take_take];congr 1;omega
  ·split
   ·unfold Ko
    simp only;split
    ·intro h
     exact⟨by show m0≤(aeK m1 _ s.mem).length;rw[fj (by omega)];omega,fun e=>by cases e⟩
    ·exact .refl _ _ _
   ·exact .refl _ _ _
theorem Qd{s:XS}(h:afd wr z' s.env)(h0:∀t,(ab z' t).refs m1=[])(hm:m0≤m1)(hl:m1≤s.mem.length):
  afr m0 ⟨s.env,s.mem⟩ ⟨(Ko lw wr z' m1 s).env,(Ko lw wr z' m1 s).mem⟩:=by
 unfold Ko;simp only;split
 ·rename_i hk
  obtain⟨ks,ZK⟩:∃ks,ks=tT m1 s.mem 1000 ((lw.flatMap fun t=>(ab s.env t).refs m1)++(s.mem.take m1).flatMap (aeD.refs m1)) []:=⟨_,rfl⟩
  rw[←ZK] at hk ⊢;have hw:afr m0 ⟨s.env,s.mem⟩ ⟨xH (rho m1 ks) s.env,aeK m1 ks s.mem⟩:=by intro base μ w tmps h1 h2 h3;obtain⟨μ1,b1,b2,b3,b4⟩:=afr.aeK (env:=s.env) _ hk base μ w tmps h1 h2 hl;exact⟨μ1,b1,b2,Nat.le_trans hm b3,b4.mono hm⟩
  refine hw.trans (afr.env fun t=>?_);rw[rv,iy];by_cases h1:t∈wr
  ·rw[if_pos h1]
   by_cases h2:t∈lw
   ·rw[if_pos h2];exact .inl rfl
   ·rw[if_neg h2];exact .inr rfl
  ·rw[if_neg h1,h t h1,AV.aeW (h0 t)];exact .inl rfl
 ·exact afr.env fun t=>rr h t
theorem Qe{s:XS}(h:afd wr z' s.env)(h0:∀t,(ab z' t).refs m1=[])(hm:m0≤m1):
  afr m0 ⟨s.env,s.mem⟩ ⟨(iV lw wr z' m1 s).env,(iV lw wr z' m1 s).mem⟩:=by
 unfold iV;split
 ·exact afr.env fun t=>rr h t
 ·rename_i hl
  have hl:=fun h=>hl (.inr h)
  simp only;split
  ·rename_i hc
   rw[Bool.and_eq_true] at hc;obtain⟨hk,H'⟩:=hc;have hw:afr m0 ⟨s.env,s.mem⟩ ⟨xH (rho m1 (tT m1 s.mem 1000 (lw.flatMap fun t=>(ab s.env t).refs m1) [])) s.env,aeK m1 (tT m1 s.mem 1000 (lw.flatMap fun t=>(ab s.env t).refs m1) []) s.mem⟩:=by
    intro base μ w tmps h1 h2 h3;have hl' :m1≤s.mem.length:=by omega
    obtain⟨μ1,b1,b2,b3,b4⟩:=afr.aeK (env:=s.env) _ hk base μ w tmps h1 h2 hl';exact⟨μ1,b1,b2,Nat.le_trans hm b3,b4.mono hm⟩
   rw[JO H'] at hw;refine hw.trans (afr.env fun t=>?_);rw[rv,iy];by_cases h1:t∈wr
   ·rw[if_pos h1]
    by_cases h2:t∈lw
    ·rw[if_pos h2];exact .inl rfl
    ·rw[if_neg h2];exact .inr rfl
   ·rw[if_neg h1,h t h1,AV.aeW (h0 t)];exact .inl rfl
  ·split
   ·exact Qd h h0 hm (by omega)
   ·exact afr.env fun t=>rr h t
end
variable{f:XS→Option (Exit×XS)}
theorem Sf{b:Code}(hf:∀s e s',f s=some (e,s')→afd (aa b) s.env s'.env):
  ∀(k:Nat) (s:XS) (e:Exit) (s' :XS),afd (aa b) z' s.env→ej lw (aa b) z' m1 f k s=some (e,s')→afd (aa b) z' s'.env:=by
 intro k;induction k with
 |zero=>intro s e s' _ h;cases h
 |succ k ih=>
  intro s e s' hI h;unfold ej at h;split at h
  ·rename_i s1 h1
   exact ih _ _ _ (DC (hI.trans (hf _ _ _ h1))) h
  ·exact hI.trans (hf _ _ _ h)
theorem PH{b:Code}(hf:∀s e s',f s=some (e,s')→Xj P tp N m0 b s e s')(hm:m0≤m1):
  ∀(k:Nat) (s:XS) (e:Exit) (s' :XS),ej lw (aa b) z' m1 f k s=some (e,s')→Clean m0 s.mem s.aeS s'.mem s'.aeS:=by
 intro k;induction k with
 |zero=>intro s e s' h;cases h
 |succ k ih=>
  intro s e s' h;unfold ej at h;split at h
  ·rename_i s1 h1
   obtain⟨_,a2⟩:=hf _ _ _ h1;exact(a2.trans (Mh hm)).trans (ih _ _ _ h)
  ·exact(hf _ _ _ h).2
theorem PI{b:Code}(hf:∀s e s',f s=some (e,s')→Xj P tp N m0 b s e s' ∧afd (aa b) s.env s'.env)(h0:∀t,(ab z' t).refs m1=[])(hm:m0≤m1)(k:Nat)(s:XS)(e:Exit)(s' :XS)(hI:afd (aa b) z' s.env)(h:ej lw (aa b) z' m1 f k s=some (e,s'))(hq:Q e ⟨s'.env,s'.mem⟩):AWP P tp N m0 (.loop b) ⟨s.env,s.mem⟩ Q:=by
 refine Uk (σ:=Nat) (fun k st=>∃s,st=⟨s.env,s.mem⟩∧afd (aa b) z' s.env∧ej lw (aa b) z' m1 f k s=some (e,s')) id (s:=k) ⟨s,rfl,hI,h⟩ ?_;rintro k st ⟨s,rfl,hI,hk⟩;cases k with
 |zero=>cases hk
 |succ k=>
  unfold ej at hk;split at hk
  ·rename_i s1 h1
   obtain⟨⟨a1,_⟩,a3⟩:=hf _ _ _ h1;refine AWP.ag6 (a1 (fun e st1=>e=.normal∧st1=⟨s1.env,s1.mem⟩) ⟨rfl,rfl⟩) ?_;rintro e1 st1 ⟨rfl,rfl⟩;exact⟨⟨(iV lw (aa b) z' m1 s1).env,(iV lw (aa b) z' m1 s1).mem⟩,Qe (hI.trans a3) h0 hm,k,⟨_,rfl,DC (hI.trans a3),hk⟩,Nat.lt_succ_self k⟩
  ·rename_i PP
   have adf :e≠ .normal:=by rintro rfl;exact PP s' hk
   refine((hf _ _ _ hk).1.1 (fun e1 st1=>e1=e∧st1=⟨s'.env,s'.mem⟩) ⟨rfl,rfl⟩).mono ?_;rintro e1 st1 ⟨rfl,rfl⟩;cases e1<;>first | exact absurd rfl adf | exact hq
theorem fE(hO:kP P O):∀{c:Code}{s:XS}{e:Exit}{s' :XS},aN T lv O K N m0 tp c s=some (e,s')→afd (aa c) s.env s'.env
 |.skip,s,e,s',h=>by simp only[aN,Option.some.injEq,Prod.mk.injEq] at h;obtain⟨_,rfl⟩:=h;exact .refl _ _
 |.exit id,s,e,s',h=>by simp only[aN,Option.some.injEq,Prod.mk.injEq] at h;obtain⟨_,rfl⟩:=h;exact .refl _ _
 |.ret,s,e,s',h=>by simp only[aN,Option.some.injEq,Prod.mk.injEq] at h;obtain⟨_,rfl⟩:=h;exact .refl _ _
 |.region id ops false,s,e,s',h=>by
  unfold aN at h;split at h
  ·rename_i s1 h1;cases h;exact oq h1
  ·cases h
 |.region id ops true,s,e,s',h=>by
  unfold aN at h;split at h
  ·rename_i s1 h1;cases h;exact KG hO h1
  ·cases h
 |.seq x y,s,e,s',h=>by
  unfold aN at h;split at h
  ·rename_i s1 h1
   exact((fE hO h1).mono fun t ht=>by simp[aa,ht]).trans ((fE hO h).mono fun t ht=>by simp[aa,ht])
  ·exact(fE hO h).mono fun t ht=>by simp[aa,ht]
 |.cond c x y,s,e,s',h=>by
  unfold aN at h;split at h
  ·exact(fE hO h).mono fun t ht=>by simp[aa,ht]
  ·exact(fE hO h).mono fun t ht=>by simp[aa,ht]
  ·cases h
 |.block id b,s,e,s',h=>by
  show afd (aa b) s.env s'.env
  unfold aN at h;split at h
  ·rename_i i s1 h1
   split at h
   ·cases h;exact fE hO h1
   ·cases h;exact fE hO h1
  ·exact fE hO h
 |.loop b,s,e,s',h=>by
  show afd (aa b) s.env s'.env
  unfold aN at h;exact Sf (fun s e s' h=>fE hO h) _ _ _ _ (nt (.refl _ _)) h
 |.rangeFunc g ps Yd body,s,e,s',h=>by
  unfold aN at h;split at h
  ·split at h
   ·split at h
    ·simp only at h
     split at h
     ·split at h
      ·cases h
      ·split at h
       ·cases h;exact .refl _ _
       ·cases h
     ·cases h
    ·cases h
   ·cases h
  ·cases h
 |.label _,s,e,s',h=>by cases h
 |.goto _,s,e,s',h=>by cases h
 |.scope _,s,e,s',h=>by cases h
 |.refuse _,s,e,s',h=>by cases h
theorem cX(hm:P.follows .mixedOrders=true) (hT:cJ P T) (hO:kP P O):∀{c:Code}{s:XS}{e:Exit}{s' :XS},dv c=true→aN T lv O K N m0 tp c s=some (e,s')→Xj P tp N m0 c s e s'
 |.skip,s,e,s',XZ,h=>by simp only[aN,Option.some.injEq,Prod.mk.injEq] at h;obtain⟨rfl,rfl⟩:=h;exact⟨fun Q hq=>Ul hq,.refl _ _ _⟩
 |.exit id,s,e,s',XZ,h=>by simp only[aN,Option.some.injEq,Prod.mk.injEq] at h;obtain⟨rfl,rfl⟩:=h;exact⟨fun Q hq=>Uj hq,.refl _ _ _⟩
 |.ret,s,e,s',XZ,h=>by simp only[aN,Option.some.injEq,Prod.mk.injEq] at h;obtain⟨rfl,rfl⟩:=h;exact⟨fun Q hq=>VJ hq,.refl _ _ _⟩
 |.region id ops false,s,e,s',XZ,h=>by
  unfold aN at h;split at h
  ·rename_i s1 h1
   cases h;obtain⟨a1,a2⟩:=jL hO h1;exact⟨fun Q hq=>Pn hT a1 hq,a2⟩
  ·cases h
 |.region id ops true,s,e,s',XZ,h=>by
  unfold aN at h;split at h
  ·rename_i s1 h1
   cases h;obtain⟨a1,a2⟩:=Fz hm hT hO XZ h1;exact⟨fun Q hq=>a1 tp id Q hq,a2⟩
  ·cases h
 |.seq x y,s,e,s',XZ,h=>by
  unfold aN at h;split at h
  ·rename_i s1 h1
   simp only[dv,Bool.and_eq_true] at XZ;obtain⟨a1,a2⟩:=cX hm hT hO XZ.1 h1;obtain⟨b1,b2⟩:=cX hm hT hO XZ.2 h;exact⟨fun Q hq=>wC (a1 _ (b1 Q hq)),a2.trans b2⟩
  ·rename_i PP
   simp only[dv,Bool.and_eq_true] at XZ;obtain⟨a1,a2⟩:=cX hm hT hO XZ.1 h;refine⟨fun Q hq=>wC (a1 _ ?_),a2⟩;cases e<;>first | exact absurd h (PP s') | exact hq
 |.cond c x y,s,e,s',XZ,h=>by
  unfold aN at h;split at h
  ·rename_i hc
   simp only[dv,Bool.and_eq_true] at XZ;obtain⟨a1,a2⟩:=cX hm hT hO XZ.1 h;exact⟨fun Q hq=>Nc hc (fun _=>a1 Q hq) (fun e=>by cases e),a2⟩
  ·rename_i hc
   simp only[dv,Bool.and_eq_true] at XZ;obtain⟨a1,a2⟩:=cX hm hT hO XZ.2 h;exact⟨fun Q hq=>Nc hc (fun e=>by cases e) (fun _=>a1 Q hq),a2⟩
  ·cases h
 |.block id b,s,e,s',XZ,h=>by
  unfold aN at h;split at h
  ·rename_i i s1 h1
   obtain⟨a1,a2⟩:=cX hm hT hO (by simpa only[dv] using XZ) h1;split at h
   ·rename_i hi
    cases h;exact⟨fun Q hq=>AA (a1 _ (by simp only[Nf];rw[if_pos hi];exact hq)),a2⟩
   ·rename_i hi
    cases h;exact⟨fun Q hq=>AA (a1 _ (by simp only[Nf];rw[if_neg hi];exact hq)),a2⟩
  ·rename_i PP
   obtain⟨a1,a2⟩:=cX hm hT hO (by simpa only[dv] using XZ) h;refine⟨fun Q hq=>AA (a1 _ ?_),a2⟩;cases e<;>first | exact absurd h (PP _ s') | exact hq
 |.loop b,s,e,s',XZ,h=>by
  unfold aN at h;have hf:∀s e s',aN T lv O K N m0 tp b s=some (e,s')→Xj P tp N m0 b s e s' ∧afd (aa b) s.env s'.env:=fun s e s' h=>⟨cX hm hT hO (by simpa only[dv] using XZ) h,fE hO h⟩
  refine⟨fun Q hq=>AWP.assume fun Yt he=>Um (afr.env fun t=>rr (.refl _ _) t) (PI hf he Yt _ _ _ _ (nt (.refl _ _)) h hq),fun Yt=>?_⟩;exact PH (fun s e s' h=>(hf s e s' h).1) Yt _ ⟨aD (lv b) (aa b) s.env s.env,s.mem,s.aeS⟩ _ _ h Yt
 |.rangeFunc g ps Yd body,s,e,s',XZ,h=>by
  unfold aN at h;split at h
  ·rename_i htp
   subst htp;split at h
   ·rename_i f caps hg
    split at h
    ·rename_i r hr
     simp only at h;split at h
     ·rename_i r2 Yc
      split at h
      ·cases h
      ·rename_i hb
       split at h
       ·rename_i e1 he
        cases h;have F':=wL hO hr;refine⟨fun Q hq=>EY hg ((hO.fn _ _ _ _ hr).mono ?_),fun Yt=>⟨?_,fun hd=>?_⟩⟩
        ·rintro v m ⟨rfl,rfl⟩
         exact⟨r2,e,Yc,fun e=>hb (by rw[e];rfl),he,hq⟩
        ·simp only[List.length_set]
         simp only[List.length_append] at F';omega
        ·simp only[Bool.or_eq_false_iff,Option.isSome_eq_false_iff,Option.isNone_iff_eq_none] at hd
         refine⟨hd.1,tX Yt ?_ fun b hb=>?_⟩
         ·simp only[List.length_set]
          simp only[List.length_append] at F';omega
         ·have UV :b<s.mem.length:=by omega
          show((r.mem _).set s.mem.length _)[b]? =_
          rw[List.getElem?_set_ne (by omega)];unfold HS.mem;rw[hd.2];simp only[Option.getD_none];rw[List.append_assoc,List.getElem?_append_left UV]
       ·cases h
     ·cases h
    ·cases h
   ·cases h
  ·cases h
 |.label _,s,e,s',XZ,h=>by cases h
 |.goto _,s,e,s',XZ,h=>by cases h
 |.scope _,s,e,s',XZ,h=>by cases h
 |.refuse _,s,e,s',XZ,h=>by cases h
structure afP (P:Program) (G:FuncId→Option Func):Prop where
 fn:∀f fn,G f=some fn→P.funcs[f]? =some fn∧(fn.name == "runtime.NumGoroutine")=false∧∀c,fn.body=some c→dv c=true
section
variable (hm:P.follows .mixedOrders=true)(hT:cJ P T)(hO:kP P O)
include hm hT hO
theorem ak{G:FuncId→Option Func}(hG:afP P G){f:FuncId}{args:List AV}{mem:Mem}{r:HS}(h:ad T lv G O K f args mem=some r):kF P f args mem r.v (r.mem mem)∧∀p,r.pre=some p→p.length=mem.length:=by
 unfold ad at h;split at h
 ·cases h
 ·rename_i fn hfn
  obtain⟨g1,g2,g3⟩:=hG.fn _ _ hfn;split at h
  ·cases h
  ·rename_i c hb
   split at h
   ·rename_i hl
    split at h
    ·rename_i e s he
     obtain⟨a1,a2⟩:=cX hm hT hO (g3 c hb) he;obtain⟨b1,b2⟩:=a2 (Nat.le_refl _);have aa6:(e=.normal∨e=.ret)→(match jZ T fn.results.toList s.env s.mem with
      |some v=>
       let m0:=mem.length
       if s.aeS then
        let ks:=tT m0 s.mem 1000 (v.refs m0++(s.mem.take m0).flatMap (aeD.refs m0)) []
        if Ka m0 s.mem.length ks then
         some ⟨v.ren (rho m0 ks),some ((s.mem.take m0).map (aeD.ren (rho m0 ks))),afq m0 ks s.mem⟩
        else none
       else
        let ks:=tT m0 s.mem 1000 (v.refs m0) []
        if Ka m0 s.mem.length ks then
         some ⟨v.ren (rho m0 ks),none,afq m0 ks s.mem⟩
        else none
      |none=>none:Option HS)=some r→kF P f args mem r.v (r.mem mem)∧∀p,r.pre=some p→p.length=mem.length:=by
      intro hen h;split at h
      ·rename_i v hv
       simp only at h;split at h
       ·split at h
        ·rename_i ZK
         cases h;refine⟨afb.intro hT g1 hb g2 hl (a1 _ ⟨hen,v,hv,_,ZK,.inr ⟨rfl,rfl⟩⟩),fun p hp=>?_⟩;cases hp;simp only[List.length_map,List.length_take];omega
        ·cases h
       ·rename_i hd
        split at h
        ·rename_i ZK
         cases h;have hd' :=(b2 (by simpa using hd)).2;rw[List.take_of_length_le (Nat.le_refl _)] at hd';exact⟨afb.intro hT g1 hb g2 hl (a1 _ ⟨hen,v,hv,_,ZK,.inl ⟨hd',rfl,rfl⟩⟩),fun p hp=>by cases hp⟩
        ·cases h
      ·cases h
     split at h
     ·exact aa6 (.inl rfl) h
     ·exact aa6 (.inr rfl) h
     ·cases h
    ·cases h
   ·cases h
theorem uR{b:Nat}{args:List AV}{mem:Mem}{r:HS}(h:E3 T lv O K b args mem=some r):oZ P b args mem r.v (r.mem mem)∧∀p,r.pre=some p→p.length=mem.length:=by
 unfold E3 at h;split at h
 ·rename_i lp hlp
  split at h
  ·rename_i hc
   simp only[Bool.and_eq_true,decide_eq_true_eq,List.all_eq_true] at hc;obtain⟨⟨⟨⟨c1,c2⟩,c3⟩,c4⟩,c5⟩:=hc;have aab:∀{x:LoopState},(x== .ready)=true→x=.ready:=fun {x} h=>by cases x<;>first | rfl | cases h
   split at h
   ·rename_i s1 h1
    obtain⟨a1,a2⟩:=cX hm hT hO c4 h1;split at h
    ·rename_i r1 Ya
     split at h
     ·rename_i aaP
      split at h
      ·rename_i e s2 h2
       obtain⟨b1,b2⟩:=cX hm hT hO c5 h2;split at h
       ·rename_i j r2 hj Yc
        simp only at h;split at h
        ·rename_i ZK
         cases h;obtain⟨d1,_⟩:=a2 (Nat.le_refl _);obtain⟨d2,_⟩:=b2 (by simpa using d1);refine⟨afm.intro hlp (aab c1) c2 c3 (a1 _ ⟨rfl,r1,Ya,aab aaP,b1 _ ⟨r2,j,_,hj,Yc,ZK,rfl,rfl⟩⟩),fun p hp=>?_⟩;cases hp;simp only[List.length_map,List.length_take,List.length_set];omega
        ·cases h
       ·cases h
      ·cases h
     ·cases h
    ·cases h
   ·cases h
  ·cases h
 ·cases h
end
theorem jg(hm:P.follows .mixedOrders=true) (hT:cJ P T) {G:FuncId→Option Func}(hG:afP P G) (hO:kP P O):∀n,kP P (uQ T lv G O K n)
 |0=>hO
 |n+1=>by
  have ih:=jg hm hT hG hO n;have key:∀c args mem r,uQ T lv G O K (n+1) c args mem=some r→O c args mem=some r∨(match c with
   |.fn f=>ad T lv G (uQ T lv G O K n) K f args mem
   |.yld b=>E3 T lv (uQ T lv G O K n) K b args mem)=some r:=by
   intro c args mem r h;unfold uQ at h;split at h
   ·rename_i r' h';cases h;exact .inl h'
   ·exact .inr h
  refine⟨fun f args mem r h=>?_,fun b args mem r h=>?_,fun c args mem r p h hp=>?_⟩
  ·rcases key _ _ _ _ h with h | h
   ·exact hO.fn _ _ _ _ h
   ·exact(ak hm hT ih hG h).1
  ·rcases key _ _ _ _ h with h | h
   ·exact hO.yld _ _ _ _ h
   ·exact(uR hm hT ih h).1
  ·rcases key _ _ _ _ h with h | h
   ·exact hO.pre _ _ _ _ _ h hp
   ·cases c with
    |fn f=>exact(ak hm hT ih hG h).2 p hp
    |yld b=>exact(uR hm hT ih h).2 p hp
end
end Go.Eng
namespace Go.Eng
def aM(P:Program) (t:TypeId):Option TyI:=
 match P.info? t,P.underlying t with
 |some i,some d=>match i.zero with
  |some z=>if z.cells.size=i.size then some ⟨d,i.size,i.bytes,z,!P.stoodInHeld t&& !P.eqGuardType P.depth t⟩ else none
  |none=>none
 |_,_=>none
theorem aq(P:Program):cJ P (aM P):=by
 intro t i h;unfold aM at h;split at h
 ·rename_i f d h1 h2
  split at h
  ·rename_i z hz
   split at h
   ·rename_i hs
    cases h;refine⟨h2,⟨f,h1,rfl,rfl,hz⟩,hs,fun he=>?_⟩;simp only[Bool.and_eq_true,Bool.not_eq_true'] at he;exact he
   ·cases h
  ·cases h
 ·cases h
def aT(P:Program) (f:FuncId):Option Func:=match P.funcs[f]? with
 |some fn=>if fn.name == "runtime.NumGoroutine" then none else match fn.body with
  |some c=>if dv c then some fn else none
  |none=>some fn
 |none=>none
theorem au(P:Program):afP P (aT P):=by
 refine⟨fun f fn h=>?_⟩;unfold aT at h;split at h
 ·rename_i fn' h1
  split at h
  ·cases h
  ·rename_i hn
   split at h
   ·rename_i c hb
    split at h
    ·rename_i hs
     cases h;refine⟨h1,by simpa using hn,fun c' hc=>?_⟩;rw[hb] at hc;cases hc;exact hs
    ·cases h
   ·rename_i hb
    cases h;refine⟨h1,by simpa using hn,fun c' hc=>?_⟩;rw[hb] at hc;cases hc
 ·cases h
def bq:adM:=fun _ _ _=>none
theorem ah(P:Program):kP P bq:=⟨(fun _ _ _ _ h=>by cases h),(fun _ _ _ _ h=>by cases h),(fun _ _ _ _ _ h=>by cases h)⟩
structure ae4 (w w' :World):Prop where
 size:w.heap.size≤w'.heap.size
 heap:∀k,k<w.heap.size→w'.heap[k]? =w.heap[k]?
 os:w'.os=w.os
 tape:w'.tape=w.tape
 output:w'.output=w.output
 drawn:w.drawn≤w'.drawn
section
variable {P:Program}{μ:Nat→Place}{mem:Mem}{base:Nat}{w w' :World}
theorem ae4.refl(w:World):ae4 w w:=⟨Nat.le_refl _,fun _ _=>rfl,rfl,rfl,rfl,Nat.le_refl _⟩
theorem ae4.ahl(h:ae4 w w')(hH:aeL base μ mem w):aeL base μ mem w' :=by refine⟨Nat.le_trans hH.aeI h.size,fun b s hs=>?_,hH.sep⟩;exact(hH.slot b s hs).mono (Nat.le_refl _) (fun _ _=>rfl) fun PP=>h.heap _ ((hH.slot b s hs).afk PP)
theorem ae4.step(h:ae4 w w'){m0:Nat}(hm:m0≤mem.length):Step m0 μ mem w μ mem w' :=
 ⟨hm,fun _ _=>rfl,h.os,h.tape,h.output,h.size,fun k hk _=>h.heap k hk,fun b hb _=>⟨b,hb,rfl⟩,h.drawn⟩
theorem kF.afc{f:FuncId}{args:List AV}{Vs:List Value}{v:AV}{V:Value}(hf:Tp P f)(Zi:∀μ n Us,aeC μ n args Us→Us=Vs)(hv:∀μ n,aeA μ n v V)(h:∀base w,GOk P base w→Calls P f ⟨Vs⟩ w fun e w' =>e=.returned V∧ae4 w w')(mem:Mem):kF P f args mem v mem:=by refine⟨hf,fun base μ w Us hG hH hV=>?_⟩;rw[Zi _ _ _ hV];refine(h base w hG).mono ?_;rintro e w' ⟨rfl,hg⟩;exact⟨V,v,mem,μ,rfl,hv _ _,hg.ahl hH,hg.step (Nat.le_refl _),rfl,rfl⟩
theorem ae4.grow(w:World)(k:Nat)(os:Array Obj):ae4 w { w with heap:=w.heap++os,drawn:=w.drawn+k }:=by
 refine⟨by simp,fun i hi=>?_,rfl,rfl,rfl,Nat.le_add_right _ _⟩;show(w.heap++os)[i]? =_
 rw[Array.getElem?_append_left hi]
mutual
def AV.closed:AV→Bool
 |.ptr _ _=>false
 |.slice _ _ _ _=>false
 |.map _=>false
 |.yield _=>false
 |.func _ cs=>AV.aeG cs
 |.iface _ v=>v.closed
 |.agg cs=>AV.aeG cs
 |.tuple cs=>AV.aeG cs
 |_=>true
def AV.aeG:List AV→Bool
 | []=>true
 |v::vs=>v.closed&&AV.aeG vs
end
mutual
theorem aeA.closed{μ μ' :Nat→Place}{n n' :Nat}:∀{v V},v.closed=true→aeA μ n v V→aeA μ' n' v V
 |.undef,V,_,_=>by simp[aeA]
 |.bool b,V,_,h=>by simpa [aeA] using h
 |.int k i,V,_,h=>by simpa [aeA] using h
 |.str s,V,_,h=>by simpa [aeA] using h
 |.ptr b o,V,hc,_=>by simp[AV.closed] at hc
 |.aeT,V,_,h=>by simpa [aeA] using h
 |.slice b o l c,V,hc,_=>by simp[AV.closed] at hc
 |.kK,V,_,h=>by simpa [aeA] using h
 |.map b,V,hc,_=>by simp[AV.closed] at hc
 |.yield b,V,hc,_=>by simp[AV.closed] at hc
 |.ae0,V,_,h=>by simpa [aeA] using h
 |.func f cs,V,hc,h=>by simp only[aeA] at h ⊢;simp only[AV.closed] at hc;obtain⟨Us,rfl,h⟩:=h;exact⟨Us,rfl,aeC.closed hc h⟩
 |.nilFunc,V,_,h=>by simpa [aeA] using h
 |.iface t v,V,hc,h=>by simp only[aeA] at h ⊢;simp only[AV.closed] at hc;obtain⟨U,rfl,h⟩:=h;exact⟨U,rfl,aeA.closed hc h⟩
 |.nilIface,V,_,h=>by simpa [aeA] using h
 |.agg cs,V,hc,h=>by simp only[aeA] at h ⊢;simp only[AV.closed] at hc;obtain⟨Us,rfl,h⟩:=h;exact⟨Us,rfl,aeC.closed hc h⟩
 |.tuple cs,V,hc,h=>by simp only[aeA] at h ⊢;simp only[AV.closed] at hc;obtain⟨Us,rfl,h⟩:=h;exact⟨Us,rfl,aeC.closed hc h⟩
theorem aeC.closed{μ μ' :Nat→Place}{n n' :Nat}:∀{vs Us},AV.aeG vs=true→aeC μ n vs Us→aeC μ' n' vs Us
 | [],Us,_,h=>by simpa [aeC] using h
 |v::vs,Us,hc,h=>by simp only[AV.aeG,Bool.and_eq_true] at hc;simp only[aeC] at h ⊢;obtain⟨U,Ws,rfl,h1,h2⟩:=h;exact⟨U,Ws,rfl,aeA.closed hc.1 h1,aeC.closed hc.2 h2⟩
end
theorem kF.lift{f:FuncId}{args:List AV}{v:AV}(ha:AV.aeG args=true)(hv:v.closed=true)(h:kF P f args [] v [])(mem:Mem):kF P f args mem v mem:=by refine⟨h.1,fun base μ w Us hG hH hV=>?_⟩;have h0:aeL base μ [] w:=⟨hH.aeI,fun b s hs=>by simp at hs,fun b b' s' hb=>by obtain⟨s,hs,_⟩:=hb;simp at hs⟩;refine(h.2 base μ w Us hG h0 (aeC.closed ha hV)).mono ?_;rintro e w' ⟨V,v',m',μ',rfl,q1,q2,q3,rfl,rfl⟩;have hg:ae4 w w' :=⟨q3.size,fun k hk=>q3.frame k hk fun b hb=>by obtain⟨s,hs,_⟩:=hb;simp at hs,q3.os,q3.tape,q3.output,q3.drawn⟩;exact⟨V,v',mem,μ,rfl,aeA.closed hv q1,hg.ahl hH,hg.step (Nat.le_refl _),rfl,rfl⟩
variable{O:adM}
theorem kF.agV{T:TypeId→Option TyI}{G:FuncId→Option Func}{K:Nat}(hm:P.follows .mixedOrders=true)(hT:cJ P T)(hO:kP P O)(hG:afP P G){f:FuncId}{args:List AV}{v:AV}(ha:AV.aeG args=true)(hv:v.closed=true){lv:Code→List Nat}(h:ad T lv G O K f args []=some ⟨v,none,[]⟩)(mem:Mem):kF P f args mem v mem:=
 kF.lift ha hv (ak hm hT hO hG h).1 mem
def adM.or(O O' :adM):adM:=fun c args mem=>match O c args mem with
 |some r=>some r
 |none=>O' c args mem
theorem kP.or{O' :adM}(h:kP P O)(h' :kP P O'):kP P (O.or O'):=by
 have key:∀c args mem r,O.or O' c args mem=some r→O c args mem=some r∨O' c args mem=some r:=by
  intro c args mem r hr;unfold adM.or at hr;split at hr
  ·rename_i r' h1;cases hr;exact .inl h1
  ·exact .inr hr
 refine⟨fun f args mem r hr=>?_,fun b args mem r hr=>?_,fun c args mem r p hr hp=>?_⟩
 ·rcases key _ _ _ _ hr with h1 | h1
  ·exact h.fn _ _ _ _ h1
  ·exact h'.fn _ _ _ _ h1
 ·rcases key _ _ _ _ hr with h1 | h1
  ·exact h.yld _ _ _ _ h1
  ·exact h'.yld _ _ _ _ h1
 ·rcases key _ _ _ _ hr with h1 | h1
  ·exact h.pre _ _ _ _ _ h1 hp
  ·exact h'.pre _ _ _ _ _ h1 hp
def ag(F:FuncId→List AV→Option AV):adM:=fun c args _=>match c with
 |.fn f=>match F f args with
  |some v=>some ⟨v,none,[]⟩
  |none=>none
 |.yld _=>none
theorem bK{F:FuncId→List AV→Option AV}(h:∀f args v,F f args=some v→∀mem,kF P f args mem v mem):kP P (ag F):=by
 refine⟨fun f args mem r hr=>?_,(fun b args mem r hr=>by cases hr),fun c args mem r p hr hp=>?_⟩
 ·unfold ag at hr
  simp only at hr;split at hr
  ·rename_i v hv
   cases hr;have:=h f args v hv mem;simpa [HS.mem] using this
  ·cases hr
 ·unfold ag at hr
  split at hr
  ·split at hr
   ·cases hr;cases hp
   ·cases hr
  ·cases hr
end
end Go.Eng
