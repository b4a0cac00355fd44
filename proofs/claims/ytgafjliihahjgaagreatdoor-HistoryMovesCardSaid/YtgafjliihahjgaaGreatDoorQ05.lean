/- See Q54. -/
import Derived.Test.YtgafjliihahjgaaGreatDoorQ04
set_option linter.all false
namespace Go.Eng
structure OracleOk (P:Program) (O:Oracle):Prop where
 fn:∀f args mem r,O (.fn f) args mem=some r→ACallsTo P f args mem r.v (r.mem mem)
 yld:∀b args mem r,O (.yld b) args mem=some r→rH P b args mem r.v (r.mem mem)
 pre:∀c args mem r p,O c args mem=some r→r.pre=some p→p.length=mem.length
section
variable {P:Program}{T:TypeId→Option TyI}{O:Oracle}{mem mem' :Mem}{env:Env}
def Keeps(wr:List Nat) (mem mem' :Mem):Prop:=mem.length≤mem'.length∧∀b:Nat,b<mem.length→b∉wr→mem'[b]? =mem[b]?
theorem Keeps.refl(wr:List Nat) (mem:Mem):Keeps wr mem mem:=⟨Nat.le_refl _,fun _ _ _=>rfl⟩
theorem Keeps.push(wr:List Nat) (mem l:Mem):Keeps wr mem (mem++l):=⟨by simp,fun b hb _=>List.getElem?_append_left hb⟩
theorem Keeps.set(b0:Nat) (s:Slot) (mem:Mem):Keeps [b0] mem (mem.set b0 s):=
 ⟨by simp,fun b _ hn=>List.getElem?_set_ne (fun e=>hn (by simp[e]))⟩
theorem Keeps.setPush(b0:Nat) (s:Slot) (mem l:Mem):Keeps [b0] mem (mem.set b0 s++l):=
 ⟨by simp,fun b hb hn=>by rw[List.getElem?_append_left (by simpa using hb)];exact List.getElem?_set_ne (fun e=>hn (by simp[e]))⟩
theorem so{t t2:TypeId}{s x v:AV}(h:ia T mem t t2 s x=some (v,mem')):Keeps (bY s) mem mem' :=by
 unfold ia at h
 repeat' split at h
 all_goals first
  |(cases h;done)
  |(cases h;exact .refl _ _)
  |(cases h;exact .push _ _ _)
  |(cases h;exact .set _ _ _)
  |(cases h;exact .setPush _ _ _ _)
theorem Hc{t:TypeId}{x v:AV}(h:pX T mem t x v=some mem'):Keeps (Qb x) mem mem' :=by
 unfold pX at h
 repeat' split at h
 all_goals first
  |(cases h;done)
  |(cases h;rename_i hx _ _ _;exact .set _ _ _)
theorem wO{t:TypeId}{m k v:AV}(h:dU T mem t m k v=some mem'):Keeps (Kw m) mem mem' :=by
 unfold dU at h
 repeat' split at h
 all_goals first
  |(cases h;done)
  |(cases h;exact .set _ _ _)
theorem yA{t:TypeId}{m k v:AV}(h:og T mem t m k=some (v,mem')):Keeps (Kw m) mem mem' :=by
 unfold og at h
 repeat' split at h
 all_goals first
  |(cases h;done)
  |(cases h;exact .set _ _ _)
theorem ug{m s v:AV}(h:jv mem m s v=some mem'):Keeps (Kw m) mem mem' :=by
 unfold jv at h
 repeat' split at h
 all_goals first
  |(cases h;done)
  |(cases h;exact .set _ _ _)
theorem G2{e:TypeId}{v:AV}{l:List Nat}(h:pW T mem e=some (v,mem')):Keeps l mem mem' :=by unfold pW at h;split at h<;>cases h;exact .push _ _ _
theorem Mz{x v:AV}{l:List Nat}(h:SI mem x=some (v,mem')):Keeps l mem mem' :=by unfold SI at h;split at h<;>cases h;exact .push _ _ _
theorem ue{t:TypeId}{n:Nat}{ps} {v:AV}{l:List Nat}(h:eY T mem t n ps=some (v,mem')):Keeps l mem mem' :=by
 unfold eY at h
 repeat' split at h
 all_goals first
  |(cases h;done)
  |(cases h;exact .push _ _ _)
theorem wL{t:TypeId}{x y:AV}{v:AV}{l:List Nat}(h:jj T mem t x y=some (v,mem')):Keeps l mem mem' :=by
 unfold jj at h
 repeat' split at h
 all_goals first
  |(cases h;done)
  |(cases h;exact .push _ _ _)
theorem CR{pt:TypeId}{x l v:AV}(h:uj T mem pt x l=some (v,mem')):Keeps (Qb x) mem mem' :=by
 unfold uj at h
 repeat' split at h
 all_goals first
  |(cases h;done)
  |(cases h;exact .set _ _ _)
theorem wH{s d:TypeId}{x v:AV}{l:List Nat}(h:lA T mem s d x=some (v,mem')):Keeps l mem mem' :=by
 unfold lA at h
 repeat' split at h
 all_goals first
  |(cases h;done)
  |(cases h;exact .push _ _ _)
theorem Ar{t:TypeId}{s x v:AV}{l:List Nat}(h:sn T mem t s x=some (v,mem')):Keeps l mem mem' :=by
 unfold sn at h
 repeat' split at h
 all_goals first
  |(cases h;done)
  |(cases h;exact .push _ _ _)
theorem G6{t:TypeId}{x:AV}(h:G5 T mem t x=some mem'):Keeps (bY x) mem mem' :=by
 unfold G5 at h
 repeat' split at h
 all_goals first
  |(cases h;done)
  |(cases h;exact .refl _ _)
  |(cases h;exact .set _ _ _)
theorem Ap{t t2:TypeId}{s x v:AV}(h:o8 T mem t t2 s x=some (v,mem')):Keeps (bY s) mem mem' :=by
 unfold o8 at h
 repeat' split at h
 all_goals first
  |(cases h;done)
  |(cases h;exact .set _ _ _)
theorem sr{t:TypeId}{x v:AV}{lo hi:Option AV}{l:List Nat}(h:ui T mem t x lo hi=some (v,mem')):Keeps l mem mem' :=by
 unfold ui at h
 repeat' split at h
 all_goals first
  |(cases h;done)
  |(cases h;exact .push _ _ _)
theorem Ha{op:Op}{v:AV}(h:aOp T env mem op=some (v,mem')):Keeps (th env op) mem mem' :=by
 unfold aOp at h
 repeat' split at h
 all_goals first
  |(cases h;done)
  |(cases h;exact .refl _ _)
  |exact sr h
  |(rename_i h1;cases h;exact sr h1)
  |exact Ap h
  |exact G2 h
  |exact Mz h
  |exact ue h
  |exact wL h
  |exact so h
  |(rename_i h1;cases h;exact so h1)
  |exact Ar h
  |exact wH h
  |exact CR h
  |exact yA h
  |(cases h;exact .push _ _ _)
  |(rename_i h1;cases h;first | exact Hc h1 | exact wO h1 | exact ug h1 | exact G6 h1)
theorem lC{wr:List Nat}{m0:Nat}(h:(wr.any fun b=>decide (b<m0))=false) {b:Nat}(hb:b<m0):b∉wr:=by intro hm;have:=List.any_eq_false.1 h b hm;simp[hb] at this
theorem rE{m0:Nat}(h1:m0≤mem.length) (h2:m0≤mem'.length) (h:∀b,b<m0→mem'[b]? =mem[b]?):mem'.take m0=mem.take m0:=by
 apply List.ext_getElem?;intro b;by_cases hb:b<m0
 ·rw[List.getElem?_take_of_lt hb,List.getElem?_take_of_lt hb,h b hb]
 ·rw[List.getElem?_eq_none (by simp;omega),List.getElem?_eq_none (by simp;omega)]
def Clean(m0:Nat) (mem:Mem) (d:Bool) (mem' :Mem) (d' :Bool):Prop:=m0≤mem.length→m0≤mem'.length∧(d' =false→d=false∧mem'.take m0=mem.take m0)
theorem Clean.refl(m0:Nat) (mem:Mem) (d:Bool):Clean m0 mem d mem d:=fun h=>⟨h,fun e=>⟨e,rfl⟩⟩
theorem Clean.trans{m0:Nat}{m1 m2 m3:Mem}{d1 d2 d3:Bool}(h:Clean m0 m1 d1 m2 d2) (h' :Clean m0 m2 d2 m3 d3):Clean m0 m1 d1 m3 d3:=fun hm=>by obtain⟨a1,a2⟩:=h hm;obtain⟨b1,b2⟩:=h' a1;refine⟨b1,fun e=>?_⟩;obtain⟨c1,c2⟩:=b2 e;obtain⟨c3,c4⟩:=a2 c1;exact⟨c3,c2.trans c4⟩
theorem Keeps.clean{wr:List Nat}{m0:Nat}{d:Bool}(h:Keeps wr mem mem'):Clean m0 mem d mem' (d||wr.any fun b=>decide (b<m0)):=fun hm=>by have hl:=Nat.le_trans hm h.1;refine⟨hl,fun e=>?_⟩;simp only[Bool.or_eq_false_iff] at e;exact⟨e.1,rE hm hl fun b hb=>h.2 b (by omega) (lC e.2 hb)⟩
theorem He{op:Op}{f:FuncId}{args:List AV}(h:iF env op=some (.fn f,args)):C4 env op=some (f,args):=by
 unfold iF at h;split at h
 ·split at h
  ·cases h;rename_i hx;simp[C4,hx]
  ·cases h
  ·cases h
 ·cases h
theorem CV{op:Op}{b:Nat}{args:List AV}(h:iF env op=some (.yld b,args)):xp env op=some (b,args):=by
 unfold iF at h;split at h
 ·split at h
  ·cases h
  ·cases h;rename_i hx;simp[xp,hx]
  ·cases h
 ·cases h
theorem zm(hO:OracleOk P O) {o:Oper}{c:Callee}{args:List AV}{r:CallRes}(hc:iF env o.op=some (c,args)) (h:O c args mem=some r):
  tt P T env mem o r.v (r.mem mem):=by
 cases c with
 |fn f=>exact .inr (.inl ⟨f,args,He hc,hO.fn _ _ _ _ h⟩)
 |yld b=>exact .inr (.inr ⟨b,args,CV hc,hO.yld _ _ _ _ h⟩)
theorem uD(hO:OracleOk P O) {c:Callee}{args:List AV}{r:CallRes}(h:O c args mem=some r):mem.length≤(r.mem mem).length:=by
 unfold CallRes.mem;cases hp:r.pre with
 |none=>simp
 |some p=>have:=hO.pre _ _ _ _ p h hp;simp;omega
theorem Km(hO:OracleOk P O) {m0:Nat}{d d' :Bool}{o:Oper}{v:AV}(h:Ry T O m0 env mem d o=some (v,mem',d')):
  tt P T env mem o v mem' ∧Clean m0 mem d mem' d' :=by
 unfold Ry at h;split at h
 ·rename_i v' m' h1
  cases h;exact⟨.inl h1,(Ha h1).clean⟩
 ·split at h
  ·rename_i c args hc
   split at h
   ·rename_i r hr
    cases h;refine⟨zm hO hc hr,fun hm=>⟨Nat.le_trans hm (uD hO hr),fun e=>?_⟩⟩;simp only[Bool.or_eq_false_iff,Option.isSome_eq_false_iff,Option.isNone_iff_eq_none] at e;refine⟨e.1,?_⟩;unfold CallRes.mem;rw[e.2];simp[List.take_append_of_le_length hm]
   ·cases h
  ·cases h
theorem iL(hO:OracleOk P O) {N m0:Nat}{ops:Array Oper}:∀{l:List Oper}{s s' :XS},dD T O N m0 ops l s=some s' →
  kL P T N ops l ⟨s.env,s.mem⟩ ⟨s'.env,s'.mem⟩∧Clean m0 s.mem s.dirty s'.mem s'.dirty
 | [],s,s',h=>by cases h;exact⟨rfl,.refl _ _ _⟩
 |o::os,s,s',h=>by
  unfold dD at h;split at h
  ·rename_i hd
   split at h
   ·rename_i hw
    split at h
    ·rename_i v m dt h1
     obtain⟨a1,a2⟩:=Km hO h1;obtain⟨b1,b2⟩:=iL hO h;exact⟨⟨true,hw,hd,(fun e=>by cases e),fun _=>⟨v,m,a1,b1⟩⟩,a2.trans b2⟩
    ·cases h
   ·rename_i hw
    obtain⟨b1,b2⟩:=iL hO h;exact⟨⟨false,hw,hd,(fun _=>b1),(fun e=>by cases e)⟩,b2⟩
   ·cases h
  ·cases h
end
end Go.Eng
namespace Go.Eng
section
variable {P:Program}{T:TypeId→Option TyI}{O:Oracle}{N:Nat}{ops:Array Oper}
theorem fS(see:Nat→Bool):∀(i:Nat) (m:Mem),(bu see i m).length=m.length
 |_,[]=>rfl
 |i,s::r=>by simp[bu,fS see (i+1) r]
theorem jl(see:Nat→Bool):∀(i:Nat) (m:Mem) (b:Nat),(bu see i m)[b]? =m[b]? ∨(bu see i m)[b]? =some .absent
 |_,[],b=>.inl rfl
 |i,s::r,0=>by
  simp only[bu,List.getElem?_cons_zero];split
  ·exact .inl rfl
  ·exact .inr rfl
 |i,s::r,b+1=>by simp only[bu,List.getElem?_cons_succ];exact jl see (i+1) r b
theorem zf:∀(i:Nat) (m:Mem) (b:Nat),¬gm (bu (fun _=>false) i m) b
 |_,[],b=>by rintro ⟨s,h,_⟩;simp[bu] at h
 |i,s::r,0=>by rintro ⟨s,h,h'⟩;simp[bu] at h;exact h' h.symm
 |i,s::r,b+1=>by rintro ⟨s,h,h'⟩;simp only[bu,List.getElem?_cons_succ] at h;exact zf (i+1) r b ⟨s,h,h'⟩
theorem kV(wr:List Nat):∀(i:Nat) (m m' :Mem),m.length≤m'.length→(bd wr i m m').length=m'.length
 |_,[],m',_=>rfl
 |_,_::_,[],h=>by simp at h
 |i,s::r,s' ::r',h=>by simp only[bd,List.length_cons] at h ⊢;rw[kV wr (i+1) r r' (by omega)]
theorem rr(wr:List Nat):∀(i:Nat) (m m' :Mem) (b:Nat),m.length≤m'.length→(bd wr i m m')[b]? =if i+b∈wr∨m.length≤b then m'[b]? else m[b]?
 |_,[],m',b,_=>by simp[bd]
 |_,_::_,[],_,h=>by simp at h
 |i,s::r,s' ::r',0,h=>by simp only[bd,List.getElem?_cons_zero,List.contains_iff_mem,Nat.add_zero,List.length_cons,Nat.le_zero_eq,Nat.add_one_ne_zero,or_false];split<;>rfl
 |i,s::r,s' ::r',b+1,h=>by simp only[List.length_cons] at h;simp only[bd,List.getElem?_cons_succ];rw[rr wr (i+1) r r' b (by omega)];simp only[List.length_cons,Nat.add_le_add_iff_right];rw[show i+1+b=i+(b+1) by omega]
theorem rf{m:Mem}{b:Nat}:dh m b=true↔gm m b:=by
 unfold dh gm;cases h:m[b]? with
 |none=>simp
 |some s=>cases s<;>simp
theorem AD:∀(i:Nat) (m:Mem) (b:Nat),i+b∈ca i m↔gm m b:=by
 intro i m;induction m generalizing i with
 |nil=>intro b;simp[ca,gm]
 |cons s r ih=>
  intro b;have hlow:∀(i:Nat) (m:Mem) (x:Nat),x∈ca i m→i≤x:=by
   intro i m;induction m generalizing i with
   |nil=>intro x h;simp[ca] at h
   |cons s r ih=>
    intro x h;have:x∈ca (i+1) r∨x=i:=by cases s<;>simp only[ca,List.mem_cons] at h<;>first | exact .inl h | exact h.symm
    rcases this with h | h
    ·have:=ih (i+1) x h;omega
    ·omega
  cases b with
  |zero=>
   have hn:¬(i+0∈ca (i+1) r):=fun h=>by have:=hlow _ _ _ h;omega
   cases s<;>simp[ca,gm]<;>simpa using hn
  |succ b=>
   have:=ih (i+1) b;rw[show i+1+b=i+(b+1) by omega] at this;have hB:gm (s::r) (b+1)↔gm r b:=by simp[gm]
   rw[hB,←this];cases s<;>simp[ca]
structure RecOk (P:Program) (T:TypeId→Option TyI) (N:Nat) (ops:Array Oper) (r:Rec) (o:Oper):Prop where
 dst:Ay N o=true
 wanted:oU ops r.en o=some r.wb
 en:r.en=(o.looksAt ops).map fun t=>(t,ab r.env t)
 step:r.wb=true→tt P T r.en r.tm o r.v r.m'
 skip:r.wb=false→r.v=.tuple []∧r.m' =r.tm
 tlen:r.tm.length=r.mem.length
 tmask:∀b:Nat,r.tm[b]? =r.mem[b]? ∨r.tm[b]? =some .absent
 mono:r.mem.length≤r.m'.length
 nxlen:r.nx.length=r.m'.length
 nx:∀b:Nat,r.nx[b]? =if b∈r.wr∨r.mem.length≤b then r.m'[b]? else r.mem[b]?
 keep:∀b:Nat,b<r.mem.length→b∉r.wr→gm r.tm b→r.m'[b]? =r.mem[b]?
theorem Bb{mem tm:Mem}(h:∀b:Nat,tm[b]? =mem[b]? ∨tm[b]? =some .absent) {b:Nat}(hb:gm tm b):tm[b]? =mem[b]? :=by
 rcases h b with e | e
 ·exact e
 ·obtain⟨s,h1,h2⟩:=hb
  rw[h1] at e;cases e;exact absurd rfl h2
theorem Dq(hO:OracleOk P O) {bs:List Nat}{j:Nat}{o:Oper}{env:Env}{mem:Mem}{acc:List Rec}{r:Rec}(h:Dp T O N ops bs j o env mem acc=some r):
  r.env=env∧r.mem=mem∧RecOk P T N ops r o:=by
 unfold Dp at h;split at h
 ·rename_i hd
  simp only at h;split at h
  ·cases h
  ·rename_i hw
   cases h;refine⟨rfl,rfl,hd,hw,rfl,(fun e=>by cases e),(fun _=>⟨rfl,rfl⟩),fS _ _ _,(fun b=>jl _ _ _ _),by simp[fS],by simp[fS],fun b=>?_,fun b _ _ hb=>absurd hb (zf _ _ _)⟩;simp only[List.not_mem_nil,false_or];split
   ·rename_i hle
    rw[List.getElem?_eq_none hle,List.getElem?_eq_none (by rw[fS];exact hle)]
   ·rfl
  ·rename_i hw
   generalize Su bs j acc (Kg (List.map (fun t=>(t,ab env t)) (o.looksAt ops)) o.op)=see at h;have htl:(bu see 0 mem).length=mem.length:=fS _ _ _;split at h
   ·rename_i v m h1
    cases h;have hk:=Ha h1;rw[Keeps,htl] at hk;refine⟨rfl,rfl,hd,hw,rfl,fun _=>.inl h1,(fun e=>by cases e),htl,fun b=>jl _ _ _ _,hk.1,kV _ _ _ _ hk.1,fun b=>?_,fun b hb hn hbd=>?_⟩
    ·have:=rr (th (List.map (fun t=>(t,ab env t)) (o.looksAt ops)) o.op) 0 mem m b hk.1
     rw[Nat.zero_add] at this;exact this
    ·rw[hk.2 b hb hn];exact Bb (fun b=>jl see 0 mem b) hbd
   ·split at h
    ·cases h
    ·rename_i c args hc
     split at h
     ·cases h
     ·rename_i res hres
      simp only[Option.some.injEq] at h;subst h;have hlen:=uD hO hres;rw[htl] at hlen;refine⟨rfl,rfl,hd,hw,rfl,fun _=>zm hO hc hres,(fun e=>by cases e),htl,fun b=>jl _ _ _ _,hlen,kV _ _ _ _ hlen,fun b=>?_,fun b hb hn hbd=>?_⟩
      ·have:=rr (Rw (bu see 0 mem) res.pre) 0 mem (res.mem (bu see 0 mem)) b hlen
       rw[Nat.zero_add] at this;exact this
      ·cases hp:res.pre with
       |some p=>
        exfalso;apply hn;show b∈Rw (bu see 0 mem) res.pre
        rw[hp];show b∈ca 0 (bu see 0 mem)
        have:=(AD 0 (bu see 0 mem) b).2 hbd
        rwa [Nat.zero_add] at this
       |none=>
        show(res.mem (bu see 0 mem))[b]? =mem[b]?
        unfold CallRes.mem;rw[hp];simp only[Option.getD_none];rw[List.getElem?_append_left (by rw[htl];exact hb)];exact Bb (fun b=>jl see 0 mem b) hbd
 ·cases h
def jQ(P:Program) (T:TypeId→Option TyI) (N:Nat) (ops:Array Oper):List Oper→Env→Mem→List Rec→Env→Mem→Prop
 | [],env,mem,[],env',mem' =>env' =env∧mem' =mem
 |o::os,env,mem,r::rs,env',mem' =>r.env=env∧r.mem=mem∧RecOk P T N ops r o∧jQ P T N ops os (putE env o.dst r.v) r.nx rs env' mem'
 |_,_,_,_,_,_=>False
theorem mO(hO:OracleOk P O) {bs:List Nat}:∀{l:List Oper}{j:Nat}{env:Env}{mem:Mem}{acc R:List Rec}{env' :Env}{mem' :Mem},
  jH T O N ops bs j l env mem acc=some (R,env',mem')→∃rs,R=acc.reverse++rs∧jQ P T N ops l env mem rs env' mem'
 | [],j,env,mem,acc,R,env',mem',h=>by simp only[jH,Option.some.injEq,Prod.mk.injEq] at h;obtain⟨rfl,rfl,rfl⟩:=h;exact⟨[],by simp,rfl,rfl⟩
 |o::os,j,env,mem,acc,R,env',mem',h=>by
  unfold jH at h;split at h
  ·cases h
  ·rename_i r hr
   obtain⟨h1,h2,h3⟩:=Dq hO hr;obtain⟨rs,e,h4⟩:=mO hO h;exact⟨r::rs,by rw[e];simp,h1,h2,h3,h4⟩
def Np(R:List Rec) (fin:Env×Mem) (j:Nat):Env×Mem:=match R[j]? with
 |some r=>(r.env,r.mem)
 |none=>fin
theorem vr:∀{l:List Oper}{env:Env}{mem:Mem}{R:List Rec}{env' :Env}{mem' :Mem},jQ P T N ops l env mem R env' mem' →R.length=l.length
 | [],_,_,[],_,_,_=>rfl
 |_::_,_,_,_::_,_,_,h=>by simp only[List.length_cons];rw[vr h.2.2.2]
 | [],_,_,_::_,_,_,h=>h.elim
 |_::_,_,_,[],_,_,h=>h.elim
theorem sT:∀{l:List Oper}{env:Env}{mem:Mem}{R:List Rec}{env' :Env}{mem' :Mem},jQ P T N ops l env mem R env' mem' →Np R (env',mem') 0=(env,mem)
 | [],_,_,[],_,_,h=>by obtain⟨rfl,rfl⟩:=h;rfl
 |_::_,_,_,_::_,_,_,h=>by obtain⟨rfl,rfl,_⟩:=h;rfl
 | [],_,_,_::_,_,_,h=>h.elim
 |_::_,_,_,[],_,_,h=>h.elim
theorem zt:∀{l:List Oper}{env:Env}{mem:Mem}{R:List Rec}{env' :Env}{mem' :Mem},jQ P T N ops l env mem R env' mem' →∀(j:Nat) (o:Oper),l[j]? =some o→
  ∃r,R[j]? =some r∧RecOk P T N ops r o∧Np R (env',mem') (j+1)=(putE r.env o.dst r.v,r.nx)
 |o::os,_,_,r::rs,env',mem',h,0,o',ho=>by cases ho;obtain⟨rfl,rfl,h3,h4⟩:=h;exact⟨r,rfl,h3,sT h4⟩
 |o::os,_,_,r::rs,env',mem',h,j+1,o',ho=>by obtain⟨_,_,_,h4⟩:=h;obtain⟨r',g1,g2,g3⟩:=zt h4 j o' ho;exact⟨r',g1,g2,g3⟩
 | [],_,_,_,_,_,_,j,_,ho=>by simp at ho
 |_::_,_,_,[],_,_,h,_,_,_=>h.elim
theorem kG:∀(i:Nat) (R:List Rec) (j:Nat) (r:Rec),R[j]? =some r→(i+j,r)∈aF i R
 |i,x::xs,0,r,h=>by cases h;simp[aF]
 |i,x::xs,j+1,r,h=>by simp only[List.getElem?_cons_succ] at h;have:=kG (i+1) xs j r h;rw[show i+1+j=i+(j+1) by omega] at this;simp[aF,this]
 |_,[],_,_,h=>by simp at h
end
end Go.Eng
namespace Go.Eng
section
variable {P:Program}{T:TypeId→Option TyI}{O:Oracle}{N:Nat}{ops:Array Oper}
def RH(bs:List Nat) (R:List Rec) (j:Nat):List (Nat×Rec):=(aF 0 R).filter fun f=>decide (f.1<j)&& !bef bs f.1 j
def mD(n:Nat) (bs:List Nat) (R:List Rec) (fin:Env×Mem):DrawData where
 E j:=(Np R fin j).1
 M j:=(Np R fin j).2
 En j:=match R[j]? with | some r=>r.en | none=>[]
 Tm j:=match R[j]? with | some r=>r.tm | none=>[]
 M' j:=match R[j]? with | some r=>r.m' | none=>[]
 v j:=match R[j]? with | some r=>r.v | none=>.undef
 wb j:=match R[j]? with | some r=>r.wb | none=>false
 touch j b:=match R[j]? with | some r=>decide (b∈r.wr)||decide (r.mem.length≤b) | none=>false
 ok j b:=match R[j]? with | some r=>fW r.nx.length (RH bs R j) b | none=>false
 cl i j:=decide (i<n)&&bef bs i j
theorem yR{bs:List Nat}(h:lI ops bs=true) {j:Nat}{o:Oper}(ho:ops[j]? =some o):
  (∀e∈o.after,Region.binds .any e=true→e.on<j)∧
  (∀i,i<ops.size→bef bs i j=true→∃e∈o.after,Region.binds .any e=true∧(e.on=i∨bef bs i e.on=true))∧
  ∀(i:Nat) oi t,ops[i]? =some oi→i≠j→oi.dst=some t→(t∈o.looksAt ops∨o.dst=some t)→bef bs i j=true∨bef bs j i=true:=by
 have hj:j<ops.size:=(Array.getElem?_eq_some_iff.1 ho).1;unfold lI at h;have:=List.all_eq_true.1 h j (by simpa using hj);simp only[ho,Bool.and_eq_true,List.all_eq_true,List.mem_range] at this;obtain⟨h1,h2⟩:=this;refine⟨fun e he hb=>?_,fun i hi hb=>?_,fun i oi t hi hne ht hor=>?_⟩
 ·have:=h1 e (by simpa using he)
  simpa [hb] using this
 ·have:=(h2 i hi).1
  simp only[hb,Bool.not_true,Bool.false_or,List.any_eq_true] at this;obtain⟨e,he,hx⟩:=this;simp only[Bool.and_eq_true,Bool.or_eq_true,beq_iff_eq] at hx;exact⟨e,by simpa using he,hx.1,hx.2⟩
 ·have hil:i<ops.size:=(Array.getElem?_eq_some_iff.1 hi).1
  have:=(h2 i hil).2;simp only[hi,ht,Bool.or_eq_true,beq_iff_eq,hne,false_or,Bool.and_eq_true,Bool.not_eq_true',List.contains_eq_mem,decide_eq_false_iff_not] at this;rcases this with (h3 | h3) | ⟨h3,h4⟩
  ·exact .inl h3
  ·exact .inr h3
  ·rcases hor with h5 | h5
   ·exact absurd h5 h3
   ·rw[h5] at h4;simp at h4
structure CheckOk (bs:List Nat) (R:List Rec) (j:Nat) (r:Rec):Prop where
 wr:∀b∈r.wr,gm r.tm b
 refsV:r.v.refsOk (fW r.nx.length (RH bs R j))=true
 refsW:∀(b:Nat) s,b∈r.wr→r.nx[b]? =some s→s.refsOk (fW r.nx.length (RH bs R j))=true
 fresh:∀(b:Nat) s,r.mem.length≤b→r.nx[b]? =some s→(s≠ .absent→s.own=true)∧s.refsOk (fW r.nx.length (RH bs R j))=true
 pairs:∀(i:Nat) f,i<j→R[i]? =some f→bef bs i j=false→(∀b∈f.wr,¬gm r.tm b)∧(∀b∈r.wr,¬gm f.tm b)∧∀b,f.mem.length≤b→b<f.nx.length→¬gm r.tm b
theorem C6{bs:List Nat}{R:List Rec}{j:Nat}{r:Rec}(h:ft bs (aF 0 R) j r=true):CheckOk bs R j r:=by
 unfold ft at h;simp only[Bool.and_eq_true] at h;obtain⟨⟨⟨⟨h1,h2⟩,h3⟩,h4⟩,h5⟩:=h;refine⟨fun b hb=>rf.1 (List.all_eq_true.1 h1 b hb),h2,fun b s hb hs=>?_,fun b s hb hs=>?_,fun i f hi hf hb=>?_⟩
 ·have:=List.all_eq_true.1 h3 b hb
  rw[hs] at this;exact this
 ·have hm:s∈r.nx.drop r.mem.length:=by apply List.mem_of_getElem? (i:=b-r.mem.length);rw[List.getElem?_drop,←hs];congr 1;omega
  have:=List.all_eq_true.1 h4 s hm;simp only[Bool.and_eq_true,Bool.or_eq_true] at this;refine⟨fun hne=>?_,this.2⟩;rcases this.1 with h | h
  ·exact h
  ·cases s<;>simp_all
 ·have hmem:(i,f)∈RH bs R j:=by unfold RH;rw[List.mem_filter];have:=kG 0 R i f hf;rw[Nat.zero_add] at this;exact⟨this,by simp[hi,hb]⟩
  have:=List.all_eq_true.1 h5 (i,f) hmem;simp only[Bool.and_eq_true,List.all_eq_true,Bool.not_eq_true'] at this;obtain⟨⟨k1,k2⟩,k3⟩:=this;refine⟨fun b hb hB=>?_,fun b hb hB=>?_,fun b hb1 hb2 hB=>?_⟩
  ·have:=k1 b hb;rw[rf.2 hB] at this;cases this
  ·have:=k2 b hb;rw[rf.2 hB] at this;cases this
  ·obtain⟨s,hs,hne⟩:=hB
   have hm:s∈(r.tm.drop f.mem.length).take (f.nx.length-f.mem.length):=by apply List.mem_of_getElem? (i:=b-f.mem.length);rw[List.getElem?_take_of_lt (by omega),List.getElem?_drop,←hs];congr 1;omega
   have:=k3 s hm;cases s<;>simp_all
theorem Bq{env:Env}:∀(l:List Tmp) (t:Nat),(t∈l∧ab (l.map fun t=>(t,ab env t)) t=ab env t)∨(t∉l∧ab (l.map fun t=>(t,ab env t)) t=.undef)
 | [],t=>.inr ⟨by simp,rfl⟩
 |x::xs,t=>by
  simp only[List.map_cons,ab];by_cases hx:x=t
  ·subst hx;exact .inl ⟨by simp,by simp⟩
  ·simp only[hx,if_false]
   rcases Bq (env:=env) xs t with⟨h1,h2⟩ | ⟨h1,h2⟩
   ·exact .inl ⟨by simp[h1],h2⟩
   ·exact .inr ⟨by simp[h1,Ne.symm hx],h2⟩
theorem Q5{m:Mem}{b:Nat}(h:gm m b):b<m.length:=by obtain⟨s,h,_⟩:=h;exact(List.getElem?_eq_some_iff.1 h).1
theorem Q0{bs:List Nat}{R:List Rec}{env env' :Env}{mem mem' :Mem}(hs:lI ops bs=true) (hR:jQ P T N ops ops.toList env mem R env' mem')
  (hC:∀(j:Nat) r,R[j]? =some r→CheckOk bs R j r):pI P T N ops (mD ops.size bs R (env',mem')):=by
 have at_:∀(j:Nat) o,ops[j]? =some o→∃r,R[j]? =some r∧RecOk P T N ops r o∧Np R (env',mem') (j+1)=(putE r.env o.dst r.v,r.nx):=
  fun j o ho=>zt hR j o (by simpa using ho)
 have M_at:∀(j:Nat) r,R[j]? =some r→(mD ops.size bs R (env',mem')).M j=r.mem:=fun j r h=>by simp[mD,Np,h]
 have lens:∀(i:Nat) ri oi,ops[i]? =some oi→R[i]? =some ri→∀(k j:Nat) rj oj,j=i+1+k→ops[j]? =some oj→R[j]? =some rj→ri.nx.length≤rj.mem.length:=by
  intro i ri oi hoi hri k;induction k with
  |zero=>
   intro j rj oj hj hoj hrj;obtain⟨r,g1,g2,g3⟩:=at_ i oi hoi;rw[hri] at g1;cases g1;have:Np R (env',mem') (i+1)=(rj.env,rj.mem):=by rw[show i+1=j by omega];simp[Np,hrj]
   rw[this] at g3;have:=congrArg Prod.snd g3;simp only at this;rw[this];exact Nat.le_refl _
  |succ k ih=>
   intro j rj oj hj hoj hrj;have hjs:j<ops.size:=(Array.getElem?_eq_some_iff.1 hoj).1;obtain⟨op,hop⟩:=wW (ops:=ops) (j:=j-1) (by omega);obtain⟨r,g1,g2,g3⟩:=at_ (j-1) op hop;have h1:=ih (j-1) r op (by omega) hop g1;have:Np R (env',mem') (j-1+1)=(rj.env,rj.mem):=by rw[show j-1+1=j by omega];simp[Np,hrj]
   rw[this] at g3;have e:=congrArg Prod.snd g3;simp only at e;have:=g2.nxlen;have:=g2.mono;rw[e];omega
 have lens' :∀(i j:Nat) ri rj oi oj,i<j→ops[i]? =some oi→ops[j]? =some oj→R[i]? =some ri→R[j]? =some rj→ri.nx.length≤rj.mem.length:=
  fun i j ri rj oi oj hij hoi hoj hri hrj=>lens i ri oi hoi hri (j-i-1) j rj oj (by omega) hoj hrj
 intro j o ho;obtain⟨r,hr,K,hnext⟩:=at_ j o ho;have C:=hC j r hr;have S:=yR hs ho;have hjs:j<ops.size:=(Array.getElem?_eq_some_iff.1 ho).1;have eM:(mD ops.size bs R (env',mem')).M j=r.mem:=M_at j r hr;have eM1:(mD ops.size bs R (env',mem')).M (j+1)=r.nx:=by simp[mD,hnext]
 have eE:(mD ops.size bs R (env',mem')).E j=r.env:=by simp[mD,Np,hr]
 have eE1:(mD ops.size bs R (env',mem')).E (j+1)=putE r.env o.dst r.v:=by simp[mD,hnext]
 have eEn:(mD ops.size bs R (env',mem')).En j=r.en:=by simp[mD,hr]
 have eT:(mD ops.size bs R (env',mem')).Tm j=r.tm:=by simp[mD,hr]
 have eM' :(mD ops.size bs R (env',mem')).M' j=r.m' :=by simp[mD,hr]
 have ev:(mD ops.size bs R (env',mem')).v j=r.v:=by simp[mD,hr]
 have ew:(mD ops.size bs R (env',mem')).wb j=r.wb:=by simp[mD,hr]
 have etouch:∀b,(mD ops.size bs R (env',mem')).touch j b=true↔b∈r.wr∨r.mem.length≤b:=fun b=>by simp[mD,hr]
 have etouchF:∀b,(mD ops.size bs R (env',mem')).touch j b=false↔b∉r.wr∧b<r.mem.length:=fun b=>by simp[mD,hr]
 have eok:(mD ops.size bs R (env',mem')).ok j=fW r.nx.length (RH bs R j):=by funext b;simp[mD,hr]
 have ecl:∀i k,i<ops.size→(mD ops.size bs R (env',mem')).cl i k=bef bs i k:=fun i k hi=>by simp[mD,hi]
 have hmono:r.mem.length≤r.nx.length:=by rw[K.nxlen];exact K.mono
 refine⟨by rw[eEn,ew];exact K.wanted,K.dst,?_,?_,by rw[eE1,eE,ev],?_,?_,by rw[eT,eM];exact K.tlen,by rw[eT,eM];exact K.tmask,by rw[eM1,eM'];exact K.nxlen,by rw[eM,eM1];exact hmono,
  ?_,?_,?_,?_,?_,?_,?_,?_,?_,?_,S.1,?_⟩
 ·rw[ew,eEn,eT,ev,eM'];exact K.step
 ·rw[ew,ev,eM',eT];exact K.skip
 ·intro t
  rw[eEn,eE,K.en];rcases Bq (env:=r.env) (o.looksAt ops) t with⟨h1,h2⟩ | ⟨h1,h2⟩
  ·refine .inr ⟨h2,fun i oi hi hne ht=>?_⟩
   rw[ecl i j (Array.getElem?_eq_some_iff.1 hi).1,ecl j i hjs];exact S.2.2 i oi t hi hne ht (.inl h1)
  ·exact .inl h2
 ·intro i oi t hi hne h1 h2
  rw[ecl i j (Array.getElem?_eq_some_iff.1 hi).1,ecl j i hjs];exact S.2.2 i oi t hi hne h2 (.inr h1)
 ·intro b hb
  rw[eM1,eM',K.nx b,if_pos ((etouch b).1 hb)]
 ·intro b hb ht
  rw[eM] at hb;rw[eM1,eM,K.nx b,if_neg];rw[etouchF] at ht;rintro (h | h)
  ·exact ht.1 h
  ·omega
 ·intro b hb ht hB
  rw[eM] at hb;rw[eM',eM];rw[etouchF] at ht;rw[eT] at hB;exact K.keep b hb ht.1 hB
 ·intro b hb
  rw[eM] at hb;exact(etouch b).2 (.inr hb)
 ·intro b ht hb
  rw[eM] at hb;rw[eT];rcases (etouch b).1 ht with h | h
  ·exact C.wr b h
  ·omega
 ·
  intro i oi b hoi hij hbi hti hor;obtain⟨ri,hri,Ki,hni⟩:=at_ i oi hoi;have Ci:=hC i ri hri;have eMi:(mD ops.size bs R (env',mem')).M (i+1)=ri.nx:=by simp[mD,hni]
  rw[eMi] at hbi;have hti' :b∈ri.wr∨ri.mem.length≤b:=by simpa [mD,hri] using hti
  rw[eM1,eT] at hor;rw[ecl i j (Array.getElem?_eq_some_iff.1 hoi).1,ecl j i hjs];by_cases hlt:i<j
  ·cases hb:bef bs i j with
   |true=>exact .inl rfl
   |false=>
    exfalso;obtain⟨p1,p2,p3⟩:=C.pairs i ri hlt hri hb;have hl:=lens' i j ri r oi o hlt hoi ho hri hr;have notT:¬gm r.tm b:=by
     rcases hti' with h | h
     ·exact p1 b h
     ·exact p3 b h hbi
    rcases hor with⟨g1,g2⟩ | g
    ·rcases (etouch b).1 g2 with h | h
     ·exact notT (C.wr b h)
     ·omega
    ·exact notT g
  ·cases hb:bef bs j i with
   |true=>exact .inr rfl
   |false=>
    exfalso;obtain⟨p1,p2,p3⟩:=Ci.pairs j r (by omega) hr hb;have hl:=lens' j i r ri o oi (by omega) ho hoi hr hri;have htl:=K.tlen;rcases hti' with h | h
    ·rcases hor with⟨g1,g2⟩ | g
     ·rcases (etouch b).1 g2 with h' | h'
      ·exact p2 b h (C.wr b h')
      ·exact p3 b h' g1 (Ci.wr b h)
     ·exact p2 b h g
    ·rcases hor with⟨g1,g2⟩ | g
     ·omega
     ·have:=Q5 g;omega
 ·
  intro i b oi hoi hok h1 h2;obtain⟨ri,hri,Ki,hni⟩:=at_ i oi hoi;have eMi:(mD ops.size bs R (env',mem')).M (i+1)=ri.nx:=by simp[mD,hni]
  rw[M_at i ri hri] at h1;rw[eMi] at h2;rw[eok] at hok;unfold fW at hok;simp only[Bool.and_eq_true,decide_eq_true_eq,List.all_eq_true,Bool.not_eq_true',decide_eq_false_iff_not] at hok;by_cases hij:i=j
  ·exact .inl hij
  ·refine .inr ?_
   rw[ecl i j (Array.getElem?_eq_some_iff.1 hoi).1];by_cases hlt:i<j
   ·cases hb:bef bs i j with
    |true=>rfl
    |false=>
     exfalso;have hmem:(i,ri)∈RH bs R j:=by unfold RH;rw[List.mem_filter];have:=kG 0 R i ri hri;rw[Nat.zero_add] at this;exact⟨this,by simp[hlt,hb]⟩
     exact hok.2 (i,ri) hmem ⟨h1,h2⟩
   ·exfalso
    have hl:=lens' j i r ri o oi (by omega) ho hoi hr hri;omega
 ·rw[ev,eok];exact C.refsV
 ·intro b s ht hs
  rw[eM1] at hs;rw[eok];rcases (etouch b).1 ht with h | h
  ·exact C.refsW b s h hs
  ·exact(C.fresh b s h hs).2
 ·intro b s hb hs hne
  rw[eM] at hb;rw[eM1] at hs ⊢;exact⟨s,hs,(C.fresh b s hb hs).1 hne⟩
 ·intro i hb
  simp only[mD,Bool.and_eq_true,decide_eq_true_eq] at hb;obtain⟨e,h1,h2,h3⟩:=S.2.1 i hb.1 hb.2;refine⟨e,h1,h2,?_⟩;rcases h3 with h | h
  ·exact .inl h
  ·exact .inr (by simp[mD,hb.1,h])
theorem Du(hm:P.follows .mixedOrders=true) (hT:cA P T) (hO:OracleOk P O) {m0:Nat}{s s' :XS}(hst:lI ops (eC ops.toList)=true) (h:aD T O N m0 ops s=some s'):
  (∀(tp:Bool) (id:Nat) (Q:Exit→St→Prop),Q .normal ⟨s'.env,s'.mem⟩→AWP P tp N m0 (.region id ops true) ⟨s.env,s.mem⟩ Q)∧Clean m0 s.mem s.dirty s'.mem s'.dirty:=by
 unfold aD at h;simp only at h
 ·split at h
  ·cases h
  ·rename_i R env mem hr
   split at h
   ·rename_i hc
    cases h;obtain⟨rs,e,hR⟩:=mO hO hr;simp only[List.reverse_nil,List.nil_append] at e;subst e;have hC:∀(j:Nat) r,R[j]? =some r→CheckOk (eC ops.toList) R j r:=by intro j r hj;have:=kG 0 R j r hj;rw[Nat.zero_add] at this;exact C6 (List.all_eq_true.1 hc _ this)
    have hA:=Q0 hst hR hC;have hz:=sT hR;have hlen:=vr hR;have hend:Np R (env,mem) ops.size=(env,mem):=by unfold Np;rw[List.getElem?_eq_none (by rw[hlen];simp)]
    refine⟨fun tp id Q hq=>yF hm hT (d:=mD ops.size (eC ops.toList) R (env,mem)) hA (by simp[mD,hz]) (by simp[mD,hz]) (by simp[mD,hend]) hq,?_⟩;have key:∀(l:List Oper) (e:Env) (m:Mem) (rs:List Rec),jQ P T N ops l e m rs env mem→m0≤m.length→m0≤mem.length∧((rs.any fun r=>r.wr.any fun b=>decide (b<m0))=false→mem.take m0=m.take m0):=by
     intro l;induction l with
     |nil=>
      intro e m rs h hm0;cases rs with
      |nil=>obtain⟨rfl,rfl⟩:=h;exact⟨hm0,fun _=>rfl⟩
      |cons=>exact h.elim
     |cons o os ih=>
      intro e m rs h hm0;cases rs with
      |nil=>exact h.elim
      |cons r rs=>
       obtain⟨rfl,rfl,K,h4⟩:=h;have hmono:r.mem.length≤r.nx.length:=by rw[K.nxlen];exact K.mono
       obtain⟨a1,a2⟩:=ih _ _ _ h4 (by omega);refine⟨a1,fun hw=>?_⟩;simp only[List.any_cons,Bool.or_eq_false_iff] at hw;rw[a2 hw.2];refine rE hm0 (by omega) fun b hb=>?_
       rw[K.nx b,if_neg];rintro (h | h)
       ·exact lC hw.1 hb h
       ·omega
    intro hm0;obtain⟨a1,a2⟩:=key _ _ _ _ hR hm0;refine⟨a1,fun hd=>?_⟩;simp only[Bool.or_eq_false_iff] at hd;exact⟨hd.1,a2 hd.2⟩
   ·cases h
end
end Go.Eng
namespace Go.Eng
section
variable {P:Program}{T:TypeId→Option TyI}{lv:Code→List Nat}{O:Oracle}{K N m0:Nat}{tp:Bool}
def To(P:Program) (tp:Bool) (N m0:Nat) (c:Code) (s:XS) (e:Exit) (s' :XS):Prop:=
 (∀Q:Exit→St→Prop,Q e ⟨s'.env,s'.mem⟩→AWP P tp N m0 c ⟨s.env,s.mem⟩ Q)∧Clean m0 s.mem s.dirty s'.mem s'.dirty
def Same(wr:List Nat) (e e' :Env):Prop:=∀t,t∉wr→ab e' t=ab e t
theorem Same.refl(wr:List Nat) (e:Env):Same wr e e:=fun _ _=>rfl
theorem Same.trans{wr:List Nat}{e1 e2 e3:Env}(h:Same wr e1 e2) (h' :Same wr e2 e3):Same wr e1 e3:=fun t ht=>(h' t ht).trans (h t ht)
theorem Same.mono{wr wr' :List Nat}{e e' :Env}(h:Same wr e e') (hw:∀t,t∈wr→t∈wr'):Same wr' e e' :=fun t ht=>h t fun hm=>ht (hw t hm)
theorem gv(a b:Env) (t:Nat) (h:∀e∈a,e.1≠t):ab (a++b) t=ab b t:=by
 induction a with
 |nil=>rfl
 |cons e r ih=>
  obtain⟨k,v⟩:=e;simp only[List.cons_append,ab];rw[if_neg (h (k,v) (by simp))];exact ih fun e he=>h e (by simp[he])
theorem fL(l:List Nat) (g:Nat→AV) (b:Env) (t:Nat) (h:t∈l):ab (l.map (fun t=>(t,g t))++b) t=g t:=by
 induction l with
 |nil=>cases h
 |cons x r ih=>
  simp only[List.map_cons,List.cons_append,ab];by_cases hx:x=t
  ·subst hx;rw[if_pos rfl]
  ·rw[if_neg hx]
   exact ih (by cases h with
    |head=>exact absurd rfl hx
    |tail _ h=>exact h)
theorem pr{lv wr:List Nat}{env0 env:Env}(h:Same wr env0 env) (t:Nat):ab (aI lv wr env0 env) t=ab env t∨ab (aI lv wr env0 env) t=.undef:=by
 unfold aI;rw[List.append_assoc];by_cases h1:t∈lv
 ·rw[fL lv (fun t=>ab env t) _ t h1];exact .inl rfl
 ·rw[gv _ _ t (by intro e he;simp only[List.mem_map] at he;obtain⟨x,hx,rfl⟩:=he;intro e;exact h1 (e▸hx))]
  by_cases h2:t∈wr
  ·rw[fL (wr.filter fun t=> !lv.contains t) (fun _=>AV.undef) _ t (by rw[List.mem_filter];exact⟨h2,by simpa using h1⟩)];exact .inr rfl
  ·rw[gv _ _ t (by intro e he;simp only[List.mem_map,List.mem_filter] at he;obtain⟨x,hx,rfl⟩:=he;intro e;exact h2 (e▸hx.1))]
   exact .inl (h t h2).symm
theorem lN{lv wr:List Nat}{env0 env:Env}(hl:Same wr env0 env):Same wr env0 (aI lv wr env0 env):=by
 intro t ht;unfold aI;rw[List.append_assoc];by_cases h1:t∈lv
 ·rw[fL lv (fun t=>ab env t) _ t h1];exact hl t ht
 ·rw[gv _ _ t (by intro e he;simp only[List.mem_map] at he;obtain⟨x,hx,rfl⟩:=he;intro e;exact h1 (e▸hx)),
   gv _ _ t (by intro e he;simp only[List.mem_map,List.mem_filter] at he;obtain⟨x,hx,rfl⟩:=he;intro e;exact ht (e▸hx.1))]
theorem zD{wr:List Nat}{e:Env}{o:Oper}{v:AV}(h:∀d,o.dst=some d→d∈wr):Same wr e (putE e o.dst v):=by intro t ht;exact HK fun he=>ht (h t he)
theorem mN{m0:Nat}{ops:Array Oper}:∀{l:List Oper}{s s' :XS},dD T O N m0 ops l s=some s' →Same (l.filterMap (·.dst)) s.env s'.env
 | [],s,s',h=>by cases h;exact .refl _ _
 |o::os,s,s',h=>by
  have hm:∀t,t∈os.filterMap (·.dst)→t∈(o::os).filterMap (·.dst):=fun t ht=>by
   rw[List.filterMap_cons];split
   ·exact ht
   ·exact List.mem_cons_of_mem _ ht
  have hd:∀d,o.dst=some d→d∈(o::os).filterMap (·.dst):=fun d hd=>by rw[List.filterMap_cons];simp[hd]
  unfold dD at h;split at h
  ·split at h
   ·split at h
    ·exact(zD hd).trans ((mN h).mono hm)
    ·cases h
   ·exact(zD hd).trans ((mN h).mono hm)
   ·cases h
  ·cases h
theorem H5{ops:Array Oper}:∀{l:List Oper}{env:Env}{mem:Mem}{R:List Rec}{env' :Env}{mem' :Mem},jQ P T N ops l env mem R env' mem' →Same (l.filterMap (·.dst)) env env'
 | [],_,_,[],_,_,h=>by obtain⟨rfl,_⟩:=h;exact .refl _ _
 |o::os,_,_,r::rs,_,_,h=>by
  obtain⟨rfl,_,_,h4⟩:=h;have hm:∀t,t∈os.filterMap (·.dst)→t∈(o::os).filterMap (·.dst):=fun t ht=>by
   rw[List.filterMap_cons];split
   ·exact ht
   ·exact List.mem_cons_of_mem _ ht
  have hd:∀d,o.dst=some d→d∈(o::os).filterMap (·.dst):=fun d hd=>by rw[List.filterMap_cons];simp[hd]
  exact(zD hd).trans ((H5 h4).mono hm)
 | [],_,_,_::_,_,_,h=>h.elim
 |_::_,_,_,[],_,_,h=>h.elim
theorem Ia(hO:OracleOk P O) {m0:Nat}{ops:Array Oper}{s s' :XS}(h:aD T O N m0 ops s=some s'):Same (ops.toList.filterMap (·.dst)) s.env s'.env:=by
 unfold aD at h;simp only at h;split at h
 ·cases h
 ·rename_i R env mem hr
  split at h
  ·cases h
   obtain⟨rs,e,hR⟩:=mO hO hr;exact H5 hR
  ·cases h
mutual
theorem VRel.refs{μ:Nat→Place}{n:Nat}:∀{v V},VRel μ n v V→v.refs n=[]
 |.undef,_,_=>rfl
 |.bool _,_,_=>rfl
 |.int _ _,_,_=>rfl
 |.str _,_,_=>rfl
 |.ptr b o,V,h=>by simp only[VRel] at h;simp[AV.refs,h.1]
 |.nilptr,_,_=>rfl
 |.slice b o l c,V,h=>by simp only[VRel] at h;simp[AV.refs,h.1]
 |.nilslice,_,_=>rfl
 |.map b,V,h=>by simp only[VRel] at h;simp[AV.refs,h.1]
 |.yield b,V,h=>by simp only[VRel] at h;simp[AV.refs,h.1]
 |.nilmap,_,_=>rfl
 |.func f cs,V,h=>by simp only[VRel] at h;obtain⟨Us,_,h⟩:=h;simp[AV.refs,VRels.refs h]
 |.nilFunc,_,_=>rfl
 |.iface t v,V,h=>by simp only[VRel] at h;obtain⟨U,_,h⟩:=h;simp[AV.refs,VRel.refs h]
 |.nilIface,_,_=>rfl
 |.agg cs,V,h=>by simp only[VRel] at h;obtain⟨Us,_,h⟩:=h;simp[AV.refs,VRels.refs h]
 |.tuple cs,V,h=>by simp only[VRel] at h;obtain⟨Us,_,h⟩:=h;simp[AV.refs,VRels.refs h]
theorem VRels.refs{μ:Nat→Place}{n:Nat}:∀{vs Us},VRels μ n vs Us→AV.refsL n vs=[]
 | [],_,_=>rfl
 |v::vs,_,h=>by simp only[VRels] at h;obtain⟨U,Ws,_,h1,h2⟩:=h;simp[AV.refsL,VRel.refs h1,VRels.refs h2]
end
mutual
theorem AV.ren_refs{m1:Nat}{ks:List Nat}:∀{v:AV},v.refs m1=[]→v.ren (rho m1 ks)=v
 |.undef,_=>rfl
 |.bool _,_=>rfl
 |.int _ _,_=>rfl
 |.str _,_=>rfl
 |.ptr b o,h=>by
  have hb:b<m1:=by
   by_cases hb:b<m1
   ·exact hb
   ·simp[AV.refs,hb] at h
  simp[AV.ren,rho,hb]
 |.nilptr,_=>rfl
 |.slice b o l c,h=>by
  have hb:b<m1:=by
   by_cases hb:b<m1
   ·exact hb
   ·simp[AV.refs,hb] at h
  simp[AV.ren,rho,hb]
 |.nilslice,_=>rfl
 |.map b,h=>by
  have hb:b<m1:=by
   by_cases hb:b<m1
   ·exact hb
   ·simp[AV.refs,hb] at h
  simp[AV.ren,rho,hb]
 |.yield b,h=>by
  have hb:b<m1:=by
   by_cases hb:b<m1
   ·exact hb
   ·simp[AV.refs,hb] at h
  simp[AV.ren,rho,hb]
 |.nilmap,_=>rfl
 |.func f cs,h=>by simp only[AV.refs] at h;simp[AV.ren,AV.rens_refs h]
 |.nilFunc,_=>rfl
 |.iface t v,h=>by simp only[AV.refs] at h;simp[AV.ren,AV.ren_refs h]
 |.nilIface,_=>rfl
 |.agg cs,h=>by simp only[AV.refs] at h;simp[AV.ren,AV.rens_refs h]
 |.tuple cs,h=>by simp only[AV.refs] at h;simp[AV.ren,AV.rens_refs h]
theorem AV.rens_refs{m1:Nat}{ks:List Nat}:∀{vs:List AV},AV.refsL m1 vs=[]→AV.rens (rho m1 ks) vs=vs
 | [],_=>rfl
 |v::vs,h=>by simp only[AV.refsL,List.append_eq_nil_iff] at h;simp[AV.rens,AV.ren_refs h.1,AV.rens_refs h.2]
end
theorem Slot.ren_refs{m1:Nat}{ks:List Nat}{s:Slot}(h:s.refs m1=[]):s.ren (rho m1 ks)=s:=by
 cases s with
 |absent=>rfl
 |cells own es cs=>simp only[Slot.refs] at h;simp only[Slot.ren,AV.rens_refs h]
 |map es=>
  simp only[Slot.refs,List.flatMap_eq_nil_iff] at h;simp only[Slot.ren];congr 1;conv=>rhs;rw[←List.map_id es]
  apply List.map_congr_left;intro e he;have:=h e he;rw[List.append_eq_nil_iff] at this;rw[AV.ren_refs this.1,AV.ren_refs this.2];rfl
 |fmap es=>
  simp only[Slot.refs,List.flatMap_eq_nil_iff] at h;simp only[Slot.ren];congr 1;conv=>rhs;rw[←List.map_id es]
  apply List.map_congr_left;intro e he;have:=h e he;rw[List.append_eq_nil_iff] at this;rw[AV.ren_refs this.1,AV.ren_refs this.2];rfl
 |loop r=>
  simp only[Slot.refs,List.flatMap_eq_nil_iff] at h;simp only[Slot.ren,vv];congr 1;have:r.env.map (fun e=>(e.1,e.2.ren (rho m1 ks)))=r.env:=by
   conv=>rhs;rw[←List.map_id r.env]
   apply List.map_congr_left;intro e he;rw[AV.ren_refs (h e he)];rfl
  rw[this]
theorem AWP.assume{c:Code}{st:St}{Q:Exit→St→Prop}(h:m0≤st.mem.length→(∀t,(ab st.env t).refs st.mem.length=[])→AWP P tp N m0 c st Q):AWP P tp N m0 c st Q:=
 fun ro h0 base μ w a hro h1 h2 h3 h4 h5=>h h5 (fun t=>(h2 t).refs) ro h0 base μ w a hro h1 h2 h3 h4 h5
theorem Hq{m1:Nat}{ks:List Nat}{mem:Mem}(h:(mem.take m1).all (fun s=>(s.refs m1).isEmpty)=true):compact m1 ks mem=mem.take m1++keep m1 ks mem:=by
 unfold compact;congr 1;conv=>rhs;rw[←List.map_id (mem.take m1)]
 apply List.map_congr_left;intro s hs;have:=List.all_eq_true.1 h s hs;rw[List.isEmpty_iff] at this;rw[Slot.ren_refs this];rfl
theorem pw{lw wr:List Nat}{env0:Env}{g:Nat→AV}(t:Nat):
  ab ((lw.filter fun t=>wr.contains t).map (fun t=>(t,g t))++((wr.filter fun t=> !lw.contains t).map fun t=>(t,AV.undef))++env0) t=
   if t∈wr then (if t∈lw then g t else .undef) else ab env0 t:=by
 rw[List.append_assoc];by_cases h2:t∈wr
 ·by_cases h1:t∈lw
  ·rw[if_pos h2,if_pos h1]
   exact fL _ g _ t (by rw[List.mem_filter];exact⟨h1,by simpa using h2⟩)
  ·rw[if_pos h2,if_neg h1,gv _ _ t (by intro e he;simp only[List.mem_map,List.mem_filter] at he;obtain⟨x,hx,rfl⟩:=he;intro e;exact h1 (e▸hx.1))]
   exact fL (wr.filter fun t=> !lw.contains t) (fun _=>AV.undef) _ t (by rw[List.mem_filter];exact⟨h2,by simpa using h1⟩)
 ·rw[if_neg h2,gv _ _ t (by intro e he;simp only[List.mem_map,List.mem_filter] at he;obtain⟨x,hx,rfl⟩:=he;intro e;exact h2 (e▸by simpa using hx.2)),
   gv _ _ t (by intro e he;simp only[List.mem_map,List.mem_filter] at he;obtain⟨x,hx,rfl⟩:=he;intro e;exact h2 (e▸hx.1))]
theorem Nk{lw wr:List Nat}{env0:Env}{m1:Nat}{s:XS}(h:Same wr env0 s.env):Same wr env0 (HR lw wr env0 m1 s).env:=by
 unfold HR;simp only;split
 ·intro t ht
  simp only;rw[pw,if_neg ht]
 ·exact lN h
theorem BC{lw wr:List Nat}{env0:Env}{m1:Nat}{s:XS}(h:Same wr env0 s.env):Same wr env0 (pO lw wr env0 m1 s).env:=by
 unfold pO;split
 ·exact lN h
 ·simp only
  split
  ·intro t ht
   simp only;rw[pw,if_neg ht]
  ·split
   ·exact Nk h
   ·exact lN h
theorem JQ{lw wr:List Nat}{env0:Env}{m1:Nat}{s:XS}(hm:m0≤m1):Clean m0 s.mem s.dirty (pO lw wr env0 m1 s).mem (pO lw wr env0 m1 s).dirty:=by
 unfold pO;split
 ·exact .refl _ _ _
 ·rename_i hl
  have hl:=fun h=>hl (.inr h)
  simp only;split
  ·intro h
   refine⟨by simp only[List.length_append,List.length_take];omega,fun e=>⟨e,?_⟩⟩;simp only;rw[List.take_append_of_le_length (by simp only[List.length_take];omega),List.take_take];congr 1;omega
  ·split
   ·unfold HR
    simp only;split
    ·intro h
     exact⟨by show m0≤(compact m1 _ s.mem).length;rw[ed (by omega)];omega,fun e=>by cases e⟩
    ·exact .refl _ _ _
   ·exact .refl _ _ _
theorem Nv{lw wr:List Nat}{env0:Env}{m1:Nat}{s:XS}(h:Same wr env0 s.env) (h0:∀t,(ab env0 t).refs m1=[]) (hm:m0≤m1) (hl:m1≤s.mem.length):
  Weak m0 ⟨s.env,s.mem⟩ ⟨(HR lw wr env0 m1 s).env,(HR lw wr env0 m1 s).mem⟩:=by
 unfold HR;simp only;split
 ·rename_i hk
  obtain⟨ks,hks⟩:∃ks,ks=rz m1 s.mem 1000 ((lw.flatMap fun t=>(ab s.env t).refs m1)++(s.mem.take m1).flatMap (Slot.refs m1)) []:=⟨_,rfl⟩
  rw[←hks] at hk ⊢;have hw:Weak m0 ⟨s.env,s.mem⟩ ⟨vv (rho m1 ks) s.env,compact m1 ks s.mem⟩:=by intro base μ w tmps h1 h2 h3;obtain⟨μ1,b1,b2,b3,b4⟩:=Weak.compact (env:=s.env) _ hk base μ w tmps h1 h2 hl;exact⟨μ1,b1,b2,Nat.le_trans hm b3,b4.mono hm⟩
  refine hw.trans (Weak.env fun t=>?_);rw[pw,gw];by_cases h1:t∈wr
  ·rw[if_pos h1]
   by_cases h2:t∈lw
   ·rw[if_pos h2];exact .inl rfl
   ·rw[if_neg h2];exact .inr rfl
  ·rw[if_neg h1,h t h1,AV.ren_refs (h0 t)];exact .inl rfl
 ·exact Weak.env fun t=>pr h t
theorem Nw{lw wr:List Nat}{env0:Env}{m1:Nat}{s:XS}(h:Same wr env0 s.env) (h0:∀t,(ab env0 t).refs m1=[]) (hm:m0≤m1):
  Weak m0 ⟨s.env,s.mem⟩ ⟨(pO lw wr env0 m1 s).env,(pO lw wr env0 m1 s).mem⟩:=by
 unfold pO;split
 ·exact Weak.env fun t=>pr h t
 ·rename_i hl
  have hl:=fun h=>hl (.inr h)
  simp only;split
  ·rename_i hc
   rw[Bool.and_eq_true] at hc;obtain⟨hk,hall⟩:=hc;have hw:Weak m0 ⟨s.env,s.mem⟩ ⟨vv (rho m1 (rz m1 s.mem 1000 (lw.flatMap fun t=>(ab s.env t).refs m1) [])) s.env,compact m1 (rz m1 s.mem 1000 (lw.flatMap fun t=>(ab s.env t).refs m1) []) s.mem⟩:=by
    intro base μ w tmps h1 h2 h3;have hl' :m1≤s.mem.length:=by omega
    obtain⟨μ1,b1,b2,b3,b4⟩:=Weak.compact (env:=s.env) _ hk base μ w tmps h1 h2 hl';exact⟨μ1,b1,b2,Nat.le_trans hm b3,b4.mono hm⟩
   rw[Hq hall] at hw;refine hw.trans (Weak.env fun t=>?_);rw[pw,gw];by_cases h1:t∈wr
   ·rw[if_pos h1]
    by_cases h2:t∈lw
    ·rw[if_pos h2];exact .inl rfl
    ·rw[if_neg h2];exact .inr rfl
   ·rw[if_neg h1,h t h1,AV.ren_refs (h0 t)];exact .inl rfl
  ·split
   ·exact Nv h h0 hm (by omega)
   ·exact Weak.env fun t=>pr h t
theorem Pg{b:Code}{f:XS→Option (Exit×XS)}{lw:List Nat}(hf:∀s e s',f s=some (e,s')→Same (ad b) s.env s'.env) {env0:Env}{m1:Nat}:
  ∀(k:Nat) (s:XS) (e:Exit) (s' :XS),Same (ad b) env0 s.env→dV lw (ad b) env0 m1 f k s=some (e,s')→Same (ad b) env0 s'.env:=by
 intro k;induction k with
 |zero=>intro s e s' _ h;cases h
 |succ k ih=>
  intro s e s' hI h;unfold dV at h;split at h
  ·rename_i s1 h1
   exact ih _ _ _ (BC (hI.trans (hf _ _ _ h1))) h
  ·exact hI.trans (hf _ _ _ h)
theorem MZ{b:Code}{f:XS→Option (Exit×XS)}{lw:List Nat}(hf:∀s e s',f s=some (e,s')→To P tp N m0 b s e s') {env0:Env}{m1:Nat}(hm:m0≤m1):
  ∀(k:Nat) (s:XS) (e:Exit) (s' :XS),dV lw (ad b) env0 m1 f k s=some (e,s')→Clean m0 s.mem s.dirty s'.mem s'.dirty:=by
 intro k;induction k with
 |zero=>intro s e s' h;cases h
 |succ k ih=>
  intro s e s' h;unfold dV at h;split at h
  ·rename_i s1 h1
   obtain⟨_,a2⟩:=hf _ _ _ h1;exact(a2.trans (JQ hm)).trans (ih _ _ _ h)
  ·exact(hf _ _ _ h).2
theorem M1{b:Code}{f:XS→Option (Exit×XS)}{lw:List Nat}(hf:∀s e s',f s=some (e,s')→To P tp N m0 b s e s' ∧Same (ad b) s.env s'.env) {env0:Env}{m1:Nat}(h0:∀t,(ab env0 t).refs m1=[]) (hm:m0≤m1)
  (k:Nat) (s:XS) (e:Exit) (s' :XS) (hI:Same (ad b) env0 s.env) (h:dV lw (ad b) env0 m1 f k s=some (e,s')) {Q:Exit→St→Prop}(hq:Q e ⟨s'.env,s'.mem⟩):AWP P tp N m0 (.loop b) ⟨s.env,s.mem⟩ Q:=by
 refine Q2 (σ:=Nat) (fun k st=>∃s,st=⟨s.env,s.mem⟩∧Same (ad b) env0 s.env∧dV lw (ad b) env0 m1 f k s=some (e,s')) id (s:=k) ⟨s,rfl,hI,h⟩ ?_;rintro k st ⟨s,rfl,hI,hk⟩;cases k with
 |zero=>cases hk
 |succ k=>
  unfold dV at hk;split at hk
  ·rename_i s1 h1
   obtain⟨⟨a1,_⟩,a3⟩:=hf _ _ _ h1;refine AWP.weakQ (a1 (fun e st1=>e=.normal∧st1=⟨s1.env,s1.mem⟩) ⟨rfl,rfl⟩) ?_;rintro e1 st1 ⟨rfl,rfl⟩;exact⟨⟨(pO lw (ad b) env0 m1 s1).env,(pO lw (ad b) env0 m1 s1).mem⟩,Nw (hI.trans a3) h0 hm,k,⟨_,rfl,BC (hI.trans a3),hk⟩,Nat.lt_succ_self k⟩
  ·rename_i hne
   have hne' :e≠ .normal:=by rintro rfl;exact hne s' hk
   refine((hf _ _ _ hk).1.1 (fun e1 st1=>e1=e∧st1=⟨s'.env,s'.mem⟩) ⟨rfl,rfl⟩).mono ?_;rintro e1 st1 ⟨rfl,rfl⟩;cases e1<;>first | exact absurd rfl hne' | exact hq
theorem eH(hO:OracleOk P O):∀{c:Code}{s:XS}{e:Exit}{s' :XS},aT T lv O K N m0 tp c s=some (e,s')→Same (ad c) s.env s'.env
 |.skip,s,e,s',h=>by simp only[aT,Option.some.injEq,Prod.mk.injEq] at h;obtain⟨_,rfl⟩:=h;exact .refl _ _
 |.exit id,s,e,s',h=>by simp only[aT,Option.some.injEq,Prod.mk.injEq] at h;obtain⟨_,rfl⟩:=h;exact .refl _ _
 |.ret,s,e,s',h=>by simp only[aT,Option.some.injEq,Prod.mk.injEq] at h;obtain⟨_,rfl⟩:=h;exact .refl _ _
 |.region id ops false,s,e,s',h=>by
  unfold aT at h;split at h
  ·rename_i s1 h1;cases h;exact mN h1
  ·cases h
 |.region id ops true,s,e,s',h=>by
  unfold aT at h;split at h
  ·rename_i s1 h1;cases h;exact Ia hO h1
  ·cases h
 |.seq x y,s,e,s',h=>by
  unfold aT at h;split at h
  ·rename_i s1 h1
   exact((eH hO h1).mono fun t ht=>by simp[ad,ht]).trans ((eH hO h).mono fun t ht=>by simp[ad,ht])
  ·exact(eH hO h).mono fun t ht=>by simp[ad,ht]
 |.cond c x y,s,e,s',h=>by
  unfold aT at h;split at h
  ·exact(eH hO h).mono fun t ht=>by simp[ad,ht]
  ·exact(eH hO h).mono fun t ht=>by simp[ad,ht]
  ·cases h
 |.block id b,s,e,s',h=>by
  show Same (ad b) s.env s'.env
  unfold aT at h;split at h
  ·rename_i i s1 h1
   split at h
   ·cases h;exact eH hO h1
   ·cases h;exact eH hO h1
  ·exact eH hO h
 |.loop b,s,e,s',h=>by
  show Same (ad b) s.env s'.env
  unfold aT at h;exact Pg (fun s e s' h=>eH hO h) _ _ _ _ (lN (.refl _ _)) h
 |.rangeFunc g ps asg body,s,e,s',h=>by
  unfold aT at h;split at h
  ·split at h
   ·split at h
    ·simp only at h
     split at h
     ·split at h
      ·cases h
      ·split at h
       ·cases h;exact .refl _ _
       ·cases h
     ·cases h
    ·cases h
   ·cases h
  ·cases h
 |.label _,s,e,s',h=>by cases h
 |.goto _,s,e,s',h=>by cases h
 |.scope _,s,e,s',h=>by cases h
 |.refuse _,s,e,s',h=>by cases h
theorem cT(hm:P.follows .mixedOrders=true) (hT:cA P T) (hO:OracleOk P O):∀{c:Code}{s:XS}{e:Exit}{s' :XS},dz c=true→aT T lv O K N m0 tp c s=some (e,s')→To P tp N m0 c s e s'
 |.skip,s,e,s',hst,h=>by simp only[aT,Option.some.injEq,Prod.mk.injEq] at h;obtain⟨rfl,rfl⟩:=h;exact⟨fun Q hq=>Q3 hq,.refl _ _ _⟩
 |.exit id,s,e,s',hst,h=>by simp only[aT,Option.some.injEq,Prod.mk.injEq] at h;obtain⟨rfl,rfl⟩:=h;exact⟨fun Q hq=>Q1 hq,.refl _ _ _⟩
 |.ret,s,e,s',hst,h=>by simp only[aT,Option.some.injEq,Prod.mk.injEq] at h;obtain⟨rfl,rfl⟩:=h;exact⟨fun Q hq=>R1 hq,.refl _ _ _⟩
 |.region id ops false,s,e,s',hst,h=>by
  unfold aT at h;split at h
  ·rename_i s1 h1
   cases h;obtain⟨a1,a2⟩:=iL hO h1;exact⟨fun Q hq=>MI hT a1 hq,a2⟩
  ·cases h
 |.region id ops true,s,e,s',hst,h=>by
  unfold aT at h;split at h
  ·rename_i s1 h1
   cases h;obtain⟨a1,a2⟩:=Du hm hT hO hst h1;exact⟨fun Q hq=>a1 tp id Q hq,a2⟩
  ·cases h
 |.seq x y,s,e,s',hst,h=>by
  unfold aT at h;split at h
  ·rename_i s1 h1
   simp only[dz,Bool.and_eq_true] at hst;obtain⟨a1,a2⟩:=cT hm hT hO hst.1 h1;obtain⟨b1,b2⟩:=cT hm hT hO hst.2 h;exact⟨fun Q hq=>uk (a1 _ (b1 Q hq)),a2.trans b2⟩
  ·rename_i hne
   simp only[dz,Bool.and_eq_true] at hst;obtain⟨a1,a2⟩:=cT hm hT hO hst.1 h;refine⟨fun Q hq=>uk (a1 _ ?_),a2⟩;cases e<;>first | exact absurd h (hne s') | exact hq
 |.cond c x y,s,e,s',hst,h=>by
  unfold aT at h;split at h
  ·rename_i hc
   simp only[dz,Bool.and_eq_true] at hst;obtain⟨a1,a2⟩:=cT hm hT hO hst.1 h;exact⟨fun Q hq=>KG hc (fun _=>a1 Q hq) (fun e=>by cases e),a2⟩
  ·rename_i hc
   simp only[dz,Bool.and_eq_true] at hst;obtain⟨a1,a2⟩:=cT hm hT hO hst.2 h;exact⟨fun Q hq=>KG hc (fun e=>by cases e) (fun _=>a1 Q hq),a2⟩
  ·cases h
 |.block id b,s,e,s',hst,h=>by
  unfold aT at h;split at h
  ·rename_i i s1 h1
   obtain⟨a1,a2⟩:=cT hm hT hO (by simpa only[dz] using hst) h1;split at h
   ·rename_i hi
    cases h;exact⟨fun Q hq=>yE (a1 _ (by simp only[KI];rw[if_pos hi];exact hq)),a2⟩
   ·rename_i hi
    cases h;exact⟨fun Q hq=>yE (a1 _ (by simp only[KI];rw[if_neg hi];exact hq)),a2⟩
  ·rename_i hne
   obtain⟨a1,a2⟩:=cT hm hT hO (by simpa only[dz] using hst) h;refine⟨fun Q hq=>yE (a1 _ ?_),a2⟩;cases e<;>first | exact absurd h (hne _ s') | exact hq
 |.loop b,s,e,s',hst,h=>by
  unfold aT at h;have hf:∀s e s',aT T lv O K N m0 tp b s=some (e,s')→To P tp N m0 b s e s' ∧Same (ad b) s.env s'.env:=fun s e s' h=>⟨cT hm hT hO (by simpa only[dz] using hst) h,eH hO h⟩
  refine⟨fun Q hq=>AWP.assume fun hm0 he=>Q4 (Weak.env fun t=>pr (.refl _ _) t) (M1 hf he hm0 _ _ _ _ (lN (.refl _ _)) h hq),fun hm0=>?_⟩;exact MZ (fun s e s' h=>(hf s e s' h).1) hm0 _ ⟨aI (lv b) (ad b) s.env s.env,s.mem,s.dirty⟩ _ _ h hm0
 |.rangeFunc g ps asg body,s,e,s',hst,h=>by
  unfold aT at h;split at h
  ·rename_i htp
   subst htp;split at h
   ·rename_i f caps hg
    split at h
    ·rename_i r hr
     simp only at h;split at h
     ·rename_i r2 hr2
      split at h
      ·cases h
      ·rename_i hb
       split at h
       ·rename_i e1 he
        cases h;have hlen:=uD hO hr;refine⟨fun Q hq=>CX hg ((hO.fn _ _ _ _ hr).mono ?_),fun hm0=>⟨?_,fun hd=>?_⟩⟩
        ·rintro v m ⟨rfl,rfl⟩
         exact⟨r2,e,hr2,fun e=>hb (by rw[e];rfl),he,hq⟩
        ·simp only[List.length_set]
         simp only[List.length_append] at hlen;omega
        ·simp only[Bool.or_eq_false_iff,Option.isSome_eq_false_iff,Option.isNone_iff_eq_none] at hd
         refine⟨hd.1,rE hm0 ?_ fun b hb=>?_⟩
         ·simp only[List.length_set]
          simp only[List.length_append] at hlen;omega
         ·have hb' :b<s.mem.length:=by omega
          show((r.mem _).set s.mem.length _)[b]? =_
          rw[List.getElem?_set_ne (by omega)];unfold CallRes.mem;rw[hd.2];simp only[Option.getD_none];rw[List.append_assoc,List.getElem?_append_left hb']
       ·cases h
     ·cases h
    ·cases h
   ·cases h
  ·cases h
 |.label _,s,e,s',hst,h=>by cases h
 |.goto _,s,e,s',hst,h=>by cases h
 |.scope _,s,e,s',hst,h=>by cases h
 |.refuse _,s,e,s',hst,h=>by cases h
structure FnTab (P:Program) (G:FuncId→Option Func):Prop where
 fn:∀f fn,G f=some fn→P.funcs[f]? =some fn∧(fn.name == "runtime.NumGoroutine")=false∧∀c,fn.body=some c→dz c=true
theorem al(hm:P.follows .mixedOrders=true) (hT:cA P T) (hO:OracleOk P O) {G:FuncId→Option Func}(hG:FnTab P G) {f:FuncId}{args:List AV}{mem:Mem}{r:CallRes}
  (h:aa T lv G O K f args mem=some r):ACallsTo P f args mem r.v (r.mem mem)∧∀p,r.pre=some p→p.length=mem.length:=by
 unfold aa at h;split at h
 ·cases h
 ·rename_i fn hfn
  obtain⟨g1,g2,g3⟩:=hG.fn _ _ hfn;split at h
  ·cases h
  ·rename_i c hb
   split at h
   ·rename_i hl
    split at h
    ·rename_i e s he
     obtain⟨a1,a2⟩:=cT hm hT hO (g3 c hb) he;obtain⟨b1,b2⟩:=a2 (Nat.le_refl _);have main:(e=.normal∨e=.ret)→(match jd T fn.results.toList s.env s.mem with
      |some v=>
       let m0:=mem.length
       if s.dirty then
        let ks:=rz m0 s.mem 1000 (v.refs m0++(s.mem.take m0).flatMap (Slot.refs m0)) []
        if HH m0 s.mem.length ks then
         some ⟨v.ren (rho m0 ks),some ((s.mem.take m0).map (Slot.ren (rho m0 ks))),keep m0 ks s.mem⟩
        else none
       else
        let ks:=rz m0 s.mem 1000 (v.refs m0) []
        if HH m0 s.mem.length ks then
         some ⟨v.ren (rho m0 ks),none,keep m0 ks s.mem⟩
        else none
      |none=>none:Option CallRes)=some r→ACallsTo P f args mem r.v (r.mem mem)∧∀p,r.pre=some p→p.length=mem.length:=by
      intro hen h;split at h
      ·rename_i v hv
       simp only at h;split at h
       ·split at h
        ·rename_i hks
         cases h;refine⟨ACalls.intro hT g1 hb g2 hl (a1 _ ⟨hen,v,hv,_,hks,.inr ⟨rfl,rfl⟩⟩),fun p hp=>?_⟩;cases hp;simp only[List.length_map,List.length_take];omega
        ·cases h
       ·rename_i hd
        split at h
        ·rename_i hks
         cases h;have hd' :=(b2 (by simpa using hd)).2;rw[List.take_of_length_le (Nat.le_refl _)] at hd';exact⟨ACalls.intro hT g1 hb g2 hl (a1 _ ⟨hen,v,hv,_,hks,.inl ⟨hd',rfl,rfl⟩⟩),fun p hp=>by cases hp⟩
        ·cases h
      ·cases h
     split at h
     ·exact main (.inl rfl) h
     ·exact main (.inr rfl) h
     ·cases h
    ·cases h
   ·cases h
theorem sD(hm:P.follows .mixedOrders=true) (hT:cA P T) (hO:OracleOk P O) {b:Nat}{args:List AV}{mem:Mem}{r:CallRes}
  (h:C0 T lv O K b args mem=some r):rH P b args mem r.v (r.mem mem)∧∀p,r.pre=some p→p.length=mem.length:=by
 unfold C0 at h;split at h
 ·rename_i lp hlp
  split at h
  ·rename_i hc
   simp only[Bool.and_eq_true,decide_eq_true_eq,List.all_eq_true] at hc;obtain⟨⟨⟨⟨c1,c2⟩,c3⟩,c4⟩,c5⟩:=hc;have st_of:∀{x:LoopState},(x== .ready)=true→x=.ready:=fun {x} h=>by cases x<;>first | rfl | cases h
   split at h
   ·rename_i s1 h1
    obtain⟨a1,a2⟩:=cT hm hT hO c4 h1;split at h
    ·rename_i r1 hr1
     split at h
     ·rename_i hst1
      split at h
      ·rename_i e s2 h2
       obtain⟨b1,b2⟩:=cT hm hT hO c5 h2;split at h
       ·rename_i j r2 hj hr2
        simp only at h;split at h
        ·rename_i hks
         cases h;obtain⟨d1,_⟩:=a2 (Nat.le_refl _);obtain⟨d2,_⟩:=b2 (by simpa using d1);refine⟨AYields.intro hlp (st_of c1) c2 c3 (a1 _ ⟨rfl,r1,hr1,st_of hst1,b1 _ ⟨r2,j,_,hj,hr2,hks,rfl,rfl⟩⟩),fun p hp=>?_⟩;cases hp;simp only[List.length_map,List.length_take,List.length_set];omega
        ·cases h
       ·cases h
      ·cases h
     ·cases h
    ·cases h
   ·cases h
  ·cases h
 ·cases h
theorem fI(hm:P.follows .mixedOrders=true) (hT:cA P T) {G:FuncId→Option Func}(hG:FnTab P G) (hO:OracleOk P O):∀n,OracleOk P (pM T lv G O K n)
 |0=>hO
 |n+1=>by
  have ih:=fI hm hT hG hO n;have key:∀c args mem r,pM T lv G O K (n+1) c args mem=some r→O c args mem=some r∨(match c with
   |.fn f=>aa T lv G (pM T lv G O K n) K f args mem
   |.yld b=>C0 T lv (pM T lv G O K n) K b args mem)=some r:=by
   intro c args mem r h;unfold pM at h;split at h
   ·rename_i r' h';cases h;exact .inl h'
   ·exact .inr h
  refine⟨fun f args mem r h=>?_,fun b args mem r h=>?_,fun c args mem r p h hp=>?_⟩
  ·rcases key _ _ _ _ h with h | h
   ·exact hO.fn _ _ _ _ h
   ·exact(al hm hT ih hG h).1
  ·rcases key _ _ _ _ h with h | h
   ·exact hO.yld _ _ _ _ h
   ·exact(sD hm hT ih h).1
  ·rcases key _ _ _ _ h with h | h
   ·exact hO.pre _ _ _ _ _ h hp
   ·cases c with
    |fn f=>exact(al hm hT ih hG h).2 p hp
    |yld b=>exact(sD hm hT ih h).2 p hp
end
end Go.Eng
namespace Go.Eng
def aM(P:Program) (t:TypeId):Option TyI:=
 match P.info? t,P.underlying t with
 |some i,some d=>match i.zero with
  |some z=>if z.cells.size=i.size then some ⟨d,i.size,i.bytes,z,!P.stoodInHeld t&& !P.eqGuardType P.depth t⟩ else none
  |none=>none
 |_,_=>none
theorem aw(P:Program):cA P (aM P):=by
 intro t i h;unfold aM at h;split at h
 ·rename_i f d h1 h2
  split at h
  ·rename_i z hz
   split at h
   ·rename_i hs
    cases h;refine⟨h2,⟨f,h1,rfl,rfl,hz⟩,hs,fun he=>?_⟩;simp only[Bool.and_eq_true,Bool.not_eq_true'] at he;exact he
   ·cases h
  ·cases h
 ·cases h
def aL(P:Program) (f:FuncId):Option Func:=match P.funcs[f]? with
 |some fn=>if fn.name == "runtime.NumGoroutine" then none else match fn.body with
  |some c=>if dz c then some fn else none
  |none=>some fn
 |none=>none
theorem az(P:Program):FnTab P (aL P):=by
 refine⟨fun f fn h=>?_⟩;unfold aL at h;split at h
 ·rename_i fn' h1
  split at h
  ·cases h
  ·rename_i hn
   split at h
   ·rename_i c hb
    split at h
    ·rename_i hs
     cases h;refine⟨h1,by simpa using hn,fun c' hc=>?_⟩;rw[hb] at hc;cases hc;exact hs
    ·cases h
   ·rename_i hb
    cases h;refine⟨h1,by simpa using hn,fun c' hc=>?_⟩;rw[hb] at hc;cases hc
 ·cases h
def bJ:Oracle:=fun _ _ _=>none
theorem ao(P:Program):OracleOk P bJ:=⟨(fun _ _ _ _ h=>by cases h),(fun _ _ _ _ h=>by cases h),(fun _ _ _ _ _ h=>by cases h)⟩
structure Gentle (w w' :World):Prop where
 size:w.heap.size≤w'.heap.size
 heap:∀k,k<w.heap.size→w'.heap[k]? =w.heap[k]?
 os:w'.os=w.os
 tape:w'.tape=w.tape
 output:w'.output=w.output
 drawn:w.drawn≤w'.drawn
section
variable {P:Program}{μ:Nat→Place}{mem:Mem}{base:Nat}{w w' :World}
theorem Gentle.refl(w:World):Gentle w w:=⟨Nat.le_refl _,fun _ _=>rfl,rfl,rfl,rfl,Nat.le_refl _⟩
theorem Gentle.hrel(h:Gentle w w') (hH:HRel base μ mem w):HRel base μ mem w' :=by refine⟨Nat.le_trans hH.base_le h.size,fun b s hs=>?_,hH.sep⟩;exact(hH.slot b s hs).mono (Nat.le_refl _) (fun _ _=>rfl) fun hne=>h.heap _ ((hH.slot b s hs).blk_lt hne)
theorem Gentle.step(h:Gentle w w') {m0:Nat}(hm:m0≤mem.length):Step m0 μ mem w μ mem w' :=
 ⟨hm,fun _ _=>rfl,h.os,h.tape,h.output,h.size,fun k hk _=>h.heap k hk,fun b hb _=>⟨b,hb,rfl⟩,h.drawn⟩
theorem ACallsTo.of_calls{f:FuncId}{args:List AV}{Vs:List Value}{v:AV}{V:Value}(hf:Qg P f) (hargs:∀μ n Us,VRels μ n args Us→Us=Vs) (hv:∀μ n,VRel μ n v V)
  (h:∀base w,GOk P base w→Calls P f ⟨Vs⟩ w fun e w' =>e=.returned V∧Gentle w w') (mem:Mem):ACallsTo P f args mem v mem:=by
 refine⟨hf,fun base μ w Us hG hH hV=>?_⟩;rw[hargs _ _ _ hV];refine(h base w hG).mono ?_;rintro e w' ⟨rfl,hg⟩;exact⟨V,v,mem,μ,rfl,hv _ _,hg.hrel hH,hg.step (Nat.le_refl _),rfl,rfl⟩
theorem Gentle.grow(w:World) (k:Nat) (os:Array Obj):Gentle w { w with heap:=w.heap++os,drawn:=w.drawn+k }:=by
 refine⟨by simp,fun i hi=>?_,rfl,rfl,rfl,Nat.le_add_right _ _⟩;show(w.heap++os)[i]? =_
 rw[Array.getElem?_append_left hi]
mutual
def AV.closed:AV→Bool
 |.ptr _ _=>false
 |.slice _ _ _ _=>false
 |.map _=>false
 |.yield _=>false
 |.func _ cs=>AV.closeds cs
 |.iface _ v=>v.closed
 |.agg cs=>AV.closeds cs
 |.tuple cs=>AV.closeds cs
 |_=>true
def AV.closeds:List AV→Bool
 | []=>true
 |v::vs=>v.closed&&AV.closeds vs
end
mutual
theorem VRel.closed{μ μ' :Nat→Place}{n n' :Nat}:∀{v V},v.closed=true→VRel μ n v V→VRel μ' n' v V
 |.undef,V,_,_=>by simp[VRel]
 |.bool b,V,_,h=>by simpa [VRel] using h
 |.int k i,V,_,h=>by simpa [VRel] using h
 |.str s,V,_,h=>by simpa [VRel] using h
 |.ptr b o,V,hc,_=>by simp[AV.closed] at hc
 |.nilptr,V,_,h=>by simpa [VRel] using h
 |.slice b o l c,V,hc,_=>by simp[AV.closed] at hc
 |.nilslice,V,_,h=>by simpa [VRel] using h
 |.map b,V,hc,_=>by simp[AV.closed] at hc
 |.yield b,V,hc,_=>by simp[AV.closed] at hc
 |.nilmap,V,_,h=>by simpa [VRel] using h
 |.func f cs,V,hc,h=>by simp only[VRel] at h ⊢;simp only[AV.closed] at hc;obtain⟨Us,rfl,h⟩:=h;exact⟨Us,rfl,VRels.closed hc h⟩
 |.nilFunc,V,_,h=>by simpa [VRel] using h
 |.iface t v,V,hc,h=>by simp only[VRel] at h ⊢;simp only[AV.closed] at hc;obtain⟨U,rfl,h⟩:=h;exact⟨U,rfl,VRel.closed hc h⟩
 |.nilIface,V,_,h=>by simpa [VRel] using h
 |.agg cs,V,hc,h=>by simp only[VRel] at h ⊢;simp only[AV.closed] at hc;obtain⟨Us,rfl,h⟩:=h;exact⟨Us,rfl,VRels.closed hc h⟩
 |.tuple cs,V,hc,h=>by simp only[VRel] at h ⊢;simp only[AV.closed] at hc;obtain⟨Us,rfl,h⟩:=h;exact⟨Us,rfl,VRels.closed hc h⟩
theorem VRels.closed{μ μ' :Nat→Place}{n n' :Nat}:∀{vs Us},AV.closeds vs=true→VRels μ n vs Us→VRels μ' n' vs Us
 | [],Us,_,h=>by simpa [VRels] using h
 |v::vs,Us,hc,h=>by simp only[AV.closeds,Bool.and_eq_true] at hc;simp only[VRels] at h ⊢;obtain⟨U,Ws,rfl,h1,h2⟩:=h;exact⟨U,Ws,rfl,VRel.closed hc.1 h1,VRels.closed hc.2 h2⟩
end
theorem ACallsTo.lift{f:FuncId}{args:List AV}{v:AV}(ha:AV.closeds args=true) (hv:v.closed=true) (h:ACallsTo P f args [] v []) (mem:Mem):ACallsTo P f args mem v mem:=by refine⟨h.1,fun base μ w Us hG hH hV=>?_⟩;have h0:HRel base μ [] w:=⟨hH.base_le,fun b s hs=>by simp at hs,fun b b' s' hb=>by obtain⟨s,hs,_⟩:=hb;simp at hs⟩;refine(h.2 base μ w Us hG h0 (VRels.closed ha hV)).mono ?_;rintro e w' ⟨V,v',m',μ',rfl,q1,q2,q3,rfl,rfl⟩;have hg:Gentle w w' :=⟨q3.size,fun k hk=>q3.frame k hk fun b hb=>by obtain⟨s,hs,_⟩:=hb;simp at hs,q3.os,q3.tape,q3.output,q3.drawn⟩;exact⟨V,v',mem,μ,rfl,VRel.closed hv q1,hg.hrel hH,hg.step (Nat.le_refl _),rfl,rfl⟩
theorem ACallsTo.of_run{T:TypeId→Option TyI}{O:Oracle}{G:FuncId→Option Func}{K:Nat}(hm:P.follows .mixedOrders=true) (hT:cA P T) (hO:OracleOk P O) (hG:FnTab P G) {f:FuncId}{args:List AV}{v:AV}
  (ha:AV.closeds args=true) (hv:v.closed=true) {lv:Code→List Nat}(h:aa T lv G O K f args []=some ⟨v,none,[]⟩) (mem:Mem):ACallsTo P f args mem v mem:=
 ACallsTo.lift ha hv (al hm hT hO hG h).1 mem
def Oracle.or(O O' :Oracle):Oracle:=fun c args mem=>match O c args mem with
 |some r=>some r
 |none=>O' c args mem
theorem OracleOk.or{O O' :Oracle}(h:OracleOk P O) (h' :OracleOk P O'):OracleOk P (O.or O'):=by
 have key:∀c args mem r,O.or O' c args mem=some r→O c args mem=some r∨O' c args mem=some r:=by
  intro c args mem r hr;unfold Oracle.or at hr;split at hr
  ·rename_i r' h1;cases hr;exact .inl h1
  ·exact .inr hr
 refine⟨fun f args mem r hr=>?_,fun b args mem r hr=>?_,fun c args mem r p hr hp=>?_⟩
 ·rcases key _ _ _ _ hr with h1 | h1
  ·exact h.fn _ _ _ _ h1
  ·exact h'.fn _ _ _ _ h1
 ·rcases key _ _ _ _ hr with h1 | h1
  ·exact h.yld _ _ _ _ h1
  ·exact h'.yld _ _ _ _ h1
 ·rcases key _ _ _ _ hr with h1 | h1
  ·exact h.pre _ _ _ _ _ h1 hp
  ·exact h'.pre _ _ _ _ _ h1 hp
def af(F:FuncId→List AV→Option AV):Oracle:=fun c args _=>match c with
 |.fn f=>match F f args with
  |some v=>some ⟨v,none,[]⟩
  |none=>none
 |.yld _=>none
theorem bq{F:FuncId→List AV→Option AV}(h:∀f args v,F f args=some v→∀mem,ACallsTo P f args mem v mem):OracleOk P (af F):=by
 refine⟨fun f args mem r hr=>?_,(fun b args mem r hr=>by cases hr),fun c args mem r p hr hp=>?_⟩
 ·unfold af at hr
  simp only at hr;split at hr
  ·rename_i v hv
   cases hr;have:=h f args v hv mem;simpa [CallRes.mem] using this
  ·cases hr
 ·unfold af at hr
  split at hr
  ·split at hr
   ·cases hr;cases hp
   ·cases hr
  ·cases hr
end
end Go.Eng
