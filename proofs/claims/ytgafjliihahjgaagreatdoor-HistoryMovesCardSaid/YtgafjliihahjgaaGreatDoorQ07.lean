/- See Q54. -/
import Derived.Test.YtgafjliihahjgaaGreatDoorQ06
set_option linter.all false
namespace Go.Eng
def lS(P:Program) (c:Callee) (args:List AV) (m:Mem) (r:CallRes):Prop:=
 (match c with
  |.fn f=>ACallsTo P f args m r.v (r.mem m)
  |.yld b=>rH P b args m r.v (r.mem m))∧∀q,r.pre=some q→q.length=m.length
open Classical in
theorem Dk{P:Program}{ι:Type}(p:ι→Prop) (c:ι→Callee) (a:ι→List AV) (m:ι→Mem) (r:ι→CallRes) (hs:∀i,p i→lS P (c i) (a i) (m i) (r i))
  (hc:∀i j,p i→p j→c i=c j→a i=a j→m i=m j→r i=r j):∃O:Oracle,OracleOk P O∧∀i,p i→O (c i) (a i) (m i)=some (r i):=by
 refine⟨fun c' a' m' =>if h:∃i,p i∧c i=c' ∧a i=a' ∧m i=m' then some (r (Classical.choose h)) else none,?_,fun i hi=>?_⟩
 ·have key:∀c' a' m' r',(if h:∃i,p i∧c i=c' ∧a i=a' ∧m i=m' then some (r (Classical.choose h)) else none)=some r' →lS P c' a' m' r' :=by
   intro c' a' m' r' h;split at h
   ·rename_i hex
    obtain⟨h1,h2,h3,h4⟩:=Classical.choose_spec hex;cases h;have:=hs _ h1;rw[h2,h3,h4] at this;exact this
   ·cases h
  exact⟨fun f a' m' r' h=>(key _ _ _ _ h).1,fun b a' m' r' h=>(key _ _ _ _ h).1,fun c' a' m' r' q h hq=>(key _ _ _ _ h).2 q hq⟩
 ·have hex:∃j,p j∧c j=c i∧a j=a i∧m j=m i:=⟨i,hi,rfl,rfl,rfl⟩
  simp only[dif_pos hex];obtain⟨h1,h2,h3,h4⟩:=Classical.choose_spec hex;rw[hc _ _ h1 hi h2 h3 h4]
theorem rm{T:TypeId→Option TyI}{lv:Code→List Nat}{O:Oracle}{K N m0:Nat}{tp:Bool}{b:Code}{L:List Nat}(hlv:lv b=L) {mem mem' :Mem}{e:Exit}(d0 d1:Bool) (pre:Env→Prop) (post:Env→Env→Prop)
  (h:∀env0,pre env0→∃env',dV L (ad b) env0 mem.length (aT T lv O K N m0 tp b) K ⟨aI L (ad b) env0 env0,mem,d0⟩=some (e,⟨env',mem',d1⟩)∧post env0 env'):
  ∃F:Env→Env,∀env0,pre env0→aT T lv O K N m0 tp (.loop b) ⟨env0,mem,d0⟩=some (e,⟨F env0,mem',d1⟩)∧post env0 (F env0):=by
 obtain⟨F,hF⟩:=rB (p:=fun env0 _=>pre env0) (q:=fun env0 _ e' =>aT T lv O K N m0 tp (.loop b) ⟨env0,mem,d0⟩=some (e,⟨e',mem',d1⟩)∧post env0 e') (fun env0 _ hp=>by obtain⟨env',h1,h2⟩:=h env0 hp;exact⟨env',by rw[aB,hlv];exact h1,h2⟩)
 exact⟨fun env0=>F env0 true,fun env0 hp=>hF env0 true hp⟩
attribute [simp] Slot.refsOk
theorem cO{P:Program}{O:Oracle}(key:∀c args M r,O c args M=some r→lS P c args M r):OracleOk P O:=
 ⟨fun f args M r h=>(key _ _ _ _ h).1,fun b args M r h=>(key _ _ _ _ h).1,fun c args M r p h hp=>(key _ _ _ _ h).2 p hp⟩
theorem iu{P:Program}{O:Oracle}(hO:OracleOk P O) {c:Go.Eng.Callee}{args:List AV}{M:Mem}{r:CallRes}(h:O c args M=some r):lS P c args M r:=by
 refine⟨?_,fun q hq=>hO.pre _ _ _ _ _ h hq⟩;cases c with
 |fn f=>exact hO.fn _ _ _ _ h
 |yld b=>exact hO.yld _ _ _ _ h
theorem ag{P:Program}{f:FuncId}{args:List AV}{M new:Mem}{v:AV}(h:ACallsTo P f args M v (M++new)):lS P (.fn f) args M ⟨v,none,new⟩:=⟨h,fun q hq=>by cases hq⟩
def CutOf(s s' :Slot):Prop:=s=s' ∨∃o es cs cs',s' =.cells o es cs∧s=.cells o es cs' ∧cs' <+: cs
theorem CutOf.row{k:IntKind}{o:Bool}{es:Nat}{l r:List Nat}(h:l <+: r):CutOf (.cells o es (iN k l)) (.cells o es (iN k r)):=by obtain⟨t,rfl⟩:=h;exact .inr ⟨o,es,_,_,rfl,rfl,iN k t,by rw[←O8]⟩
section
variable {P:Program}{T:TypeId→Option TyI}{O:Oracle}{K:Nat}{lv:Code→List Nat}
theorem ACalls.intro_raw(hT:cA P T) {f:FuncId}{fn:Func}{c:Code}{args:List AV}{mem:Mem}{R:AV→Mem→Prop}(hf:P.funcs[f]? =some fn) (hb:fn.body=some c)
  (hn:(fn.name == "runtime.NumGoroutine")=false) (hl:args.length≤fn.ntmps)
  (h:AWP P true fn.ntmps mem.length c ⟨dm 0 args,mem⟩ fun e st' =>(e=.normal∨e=.ret)∧∃v,jd T fn.results.toList st'.env st'.mem=some v∧R v st'.mem):
  ACalls P f args mem R:=by
 refine⟨⟨fn,hf,by simp[hb],hn⟩,fun base μ w Vs hG hH hV=>?_⟩;refine xc.1 (callsIn_of_wp_marks (F:=Fr none) (n:=0) hf hb trivial (wpIn_mono (h none w.heap.size base μ w _ (fun _=>rfl) hH ?_ ?_ (MOk.nil w hG hH.base_le (Nat.le_refl _)) (Nat.le_refl _)) ?_) rfl)
 ·intro t
  have:=uB 0 hV t;simp only[Nat.not_lt_zero,if_false,Nat.sub_zero] at this;by_cases ht:t<Vs.length
  ·have e:(⟨Vs⟩++Array.replicate (fn.ntmps-(⟨Vs⟩:Array Value).size) undef:Array Value).getD t undef=Vs.getD t undef:=by simp only[Array.getD_eq_getD_getElem?];rw[Array.getElem?_append_left (by simpa using ht)];simp[List.getD]
   show VRel μ mem.length (ab (dm 0 args) t) ((⟨Vs⟩++Array.replicate (fn.ntmps-(⟨Vs⟩:Array Value).size) undef:Array Value).getD t undef)
   rw[e];exact this
  ·have:ab (dm 0 args) t=.undef:=by
    have hlen:=hV.length;have:∀(vs:List AV) (i:Nat),i+vs.length≤t→ab (dm i vs) t=.undef:=by
     intro vs;induction vs with
     |nil=>intro i _;rfl
     |cons v vs ih=>
      intro i hi;simp only[List.length_cons] at hi;simp only[dm,ab];rw[if_neg (by omega)];exact ih (i+1) (by omega)
    exact this args 0 (by omega)
   show VRel μ mem.length (ab (dm 0 args) t) _
   rw[this];simp[VRel]
 ·simp only[Array.size_append,List.size_toArray,Array.size_replicate,hV.length];omega
 ·rintro e a' w' ⟨st',μ',b1,b2,b3,b4,b5,b6,he,v,hv,hR⟩
  have post:LeavesInM (Fr none) 0 P fn a'.tmps (fun e w' =>∃V v mem' μ',e=.returned V∧VRel μ' mem'.length v V∧HRel base μ' mem' w' ∧Step mem.length μ mem w μ' mem' w' ∧R v mem') a'.defers .returning w' :=by
   refine oA a'.defers w' b4 b1 b6 fun w2 e1 e2=>?_
   obtain⟨V,k1,k2⟩:=qe (P:=P) (fn:=fn) hT e1 b2 hv;exact⟨V,k1,⟨V,_,_,_,rfl,k2,e1,e2,hR⟩⟩
  rcases he with rfl | rfl
  ·exact post
  ·exact post
def cf(T:TypeId→Option TyI) (lv:Code→List Nat) (G:FuncId→Option Func) (O:Oracle) (K:Nat) (f:FuncId) (args:List AV) (mem:Mem):Option (AV×Mem):=
 match G f with
 |none=>none
 |some fn=>match fn.body with
  |none=>none
  |some c=>
   if args.length≤fn.ntmps then
    match aT T lv O K fn.ntmps mem.length true c ⟨dm 0 args,mem,false⟩ with
    |some (e,s)=>
     match e with
     |.normal | .ret=>
      match jd T fn.results.toList s.env s.mem with
      |some v=>some (v,s.mem)
      |none=>none
     |_=>none
    |none=>none
   else none
theorem bZ(hm:P.follows .mixedOrders=true) (hT:cA P T) (hO:OracleOk P O) {G:FuncId→Option Func}(hG:FnTab P G) {f:FuncId}{args:List AV}{mem mem' :Mem}{v:AV}
  (h:cf T lv G O K f args mem=some (v,mem')):ACallsTo P f args mem v mem' :=by
 unfold cf at h;split at h
 ·cases h
 ·rename_i fn hfn
  obtain⟨g1,g2,g3⟩:=hG.fn _ _ hfn;split at h
  ·cases h
  ·rename_i c hb
   split at h
   ·rename_i hl
    split at h
    ·rename_i e s he
     obtain⟨a1,_⟩:=cT hm hT hO (g3 c hb) he;have main:(e=.normal∨e=.ret)→(match jd T fn.results.toList s.env s.mem with
      |some v=>some (v,s.mem)
      |none=>none)=some (v,mem')→ACallsTo P f args mem v mem' :=by
      intro hen h;split at h
      ·rename_i v hv
       cases h;exact ACalls.intro_raw hT g1 hb g2 hl (a1 _ ⟨hen,_,hv,rfl,rfl⟩)
      ·cases h
     split at h
     ·exact main (.inl rfl) h
     ·exact main (.inr rfl) h
     ·cases h
    ·cases h
   ·cases h
theorem AYields.intro_raw{mem:Mem}{b:Nat}{args:List AV}{R:AV→Mem→Prop}{r:LoopA}(hb:mem[b]? =some (.loop r)) (_hst:r.st=.ready) (hl:args.length=r.ps.toList.length) (hps:∀t∈r.ps.toList,t<r.N)
  (h:AWP P false r.N mem.length r.assign ⟨yJ r.ps.toList args r.env,mem⟩ fun e st1=>e=.normal∧∃r1,st1.mem[b]? =some (.loop r1)∧r1.st=.ready∧
   AWP P false r.N mem.length r.body ⟨st1.env,st1.mem.set b (.loop { r1 with st:=.busy })⟩ fun e st2=>∃r2 j,HF e=some j∧st2.mem[b]? =some (.loop r2)∧
    R (.bool j.isNone) (st2.mem.set b (.loop { r2 with st:=ra j,pend:=j }))):
  AYields P b args mem R:=by
 intro base μ w Vs hG hH hV hbl;have hsl:=hH.slot b _ hb;simp only[SRel] at hsl;obtain⟨L,h1,h2,h3⟩:=hsl;have hlen:Vs.length=L.params.size:=by rw[hV.length,hl,h3.ps];simp
 refine⟨L.fn,(L.params.zip ⟨Vs⟩).foldl (fun tmps (t,a)=>tmps.setIfInBounds t a) L.tmps,L.assign,L.body,?_,?_⟩
 ·simp only[Instr.yield,Sem.run_bind,gu h1,Result.andThen_ok]
  rw[if_neg (by simp[hlen])];rfl
 ·refine roundIn_of_wpIn (F:=Fence.wide) trivial ?_
  have hzip:(L.params.zip ⟨Vs⟩).foldl (fun tmps (t,a)=>tmps.setIfInBounds t a) L.tmps=(r.ps.toList.zip Vs).foldl (fun tmps (t,a)=>tmps.setIfInBounds t a) L.tmps:=by rw[h3.ps,←Array.foldl_toList];simp
  have hb0:=CZ (ts:=r.ps.toList) hV h3.tmps hl (fun t ht=>by rw[h3.size];exact hps t ht);rw[h3.assign,h3.body];refine wpIn_mono (F:=Fr (some (μ b).blk)) (h (some (μ b).blk) w.heap.size base μ w ⟨_,[]⟩ (fun h=>by cases h) hH (by rw[hzip];exact hb0.1) (by rw[hzip,hb0.2];exact h3.size) (MOk.nil w hG hH.base_le (Nat.le_refl _)) (Nat.le_refl _)) ?_;rintro e a1 w1 ⟨st1,μ1,c1,c2,c3,c4,c5,c6,rfl,r1,c7,c8,hbody⟩;have hsl1:=c1.slot b _ c7;simp only[SRel] at hsl1;obtain⟨L1,d1,d2,d3⟩:=hsl1;have hμ:μ1 b=μ b:=c6.agree b hbl;rw[hμ] at d1;obtain⟨e1,e2,e3⟩:=sL (P:=P) (r' :={ r1 with st:=.busy }) (L' :={ L1 with state:=.busy }) c1 c7 (by rw[hμ];exact d1) { d3 with st:=rfl };rw[hμ] at e1 e2 e3;refine⟨_,?_,wpIn_mono (F:=Fr (some (μ b).blk)) (hbody (some (μ b).blk) w.heap.size base μ1 _ a1 (fun h=>by cases h) e2 (by rw[List.length_set];exact c2) c3 (c4.step c1 e3) (by rw[List.length_set];exact c5)) ?_⟩
  ·simp only[Instr.beginRound,Sem.run_bind,gu d1,Result.andThen_ok,e1]
   rw[d3.st,c8];rfl
  ·rintro e a2 w2 ⟨st2,μ2,f1,f2,f3,f4,f5,f6,r2,j,f7,f8,f10⟩
   have hsl2:=f1.slot b _ f8;simp only[SRel] at hsl2;obtain⟨L2,g1,g2,g3⟩:=hsl2;have hμ2:μ2 b=μ b:=by rw[f6.agree b hbl,hμ]
   rw[hμ2] at g1;obtain⟨k1,k2,k3⟩:=sL (P:=P) (r' :={ r2 with st:=ra j,pend:=j }) (L' :={ L2 with state:=ra j,pending:=j }) f1 f8 (by rw[hμ2];exact g1) { g3 with st:=rfl,pend:=rfl };rw[hμ2] at k1 k2 k3;have hrun:(Instr.endRound (μ b).blk j).run P w2=.ok (.bool j.isNone) { w2 with heap:=w2.heap.setIfInBounds (μ b).blk (.loop { L2 with state:=ra j,pending:=j }) }:=by unfold ra at k1 ⊢;simp only[Instr.endRound,Sem.run_bind,gu g1,Result.andThen_ok,k1];rfl
   have hS:Step mem.length μ mem w _ _ _:=((c6.trans (e3.mono c5)).trans f6).trans (k3.mono f5);have hfin:∃V v mem' μ',(Ending.returned (.bool j.isNone):Ending)=.returned V∧VRel μ' mem'.length v V∧HRel base μ' mem' { w2 with heap:=w2.heap.setIfInBounds (μ b).blk (.loop { L2 with state:=ra j,pending:=j }) }∧
     Step mem.length μ mem w μ' mem' { w2 with heap:=w2.heap.setIfInBounds (μ b).blk (.loop { L2 with state:=ra j,pending:=j }) }∧R v mem' :=
    ⟨_,.bool j.isNone,_,_,rfl,by simp[VRel],k2,hS,f10⟩
   cases e<;>simp only[HF,Option.some.injEq,reduceCtorEq] at f7<;>subst f7<;>exact⟨_,_,hrun,hfin⟩
end
end Go.Eng
namespace Go.Eng
def Tn(es:Nat) (M:Mem) (x:AV) (n:Nat) (cs:List AV):Prop:=∃b o cs',x=.slice b 0 n none∧M[b]? =some (.cells o es cs')∧cs'.take cs.length=cs
def Hj(es:Nat) (M:Mem):AV→Option (List AV)
 |.slice b 0 n none=>match M[b]? with
  |some (.cells _ es' cs)=>if es' =es∧n*es≤cs.length then some (cs.take (n*es)) else none
  |_=>none
 |.nilslice=>some []
 |_=>none
theorem Hk{es:Nat}{M:Mem}{b n:Nat}{o:Bool}{cs cs' :List AV}(h:M[b]? =some (.cells o es cs')) (hn:n*es≤cs'.length) (hc:cs'.take (n*es)=cs):Hj es M (.slice b 0 n none)=some cs:=by simp[Hj,h,hn,hc]
theorem JP{es:Nat}{M:Mem}{x:AV}{cs:List AV}(h:Hj es M x=some cs):(∃n,cs.length=n*es∧Tn es M x n cs)∨(x=.nilslice∧cs=[]):=by
 unfold Hj at h;split at h
 ·rename_i b n
  split at h
  ·rename_i o es' cs' hb
   split at h
   ·rename_i hc
    obtain⟨rfl,hn⟩:=hc;cases h;have hl:(cs'.take (n*es')).length=n*es' :=by rw[List.length_take];omega
    exact .inl ⟨n,hl,b,o,cs',rfl,hb,by rw[hl]⟩
   ·cases h
  ·cases h
 ·cases h;exact .inr ⟨rfl,rfl⟩
 ·cases h
theorem bI{ks:List Nat}{M:Mem}{b es:Nat}{o:Bool}{cs cs' :List AV}(hc:AV.closeds cs=true) (h:M[b]? =some (.cells o es cs')) (ht:cs'.take cs.length=cs):SubSlot ks M b (.cells false es cs):=by
 refine⟨cK hc,o,cs',h,fun j v hv=>?_⟩;have hj:=(List.getElem?_eq_some_iff.1 hv).1;have h1:cs'[j]? =cs[j]? :=by have:(cs'.take cs.length)[j]? =cs'[j]? :=List.getElem?_take_of_lt hj;rw[←this,ht]
 have hr:=bH (ρ:=ar ks M.length) hc;rw[fb] at hr;have hr2:(cs.map (AV.ren (ar ks M.length)))[j]? =cs[j]? :=by rw[hr]
 rw[List.getElem?_map,hv] at hr2;rw[h1,hv];exact hr2.symm
section
variable {P:Program}{f:FuncId}{M:Mem}{x y:AV}
theorem ACallsTo.rows1C{es n:Nat}{cs:List AV}{rest:List AV}{v:AV}{new:Mem}(hc:AV.closeds cs=true) (hr:AV.closeds rest=true) (hn:new.all (fun s=>s.own||match s with | .absent=>true | _=>false)=true)
  (h:ACallsTo P f (.slice 0 0 n none::rest) [.cells false es cs] v (.cells false es cs::new)) (hx:Tn es M x n cs):
  ∃b,x=.slice b 0 n none∧b<M.length∧ACallsTo P f (x::rest) M (v.ren (ar [b] M.length)) (M++new.map (Slot.ren (ar [b] M.length))):=by
 obtain⟨b,o,cs',rfl,hb,ht⟩:=hx;have hlt:=(List.getElem?_eq_some_iff.1 hb).1;refine⟨b,rfl,hlt,?_⟩;have:=ACallsTo.frame (M:=M) [b] (m:=[.cells false es cs]) rfl (by simpa using hlt) (by simp only[AV.unders,AV.under,cK hr];rfl) (fun i s hs=>by
  cases i with
  |zero=>simp at hs;subst hs;exact bI hc hb ht
  |succ i=>simp at hs) hn h
 simpa [AV.rens,AV.ren,ar,bH hr] using this
theorem zw{v:AV}(ks:List Nat) (n:Nat) (hv:v.closed=true):v.ren (ar ks n)=v:=by have:=bH (vs:=[v]) (ρ:=ar ks n) (by simp[AV.closeds,hv]);simpa [AV.rens] using this
theorem ACallsTo.rows1R{es n:Nat}{cs:List AV}{rest:List AV}{v:AV}(hc:AV.closeds cs=true) (hr:AV.closeds rest=true) (hv:v.closed=true)
  (h:ACallsTo P f (.slice 0 0 n none::rest) [.cells false es cs] v [.cells false es cs]) (hx:Tn es M x n cs):ACallsTo P f (x::rest) M v M:=by
 obtain⟨b,_,_,h2⟩:=ACallsTo.rows1C (new:=[]) hc hr rfl h hx;simpa [zw _ _ hv] using h2
end
end Go.Eng
namespace Go.Eng
mutual
def AV.same:AV→AV→Bool
 |.undef,.undef=>true
 |.bool a,.bool b=>a==b
 |.int k n,.int k' m=>decide (k=k')&&decide (n=m)
 |.str s,.str t=>s==t
 |.ptr b o,.ptr b' o' =>Nat.beq b b' &&Nat.beq o o'
 |.nilptr,.nilptr=>true
 |.slice b o n none,.slice b' o' n' none=>Nat.beq b b' &&Nat.beq o o' &&Nat.beq n n'
 |.nilslice,.nilslice=>true
 |.map b,.map b' =>Nat.beq b b'
 |.nilmap,.nilmap=>true
 |.func f cs,.func f' cs' =>Nat.beq f f' &&AV.sames cs cs'
 |.nilFunc,.nilFunc=>true
 |.nilIface,.nilIface=>true
 |.agg cs,.agg cs' =>AV.sames cs cs'
 |.tuple cs,.tuple cs' =>AV.sames cs cs'
 |_,_=>false
def AV.sames:List AV→List AV→Bool
 | [],[]=>true
 |v::vs,w::ws=>AV.same v w&&AV.sames vs ws
 |_,_=>false
end
mutual
theorem AV.same_eq:∀{v w:AV},AV.same v w=true→v=w
 |.undef,w,h=>by cases w<;>first | rfl | simp[AV.same] at h
 |.bool a,w,h=>by cases w<;>simp[AV.same] at h;rw[h]
 |.int k n,w,h=>by cases w<;>simp[AV.same] at h;rw[h.1,h.2]
 |.str s,w,h=>by cases w<;>simp[AV.same] at h;rw[h]
 |.ptr b o,w,h=>by cases w<;>simp[AV.same] at h;rw[h.1,h.2]
 |.nilptr,w,h=>by cases w<;>first | rfl | simp[AV.same] at h
 |.slice b o n c,w,h=>by
  cases w with
  |slice b' o' n' c' =>cases c<;>cases c' <;>simp[AV.same] at h;rw[h.1.1,h.1.2,h.2]
  |_=>cases c<;>simp[AV.same] at h
 |.nilslice,w,h=>by cases w<;>first | rfl | simp[AV.same] at h
 |.map b,w,h=>by cases w<;>simp[AV.same] at h;rw[h]
 |.nilmap,w,h=>by cases w<;>first | rfl | simp[AV.same] at h
 |.yield b,w,h=>by simp[AV.same] at h
 |.func f cs,w,h=>by
  cases w<;>try (simp[AV.same] at h;done)
  simp only[AV.same,Bool.and_eq_true] at h;rw[Nat.eq_of_beq_eq_true h.1,AV.sames_eq h.2]
 |.nilFunc,w,h=>by cases w<;>first | rfl | simp[AV.same] at h
 |.iface t v,w,h=>by simp[AV.same] at h
 |.nilIface,w,h=>by cases w<;>first | rfl | simp[AV.same] at h
 |.agg cs,w,h=>by
  cases w<;>try (simp[AV.same] at h;done)
  simp only[AV.same] at h;rw[AV.sames_eq h]
 |.tuple cs,w,h=>by
  cases w<;>try (simp[AV.same] at h;done)
  simp only[AV.same] at h;rw[AV.sames_eq h]
theorem AV.sames_eq:∀{vs ws:List AV},AV.sames vs ws=true→vs=ws
 | [],[],_=>rfl
 | [],_::_,h=>by simp[AV.sames] at h
 |_::_,[],h=>by simp[AV.sames] at h
 |v::vs,w::ws,h=>by simp only[AV.sames,Bool.and_eq_true] at h;rw[AV.same_eq h.1,AV.sames_eq h.2]
end
def mI(ks:List Nat) (M:Mem):Nat→Mem→Bool
 |_,[]=>true
 |i,.cells false es cs::r=>(match M[ks.getD i 0]? with
  |some (.cells _ es' cs')=>Nat.beq es es' &&AV.sames (AV.rens (ar ks M.length) cs) (cs'.take cs.length)
  |_=>false)&&AV.unders ks.length cs&&mI ks M (i+1) r
 |_,_=>false
theorem zg{ks:List Nat}{M:Mem}:∀{i:Nat}{m:Mem},mI ks M i m=true→∀(j:Nat) s,m[j]? =some s→SubSlot ks M (ks.getD (i+j) 0) s
 |_,[],_,j,s,hj=>by simp at hj
 |i,.cells false es cs::r,h,j,s,hj=>by
  unfold mI at h;simp only[Bool.and_eq_true] at h;obtain⟨⟨h1,h2⟩,h3⟩:=h;cases j with
  |zero=>
   simp at hj;subst hj;refine⟨h2,?_⟩;split at h1
   ·rename_i o es' cs' hM
    simp only[Bool.and_eq_true] at h1;obtain⟨e1,e2⟩:=h1;have e1:=Nat.eq_of_beq_eq_true e1;subst e1;refine⟨o,cs',hM,fun k v hv=>?_⟩;have hk:=(List.getElem?_eq_some_iff.1 hv).1;have e3:=AV.sames_eq e2;rw[fb] at e3;have:(cs'.take cs.length)[k]? =cs'[k]? :=List.getElem?_take_of_lt hk;rw[←this,←e3,List.getElem?_map,hv];rfl
   ·cases h1
  |succ j=>
   have:=zg h3 j s (by simpa using hj);rw[show i+(j+1)=i+1+j by omega];exact this
 |i,.absent::r,h,j,s,hj=>by simp[mI] at h
 |i,.cells true es cs::r,h,j,s,hj=>by simp[mI] at h
 |i,.map es::r,h,j,s,hj=>by simp[mI] at h
 |i,.fmap es::r,h,j,s,hj=>by simp[mI] at h
 |i,.loop l::r,h,j,s,hj=>by simp[mI] at h
structure Memo where
 f:FuncId
 args:List AV
 m:Mem
 v:AV
 new:Mem
def Memo.ask(e:Memo) (args:List AV) (M:Mem):Option CallRes:=
 let ks:=rz 0 M 1000 (AV.refsL 0 args) []
 if Nat.beq ks.length e.m.length&&ks.all (fun k=>decide (k<M.length))&&AV.unders ks.length e.args&&AV.sames (AV.rens (ar ks M.length) e.args) args&&mI ks M 0 e.m&&e.new.all (fun s=>s.own||match s with | .absent=>true | _=>false) then
  some ⟨e.v.ren (ar ks M.length),none,e.new.map (Slot.ren (ar ks M.length))⟩ else none
theorem Memo.ask_sound{P:Program}{e:Memo}(h:ACallsTo P e.f e.args e.m e.v (e.m++e.new)) {args:List AV}{M:Mem}{r:CallRes}(hr:e.ask args M=some r):lS P (.fn e.f) args M r:=by
 unfold Memo.ask at hr;simp only at hr;split at hr
 ·rename_i hc
  simp only[Bool.and_eq_true] at hc;obtain⟨⟨⟨⟨⟨h1,h2⟩,h3⟩,h4⟩,h5⟩,h6⟩:=hc;cases hr;refine ag ?_;have:=ACallsTo.frame (M:=M) (rz 0 M 1000 (AV.refsL 0 args) []) (Nat.eq_of_beq_eq_true h1).symm (fun k hk=>by simpa using List.all_eq_true.1 h2 k hk) h3 (fun i s hs=>by simpa using zg h5 i s hs) h6 h;rw[AV.sames_eq h4] at this;exact this
 ·cases hr
def J8:List Memo→Oracle
 | [],_,_,_=>none
 |e::es,.fn f,args,M=>if Nat.beq f e.f then (match e.ask args M with
  |some r=>some r
  |none=>J8 es (.fn f) args M) else J8 es (.fn f) args M
 |_::_,.yld _,_,_=>none
theorem Rp{P:Program}:∀{l:List Memo},(∀e∈l,ACallsTo P e.f e.args e.m e.v (e.m++e.new))→OracleOk P (J8 l):=by
 intro l hl;refine cO fun c args M r h=>?_
 induction l with
 |nil=>simp[J8] at h
 |cons e es ih=>
  have ih:=ih (fun x hx=>hl x (List.mem_cons_of_mem _ hx));cases c with
  |yld b=>simp[J8] at h
  |fn f=>
   unfold J8 at h;split at h
   ·rename_i hf
    have hf:=Nat.eq_of_beq_eq_true hf;subst hf;split at h
    ·rename_i r' hr
     cases h;exact Memo.ask_sound (hl e (List.mem_cons_self ..)) hr
    ·exact ih h
   ·exact ih h
theorem cR{P:Program}{T:TypeId→Option TyI}{lv:Code→List Nat}{G:FuncId→Option Func}{O:Oracle}{K n:Nat}(hm:P.follows .mixedOrders=true) (hT:cA P T) (hG:FnTab P G) (hO:OracleOk P O) {f:FuncId}{args:List AV}{m:Mem}{v:AV}{new:Mem}
  (h:(pM T lv G O K n (.fn f) args m).map (fun r=>(r.v,r.mem m))=some (v,m++new)):ACallsTo P f args m v (m++new):=by
 rw[Option.map_eq_some_iff] at h;obtain⟨r,h1,h2⟩:=h;obtain⟨h3,h4⟩:=Prod.mk.inj h2;have:=(fI hm hT hG hO n).fn _ _ _ _ h1;rw[h3,h4] at this;exact this
end Go.Eng
namespace Go.Eng
open Classical in
noncomputable def rC(S:Callee→List AV→Mem→CallRes→Prop):Oracle:=fun c args M=>if h:∃r,S c args M r then some (Classical.choose h) else none
theorem RD{P:Program}{S:Callee→List AV→Mem→CallRes→Prop}(h:∀c a M r,S c a M r→lS P c a M r):OracleOk P (rC S):=cO fun c a M r hr=>by
 unfold rC at hr;split at hr
 ·rename_i hex
  cases hr;exact h _ _ _ _ (Classical.choose_spec hex)
 ·cases hr
theorem BH{S:Callee→List AV→Mem→CallRes→Prop}{c:Callee}{a:List AV}{M:Mem}(h:∃r,S c a M r):∃r,rC S c a M=some r∧S c a M r:=by refine⟨_,?_,Classical.choose_spec h⟩;unfold rC;rw[dif_pos h]
theorem sW{S:Callee→List AV→Mem→CallRes→Prop}{c:Callee}{a:List AV}{M:Mem}{r:CallRes}(h:S c a M r) (hd:∀r',S c a M r' →r' =r):rC S c a M=some r:=by obtain⟨r',h1,h2⟩:=BH ⟨r,h⟩;rw[h1,hd r' h2]
theorem kF(M X:Mem) (k:Nat):(M++X)[M.length+k]? =X[k]? :=by rw[List.getElem?_append_right (by omega)];congr 1;omega
theorem Sl(M X:Mem):(M++X)[M.length]? =X[0]? :=kF M X 0
theorem Dj(M X:Mem) (k:Nat) (s:Slot):(M++X).set (M.length+k) s=M++X.set k s:=by rw[List.set_append_right _ _ (by omega)];congr 2;omega
theorem Ro(M X:Mem) (s:Slot):(M++X).set M.length s=M++X.set 0 s:=Dj M X 0 s
theorem fH(a b:Nat):(a+b<a)=False:=by rw[eq_iff_iff,iff_false];omega
theorem sN(f:Nat→Bool):∀(i:Nat) (M:Mem),bd [] i M (bu f i M)=M
 |_,[]=>rfl
 |i,s::M=>by simp[bu,bd,sN f (i+1) M]
theorem rq(f:Nat→Bool):∀(i:Nat) (M:Mem) (b:Nat),(bu f i M)[b]? =(M[b]?).map fun s=>if f (i+b) then s else .absent
 |_,[],_=>by simp[bu]
 |i,s::M,0=>by simp[bu]
 |i,s::M,b+1=>by simp[bu,rq f (i+1) M b,Nat.add_assoc,Nat.add_comm 1 b]
theorem Bs:∀(i:Nat) (M:Mem),bu (fun _=>true) i M=M
 |_,[]=>rfl
 |i,s::M=>by simp[bu,Bs (i+1) M]
theorem J5(a b:Nat):(a≤b∧b<a)=False:=by rw[eq_iff_iff,iff_false];omega
theorem vi:∀(i:Nat) (M:Mem),bd [] i M M=M
 |_,[]=>rfl
 |i,s::M=>by simp[bd,vi (i+1) M]
end Go.Eng
