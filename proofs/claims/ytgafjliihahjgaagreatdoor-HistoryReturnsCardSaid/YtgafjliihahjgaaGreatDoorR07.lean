/- See R54. -/
import Derived.Test.YtgafjliihahjgaaGreatDoorR06
set_option linter.all false
namespace Go.Eng
def mC(P:Program) (c:Callee) (args:List AV) (m:Mem) (r:HS):Prop:=
 (match c with
  |.fn f=>kF P f args m r.v (r.mem m)
  |.yld b=>oZ P b args m r.v (r.mem m))∧∀q,r.pre=some q→q.length=m.length
open Classical in
theorem jY{P:Program}{ι:Type}(p:ι→Prop)(c:ι→Callee)(a:ι→List AV)(m:ι→Mem)(r:ι→HS)(hs:∀i,p i→mC P (c i) (a i) (m i) (r i))(hc:∀i j,p i→p j→c i=c j→a i=a j→m i=m j→r i=r j):∃O:adM,kP P O∧∀i,p i→O (c i) (a i) (m i)=some (r i):=by
 refine⟨fun c' a' m' =>if h:∃i,p i∧c i=c' ∧a i=a' ∧m i=m' then some (r (Classical.choose h)) else none,?_,fun i hi=>?_⟩
 ·have key:∀c' a' m' r',(if h:∃i,p i∧c i=c' ∧a i=a' ∧m i=m' then some (r (Classical.choose h)) else none)=some r' →mC P c' a' m' r' :=by
   intro c' a' m' r' h;split at h
   ·rename_i hex
    obtain⟨h1,h2,h3,h4⟩:=Classical.choose_spec hex;cases h;have:=hs _ h1;rw[h2,h3,h4] at this;exact this
   ·cases h
  exact⟨fun f a' m' r' h=>(key _ _ _ _ h).1,fun b a' m' r' h=>(key _ _ _ _ h).1,fun c' a' m' r' q h hq=>(key _ _ _ _ h).2 q hq⟩
 ·have hex:∃j,p j∧c j=c i∧a j=a i∧m j=m i:=⟨i,hi,rfl,rfl,rfl⟩
  simp only[dif_pos hex];obtain⟨h1,h2,h3,h4⟩:=Classical.choose_spec hex;rw[hc _ _ h1 hi h2 h3 h4]
variable{mem mem' :Mem}
theorem tM{T:TypeId→Option TyI}{lv:Code→List Nat}{O:adM}{K N m0:Nat}{tp:Bool}{b:Code}{L:List Nat}(YQ:lv b=L){e:Exit}(d0 d1:Bool)(pre:Env→Prop)(post:Env→Env→Prop)(h:∀z',pre z'→∃AC,ej L (aa b) z' mem.length (aN T lv O K N m0 tp b) K ⟨aD L (aa b) z' z',mem,d0⟩=some (e,⟨AC,mem',d1⟩)∧post z' AC):
  ∃F:Env→Env,∀z',pre z'→aN T lv O K N m0 tp (.loop b) ⟨z',mem,d0⟩=some (e,⟨F z',mem',d1⟩)∧post z' (F z'):=by
 obtain⟨F,hF⟩:=tV (p:=fun z' _=>pre z') (q:=fun z' _ e' =>aN T lv O K N m0 tp (.loop b) ⟨z',mem,d0⟩=some (e,⟨e',mem',d1⟩)∧post z' e') (fun z' _ hp=>by obtain⟨AC,h1,h2⟩:=h z' hp;exact⟨AC,by rw[aI,YQ];exact h1,h2⟩)
 exact⟨fun z'=>F z' true,fun z' hp=>hF z' true hp⟩
def mO:Code→List (Array Tmp×Code×Code)
 |.seq a b=>mO a++mO b
 |.cond _ a b=>mO a++mO b
 |.block _ b=>mO b
 |.loop b=>mO b
 |.rangeFunc _ ps a b=>[(ps,a,b)]
 |_=>[]
def qI(f:Func):List (Array Tmp×Code×Code):=match f.body with
 |some c=>mO c
 |none=>[]
attribute [simp] aeD.y9
theorem dq{P:Program}{O:adM}(key:∀c args M r,O c args M=some r→mC P c args M r):kP P O:=
 ⟨fun f args M r h=>(key _ _ _ _ h).1,fun b args M r h=>(key _ _ _ _ h).1,fun c args M r p h hp=>(key _ _ _ _ h).2 p hp⟩
variable{M:Mem}
theorem jr{P:Program}{O:adM}(hO:kP P O){c:Go.Eng.Callee}{args:List AV}{r:HS}(h:O c args M=some r):mC P c args M r:=by
 refine⟨?_,fun q hq=>hO.pre _ _ _ _ _ h hq⟩;cases c with
 |fn f=>exact hO.fn _ _ _ _ h
 |yld b=>exact hO.yld _ _ _ _ h
theorem af{P:Program}{f:FuncId}{args:List AV}{new:Mem}{v:AV}(h:kF P f args M v (M++new)):mC P (.fn f) args M ⟨v,none,new⟩:=⟨h,fun q hq=>by cases hq⟩
def XJ(s s' :aeD):Prop:=s=s' ∨∃o es cs Yf,s' =.cells o es cs∧s=.cells o es Yf ∧Yf <+: cs
variable{R:AV→Mem→Prop}{b:Nat}
section
variable {P:Program}{T:TypeId→Option TyI}{O:adM}{K:Nat}{lv:Code→List Nat}
theorem afb.afu(hT:cJ P T){f:FuncId}{fn:Func}{c:Code}{args:List AV}(hf:P.funcs[f]? =some fn)(hb:fn.body=some c)(hn:(fn.name == "runtime.NumGoroutine")=false)(hl:args.length≤fn.ntmps)(h:AWP P true fn.ntmps mem.length c ⟨dL 0 args,mem⟩ fun e J' =>(e=.normal∨e=.ret)∧∃v,jZ T fn.results.toList J'.env J'.mem=some v∧R v J'.mem):
  afb P f args mem R:=by
 refine⟨⟨fn,hf,by simp[hb],hn⟩,fun base μ w Vs hG hH hV=>?_⟩;refine yT.1 (callsIn_of_wp_marks (F:=Fr none) (n:=0) hf hb trivial (wpIn_mono (h none w.heap.size base μ w _ (fun _=>rfl) hH ?_ ?_ (MOk.nil w hG hH.aeI (Nat.le_refl _)) (Nat.le_refl _)) ?_) rfl)
 ·intro t
  have:=wJ 0 hV t;simp only[Nat.not_lt_zero,if_false,Nat.sub_zero] at this;by_cases ht:t<Vs.length
  ·have e:(⟨Vs⟩++Array.replicate (fn.ntmps-(⟨Vs⟩:Array Value).size) undef:Array Value).getD t undef=Vs.getD t undef:=by simp only[Array.getD_eq_getD_getElem?];rw[Array.getElem?_append_left (by simpa using ht)];simp[List.getD]
   show aeA μ mem.length (ab (dL 0 args) t) ((⟨Vs⟩++Array.replicate (fn.ntmps-(⟨Vs⟩:Array Value).size) undef:Array Value).getD t undef)
   rw[e];exact this
  ·have:ab (dL 0 args) t=.undef:=by
    have F':=hV.length;have:∀(vs:List AV) (i:Nat),i+vs.length≤t→ab (dL i vs) t=.undef:=by
     intro vs;induction vs with
     |nil=>intro i _;rfl
     |cons v vs ih=>
      intro i hi;simp only[List.length_cons] at hi;simp only[dL,ab];rw[if_neg (by omega)];exact ih (i+1) (by omega)
    exact this args 0 (by omega)
   show aeA μ mem.length (ab (dL 0 args) t) _
   rw[this];simp[aeA]
 ·simp only[Array.size_append,List.size_toArray,Array.size_replicate,hV.length];omega
 ·rintro e a' w' ⟨J',μ',b1,b2,b3,b4,b5,b6,he,v,hv,hR⟩
  have post:LeavesInM (Fr none) 0 P fn a'.tmps (fun e w' =>∃V v mem' μ',e=.returned V∧aeA μ' mem'.length v V∧aeL base μ' mem' w' ∧Step mem.length μ mem w μ' mem' w' ∧R v mem') a'.defers .returning w' :=by
   refine qt a'.defers w' b4 b1 b6 fun w2 e1 e2=>?_
   obtain⟨V,k1,k2⟩:=sf (P:=P) (fn:=fn) hT e1 b2 hv;exact⟨V,k1,⟨V,_,_,_,rfl,k2,e1,e2,hR⟩⟩
  rcases he with rfl | rfl
  ·exact post
  ·exact post
def aU(T:TypeId→Option TyI) (lv:Code→List Nat) (G:FuncId→Option Func) (O:adM) (K:Nat) (f:FuncId) (args:List AV) (mem:Mem):Option (AV×Mem):=
 match G f with
 |none=>none
 |some fn=>match fn.body with
  |none=>none
  |some c=>
   if args.length≤fn.ntmps then
    match aN T lv O K fn.ntmps mem.length true c ⟨dL 0 args,mem,false⟩ with
    |some (e,s)=>
     match e with
     |.normal | .ret=>
      match jZ T fn.results.toList s.env s.mem with
      |some v=>some (v,s.mem)
      |none=>none
     |_=>none
    |none=>none
   else none
theorem aO(hm:P.follows .mixedOrders=true)(hT:cJ P T)(hO:kP P O){G:FuncId→Option Func}(hG:afP P G){f:FuncId}{args:List AV}{v:AV}(h:aU T lv G O K f args mem=some (v,mem')):kF P f args mem v mem' :=by
 unfold aU at h;split at h
 ·cases h
 ·rename_i fn hfn
  obtain⟨g1,g2,g3⟩:=hG.fn _ _ hfn;split at h
  ·cases h
  ·rename_i c hb
   split at h
   ·rename_i hl
    split at h
    ·rename_i e s he
     obtain⟨a1,_⟩:=cX hm hT hO (g3 c hb) he;have aa6:(e=.normal∨e=.ret)→(match jZ T fn.results.toList s.env s.mem with
      |some v=>some (v,s.mem)
      |none=>none)=some (v,mem')→kF P f args mem v mem' :=by
      intro hen h;split at h
      ·rename_i v hv
       cases h;exact afb.afu hT g1 hb g2 hl (a1 _ ⟨hen,_,hv,rfl,rfl⟩)
      ·cases h
     split at h
     ·exact aa6 (.inl rfl) h
     ·exact aa6 (.inr rfl) h
     ·cases h
    ·cases h
   ·cases h
theorem afm.afu{args:List AV}{r:afv}(hb:mem[b]? =some (.loop r))(ac':r.st=.ready)(hl:args.length=r.ps.toList.length)(hps:∀t∈r.ps.toList,t<r.N)(h:AWP P false r.N mem.length r.assign ⟨xi r.ps.toList args r.env,mem⟩ fun e st1=>e=.normal∧∃r1,st1.mem[b]? =some (.loop r1)∧r1.st=.ready∧
   AWP P false r.N mem.length r.body ⟨st1.env,st1.mem.set b (.loop { r1 with st:=.busy })⟩ fun e st2=>∃r2 j,AX e=some j∧st2.mem[b]? =some (.loop r2)∧
    R (.bool j.isNone) (st2.mem.set b (.loop { r2 with st:=mK j,afe:=j }))):
  afm P b args mem R:=by
 intro base μ w Vs hG hH hV hbl;have YT:=hH.slot b _ hb;simp only[aeO] at YT;obtain⟨L,h1,h2,h3⟩:=YT;have F':Vs.length=L.params.size:=by rw[hV.length,hl,h3.ps];simp
 refine⟨L.fn,(L.params.zip ⟨Vs⟩).foldl (fun tmps (t,a)=>tmps.setIfInBounds t a) L.tmps,L.assign,L.body,?_,?_⟩
 ·simp only[Instr.yield,Sem.run_bind,iw h1,Result.andThen_ok]
  rw[if_neg (by simp[F'])];rfl
 ·refine roundIn_of_wpIn (F:=Fence.wide) trivial ?_
  have aa3:(L.params.zip ⟨Vs⟩).foldl (fun tmps (t,a)=>tmps.setIfInBounds t a) L.tmps=(r.ps.toList.zip Vs).foldl (fun tmps (t,a)=>tmps.setIfInBounds t a) L.tmps:=by rw[h3.ps,←Array.foldl_toList];simp
  have XY:=E2 (ts:=r.ps.toList) hV h3.tmps hl (fun t ht=>by rw[h3.size];exact hps t ht);rw[h3.assign,h3.body];refine wpIn_mono (F:=Fr (some (μ b).blk)) (h (some (μ b).blk) w.heap.size base μ w ⟨_,[]⟩ (fun h=>by cases h) hH (by rw[aa3];exact XY.1) (by rw[aa3,XY.2];exact h3.size) (MOk.nil w hG hH.aeI (Nat.le_refl _)) (Nat.le_refl _)) ?_;rintro e a1 w1 ⟨st1,μ1,c1,c2,c3,c4,c5,c6,rfl,r1,c7,c8,hbody⟩;have aaO:=c1.slot b _ c7;simp only[aeO] at aaO;obtain⟨L1,d1,d2,d3⟩:=aaO;have hμ:μ1 b=μ b:=c6.agree b hbl;rw[hμ] at d1;obtain⟨e1,e2,e3⟩:=ve (P:=P) (r' :={ r1 with st:=.busy }) (L' :={ L1 with state:=.busy }) c1 c7 (by rw[hμ];exact d1) { d3 with st:=rfl };rw[hμ] at e1 e2 e3;refine⟨_,?_,wpIn_mono (F:=Fr (some (μ b).blk)) (hbody (some (μ b).blk) w.heap.size base μ1 _ a1 (fun h=>by cases h) e2 (by rw[List.length_set];exact c2) c3 (c4.step c1 e3) (by rw[List.length_set];exact c5)) ?_⟩
  ·simp only[Instr.beginRound,Sem.run_bind,iw d1,Result.andThen_ok,e1]
   rw[d3.st,c8];rfl
  ·rintro e a2 w2 ⟨st2,μ2,f1,f2,f3,f4,f5,f6,r2,j,f7,f8,f10⟩
   have aa4:=f1.slot b _ f8;simp only[aeO] at aa4;obtain⟨L2,g1,g2,g3⟩:=aa4;have hμ2:μ2 b=μ b:=by rw[f6.agree b hbl,hμ]
   rw[hμ2] at g1;obtain⟨k1,k2,k3⟩:=ve (P:=P) (r' :={ r2 with st:=mK j,afe:=j }) (L' :={ L2 with state:=mK j,pending:=j }) f1 f8 (by rw[hμ2];exact g1) { g3 with st:=rfl,afe:=rfl };rw[hμ2] at k1 k2 k3;have Yi:(Instr.endRound (μ b).blk j).run P w2=.ok (.bool j.isNone) { w2 with heap:=w2.heap.setIfInBounds (μ b).blk (.loop { L2 with state:=mK j,pending:=j }) }:=by unfold mK at k1 ⊢;simp only[Instr.endRound,Sem.run_bind,iw g1,Result.andThen_ok,k1];rfl
   have hS:Step mem.length μ mem w _ _ _:=((c6.trans (e3.mono c5)).trans f6).trans (k3.mono f5);have Z5:∃V v mem' μ',(Ending.returned (.bool j.isNone):Ending)=.returned V∧aeA μ' mem'.length v V∧aeL base μ' mem' { w2 with heap:=w2.heap.setIfInBounds (μ b).blk (.loop { L2 with state:=mK j,pending:=j }) }∧
     Step mem.length μ mem w μ' mem' { w2 with heap:=w2.heap.setIfInBounds (μ b).blk (.loop { L2 with state:=mK j,pending:=j }) }∧R v mem' :=
    ⟨_,.bool j.isNone,_,_,rfl,by simp[aeA],k2,hS,f10⟩
   cases e<;>simp only[AX,Option.some.injEq,reduceCtorEq] at f7<;>subst f7<;>exact⟨_,_,Yi,Z5⟩
def qZ(T:TypeId→Option TyI) (lv:Code→List Nat) (O:adM) (K:Nat) (b:Nat) (args:List AV) (mem:Mem):Option (AV×Mem):=
 match mem[b]? with
 |some (.loop r)=>
  if r.st== .ready&&decide (args.length=r.ps.toList.length)&&r.ps.toList.all (fun t=>decide (t<r.N))&&dv r.assign&&dv r.body then
   match aN T lv O K r.N mem.length false r.assign ⟨xi r.ps.toList args r.env,mem,true⟩ with
   |some (.normal,s1)=>match s1.mem[b]? with
    |some (.loop r1)=>
     if r1.st== .ready then
      match aN T lv O K r.N mem.length false r.body ⟨s1.env,s1.mem.set b (.loop { r1 with st:=.busy }),true⟩ with
      |some (e,s2)=>match AX e,s2.mem[b]? with
       |some j,some (.loop r2)=>some (.bool j.isNone,s2.mem.set b (.loop { r2 with st:=mK j,afe:=j }))
       |_,_=>none
      |none=>none
     else none
    |_=>none
   |_=>none
  else none
 |_=>none
theorem yF(hm:P.follows .mixedOrders=true)(hT:cJ P T)(hO:kP P O){args:List AV}{v:AV}(h:qZ T lv O K b args mem=some (v,mem')):oZ P b args mem v mem' :=by
 unfold qZ at h;split at h
 ·rename_i lp hlp
  split at h
  ·rename_i hc
   simp only[Bool.and_eq_true,decide_eq_true_eq,List.all_eq_true] at hc;obtain⟨⟨⟨⟨c1,c2⟩,c3⟩,c4⟩,c5⟩:=hc;have aab:∀{x:LoopState},(x== .ready)=true→x=.ready:=fun {x} h=>by cases x<;>first | rfl | cases h
   split at h
   ·rename_i s1 h1
    obtain⟨a1,a2⟩:=cX hm hT hO c4 h1;split at h
    ·rename_i r1 Ya
     split at h
     ·rename_i aaP
      split at h
      ·rename_i e s2 h2
       obtain⟨b1,b2⟩:=cX hm hT hO c5 h2;split at h
       ·rename_i j r2 hj Yc
        cases h;exact afm.afu hlp (aab c1) c2 c3 (a1 _ ⟨rfl,r1,Ya,aab aaP,b1 _ ⟨r2,j,hj,Yc,rfl,rfl⟩⟩)
       ·cases h
      ·cases h
     ·cases h
    ·cases h
   ·cases h
  ·cases h
 ·cases h
end
end Go.Eng
namespace Go.Eng
def Xi(es:Nat) (M:Mem) (x:AV) (n:Nat) (cs:List AV):Prop:=∃b o Yf,x=.slice b 0 n none∧M[b]? =some (.cells o es Yf)∧Yf.take cs.length=cs
def JF(es:Nat) (M:Mem):AV→Option (List AV)
 |.slice b 0 n none=>match M[b]? with
  |some (.cells _ YP cs)=>if YP =es∧n*es≤cs.length then some (cs.take (n*es)) else none
  |_=>none
 |.kK=>some []
 |_=>none
variable{cs Yf :List AV}{es:Nat}{o:Bool}
theorem JG{M:Mem}{b n:Nat}(h:M[b]? =some (.cells o es Yf))(hn:n*es≤Yf.length)(hc:Yf.take (n*es)=cs):JF es M (.slice b 0 n none)=some cs:=by simp[JF,h,hn,hc]
theorem Mg{M:Mem}{x:AV}(h:JF es M x=some cs):(∃n,cs.length=n*es∧Xi es M x n cs)∨(x=.kK∧cs=[]):=by
 unfold JF at h;split at h
 ·rename_i b n
  split at h
  ·rename_i o YP Yf hb
   split at h
   ·rename_i hc
    obtain⟨rfl,hn⟩:=hc;cases h;have hl:(Yf.take (n*YP)).length=n*YP :=by rw[List.length_take];omega
    exact .inl ⟨n,hl,b,o,Yf,rfl,hb,by rw[hl]⟩
   ·cases h
  ·cases h
 ·cases h;exact .inr ⟨rfl,rfl⟩
 ·cases h
theorem bL{ks:List Nat}{M:Mem}{b es:Nat}(hc:AV.aeG cs=true)(h:M[b]? =some (.cells o es Yf))(ht:Yf.take cs.length=cs):so ks M b (.cells false es cs):=by
 refine⟨cH hc,o,Yf,h,fun j v hv=>?_⟩;have hj:=(gL hv);have h1:Yf[j]? =cs[j]? :=by have:(Yf.take cs.length)[j]? =Yf[j]? :=List.getElem?_take_of_lt hj;rw[←this,ht]
 have hr:=bQ (ρ:=aF ks M.length) hc;rw[fV] at hr;have Yc:(cs.map (AV.ren (aF ks M.length)))[j]? =cs[j]? :=by rw[hr]
 rw[List.getElem?_map,hv] at Yc;rw[h1,hv];exact Yc.symm
variable{n:Nat}{rest:List AV}
section
variable {P:Program}{f:FuncId}{M:Mem}{x y:AV}
theorem kF.afL{v:AV}{new:Mem}(hc:AV.aeG cs=true)(hr:AV.aeG rest=true)(hn:new.all (fun s=>s.own||match s with | .kO=>true | _=>false)=true)(h:kF P f (.slice 0 0 n none::rest) [.cells false es cs] v (.cells false es cs::new))(hx:Xi es M x n cs):
  ∃b,x=.slice b 0 n none∧b<M.length∧kF P f (x::rest) M (v.ren (aF [b] M.length)) (M++new.map (aeD.ren (aF [b] M.length))):=by
 obtain⟨b,o,Yf,rfl,hb,ht⟩:=hx;have A':=(gL hb);refine⟨b,rfl,A',?_⟩;have:=kF.frame (M:=M) [b] (m:=[.cells false es cs]) rfl (by simpa using A') (by simp only[AV.aeQ,AV.under,cH hr];rfl) (fun i s hs=>by
  cases i with
  |zero=>simp at hs;subst hs;exact bL hc hb ht
  |succ i=>simp at hs) hn h
 simpa [AV.aeM,AV.ren,aF,bQ hr] using this
theorem gB{v:AV}(ks:List Nat)(n:Nat)(hv:v.closed=true):v.ren (aF ks n)=v:=by have:=bQ (vs:=[v]) (ρ:=aF ks n) (by simp[AV.aeG,hv]);simpa [AV.aeM] using this
theorem kF.agl{v:AV}(hc:AV.aeG cs=true)(hr:AV.aeG rest=true)(hv:v.closed=true)(h:kF P f (.slice 0 0 n none::rest) [.cells false es cs] v [.cells false es cs])(hx:Xi es M x n cs):kF P f (x::rest) M v M:=by obtain⟨b,_,_,h2⟩:=kF.afL (new:=[]) hc hr rfl h hx;simpa [gB _ _ hv] using h2
end
end Go.Eng
namespace Go.Eng
mutual
def AV.same:AV→AV→Bool
 |.undef,.undef=>true
 |.bool a,.bool b=>a==b
 |.int k n,.int k' m=>decide (k=k')&&decide (n=m)
 |.str s,.str t=>s==t
 |.ptr b o,.ptr b' o' =>Nat.beq b b' &&Nat.beq o o'
 |.aeT,.aeT=>true
 |.slice b o n none,.slice b' o' n' none=>Nat.beq b b' &&Nat.beq o o' &&Nat.beq n n'
 |.kK,.kK=>true
 |.map b,.map b' =>Nat.beq b b'
 |.ae0,.ae0=>true
 |.func f cs,.func f' Yf =>Nat.beq f f' &&AV.afw cs Yf
 |.nilFunc,.nilFunc=>true
 |.nilIface,.nilIface=>true
 |.agg cs,.agg Yf =>AV.afw cs Yf
 |.tuple cs,.tuple Yf =>AV.afw cs Yf
 |_,_=>false
def AV.afw:List AV→List AV→Bool
 | [],[]=>true
 |v::vs,w::ws=>AV.same v w&&AV.afw vs ws
 |_,_=>false
end
mutual
theorem AV.agu:∀{v w:AV},AV.same v w=true→v=w
 |.undef,w,h=>by cases w<;>first | rfl | simp[AV.same] at h
 |.bool a,w,h=>by cases w<;>simp[AV.same] at h;rw[h]
 |.int k n,w,h=>by cases w<;>simp[AV.same] at h;rw[h.1,h.2]
 |.str s,w,h=>by cases w<;>simp[AV.same] at h;rw[h]
 |.ptr b o,w,h=>by cases w<;>simp[AV.same] at h;rw[h.1,h.2]
 |.aeT,w,h=>by cases w<;>first | rfl | simp[AV.same] at h
 |.slice b o n c,w,h=>by
  cases w with
  |slice b' o' n' c' =>cases c<;>cases c' <;>simp[AV.same] at h;rw[h.1.1,h.1.2,h.2]
  |_=>cases c<;>simp[AV.same] at h
 |.kK,w,h=>by cases w<;>first | rfl | simp[AV.same] at h
 |.map b,w,h=>by cases w<;>simp[AV.same] at h;rw[h]
 |.ae0,w,h=>by cases w<;>first | rfl | simp[AV.same] at h
 |.yield b,w,h=>by simp[AV.same] at h
 |.func f cs,w,h=>by
  cases w<;>try (simp[AV.same] at h;done)
  simp only[AV.same,Bool.and_eq_true] at h;rw[Nat.eq_of_beq_eq_true h.1,AV.afg h.2]
 |.nilFunc,w,h=>by cases w<;>first | rfl | simp[AV.same] at h
 |.iface t v,w,h=>by simp[AV.same] at h
 |.nilIface,w,h=>by cases w<;>first | rfl | simp[AV.same] at h
 |.agg cs,w,h=>by
  cases w<;>try (simp[AV.same] at h;done)
  simp only[AV.same] at h;rw[AV.afg h]
 |.tuple cs,w,h=>by
  cases w<;>try (simp[AV.same] at h;done)
  simp only[AV.same] at h;rw[AV.afg h]
theorem AV.afg:∀{vs ws:List AV},AV.afw vs ws=true→vs=ws
 | [],[],_=>rfl
 | [],_::_,h=>by simp[AV.afw] at h
 |_::_,[],h=>by simp[AV.afw] at h
 |v::vs,w::ws,h=>by simp only[AV.afw,Bool.and_eq_true] at h;rw[AV.agu h.1,AV.afg h.2]
end
def ob(ks:List Nat) (M:Mem):Nat→Mem→Bool
 |_,[]=>true
 |i,.cells false es cs::r=>(match M[ks.getD i 0]? with
  |some (.cells _ YP Yf)=>Nat.beq es YP &&AV.afw (AV.aeM (aF ks M.length) cs) (Yf.take cs.length)
  |_=>false)&&AV.aeQ ks.length cs&&ob ks M (i+1) r
 |_,_=>false
theorem Bc{ks:List Nat}{M:Mem}:∀{i:Nat}{m:Mem},ob ks M i m=true→∀(j:Nat) s,m[j]? =some s→so ks M (ks.getD (i+j) 0) s
 |_,[],_,j,s,hj=>by simp at hj
 |i,.cells false es cs::r,h,j,s,hj=>by
  unfold ob at h;simp only[Bool.and_eq_true] at h;obtain⟨⟨h1,h2⟩,h3⟩:=h;cases j with
  |zero=>
   simp at hj;subst hj;refine⟨h2,?_⟩;split at h1
   ·rename_i o YP Yf hM
    simp only[Bool.and_eq_true] at h1;obtain⟨e1,e2⟩:=h1;have e1:=Nat.eq_of_beq_eq_true e1;subst e1;refine⟨o,Yf,hM,fun k v hv=>?_⟩;have hk:=(gL hv);have e3:=AV.afg e2;rw[fV] at e3;have:(Yf.take cs.length)[k]? =Yf[k]? :=List.getElem?_take_of_lt hk;rw[←this,←e3,List.getElem?_map,hv];rfl
   ·cases h1
  |succ j=>
   have:=Bc h3 j s (by simpa using hj);rw[show i+(j+1)=i+1+j by omega];exact this
 |i,.kO::r,h,j,s,hj=>by simp[ob] at h
 |i,.cells true es cs::r,h,j,s,hj=>by simp[ob] at h
 |i,.map es::r,h,j,s,hj=>by simp[ob] at h
 |i,.ae8 es::r,h,j,s,hj=>by simp[ob] at h
 |i,.loop l::r,h,j,s,hj=>by simp[ob] at h
structure ae7 where
 f:FuncId
 args:List AV
 m:Mem
 v:AV
 new:Mem
def ae7.ask(e:ae7) (args:List AV) (M:Mem):Option HS:=
 let ks:=tT 0 M 1000 (AV.aeR 0 args) []
 if Nat.beq ks.length e.m.length&&ks.all (fun k=>decide (k<M.length))&&AV.aeQ ks.length e.args&&AV.afw (AV.aeM (aF ks M.length) e.args) args&&ob ks M 0 e.m&&e.new.all (fun s=>s.own||match s with | .kO=>true | _=>false) then
  some ⟨e.v.ren (aF ks M.length),none,e.new.map (aeD.ren (aF ks M.length))⟩ else none
variable{P:Program}
theorem ae7.af2{e:ae7}(h:kF P e.f e.args e.m e.v (e.m++e.new)){args:List AV}{M:Mem}{r:HS}(hr:e.ask args M=some r):mC P (.fn e.f) args M r:=by
 unfold ae7.ask at hr;simp only at hr;split at hr
 ·rename_i hc
  simp only[Bool.and_eq_true] at hc;obtain⟨⟨⟨⟨⟨h1,h2⟩,h3⟩,h4⟩,h5⟩,h6⟩:=hc;cases hr;refine af ?_;have:=kF.frame (M:=M) (tT 0 M 1000 (AV.aeR 0 args) []) (Nat.eq_of_beq_eq_true h1).symm (fun k hk=>by simpa using List.all_eq_true.1 h2 k hk) h3 (fun i s hs=>by simpa using Bc h5 i s hs) h6 h;rw[AV.afg h4] at this;exact this
 ·cases hr
def MC:List ae7→adM
 | [],_,_,_=>none
 |e::es,.fn f,args,M=>if Nat.beq f e.f then (match e.ask args M with
  |some r=>some r
  |none=>MC es (.fn f) args M) else MC es (.fn f) args M
 |_::_,.yld _,_,_=>none
theorem UM:∀{l:List ae7},(∀e∈l,kF P e.f e.args e.m e.v (e.m++e.new))→kP P (MC l):=by
 intro l hl;refine dq fun c args M r h=>?_
 induction l with
 |nil=>simp[MC] at h
 |cons e es ih=>
  have ih:=ih (fun x hx=>hl x (List.mem_cons_of_mem _ hx));cases c with
  |yld b=>simp[MC] at h
  |fn f=>
   unfold MC at h;split at h
   ·rename_i hf
    have hf:=Nat.eq_of_beq_eq_true hf;subst hf;split at h
    ·rename_i r' hr
     cases h;exact ae7.af2 (hl e (List.mem_cons_self ..)) hr
    ·exact ih h
   ·exact ih h
theorem du{T:TypeId→Option TyI}{lv:Code→List Nat}{G:FuncId→Option Func}{O:adM}{K n:Nat}(hm:P.follows .mixedOrders=true)(hT:cJ P T)(hG:afP P G)(hO:kP P O){f:FuncId}{args:List AV}{m:Mem}{v:AV}{new:Mem}(h:(uQ T lv G O K n (.fn f) args m).map (fun r=>(r.v,r.mem m))=some (v,m++new)):kF P f args m v (m++new):=by rw[Option.map_eq_some_iff] at h;obtain⟨r,h1,h2⟩:=h;obtain⟨h3,h4⟩:=Prod.mk.inj h2;have:=(jg hm hT hG hO n).fn _ _ _ _ h1;rw[h3,h4] at this;exact this
end Go.Eng
namespace Go.Eng
open Classical in
noncomputable def gC(S:Callee→List AV→Mem→HS→Prop):adM:=fun c args M=>if h:∃r,S c args M r then some (Classical.choose h) else none
variable{S:Callee→List AV→Mem→HS→Prop}
theorem FD{P:Program}(h:∀c a M r,S c a M r→mC P c a M r):kP P (gC S):=dq fun c a M r hr=>by
 unfold gC at hr;split at hr
 ·rename_i hex
  cases hr;exact h _ _ _ _ (Classical.choose_spec hex)
 ·cases hr
variable{a:List AV}{c:Callee}
theorem DK{M:Mem}(h:∃r,S c a M r):∃r,gC S c a M=some r∧S c a M r:=by refine⟨_,?_,Classical.choose_spec h⟩;unfold gC;rw[dif_pos h]
theorem fh{M:Mem}{r:HS}(h:S c a M r)(hd:∀r',S c a M r' →r' =r):gC S c a M=some r:=by obtain⟨r',h1,h2⟩:=DK ⟨r,h⟩;rw[h1,hd r' h2]
theorem dC(M X:Mem)(k:Nat):(M++X)[M.length+k]? =X[k]? :=by rw[List.getElem?_append_right (by omega)];congr 1;omega
theorem tO(M X:Mem):(M++X)[M.length]? =X[0]? :=dC M X 0
theorem Bb(M X:Mem)(k:Nat)(s:aeD):(M++X).set (M.length+k) s=M++X.set k s:=by rw[List.set_append_right _ _ (by omega)];congr 2;omega
theorem UL(M X:Mem)(s:aeD):(M++X).set M.length s=M++X.set 0 s:=Bb M X 0 s
theorem dz(a b:Nat):(a+b<a)=False:=by rw[eq_iff_iff,iff_false];omega
theorem vg(f:Nat→Bool):∀(i:Nat) (M:Mem),aZ [] i M (bp f i M)=M
 |_,[]=>rfl
 |i,s::M=>by simp[bp,aZ,vg f (i+1) M]
theorem tN(f:Nat→Bool):∀(i:Nat) (M:Mem) (b:Nat),(bp f i M)[b]? =(M[b]?).map fun s=>if f (i+b) then s else .kO
 |_,[],_=>by simp[bp]
 |i,s::M,0=>by simp[bp]
 |i,s::M,b+1=>by simp[bp,tN f (i+1) M b,Nat.add_assoc,Nat.add_comm 1 b]
theorem Dt:∀(i:Nat) (M:Mem),bp (fun _=>true) i M=M
 |_,[]=>rfl
 |i,s::M=>by simp[bp,Dt (i+1) M]
theorem Mz(a b:Nat):(a≤b∧b<a)=False:=by rw[eq_iff_iff,iff_false];omega
theorem xy:∀(i:Nat) (M:Mem),aZ [] i M M=M
 |_,[]=>rfl
 |i,s::M=>by simp[aZ,xy (i+1) M]
end Go.Eng
