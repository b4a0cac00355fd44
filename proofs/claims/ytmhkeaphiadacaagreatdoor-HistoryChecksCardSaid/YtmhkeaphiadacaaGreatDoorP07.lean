/- See P53. -/
import Derived.Test.YtmhkeaphiadacaaGreatDoorP06
set_option linter.all false
namespace Go.Eng
def pw(P:Program) (c:Callee) (args:List AV) (m:Mem) (r:HS):Prop:=
 (match c with
  |.fn f=>mB P f args m r.v (r.mem m)
  |.yld b=>uq P b args m r.v (r.mem m))∧∀q,r.pre=some q→q.length=m.length
open Classical in
theorem vt{P:Program}{ι:Type}(p:ι→Prop)(c:ι→Callee)(a:ι→List AV)(m:ι→Mem)(r:ι→HS)(hs:∀i,p i→pw P (c i) (a i) (m i) (r i))(hc:∀i j,p i→p j→c i=c j→a i=a j→m i=m j→r i=r j):∃O:aac,qS P O∧∀i,p i→O (c i) (a i) (m i)=some (r i):=by
 refine⟨fun c' a' m' =>if h:∃i,p i∧c i=c' ∧a i=a' ∧m i=m' then some (r (Classical.choose h)) else none,?_,fun i hi=>?_⟩
 ·have key:∀c' a' m' r',(if h:∃i,p i∧c i=c' ∧a i=a' ∧m i=m' then some (r (Classical.choose h)) else none)=some r' →pw P c' a' m' r' :=by
   intro c' a' m' r' h;split at h
   ·rename_i ZT
    obtain⟨h1,h2,h3,h4⟩:=Classical.choose_spec ZT;cases h;have:=hs _ h1;rw[h2,h3,h4] at this;exact this
   ·cases h
  exact⟨fun f a' m' r' h=>(key _ _ _ _ h).1,fun b a' m' r' h=>(key _ _ _ _ h).1,fun c' a' m' r' q h hq=>(key _ _ _ _ h).2 q hq⟩
 ·have ZT:∃j,p j∧c j=c i∧a j=a i∧m j=m i:=⟨i,hi,rfl,rfl,rfl⟩
  simp only[dif_pos ZT];obtain⟨h1,h2,h3,h4⟩:=Classical.choose_spec ZT;rw[hc _ _ h1 hi h2 h3 h4]
variable{mem mem' :Mem}
theorem tZ{T:TypeId→Option TyI}{lv:Code→List Nat}{O:aac}{K N m0:Nat}{tp:Bool}{b:Code}{L:List Nat}(XZ:lv b=L){e:Exit}(d0 d1:Bool)(pre:Env→Prop)(post:Env→Env→Prop)(h:∀y',pre y'→∃z',gl L (ab b) y' mem.length (aQ T lv O K N m0 tp b) K ⟨az L (ab b) y' y',mem,d0⟩=some (e,⟨z',mem',d1⟩)∧post y' z'):
  ∃F:Env→Env,∀y',pre y'→aQ T lv O K N m0 tp (.loop b) ⟨y',mem,d0⟩=some (e,⟨F y',mem',d1⟩)∧post y' (F y'):=by
 obtain⟨F,hF⟩:=rq (p:=fun y' _=>pre y') (q:=fun y' _ e' =>aQ T lv O K N m0 tp (.loop b) ⟨y',mem,d0⟩=some (e,⟨e',mem',d1⟩)∧post y' e') (fun y' _ hp=>by obtain⟨z',h1,h2⟩:=h y' hp;exact⟨z',by rw[aR,XZ];exact h1,h2⟩)
 exact⟨fun y'=>F y' true,fun y' hp=>hF y' true hp⟩
attribute [simp] aae.HK
theorem cJ{P:Program}{O:aac}(key:∀c args M r,O c args M=some r→pw P c args M r):qS P O:=
 ⟨fun f args M r h=>(key _ _ _ _ h).1,fun b args M r h=>(key _ _ _ _ h).1,fun c args M r p h hp=>(key _ _ _ _ h).2 p hp⟩
variable{M:Mem}
theorem iG{P:Program}{O:aac}(hO:qS P O){c:Go.Eng.Callee}{args:List AV}{r:HS}(h:O c args M=some r):pw P c args M r:=by
 refine⟨?_,fun q hq=>hO.pre _ _ _ _ _ h hq⟩;cases c with
 |fn f=>exact hO.fn _ _ _ _ h
 |yld b=>exact hO.yld _ _ _ _ h
theorem ak{P:Program}{f:FuncId}{args:List AV}{new:Mem}{v:AV}(h:mB P f args M v (M++new)):pw P (.fn f) args M ⟨v,none,new⟩:=⟨h,fun q hq=>by cases hq⟩
def Ww(s s' :aae):Prop:=s=s' ∨∃o es cs WU,s' =.cells o es cs∧s=.cells o es WU ∧WU <+: cs
section
variable {P:Program}{T:TypeId→Option TyI}{O:aac}{K:Nat}{lv:Code→List Nat}
theorem aaM.abG(hT:cH P T){f:FuncId}{fn:Func}{c:Code}{args:List AV}{R:AV→Mem→Prop}(hf:P.funcs[f]? =some fn)(hb:fn.body=some c)(hn:(fn.name == "runtime.NumGoroutine")=false)(hl:args.length≤fn.ntmps)(h:AWP P true fn.ntmps mem.length c ⟨dE 0 args,mem⟩ fun e IR =>(e=.normal∨e=.ret)∧∃v,jM T fn.results.toList IR.env IR.mem=some v∧R v IR.mem):
  aaM P f args mem R:=by
 refine⟨⟨fn,hf,by simp[hb],hn⟩,fun base μ w Vs hG hH hV=>?_⟩;refine zl.1 (callsIn_of_wp_marks (F:=Fr none) (n:=0) hf hb trivial (wpIn_mono (h none w.heap.size base μ w _ (fun _=>rfl) hH ?_ ?_ (MOk.nil w hG hH.aai (Nat.le_refl _)) (Nat.le_refl _)) ?_) rfl)
 ·intro t
  have:=wO 0 hV t;simp only[Nat.not_lt_zero,if_false,Nat.sub_zero] at this;by_cases ht:t<Vs.length
  ·have e:(⟨Vs⟩++Array.replicate (fn.ntmps-(⟨Vs⟩:Array Value).size) undef:Array Value).getD t undef=Vs.getD t undef:=by simp only[Array.getD_eq_getD_getElem?];rw[Array.getElem?_append_left (by simpa using ht)];simp[List.getD]
   show aab μ mem.length (aa (dE 0 args) t) ((⟨Vs⟩++Array.replicate (fn.ntmps-(⟨Vs⟩:Array Value).size) undef:Array Value).getD t undef)
   rw[e];exact this
  ·have:aa (dE 0 args) t=.undef:=by
    have A':=hV.length;have:∀(vs:List AV) (i:Nat),i+vs.length≤t→aa (dE i vs) t=.undef:=by
     intro vs;induction vs with
     |nil=>intro i _;rfl
     |cons v vs ih=>
      intro i hi;simp only[List.length_cons] at hi;simp only[dE,aa];rw[if_neg (by omega)];exact ih (i+1) (by omega)
    exact this args 0 (by omega)
   show aab μ mem.length (aa (dE 0 args) t) _
   rw[this];simp[aab]
 ·simp only[Array.size_append,List.size_toArray,Array.size_replicate,hV.length];omega
 ·rintro e a' w' ⟨IR,μ',b1,b2,b3,b4,b5,b6,he,v,hv,hR⟩
  have post:LeavesInM (Fr none) 0 P fn a'.tmps (fun e w' =>∃V v mem' μ',e=.returned V∧aab μ' mem'.length v V∧aam base μ' mem' w' ∧Step mem.length μ mem w μ' mem' w' ∧R v mem') a'.defers .returning w' :=by
   refine qQ a'.defers w' b4 b1 b6 fun w2 e1 e2=>?_
   obtain⟨V,k1,k2⟩:=sH (P:=P) (fn:=fn) hT e1 b2 hv;exact⟨V,k1,⟨V,_,_,_,rfl,k2,e1,e2,hR⟩⟩
  rcases he with rfl | rfl
  ·exact post
  ·exact post
def aK(T:TypeId→Option TyI) (lv:Code→List Nat) (G:FuncId→Option Func) (O:aac) (K:Nat) (f:FuncId) (args:List AV) (mem:Mem):Option (AV×Mem):=
 match G f with
 |none=>none
 |some fn=>match fn.body with
  |none=>none
  |some c=>
   if args.length≤fn.ntmps then
    match aQ T lv O K fn.ntmps mem.length true c ⟨dE 0 args,mem,false⟩ with
    |some (e,s)=>
     match e with
     |.normal | .ret=>
      match jM T fn.results.toList s.env s.mem with
      |some v=>some (v,s.mem)
      |none=>none
     |_=>none
    |none=>none
   else none
theorem bn(hm:P.follows .mixedOrders=true)(hT:cH P T)(hO:qS P O){G:FuncId→Option Func}(hG:abw P G){f:FuncId}{args:List AV}{v:AV}(h:aK T lv G O K f args mem=some (v,mem')):mB P f args mem v mem' :=by
 unfold aK at h;split at h
 ·cases h
 ·rename_i fn hfn
  obtain⟨g1,g2,g3⟩:=hG.fn _ _ hfn;split at h
  ·cases h
  ·rename_i c hb
   split at h
   ·rename_i hl
    split at h
    ·rename_i e s he
     obtain⟨a1,_⟩:=dz hm hT hO (g3 c hb) he;have main:(e=.normal∨e=.ret)→(match jM T fn.results.toList s.env s.mem with
      |some v=>some (v,s.mem)
      |none=>none)=some (v,mem')→mB P f args mem v mem' :=by
      intro hen h;split at h
      ·rename_i v hv
       cases h;exact aaM.abG hT g1 hb g2 hl (a1 _ ⟨hen,_,hv,rfl,rfl⟩)
      ·cases h
     split at h
     ·exact main (.inl rfl) h
     ·exact main (.inr rfl) h
     ·cases h
    ·cases h
   ·cases h
end
end Go.Eng
namespace Go.Eng
def Ue(es:Nat) (M:Mem) (x:AV) (n:Nat) (cs:List AV):Prop:=∃b o WU,x=.slice b 0 n none∧M[b]? =some (.cells o es WU)∧WU.take cs.length=cs
def J8(es:Nat) (M:Mem):AV→Option (List AV)
 |.slice b 0 n none=>match M[b]? with
  |some (.cells _ Xt cs)=>if Xt =es∧n*es≤cs.length then some (cs.take (n*es)) else none
  |_=>none
 |.kO=>some []
 |_=>none
variable{b es n:Nat}{cs WU :List AV}{o:Bool}
theorem J9{M:Mem}(h:M[b]? =some (.cells o es WU))(hn:n*es≤WU.length)(hc:WU.take (n*es)=cs):J8 es M (.slice b 0 n none)=some cs:=by simp[J8,h,hn,hc]
theorem MS{M:Mem}{x:AV}(h:J8 es M x=some cs):(∃n,cs.length=n*es∧Ue es M x n cs)∨(x=.kO∧cs=[]):=by
 unfold J8 at h;split at h
 ·rename_i b n
  split at h
  ·rename_i o Xt WU hb
   split at h
   ·rename_i hc
    obtain⟨rfl,hn⟩:=hc;cases h;have hl:(WU.take (n*Xt)).length=n*Xt :=by rw[List.length_take];omega
    exact .inl ⟨n,hl,b,o,WU,rfl,hb,by rw[hl]⟩
   ·cases h
  ·cases h
 ·cases h;exact .inr ⟨rfl,rfl⟩
 ·cases h
theorem aV{ks:List Nat}{M:Mem}(hc:AV.aag cs=true)(h:M[b]? =some (.cells o es WU))(ht:WU.take cs.length=cs):vK ks M b (.cells false es cs):=by
 refine⟨bB hc,o,WU,h,fun j v hv=>?_⟩;have hj:=(List.getElem?_eq_some_iff.1 hv).1;have h1:WU[j]? =cs[j]? :=by have:(WU.take cs.length)[j]? =WU[j]? :=List.getElem?_take_of_lt hj;rw[←this,ht]
 have hr:=bR (ρ:=dr ks M.length) hc;rw[fN] at hr;have WR:(cs.map (AV.ren (dr ks M.length)))[j]? =cs[j]? :=by rw[hr]
 rw[List.getElem?_map,hv] at WR;rw[h1,hv];exact WR.symm
variable{X8 rest:List AV}{es2 n2:Nat}
section
variable {P:Program}{f:FuncId}{M:Mem}{x y:AV}
section
variable{v:AV}{new:Mem}(hc:AV.aag cs=true)
include v new hc
theorem mB.abu(hr:AV.aag rest=true)(hn:new.all (fun s=>s.own||match s with | .qF=>true | _=>false)=true)(h:mB P f (.slice 0 0 n none::rest) [.cells false es cs] v (.cells false es cs::new))(hx:Ue es M x n cs):
  ∃b,x=.slice b 0 n none∧b<M.length∧mB P f (x::rest) M (v.ren (dr [b] M.length)) (M++new.map (aae.ren (dr [b] M.length))):=by
 obtain⟨b,o,WU,rfl,hb,ht⟩:=hx;have AC:=(List.getElem?_eq_some_iff.1 hb).1;refine⟨b,rfl,AC,?_⟩;have:=mB.frame (M:=M) [b] (m:=[.cells false es cs]) rfl (by simpa using AC) (by simp only[AV.aah,AV.under,bB hr];rfl) (fun i s hs=>by
  cases i with
  |zero=>simp at hs;subst hs;exact aV hc hb ht
  |succ i=>simp at hs) hn h
 simpa [AV.aal,AV.ren,dr,bR hr] using this
theorem mB.acD(hc2:AV.aag X8=true)(hr:AV.aag rest=true)(hn:new.all (fun s=>s.own||match s with | .qF=>true | _=>false)=true)(h:mB P f (.slice 0 0 n none::.slice 1 0 n2 none::rest) [.cells false es cs,.cells false es2 X8] v (.cells false es cs::.cells false es2 X8::new))(hx:Ue es M x n cs)(hy:Ue es2 M y n2 X8):
  ∃b c,x=.slice b 0 n none∧y=.slice c 0 n2 none∧b<M.length∧c<M.length∧mB P f (x::y::rest) M (v.ren (dr [b,c] M.length)) (M++new.map (aae.ren (dr [b,c] M.length))):=by
 obtain⟨b,o,WU,rfl,hb,ht⟩:=hx;obtain⟨c,o',cs2',rfl,hcc,XX⟩:=hy;have AC:=(List.getElem?_eq_some_iff.1 hb).1;have WD :=(List.getElem?_eq_some_iff.1 hcc).1;refine⟨b,c,rfl,rfl,AC,WD,?_⟩;have:=mB.frame (M:=M) [b,c] (m:=[.cells false es cs,.cells false es2 X8]) rfl (by simp[AC,WD]) (by simp only[AV.aah,AV.under,bB hr];rfl) (fun i s hs=>by
  match i with
  |0=>simp at hs;subst hs;exact aV hc hb ht
  |1=>simp at hs;subst hs;exact aV hc2 hcc XX
  |i+2=>simp at hs) hn h
 simpa [AV.aal,AV.ren,dr,bR hr] using this
end
theorem rm{v:AV}(ks:List Nat)(n:Nat)(hv:v.closed=true):v.ren (dr ks n)=v:=by have:=bR (vs:=[v]) (ρ:=dr ks n) (by simp[AV.aag,hv]);simpa [AV.aal] using this
theorem mB.ab0{v:AV}(hc:AV.aag cs=true)(hr:AV.aag rest=true)(hv:v.closed=true)(h:mB P f (.slice 0 0 n none::rest) [.cells false es cs] v [.cells false es cs])(hx:Ue es M x n cs):mB P f (x::rest) M v M:=by obtain⟨b,_,_,h2⟩:=mB.abu (new:=[]) hc hr rfl h hx;simpa [rm _ _ hv] using h2
theorem mB.abH{v:AV}(hc:AV.aag cs=true)(hc2:AV.aag X8=true)(hr:AV.aag rest=true)(hv:v.closed=true)(h:mB P f (.slice 0 0 n none::.slice 1 0 n2 none::rest) [.cells false es cs,.cells false es2 X8] v [.cells false es cs,.cells false es2 X8])(hx:Ue es M x n cs)(hy:Ue es2 M y n2 X8):mB P f (x::y::rest) M v M:=by obtain⟨b,c,_,_,_,_,h2⟩:=mB.acD (new:=[]) hc hc2 hr rfl h hx hy;simpa [rm _ _ hv] using h2
end
end Go.Eng
namespace Go.Eng
mutual
def AV.same:AV→AV→Bool
 |.undef,.undef=>true
 |.bool a,.bool b=>a==b
 |.int k n,.int k' m=>decide (k=k')&&decide (n=m)
 |.str s,.str t=>s==t
 |.ptr b o,.ptr b' o' =>Nat.beq b b' &&Nat.beq o o'
 |.aar,.aar=>true
 |.slice b o n none,.slice b' o' n' none=>Nat.beq b b' &&Nat.beq o o' &&Nat.beq n n'
 |.kO,.kO=>true
 |.map b,.map b' =>Nat.beq b b'
 |.aau,.aau=>true
 |.func f cs,.func f' WU =>Nat.beq f f' &&AV.abc cs WU
 |.nilFunc,.nilFunc=>true
 |.nilIface,.nilIface=>true
 |.agg cs,.agg WU =>AV.abc cs WU
 |.tuple cs,.tuple WU =>AV.abc cs WU
 |_,_=>false
def AV.abc:List AV→List AV→Bool
 | [],[]=>true
 |v::vs,w::ws=>AV.same v w&&AV.abc vs ws
 |_,_=>false
end
mutual
theorem AV.ab8:∀{v w:AV},AV.same v w=true→v=w
 |.undef,w,h=>by cases w<;>first | rfl | simp[AV.same] at h
 |.bool a,w,h=>by cases w<;>simp[AV.same] at h;rw[h]
 |.int k n,w,h=>by cases w<;>simp[AV.same] at h;rw[h.1,h.2]
 |.str s,w,h=>by cases w<;>simp[AV.same] at h;rw[h]
 |.ptr b o,w,h=>by cases w<;>simp[AV.same] at h;rw[h.1,h.2]
 |.aar,w,h=>by cases w<;>first | rfl | simp[AV.same] at h
 |.slice b o n c,w,h=>by
  cases w with
  |slice b' o' n' c' =>cases c<;>cases c' <;>simp[AV.same] at h;rw[h.1.1,h.1.2,h.2]
  |_=>cases c<;>simp[AV.same] at h
 |.kO,w,h=>by cases w<;>first | rfl | simp[AV.same] at h
 |.map b,w,h=>by cases w<;>simp[AV.same] at h;rw[h]
 |.aau,w,h=>by cases w<;>first | rfl | simp[AV.same] at h
 |.yield b,w,h=>by simp[AV.same] at h
 |.func f cs,w,h=>by
  cases w<;>try (simp[AV.same] at h;done)
  simp only[AV.same,Bool.and_eq_true] at h;rw[Nat.eq_of_beq_eq_true h.1,AV.aaW h.2]
 |.nilFunc,w,h=>by cases w<;>first | rfl | simp[AV.same] at h
 |.iface t v,w,h=>by simp[AV.same] at h
 |.nilIface,w,h=>by cases w<;>first | rfl | simp[AV.same] at h
 |.agg cs,w,h=>by
  cases w<;>try (simp[AV.same] at h;done)
  simp only[AV.same] at h;rw[AV.aaW h]
 |.tuple cs,w,h=>by
  cases w<;>try (simp[AV.same] at h;done)
  simp only[AV.same] at h;rw[AV.aaW h]
theorem AV.aaW:∀{vs ws:List AV},AV.abc vs ws=true→vs=ws
 | [],[],_=>rfl
 | [],_::_,h=>by simp[AV.abc] at h
 |_::_,[],h=>by simp[AV.abc] at h
 |v::vs,w::ws,h=>by simp only[AV.abc,Bool.and_eq_true] at h;rw[AV.ab8 h.1,AV.aaW h.2]
end
def oF(ks:List Nat) (M:Mem):Nat→Mem→Bool
 |_,[]=>true
 |i,.cells false es cs::r=>(match M[ks.getD i 0]? with
  |some (.cells _ Xt WU)=>Nat.beq es Xt &&AV.abc (AV.aal (dr ks M.length) cs) (WU.take cs.length)
  |_=>false)&&AV.aah ks.length cs&&oF ks M (i+1) r
 |_,_=>false
theorem Bh{ks:List Nat}{M:Mem}:∀{i:Nat}{m:Mem},oF ks M i m=true→∀(j:Nat) s,m[j]? =some s→vK ks M (ks.getD (i+j) 0) s
 |_,[],_,j,s,hj=>by simp at hj
 |i,.cells false es cs::r,h,j,s,hj=>by
  unfold oF at h;simp only[Bool.and_eq_true] at h;obtain⟨⟨h1,h2⟩,h3⟩:=h;cases j with
  |zero=>
   simp at hj;subst hj;refine⟨h2,?_⟩;split at h1
   ·rename_i o Xt WU hM
    simp only[Bool.and_eq_true] at h1;obtain⟨e1,e2⟩:=h1;have e1:=Nat.eq_of_beq_eq_true e1;subst e1;refine⟨o,WU,hM,fun k v hv=>?_⟩;have hk:=(List.getElem?_eq_some_iff.1 hv).1;have e3:=AV.aaW e2;rw[fN] at e3;have:(WU.take cs.length)[k]? =WU[k]? :=List.getElem?_take_of_lt hk;rw[←this,←e3,List.getElem?_map,hv];rfl
   ·cases h1
  |succ j=>
   have:=Bh h3 j s (by simpa using hj);rw[show i+(j+1)=i+1+j by omega];exact this
 |i,.qF::r,h,j,s,hj=>by simp[oF] at h
 |i,.cells true es cs::r,h,j,s,hj=>by simp[oF] at h
 |i,.map es::r,h,j,s,hj=>by simp[oF] at h
 |i,.aaF es::r,h,j,s,hj=>by simp[oF] at h
 |i,.loop l::r,h,j,s,hj=>by simp[oF] at h
structure aaK where
 f:FuncId
 args:List AV
 m:Mem
 v:AV
 new:Mem
def aaK.ask(e:aaK) (args:List AV) (M:Mem):Option HS:=
 let ks:=uf 0 M 1000 (AV.aas 0 args) []
 if Nat.beq ks.length e.m.length&&ks.all (fun k=>decide (k<M.length))&&AV.aah ks.length e.args&&AV.abc (AV.aal (dr ks M.length) e.args) args&&oF ks M 0 e.m&&e.new.all (fun s=>s.own||match s with | .qF=>true | _=>false) then
  some ⟨e.v.ren (dr ks M.length),none,e.new.map (aae.ren (dr ks M.length))⟩ else none
variable{P:Program}
theorem aaK.abI{e:aaK}(h:mB P e.f e.args e.m e.v (e.m++e.new)){args:List AV}{M:Mem}{r:HS}(hr:e.ask args M=some r):pw P (.fn e.f) args M r:=by
 unfold aaK.ask at hr;simp only at hr;split at hr
 ·rename_i hc
  simp only[Bool.and_eq_true] at hc;obtain⟨⟨⟨⟨⟨h1,h2⟩,h3⟩,h4⟩,h5⟩,h6⟩:=hc;cases hr;refine ak ?_;have:=mB.frame (M:=M) (uf 0 M 1000 (AV.aas 0 args) []) (Nat.eq_of_beq_eq_true h1).symm (fun k hk=>by simpa using List.all_eq_true.1 h2 k hk) h3 (fun i s hs=>by simpa using Bh h5 i s hs) h6 h;rw[AV.aaW h4] at this;exact this
 ·cases hr
def M7:List aaK→aac
 | [],_,_,_=>none
 |e::es,.fn f,args,M=>if Nat.beq f e.f then (match e.ask args M with
  |some r=>some r
  |none=>M7 es (.fn f) args M) else M7 es (.fn f) args M
 |_::_,.yld _,_,_=>none
theorem TV:∀{l:List aaK},(∀e∈l,mB P e.f e.args e.m e.v (e.m++e.new))→qS P (M7 l):=by
 intro l hl;refine cJ fun c args M r h=>?_
 induction l with
 |nil=>simp[M7] at h
 |cons e es ih=>
  have ih:=ih (fun x hx=>hl x (List.mem_cons_of_mem _ hx));cases c with
  |yld b=>simp[M7] at h
  |fn f=>
   unfold M7 at h;split at h
   ·rename_i hf
    have hf:=Nat.eq_of_beq_eq_true hf;subst hf;split at h
    ·rename_i r' hr
     cases h;exact aaK.abI (hl e (List.mem_cons_self ..)) hr
    ·exact ih h
   ·exact ih h
theorem bU{T:TypeId→Option TyI}{lv:Code→List Nat}{G:FuncId→Option Func}{O:aac}{K n:Nat}(hm:P.follows .mixedOrders=true)(hT:cH P T)(hG:abw P G)(hO:qS P O){f:FuncId}{args:List AV}{m:Mem}{v:AV}{new:Mem}(h:(ow T lv G O K n (.fn f) args m).map (fun r=>(r.v,r.mem m))=some (v,m++new)):mB P f args m v (m++new):=by rw[Option.map_eq_some_iff] at h;obtain⟨r,h1,h2⟩:=h;obtain⟨h3,h4⟩:=Prod.mk.inj h2;have:=(kq hm hT hG hO n).fn _ _ _ _ h1;rw[h3,h4] at this;exact this
end Go.Eng
namespace Go.Eng
open Classical in
noncomputable def fS(S:Callee→List AV→Mem→HS→Prop):aac:=fun c args M=>if h:∃r,S c args M r then some (Classical.choose h) else none
variable{S:Callee→List AV→Mem→HS→Prop}
theorem vz{P:Program}(h:∀c a M r,S c a M r→pw P c a M r):qS P (fS S):=cJ fun c a M r hr=>by
 unfold fS at hr;split at hr
 ·rename_i ZT
  cases hr;exact h _ _ _ _ (Classical.choose_spec ZT)
 ·cases hr
variable{a:List AV}{c:Callee}
theorem DN{M:Mem}(h:∃r,S c a M r):∃r,fS S c a M=some r∧S c a M r:=by refine⟨_,?_,Classical.choose_spec h⟩;unfold fS;rw[dif_pos h]
theorem eY{M:Mem}{r:HS}(h:S c a M r)(hd:∀r',S c a M r' →r' =r):fS S c a M=some r:=by obtain⟨r',h1,h2⟩:=DN ⟨r,h⟩;rw[h1,hd r' h2]
theorem dO(M X:Mem)(k:Nat):(M++X)[M.length+k]? =X[k]? :=by rw[List.getElem?_append_right (by omega)];congr 1;omega
theorem FE(M X:Mem):(M++X)[M.length]? =X[0]? :=dO M X 0
theorem mem_set(M X:Mem)(k:Nat)(s:aae):(M++X).set (M.length+k) s=M++X.set k s:=by rw[List.set_append_right _ _ (by omega)];congr 2;omega
theorem TU(M X:Mem)(s:aae):(M++X).set M.length s=M++X.set 0 s:=mem_set M X 0 s
theorem bK(a b:Nat):(a+b<a)=False:=by rw[eq_iff_iff,iff_false];omega
theorem vl(f:Nat→Bool):∀(i:Nat) (M:Mem),bh [] i M (bD f i M)=M
 |_,[]=>rfl
 |i,s::M=>by simp[bD,bh,vl f (i+1) M]
theorem ua(f:Nat→Bool):∀(i:Nat) (M:Mem) (b:Nat),(bD f i M)[b]? =(M[b]?).map fun s=>if f (i+b) then s else .qF
 |_,[],_=>by simp[bD]
 |i,s::M,0=>by simp[bD]
 |i,s::M,b+1=>by simp[bD,ua f (i+1) M b,Nat.add_assoc,Nat.add_comm 1 b]
theorem Dy:∀(i:Nat) (M:Mem),bD (fun _=>true) i M=M
 |_,[]=>rfl
 |i,s::M=>by simp[bD,Dy (i+1) M]
theorem M3(a b:Nat):(a≤b∧b<a)=False:=by rw[eq_iff_iff,iff_false];omega
theorem xI:∀(i:Nat) (M:Mem),bh [] i M M=M
 |_,[]=>rfl
 |i,s::M=>by simp[bh,xI (i+1) M]
end Go.Eng
