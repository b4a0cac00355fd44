/- See B54. -/
import Derived.Test.YtffdedmakncfmaaGreatDoorB04
import Derived.Maps.RangeRun
set_option linter.all false
namespace Go.Eng
theorem W5:iZ []=[]:=rfl
theorem rB(n:Int)(l:List Int):iZ (n::l)=.int .i64 n::iZ l:=rfl
theorem SJ(l:List Int):(iZ l).length=l.length:=by simp[iZ]
theorem Cc(l r:List Int):iZ (l++r)=iZ l++iZ r:=by simp[iZ]
theorem VN(l:List Int)(i:Nat):(iZ l)[i]? =(l[i]?).map fun n=>.int .i64 n:=by simp[iZ]
theorem QQ(l:List Int)(i:Nat)(h:i<(iZ l).length):(iZ l)[i]=.int .i64 (l[i]'(by simpa [iZ] using h)):=by simp[iZ]
theorem Wi(l:List Int)(i:Nat):(iZ l).take i=iZ (l.take i):=by simp[iZ]
theorem Wh(l:List Int)(i:Nat):(iZ l).drop i=iZ (l.drop i):=by simp[iZ]
theorem W4(l:List Int):(iZ l).all AV.ae9=true:=by simp[iZ,AV.ae9]
theorem GU(m:Nat)(l:List Int):AV.afm m (iZ l)=[]:=by
 induction l with
 |nil=>rfl
 |cons x l ih=>simp[rB,AV.afm,AV.refs,ih]
theorem CR(ρ:Nat→Option Nat)(l:List Int):AV.afp ρ (iZ l)=iZ l:=by
 induction l with
 |nil=>rfl
 |cons x l ih=>simp[rB,AV.afp,AV.ren,ih]
theorem LZ(m:Nat)(l:List Int):AV.afd m (iZ l)=true:=by
 induction l with
 |nil=>rfl
 |cons x l ih=>simp[rB,AV.afd,AV.under,ih]
theorem EX(ok:Nat→Bool)(l:List Int):AV.afa ok (iZ l)=true:=by
 induction l with
 |nil=>rfl
 |cons x l ih=>simp[rB,AV.afa,AV.ae6,ih]
theorem LL(m:Nat)(o:Bool)(e:Nat)(l:List Int):afb.refs m (.cells o e (iZ l))=[]:=by simp[afb.refs,GU]
theorem Oe(ρ:Nat→Option Nat)(o:Bool)(e:Nat)(l:List Int):afb.ren ρ (.cells o e (iZ l))=.cells o e (iZ l):=by simp[afb.ren,CR]
theorem Ei(ok:Nat→Bool)(o:Bool)(e:Nat)(l:List Int):afb.ae6 ok (.cells o e (iZ l))=true:=by simp[afb.ae6,EX]
theorem OQ(l:List Int)(i:Nat)(n:Int)(h:i<l.length):(iZ l).take i++.int .i64 n::(iZ l).drop (i+1)=iZ (l.set i n):=by rw[Wi,Wh,←rB,←Cc,List.set_eq_take_append_cons_drop,if_pos h]
theorem SK(l:Nat):fD [.int .i64 0] l=iZ (List.replicate l 0):=by
 induction l with
 |zero=>rfl
 |succ l ih=>rw[fD,ih,List.replicate_succ,rB];rfl
theorem XD(l:List Nat):iN .i64 l=iZ (l.map fun n:Nat=>(n:Int)):=by simp[iN,iZ]
attribute [simp] W5 SJ VN QQ GU CR LZ EX LL Oe Ei W4
def yS:List AV→Option (List Int)
 | []=>some []
 |.int .i64 n::l=>match yS l with
  |some r=>some (n::r)
  |none=>none
 |_::_=>none
theorem SQ(l:List Int):yS (iZ l)=some l:=by
 induction l with
 |nil=>rfl
 |cons x l ih=>rw[rB,yS,ih]
theorem Cd:∀{l:List AV} {r:List Int},yS l=some r→l=iZ r
 | [],r,h=>by cases h;rfl
 |v::l,r,h=>by
  cases v<;>first | (unfold yS at h;cases h;done) | skip
  rename_i Z n;cases Z <;>first | (unfold yS at h;cases h;done) | skip
  unfold yS at h;split at h
  ·rename_i V X
   cases h;rw[rB,Cd X]
  ·cases h
def Xr(M:Mem)(x:AV)(A:List Int):Prop:=∃b o Z,x=.slice b 0 A.length none∧M[b]? =some (.cells o 1 Z)∧Z.take A.length=iZ A
def zd(M:Mem):AV→Option (List Int)
 |.slice b 0 n none=>match M[b]? with
  |some (.cells _ 1 cs)=>if n≤cs.length then yS (cs.take n) else none
  |_=>none
 |_=>none
theorem Oo{M:Mem}{x:AV}{A:List Int}(h:zd M x=some A):Xr M x A:=by
 unfold zd at h;split at h
 ·rename_i b n
  split at h
  ·rename_i o X V
   split at h
   ·rename_i S
    have Z:=Cd h;have U:n=A.length:=by have:=congrArg List.length Z;simp at this;omega
    subst U;exact⟨b,o,X,rfl,V,Z⟩
   ·cases h
  ·cases h
 ·cases h
variable{b:Nat}{cs:List AV}
theorem CY{M:Mem}{n:Nat}{ow:Bool}{A:List Int}(h:M[b]? =some (.cells ow 1 cs))(y:n≤cs.length)(H:cs.take n=iZ A):zd M (.slice b 0 n none)=some A:=by simp only[zd,h];rw[if_pos y,H,SQ]
theorem afM.ahL{ks:List Nat}{M:Mem}{o:Bool}{A:List Int}(h:M[b]? =some (.cells o 1 cs))(y:cs.take A.length=iZ A):afM ks M b (.cells false 1 (iZ A)):=by
 refine⟨LZ _ _,o,cs,h,fun j v Z=>?_⟩;have X:j<A.length:=by have:=gL Z;simpa using this
 have:cs[j]? =(iZ A)[j]? :=by rw[←y,List.getElem?_take_of_lt X]
 rw[this,Z];rw[VN] at Z;simp only[Option.map_eq_some_iff] at Z;obtain⟨n,_,rfl⟩:=Z;simp[AV.ren]
section
variable {P:Program}{f:FuncId}{A B:List Int}{M:Mem}{x y:AV}
theorem kO.ahj{rest:List AV}{v:AV}{new:Mem}(hr:AV.ae8 rest=true)(H:new.all (fun s=>s.own||match s with | .qK=>true | _=>false)=true)(h:kO P f (.slice 0 0 A.length none::rest) [.cells false 1 (iZ A)] v (.cells false 1 (iZ A)::new))(I:Xr M x A):
  ∃b,x=.slice b 0 A.length none∧kO P f (x::rest) M (v.ren (eL [b] M.length)) (M++new.map (afb.ren (eL [b] M.length))):=by
 obtain⟨b,o,cs,rfl,X,V⟩:=I;refine⟨b,rfl,?_⟩;have U:=gL X;have:=kO.frame (M:=M) [b] (m:=[.cells false 1 (iZ A)]) rfl (by simpa using U) (by simp only[AV.afd,AV.under,aX hr];rfl) (fun i s Z=>by
  cases i with
  |zero=>simp at Z;subst Z;exact .ahL X V
  |succ i=>simp at Z) H h
 simpa [AV.afp,AV.ren,eL,aM hr] using this
end
end Go.Eng
namespace Go.Eng
def dS(y:List Nat)(j:Nat):Bool:=(List.range j).all fun i=>bef y i j
def bl(y:Bool)(H:List Nat)(j:Nat)(r:Rec):Bool:=
 decide (r.nx.length=r.mem.length)&&r.v.ae6 (fun b=>decide (b<r.nx.length))&&
  (if y then dS H j&&r.wr.all (fun b=>eO r.tm b&&(match r.nx[b]? with | some s=>s.ae6 (fun b=>decide (b<r.nx.length)) | none=>true)) else r.wr.isEmpty)
def aZ(y:List Nat):Nat→List Rec→Bool
 |_,[]=>true
 |j,[r]=>bl true y j r
 |j,r::r2::rest=>bl false y j r&&aZ y (j+1) (r2::rest)
def bm(T:TypeId→Option TyI)(O:ae3)(N m0:Nat)(ops:Array Oper)(y:List Nat)(s:XS):Option XS:=
 match mP T O N ops y 0 ops.toList s.env s.mem [] with
 |none=>none
 |some (R,env,mem)=>
  if aZ y 0 R then some ⟨env,mem,s.afv||R.any fun r=>r.wr.any fun b=>decide (b<m0)⟩ else none
def pw(T:TypeId→Option TyI)(O:ae3)(N m0:Nat)(ops:Array Oper)(s:XS):Option XS:=aK T O N m0 ops s
theorem iH:∀{j0:Nat} {R:List Rec} {f:Nat×Rec},f∈br j0 R→j0≤f.1∧f.1<j0+R.length
 |_,[],f,h=>by simp[br] at h
 |j0,r::R,f,h=>by
  simp only[br,List.mem_cons] at h;rcases h with rfl | h
  ·simp
  ·have:=iH h
   simp only[List.length_cons];omega
structure agk (bs:List Nat)(n:Nat)(f:Nat×Rec):Prop where
 len:f.2.nx.length=f.2.mem.length
 refs:f.2.v.ae6 (fun b=>decide (b<f.2.nx.length))=true
 wr:f.2.wr=[]∨(f.1+1=n∧(∀i,i<f.1→bef bs i f.1=true)∧f.2.wr.all (fun b=>eO f.2.tm b&&(match f.2.nx[b]? with | some s=>s.ae6 (fun b=>decide (b<f.2.nx.length)) | none=>true))=true)
theorem wq{y:List Nat}:∀{j0:Nat} {R:List Rec},aZ y j0 R=true→∀f∈br j0 R,agk y (j0+R.length) f
 |_,[],_,f,hf=>by simp[br] at hf
 |j0,[r],h,f,hf=>by simp only[br,lM] at hf;subst hf;simp only[aZ,bl,Bool.and_eq_true,decide_eq_true_eq,if_true] at h;obtain⟨⟨Z,X⟩,h3,V⟩:=h;exact⟨Z,X,.inr ⟨rfl,fun i U=>List.all_eq_true.1 h3 i (List.mem_range.2 U),V⟩⟩
 |j0,r::r2::rest,h,f,hf=>by
  simp only[aZ,Bool.and_eq_true] at h;rw[br,List.mem_cons] at hf;rcases hf with rfl | hf
  ·have Z:=h.1
   simp only[bl,Bool.and_eq_true,decide_eq_true_eq,Bool.false_eq_true,if_false,List.isEmpty_iff] at Z;obtain⟨⟨Z,X⟩,h3⟩:=Z;exact⟨Z,X,.inl h3⟩
  ·have:=wq h.2 f hf
   have e:j0+1+(r2::rest).length=j0+(r::r2::rest).length:=by simp only[List.length_cons];omega
   rw[e] at this;exact this
variable{bs:List Nat}
theorem N4{n top:Nat}{un:List (Nat×Rec)}(h:∀f∈un,agk bs n f):iy top un=fun b=>decide (b<top):=by
 funext b;unfold iy;have:(un.all fun f=> !decide (f.2.mem.length≤b∧b<f.2.nx.length))=true:=List.all_eq_true.2 fun f Z=>by have:=(h f Z).len;simp;omega
 rw[this,Bool.and_true]
theorem D8{R:List Rec}(h:aZ bs 0 R=true){f:Nat×Rec}(hf:f∈br 0 R):iq bs (br 0 R) f.1 f.2=true:=by
 have L:=wq h;have X:=L f hf;have G:=iH hf;unfold iq;have V:∀g∈(br 0 R).filter (fun g=>decide (g.1<f.1)&& !bef bs g.1 f.1),agk bs (0+R.length) g:=fun g U=>L g ((List.mem_filter.1 U).1)
 simp only[N4 V,Bool.and_eq_true];have K:f.2.nx.drop f.2.mem.length=[]:=List.drop_of_length_le (by rw[X.len];exact Nat.le_refl _);refine⟨⟨⟨⟨?_,X.refs⟩,?_⟩,by rw[K];rfl⟩,?_⟩
 ·rcases X.wr with Z | ⟨_,_,Z⟩
  ·rw[Z];rfl
  ·refine List.all_eq_true.2 fun b O=>?_
   have:=List.all_eq_true.1 Z b O;simp only[Bool.and_eq_true] at this;exact this.1
 ·rcases X.wr with Z | ⟨_,_,Z⟩
  ·rw[Z];rfl
  ·refine List.all_eq_true.2 fun b O=>?_
   have:=List.all_eq_true.1 Z b O;simp only[Bool.and_eq_true] at this;exact this.2
 ·refine List.all_eq_true.2 fun g U=>?_
  have S:=V g U;have Q:=List.mem_filter.1 U;simp only[Bool.and_eq_true,decide_eq_true_eq,Bool.not_eq_true'] at Q;have N:g.2.wr=[]:=by
   rcases S.wr with Z | ⟨Z,_,_⟩
   ·exact Z
   ·have:=iH ((List.mem_filter.1 U).1)
    omega
  have M:f.2.wr=[]:=by
   rcases X.wr with Z | ⟨_,Z,_⟩
   ·exact Z
   ·rw[Z g.1 Q.2.1] at Q
    exact absurd Q.2.2 (by simp)
  rw[N,M,S.len,Nat.sub_self,List.take_zero];rfl
variable{ops:Array Oper}
theorem aq{T:TypeId→Option TyI}{O:ae3}{N m0:Nat}(y:dW ops.toList=bs)(s:XS):
  aK T O N m0 ops s=match bm T O N m0 ops bs s with
   |some s' =>some s'
   |none=>pw T O N m0 ops s:=by
 cases h:bm T O N m0 ops bs s with
 |none=>rfl
 |some s' =>
  simp only;unfold bm at h;unfold aK;simp only;rw[y];split at h
  ·cases h
  ·rename_i R env mem Z
   split at h
   ·rename_i X
    cases h;rw[Z];simp only;rw[if_pos (List.all_eq_true.2 fun f V=>D8 X V)]
   ·cases h
def bU:Code→List (Array Oper)
 |.region _ ops true=>[ops]
 |.seq a b=>bU a++bU b
 |.cond _ a b=>bU a++bU b
 |.block _ b=>bU b
 |.loop b=>bU b
 |.rangeFunc _ _ a b=>bU a++bU b
 |_=>[]
def aJ(f:Func):List (Array Oper):=match f.body with
 |some c=>bU c
 |none=>[]
variable{f:Func}{l:List Nat}
theorem nh(h:aJ f=[ops])(y:(aJ f).map (fun o=>dW o.toList)=[l]):dW ops.toList=l:=by rw[h] at y;simpa using y
theorem cD{j:Nat}(h:aJ f=[ops])(y:(aJ f).map (fun o=>dW o.toList)=[l])(H:dS l j=true):dW ops.toList=l∧dS l j=true:=⟨nh h y,H⟩
theorem KQ{o o' :Array Oper}{l' :List Nat}(h:aJ f=[o,o'])(y:(aJ f).map (fun o=>dW o.toList)=[l,l']):dW o.toList=l∧dW o'.toList=l' :=by rw[h] at y;simpa using y
theorem cw{os:List (Array Oper)}{ls:List (List Nat)}(h:aJ f=os)(y:(aJ f).map (fun o=>dW o.toList)=ls):os.map (fun o=>dW o.toList)=ls:=by rw[←h];exact y
end Go.Eng
namespace Go.Eng
open Go.ChangeMaps (setBlock)
variable{w' :World}
section
variable {P:Program}{T:TypeId→Option TyI}{μ:Nat→Place}{mem:Mem}{base:Nat}{w:World}
theorem yZ(y:afj base μ mem w){r:Nat}{m s seen c}(hr:w.heap[r]? =some (.mapIter m s seen c)){b:Nat}{s' :afb}(H:mem[b]? =some s')(hs:s' ≠ .qK):(μ b).blk≠r:=by
 intro e;have:=y.slot b s' H;cases s' with
 |qK=>exact hs rfl
 |cells own es cs=>simp only[afl] at this;obtain⟨_,_,_,Z,_⟩:=this;rw[e,hr] at Z;cases Z
 |map es=>simp only[afl] at this;obtain⟨_,_,Z,_⟩:=this;rw[e,hr] at Z;cases Z
 |afH es=>simp only[afl] at this;obtain⟨_,_,Z,_⟩:=this;rw[e,hr] at Z;cases Z
 |loop r=>simp only[afl] at this;obtain⟨_,Z,_⟩:=this;rw[e,hr] at Z;cases Z
theorem afj.ahk{r:Nat}{m s seen c}{o:Obj}(y:afj base μ mem w)(hr:w.heap[r]? =some (.mapIter m s seen c)):afj base μ mem (setBlock w r o):=by
 refine⟨by simpa [setBlock] using y.afe,fun b Z X=>?_,y.sep⟩;by_cases V:Z =.qK
 ·subst V;trivial
 ·refine(y.slot b Z X).mono (Nat.le_refl _) (fun _ _=>rfl) fun _=>?_
  exact Array.getElem?_setIfInBounds_ne (Ne.symm (yZ y hr X V))
theorem Step.ahk{m0:Nat}{μ' :Nat→Place}{y :Mem}{r:Nat}{o:Obj}(h:Step m0 μ mem w μ' y w')(hr:w.heap.size≤r):Step m0 μ mem w μ' y (setBlock w' r o):=h.shut hr
theorem MOk.ahk{h0 r:Nat}{y:List Deferred}{m s seen c}{o:Obj}(h:MOk P base h0 w y)(hr:w.heap[r]? =some (.mapIter m s seen c))(H:base≤r):MOk P base h0 (setBlock w r o) y:=by
 refine⟨⟨h.agi.below,?_⟩,h.afe,by simpa [setBlock] using h.le,fun d X=>?_,h.nodup⟩
 ·have:=h.agi.tab
  unfold Lib.TabIs at this ⊢;rw[←this];refine Pj fun k S=>Array.getElem?_setIfInBounds_ne ?_
  have:=h.agi.below;omega
 ·obtain⟨q,e,V,Z⟩:=h.each d X
  refine⟨q,e,V,?_⟩;have U:r≠q:=by rintro rfl;rw[hr] at Z;cases Z
  show(w.heap.setIfInBounds r o)[q]? =_
  rw[Array.getElem?_setIfInBounds_ne U,Z]
theorem N7(hT:cW P T){N:Nat}{ops:Array Oper}{Q:Exit→Act→World→Prop}{rest:List Oper}:∀{l:List Oper}{y H :St}{μ:Nat→Place} {w:World} {a:Act} {m0:Nat}{μ0:Nat→Place} {mem0:Mem} {w0:World} {h0:Nat} {I:Option Nat},
  mI P T N ops l y H →afj base μ y.mem w→afE μ y.mem.length y.env a.tmps→a.tmps.size=N→MOk P base h0 w a.defers→m0≤y.mem.length→Step m0 μ0 mem0 w0 μ y.mem w→
  (∀a' w' μ',afj base μ' H.mem w' →afE μ' H.mem.length H.env a'.tmps→a'.tmps.size=N→MOk P base h0 w' a'.defers→m0≤H.mem.length→Step m0 μ0 mem0 w0 μ' H.mem w' →wpListIn (Fr I) 0 P ops Q rest a' w')→
  wpListIn (Fr I) 0 P ops Q (l++rest) a w
 | [],y,H,μ,w,a,m0,μ0,mem0,w0,h0,I,h,hH,hR,hN,Ze,hm,hS,hQ=>by simp only[mI] at h;subst h;exact hQ a w μ hH hR hN Ze hm hS
 |o::os,y,H,μ,w,a,m0,μ0,mem0,w0,h0,I,h,hH,hR,hN,Ze,hm,hS,hQ=>by
  obtain⟨b,R,X,O,M⟩:=h;rw[List.cons_append];refine wpListIn_step fun K U=>?_
  rw[pQ hR R];cases b with
  |false=>
   simp only[Bool.false_eq_true,if_false];refine⟨fun _ _=>trivial,?_⟩;refine U _ _ (N7 hT (O rfl) hH (hR.afX hN X (by simp[ae5,ae7,undef])) (by rw[fc];exact hN) (by rw[fA];exact Ze) hm hS hQ)
  |true=>
   simp only[if_true];obtain⟨v,S,Z,L⟩:=M rfl;refine rM hT Ze.agi hH hR hN X Z fun V w' μ' q1 q2 q3 q4=>U _ _ ?_
   exact N7 hT L q2 q3 (by rw[fc];exact hN) (by rw[fA];exact Ze.step hH q4) (Nat.le_trans hm q4.len) (hS.trans (q4.mono hm)) hQ
theorem Az(a:Act)(d:Nat)(V:Value)(h:d<a.tmps.size):(a.put (some d) V).eval (.tmp d)=V:=by simp[Act.put,Act.eval,h]
variable {tp:Bool}{N m0:Nat}{Q:Exit→St→Prop}
theorem yv{F:Option Nat}{ops:Array Oper}{Q:Exit→Act→World→Prop}{o:Oper}{rest:List Oper}{a:Act}{w:World}{V:Value}(hg:o.guard=none)(y:∀c,o.op≠ .defer c)(H:(execOp a.eval o).run P w=.ok (.value V) w')(h:wpListIn (Fr F) 0 P ops Q rest (a.put o.dst V) w'):wpListIn (Fr F) 0 P ops Q (o::rest) a w:=by
 refine wpListIn_plain hg fun K Z=>⟨fun _ _=>trivial,?_⟩
 rw[Oper.semAt_eq _ _ _ y,H];exact Z _ _ h
theorem KB(hT:cW P T){idB out nx idS idA:Nat}{W abk Y:Array Oper}{pre aad:List Oper}{oR oN oX oE:Oper}{J:Code}{H y more ZX:Nat}{tR tk te:TypeId}{iR:TyI}{mOp:Operand}(hB:W.toList=pre++[oR])(r1:oR.op=.range tR mOp)(r2:oR.dst=some H)(r3:oR.guard=none)(hTR:T tR=some iR)(hdR:iR.desc=.map tk te)(hS:abk.toList=[oN,oX])(n1:oN.op=.next (.tmp H) false)(n2:oN.dst=some y)(n3:oN.guard=none)(x1:oX.op=.extract (.tmp y) 0)(x2:oX.dst=some more)(x3:oX.guard=none)(hA:Y.toList=oE::aad)(e1:oE.op=.entry (.tmp H))(e2:oE.dst=some ZX)(e3:oE.guard=none)(I':H<N∧y<N∧more<N∧ZX<N)(G':y≠H∧more≠H){st st1:St}{b:Nat}{es:List (AV×AV)}(Yx:mI P T N W pre st st1)(hmo:get st1.env mOp=.map b)(hb:st1.mem[b]? =some (.afH es))(I:List Nat→St→Prop)(h0:I [] ⟨(H,.ptr st1.mem.length 0)::st1.env,st1.mem++[.qK]⟩)(hI:∀seen s,I seen s→ab s.env H=.ptr st1.mem.length 0∧s.mem[st1.mem.length]? =some .qK∧s.mem[b]? =some (.afH es))(ab':∀seen s,I seen s→(∀j,j<es.length→j∈seen)→Q .normal ⟨(more,.bool false)::(y,.tuple [.bool false])::s.env,s.mem⟩)(aaq:∀seen s j k v,I seen s→es[j]? =some (k,v)→j∉seen→∃s3,mI P T N Y aad ⟨(ZX,.tuple [k,v])::(more,.bool true)::(y,.tuple [.bool true,k,v])::s.env,s.mem⟩ s3∧
   AWP P tp N (st1.mem.length+1) J s3 fun e s4=>(e=.normal∨e=.exit nx)∧∃s5,af2 (st1.mem.length+1) s4 s5∧I (seen++[j]) s5):
  AWP P tp N m0 (.seq (.region idB W false) (.block out (.loop (.seq (.region idS abk false) (.seq (.cond (.tmp more) .skip (.exit out)) (.block nx (.seq (.region idA Y false) J))))))) st Q:=by
 obtain⟨b1,b2,b3,b4⟩:=I';intro ro h0' base μ w a Zf hH hR hN Ze hm;refine wpIn_seq (wpIn_region_list ?_);rw[hB];refine N7 hT Yx hH hR hN Ze hm (.refl hm) fun a1 w1 μ1 c1 c2 c3 c4 c5 c6=>?_
 have R:=bq c2 mOp;rw[hmo] at R;simp only[ae5] at R;obtain⟨Y5,R⟩:=R;have Zr:=c1.slot b _ hb;simp only[afl] at Zr;obtain⟨Z,F',k1,⟨ZB,M⟩,k3,k4⟩:=Zr;subst ZB;have hd:=(hT tR iR hTR).desc;rw[hdR] at hd;have m:=run_range_map (P:=P) w1 tR tk te (μ1 b).blk Z Z.size hd k1;refine yv r3 (by rw[r1];intro c e;cases e) (V:=.pointer (some ⟨w1.heap.size,0,none⟩)) (w' :=w1.alloc (.mapIter (some (μ1 b).blk) Z.size #[] Z.size)) (by simp only[execOp,r1,R];simp[m]) (wpListIn_nil ?_);rw[r2];show Code.wpIn (Fr ro) 0 P _ _ _ _
 refine wpIn_block ?_;obtain⟨p1,p2⟩:=c1.push (.mapIter (some (μ1 b).blk) Z.size #[] Z.size) .qK ⟨w1.heap.size,0,0,0⟩ rfl trivial;have hrw:w.heap.size≤w1.heap.size:=c6.size;have hrb:base≤w1.heap.size:=c1.afe;obtain⟨X,hmb⟩:=xE ((μ1 b).blk);rw[←hmb] at k1 p1 p2 ⊢;have adB:X<w1.heap.size:=(Array.getElem?_eq_some_iff.1 k1).1;obtain⟨r,hr⟩:=xE w1.heap.size;have YC:∀x∈Z.toList,x.born<Z.size:=by
  intro x D;obtain⟨j,hj⟩:=List.getElem?_of_mem D;have U :Z[j]? =some x:=by simpa using hj
  rw[M j x U];exact(Array.getElem?_eq_some_iff.1 U).1
 have hnd:(Z.toList.map (·.born)).Nodup:=by
  have e:Z.toList.map (·.born)=List.range Z.size:=by
   refine List.ext_getElem? fun i=>?_
   rw[List.getElem?_map,Array.getElem?_toList];cases hi:Z[i]? with
   |none=>
    have:=Array.getElem?_eq_none_iff.1 hi;simp[this]
   |some x=>
    have:=(Array.getElem?_eq_some_iff.1 hi).1;simp[M i x hi,this]
  rw[e];exact List.nodup_range
 refine zk (σ:=Array Nat) (fun seen L w' =>∃J' μ',afj base μ' J'.mem w' ∧afE μ' J'.mem.length J'.env L.tmps∧L.tmps.size=N∧MOk P base h0' w' L.defers∧st1.mem.length<J'.mem.length∧
   Step m0 μ st.mem w μ' J'.mem w' ∧μ' st1.mem.length=⟨r,0,0,0⟩∧(μ' b).blk=X∧w'.heap[r]? =some (.mapIter (some X) Z.size seen Z.size)∧w'.heap[X]? =some (.map Z Z.size)∧I seen.toList J')
  (fun seen=>(leftOf Z seen).size) ?_ (s:= #[]) ⟨_,_,p1,?_,?_,?_,?_,c6.trans (p2.mono c5),?_,?_,?_,?_,h0⟩
 ·rintro seen L w' ⟨J',μ',d1,d2,d3,d4,d5,d6,d7,d8,d9,d10,d11⟩
  obtain⟨i1,i2,i3⟩:=hI _ _ d11;have C:L.eval (.tmp H)=.pointer (some ⟨r,0,none⟩):=by have:=d2 H;rw[i1] at this;simp only[ae5,d7] at this;exact this.2
  have hm' :m0≤J'.mem.length:=d6.len;refine wpIn_seq (wpIn_region_list ?_);rw[hS];rcases run_next_at (P:=P) w' oN.type r X Z.size Z.size seen Z Z.size d9 d10 YC (Nat.le_refl _) with⟨l0,m⟩ | ⟨E,hE,w2,O,m⟩
  ·refine yv n3 (by rw[n1];intro c e;cases e) (V:=.tuple #[.bool false]) (w' :=w') (by simp only[execOp,n1,C];simp[m]) ?_
   rw[n2];refine yv x3 (by rw[x1];intro c e;cases e) (V:=.bool false) (w' :=w') (by simp only[execOp,x1,Az L y _ (by omega)];simp[Instr.extract]) (wpListIn_nil ?_);rw[x2];show Code.wpIn (Fr ro) 0 P _ _ _ _
   refine wpIn_seq (wpIn_cond_false (Az _ _ _ (by rw[fc];omega)) (wpIn_exit ?_));simp only[Exit.then,Exit.inBlock,if_true];refine⟨⟨(more,.bool false)::(y,.tuple [.bool false])::J'.env,J'.mem⟩,μ',d1,?_,by rw[fc,fc];exact d3,by rw[fA,fA];exact d4,hm',d6,ab' _ _ d11 fun j hj=>?_⟩
   ·exact afE.put (afE.put d2 (by omega) (by simp[ae5,ae7])) (by rw[fc];omega) (by simp[ae5])
   ·have B':j<Z.size:=by omega
    have:=all_seen Z seen l0 Z[j] (by simp);rw[M j _ (by simp[B'])] at this;simpa using this
  ·obtain⟨hem,B⟩:=mem_left hE
   obtain⟨j,hj⟩:=List.getElem?_of_mem hem;have U :Z[j]? =some E:=by simpa using hj
   have hbj:=M j E U;have hjl:j<es.length:=by have:=(Array.getElem?_eq_some_iff.1 U).1;omega
   have acY :=d1.slot b _ i3;simp only[afl] at acY;obtain⟨Yh,Ye,g1,_,_,g4⟩:=acY;rw[d8,d10] at g1;cases g1;obtain⟨E',Yt,hk,hv⟩:=g4 j es[j] (by simp[hjl]);rw[U] at Yt;cases Yt;have hH2:afj base μ' J'.mem w2:=by rcases O with rfl | rfl<;>first | exact d1 | exact d1.drew
   have hS2:Step m0 μ st.mem w μ' J'.mem w2:=by rcases O with rfl | rfl<;>first | exact d6 | exact d6.trans ((Step.drew (Nat.le_refl _)).mono hm')
   have hM2:MOk P base h0' w2 L.defers:=by rcases O with rfl | rfl<;>first | exact d4 | exact d4.step d1 (Step.drew (Nat.le_refl _))
   have u:w2.heap[r]? =some (.mapIter (some X) Z.size seen Z.size):=by rcases O with rfl | rfl<;>exact d9
   have adC:w2.heap[X]? =some (.map Z Z.size):=by rcases O with rfl | rfl<;>exact d10
   have K:=hH2.ahk (o:=.mapIter (some X) Z.size (seen.push E.born) Z.size) u;have hS3:=hS2.ahk (r:=r) (o:=.mapIter (some X) Z.size (seen.push E.born) Z.size) (by omega);have hM3:=hM2.ahk (o:=.mapIter (some X) Z.size (seen.push E.born) Z.size) u (by omega);have hrl:r<w2.heap.size:=(Array.getElem?_eq_some_iff.1 u).1;have G:(setBlock w2 r (.mapIter (some X) Z.size (seen.push E.born) Z.size)).heap[r]? =some (.mapIter (some X) Z.size (seen.push E.born) Z.size):=by simp[setBlock,hrl]
   have F:(setBlock w2 r (.mapIter (some X) Z.size (seen.push E.born) Z.size)).heap[X]? =some (.map Z Z.size):=by rw[←adC];exact Array.getElem?_setIfInBounds_ne (by omega)
   obtain⟨w3,hw3⟩:=xE (setBlock w2 r (.mapIter (some X) Z.size (seen.push E.born) Z.size));rw[←hw3] at K hS3 hM3 G F m;refine yv n3 (by rw[n1];intro c e;cases e) (V:=.tuple #[.bool true,E.key,E.val]) (w' :=w3) (by simp only[execOp,n1,C];simp[m]) ?_;rw[n2];refine yv x3 (by rw[x1];intro c e;cases e) (V:=.bool true) (w' :=w3) (by simp only[execOp,x1,Az L y _ (by omega)];simp[Instr.extract]) (wpListIn_nil ?_);rw[x2];show Code.wpIn (Fr ro) 0 P _ _ _ _
   refine wpIn_seq (wpIn_cond_true (Az _ _ _ (by rw[fc];omega)) (wpIn_skip ?_));show Code.wpIn (Fr ro) 0 P _ _ _ _
   refine wpIn_block (wpIn_seq (wpIn_region_list ?_));rw[hA];have Yj:((L.put (some y) (.tuple #[.bool true,E.key,E.val])).put (some more) (.bool true)).eval (.tmp H)=.pointer (some ⟨r,0,none⟩):=by rw[←C];simp[Act.put,Act.eval,Array.getElem?_setIfInBounds_ne G'.1,Array.getElem?_setIfInBounds_ne G'.2]
   have hen:=run_entry_at (P:=P) w3 r X Z.size seen Z Z.size E G F hem hnd;refine yv e3 (by rw[e1];intro c e;cases e) (V:=.tuple #[E.key,E.val]) (w' :=w3) (by simp only[execOp,e1,Yj];simp[hen]) ?_;rw[e2];have hkv:es[j]? =some (es[j].1,es[j].2):=by simp[hjl]
   have hnj:j∉seen.toList:=by
    intro Y9;rw[hbj] at B;have:seen.contains j=true:=by simpa using Y9
    rw[this] at B;cases B
   obtain⟨s3,A',acC⟩:=aaq _ _ j _ _ d11 hkv hnj;have hT1:=afE.put d2 (d:=y) (by omega) (V:=.tuple #[.bool true,E.key,E.val]) (v:=.tuple [.bool true,es[j].1,es[j].2]) (by simp only[ae5];exact⟨_,rfl,bK.2 ⟨by simp[ae5],bK.2 ⟨hk,bK.2 ⟨hv,by simp[ae7]⟩⟩⟩⟩);have hT2:=afE.put hT1 (d:=more) (by rw[fc];omega) (V:=.bool true) (v:=.bool true) (by simp[ae5]);have hT3:=afE.put hT2 (d:=ZX) (by rw[fc,fc];omega) (V:=.tuple #[E.key,E.val]) (v:=.tuple [es[j].1,es[j].2]) (by simp only[ae5];exact⟨_,rfl,bK.2 ⟨hk,bK.2 ⟨hv,by simp[ae7]⟩⟩⟩);have D':st1.mem.length+1≤J'.mem.length:=by omega
   refine wH (m0:=st1.mem.length+1) (μ0:=μ') (mem0:=J'.mem) (w0:=w3) hT A' K hT3 (by rw[fc,fc,fc];exact d3) (by rw[fA,fA,fA];exact hM3) D' (.refl D') fun a4 w4 μ4 f1 f2 f3 f4 f5 f6=>?_
   show Code.wpIn (Fr ro) 0 P _ _ _ _
   refine wpIn_mono (acC ro h0' base μ4 w4 a4 Zf f1 f2 f3 f4 f5) ?_;rintro e a5 w5 ⟨s4,μ5,y1,y2,y3,y4,y5,y6,hee,s5,hwk,hI5⟩;obtain⟨μ6,z1,z2,z3,z4⟩:=hwk base μ5 w5 a5.tmps y1 y2 y5;have S:=(f6.trans y6).trans z4;have YI:b<st1.mem.length:=gL hb;have fin:∃s',(∃J' μ',afj base μ' J'.mem w5∧afE μ' J'.mem.length J'.env a5.tmps∧a5.tmps.size=N∧MOk P base h0' w5 a5.defers∧st1.mem.length<J'.mem.length∧
     Step m0 μ st.mem w μ' J'.mem w5∧μ' st1.mem.length=⟨r,0,0,0⟩∧(μ' b).blk=X∧w5.heap[r]? =some (.mapIter (some X) Z.size s' Z.size)∧w5.heap[X]? =some (.map Z Z.size)∧I s'.toList J')∧
     (leftOf Z s').size<(leftOf Z seen).size:=by
    refine⟨seen.push E.born,⟨s5,μ6,z1,z2,y3,y4,z3,hS3.trans (S.mono (by have:=c5;omega)),?_,?_,?_,?_,?_⟩,left_shrinks Z seen E hE⟩
    ·rw[S.agree _ (by omega),d7]
    ·rw[S.agree _ (by omega),d8]
    ·rw[S.frame r (by rw[hw3];simpa [setBlock] using hrl) fun x D=>by obtain⟨sx,q1,q2⟩:=D;exact yZ K G q1 (afb.afI q2)]
     exact G
    ·rw[S.frame X (Array.getElem?_eq_some_iff.1 F).1 fun x D=>?_]
     ·exact F
     ·rw[←d8]
      refine K.sep x b _ D i3 (by simp) ?_;rintro rfl;obtain⟨sx,q1,q2⟩:=D;rw[i3] at q1;cases q1;cases q2
    ·rw[Array.toList_push,hbj];exact hI5
   rcases hee with rfl | rfl
   ·exact fin
   ·simp only[Exit.inBlock,if_true];exact fin
 ·refine afE.put (c2.mono (by simp) fun x D=>wR D) (by omega) ?_
  simp only[ae5,List.length_append,List.length_singleton,ez];exact⟨by omega,trivial⟩
 ·rw[fc];exact c3
 ·rw[fA];exact c4.step c1 p2
 ·simp
 ·rw[ez,hr]
 ·have YI:b<st1.mem.length:=gL hb
  rw[wR YI];exact hmb.symm
 ·rw[hr];exact heap_alloc_new w1 _
 ·rw[gO w1 _ adB];exact k1
end
end Go.Eng
namespace Go.Eng
theorem CN{m:Nat}:∀{env:Env},(env.all fun e=>(e.2.refs m).isEmpty)=true→∀t,(ab env t).refs m=[]
 | [],_,t=>by simp[ab,AV.refs]
 |(k,v)::r,h,t=>by
  simp only[List.all_cons,Bool.and_eq_true,List.isEmpty_iff] at h;simp only[ab];split
  ·exact h.1
  ·exact CN h.2 t
variable{s:XS}
section
variable {P:Program}{T:TypeId→Option TyI}{O:ae3}{tp:Bool}{N m0 K:Nat}{lv:Code→List Nat}{Q:Exit→St→Prop}
section
variable (hm:P.follows .mixedOrders=true)(hT:cW P T)(hO:qS P O)
include hm hT hO
theorem vV{c:Code}{s' :XS}{e:Exit}(hs:cK c=true)(h:bh T lv O K N m0 tp c s=some (e,s'))(hq:Q e ⟨s'.env,s'.mem⟩):AWP P tp N m0 c ⟨s.env,s.mem⟩ Q:=
 (dp hm hT hO hs h).1 Q hq
theorem NH{idB out nx idS idA:Nat}{J abk W:Array Oper}{Y:List Oper}{oR oN oX oE:Oper}{H:Code}{I y more ZX:Nat}{tR tk te:TypeId}{iR:TyI}{mOp:Operand}(hB:J.toList=J.toList.dropLast++[oR])(r1:oR.op=.range tR mOp)(r2:oR.dst=some I)(r3:oR.guard=none)(hTR:T tR=some iR)(hdR:iR.desc=.map tk te)(hS:abk.toList=[oN,oX])(n1:oN.op=.next (.tmp I) false)(n2:oN.dst=some y)(n3:oN.guard=none)(x1:oX.op=.extract (.tmp y) 0)(x2:oX.dst=some more)(x3:oX.guard=none)(hA:W.toList=oE::Y)(e1:oE.op=.entry (.tmp I))(e2:oE.dst=some ZX)(e3:oE.guard=none)(I':I<N∧y<N∧more<N∧ZX<N)(G':y≠I∧more≠I)(UV:cK H=true){s1:XS}{b:Nat}{es:List (AV×AV)}(Yx:dx T O N m0 J J.toList.dropLast s=some s1)(hmo:get s1.env mOp=.map b)(hb:s1.mem[b]? =some (.afH es))(lw wr:List Nat)(V:List Nat→Nat→AV)(M:List Nat→Mem)(Inv:List Nat→Prop)(hwr:wr=ZX::more::y::(Y.filterMap (·.dst)++ad H))(hit:I∉wr)(aae:(((I,AV.ptr s1.mem.length 0)::s1.env).all fun e=>(e.2.refs (s1.mem.length+1)).isEmpty)=true)(hM:∀seen,Inv seen→(M seen).length=s1.mem.length+1∧(M seen)[s1.mem.length]? =some .qK∧(M seen)[b]? =some (.afH es)∧∀x∈M seen,x.refs (s1.mem.length+1)=[])(hV:∀seen t,Inv seen→t∈lw→(V seen t).refs (s1.mem.length+1)=[])(h0:Inv []∧M []=s1.mem++[.qK]∧∀t∈lw,ab ((I,AV.ptr s1.mem.length 0)::s1.env) t=V [] t)(ab':∀seen env,Inv seen→afN wr ((I,AV.ptr s1.mem.length 0)::s1.env) env→(∀t∈lw,ab env t=V seen t)→(∀j,j<es.length→j∈seen)→Q .normal ⟨(more,.bool false)::(y,.tuple [.bool false])::env,M seen⟩)(aaq:∀seen env j k v,Inv seen→afN wr ((I,AV.ptr s1.mem.length 0)::s1.env) env→(∀t∈lw,ab env t=V seen t)→es[j]? =some (k,v)→j∉seen→∃U e X,dx T O N (s1.mem.length+1) W Y ⟨(ZX,.tuple [k,v])::(more,.bool true)::(y,.tuple [.bool true,k,v])::env,M seen,false⟩=some U∧
   bh T lv O K N (s1.mem.length+1) tp H U=some (e,X)∧(e=.normal∨e=.exit nx)∧Inv (seen++[j])∧(∀t∈lw,ab X.env t=V (seen++[j]) t)∧X.mem.take (s1.mem.length+1)=M (seen++[j])):
  AWP P tp N m0 (.seq (.region idB J false) (.block out (.loop (.seq (.region idS abk false) (.seq (.cond (.tmp more) .skip (.exit out)) (.block nx (.seq (.region idA W false) H))))))) ⟨s.env,s.mem⟩ Q:=by
 have R:=CN aae;refine KB (st1:=⟨s1.env,s1.mem⟩) hT hB r1 r2 r3 hTR hdR hS n1 n2 n3 x1 x2 x3 hA e1 e2 e3 I' G' (kf hO Yx).1 hmo hb
  (fun seen S=>Inv seen∧afN wr ((I,AV.ptr s1.mem.length 0)::s1.env) S.env∧(∀t∈lw,ab S.env t=V seen t)∧S.mem=M seen) ⟨h0.1,.refl _ _,h0.2.2,h0.2.1.symm⟩ ?_ ?_ ?_
 ·rintro seen S ⟨i1,i2,i3,i4⟩
  obtain⟨F,D,C,_⟩:=hM seen i1;refine⟨?_,by rw[i4];exact D,by rw[i4];exact C⟩;rw[i2 I hit];simp[ab]
 ·rintro seen ⟨env,mem⟩ ⟨i1,i2,i3,i4⟩ PP
  have:=ab' seen env i1 i2 i3 PP;simp only at i4 ⊢;rw[i4];exact this
 ·rintro seen ⟨env,mem⟩ j k v ⟨i1,i2,i3,i4⟩ hj hns
  simp only at i2 i3 i4;subst i4;obtain⟨U,e,X,B,u,m,L,k5,o⟩:=aaq seen env j k v i1 i2 i3 hj hns;refine⟨⟨U.env,U.mem⟩,(kf hO B).1,?_⟩;refine AWP.assume fun D' _=>?_
  refine vV hm hT hO UV u ⟨m,?_⟩;obtain⟨F,D,C,j4⟩:=hM _ L;have Zn :s1.mem.length+1≤X.mem.length:=by have h1:=congrArg List.length o;rw[List.length_take,F] at h1;omega
  have G:afN wr ((I,AV.ptr s1.mem.length 0)::s1.env) X.env:=by
   have q1:=(pL B).mono (wr' :=wr) (by intro t Z;rw[hwr];simp[Z]);have q2:=(fv hO u).mono (wr' :=wr) (by intro t Z;rw[hwr];simp[Z]);intro t Z;rw[q2 t Z,q1 t Z,←i2 t Z];have:t≠ZX∧t≠more∧t≠y:=by rw[hwr] at Z;simp only[List.mem_cons,not_or] at Z;exact⟨Z.1,Z.2.1,Z.2.2.1⟩
   simp[ab,Ne.symm this.1,Ne.symm this.2.1,Ne.symm this.2.2]
  refine⟨_,af2.afg [] (by simp[Ed]),L,?_,?_,?_⟩
  ·intro t Z
   simp only[ix];rw[G t Z,AV.afn (R t)]
  ·intro t Z
   simp only[ix];rw[k5 t Z,AV.afn (hV _ t L Z)]
  ·simp only[afg,af0,List.map_nil,List.append_nil,o]
   conv=>rhs;rw[←List.map_id (M (seen++[j]))]
   exact List.map_congr_left fun x hx=>afb.afn (j4 x hx)
end
end
end Go.Eng
namespace Go.Eng
abbrev Sd:=(Int×Int)×Int
def sdE(s:Sd):AV×AV:=(.agg [.int .i64 s.1.1,.int .i64 s.1.2],.int .i64 s.2)
def nxE(p:Int×Int):AV×AV:=(.int .i64 p.1,.int .i64 p.2)
def qe:List (Int×Int)→Int→Option Int
 | [],_=>none
 |p::l,a=>if a=p.1 then some p.2 else qe l a
def QY:List Sd→Int×Int→Option Int
 | [],_=>none
 |s::l,a=>if a.1=s.1.1∧a.2=s.1.2 then some s.2 else QY l a
def bAt(ks:List Sd)(j:Nat):Option (Int×Int):=match ks[j]? with
 |some s=>if (QY ks (s.1.2,s.1.1)).isSome then none else some s.1
 |none=>none
def sW(ks:List Sd):List (Int×Int):=(List.range ks.length).filterMap (bAt ks)
def AH(f:Int):List (Int×Int)→Int
 | []=>f
 |p::l=>AH (if f<0∨p.1<f then p.1 else f) l
theorem N2(f:Int):∀(l m:List (Int×Int)),AH f (l++m)=AH (AH f l) m:=by
 intro l;induction l generalizing f with
 |nil=>intro m;rfl
 |cons p l ih=>intro m;exact ih _ m
theorem Cy:∀(l:List (Int×Int)) (f:Int),(∀p∈l,0≤p.1)→(0≤f∨l≠[])→0≤AH f l∧(AH f l=f∨∃p∈l,AH f l=p.1)∧(0≤f→AH f l≤f)∧∀p∈l,AH f l≤p.1
 | [],f,_,h=>by have:0≤f:=h.resolve_right (by simp);exact⟨this,.inl rfl,fun _=>Int.le_refl _,by simp⟩
 |p::l,f,hp,_=>by
  have V:=hp p (by simp);have U:=Cy l (if f<0∨p.1<f then p.1 else f) (fun q Z=>hp q (by simp[Z])) (.inl (by split<;>omega));obtain⟨S,R,X,Q⟩:=U;have O:(0:Int)≤(if f<0∨p.1<f then p.1 else f):=by split<;>omega
  have X:=X O;simp only[AH];refine⟨S,?_,fun N=>?_,fun q Z=>?_⟩
  ·rcases R with h | ⟨q,Z,h⟩
   ·rw[h]
    split
    ·exact .inr ⟨p,by simp,rfl⟩
    ·exact .inl rfl
   ·exact .inr ⟨q,by simp[Z],h⟩
  ·refine Int.le_trans X ?_
   split<;>omega
  ·rcases List.mem_cons.1 Z with rfl | Z
   ·refine Int.le_trans X ?_
    split<;>omega
   ·exact Q q Z
theorem Td{l m:List (Int×Int)}(h:l.Perm m)(y:∀p∈l,0≤p.1):AH (-1) l=AH (-1) m:=by
 by_cases Z:l=[]
 ·subst Z
  rw[List.nil_perm.1 h]
 ·have S:m≠[]:=by rintro rfl;exact Z (List.perm_nil.1 h)
  have X:∀p∈m,0≤p.1:=fun p R=>y p (h.mem_iff.2 R)
  obtain⟨G,Q,_,O⟩:=Cy l (-1) y (.inr Z);obtain⟨F,N,_,M⟩:=Cy m (-1) X (.inr S);obtain⟨p,V,L⟩:=Q.resolve_left (by omega);obtain⟨q,U,K⟩:=N.resolve_left (by omega);have D:=M p (h.mem_iff.1 V);have C:=O q (h.mem_iff.2 U);omega
theorem Ta{l:List (Int×Int)}{a b:Int}(h:qe l a=some b):(a,b)∈l:=by
 induction l with
 |nil=>cases h
 |cons p l ih=>
  rw[qe] at h;split at h
  next e=>cases h;subst e;simp
  ·simp[ih h]
theorem EL{l:List (Int×Int)}{a:Int}(h:∀p∈l,p.1≠a):qe l a=none:=by
 induction l with
 |nil=>rfl
 |cons p l ih=>
  rw[qe,if_neg (fun e=>h p (by simp) e.symm)];exact ih fun q Z=>h q (by simp[Z])
theorem yT{l:List (Int×Int)}{a b:Int}(y:∀p∈l,∀q∈l,p.1=q.1→p=q)(h:(a,b)∈l):qe l a=some b:=by
 induction l with
 |nil=>cases h
 |cons p l ih=>
  rw[qe];split
  ·rename_i e
   have:=y p (by simp) (a,b) h e.symm;rw[this]
  ·rename_i e
   rcases List.mem_cons.1 h with rfl | h
   ·exact absurd rfl e
   ·exact ih (fun p Z q X=>y p (by simp[Z]) q (by simp[X])) h
theorem QX{l m:List (Int×Int)}(h:l.Perm m)(y:∀p∈l,∀q∈l,p.1=q.1→p=q)(a:Int):qe l a=qe m a:=by
 have Z :∀p∈m,∀q∈m,p.1=q.1→p=q:=fun p X q V=>y p (h.mem_iff.2 X) q (h.mem_iff.2 V)
 cases hb:qe m a with
 |some b=>exact yT y (h.mem_iff.2 (Ta hb))
 |none=>
  refine EL fun p X e=>?_
  have:=yT Z (a:=a) (b:=p.2) (by rw[←e];exact h.mem_iff.1 X);rw[hb] at this;cases this
def VU(ks:List Sd):Prop:=∀i j p q,bAt ks i=some p→bAt ks j=some q→p.1=q.1→i=j
def cS(ks:List Sd)(seen:List Nat):List (Int×Int):=seen.filterMap (bAt ks)
variable{j:Nat}{ks:List Sd}{p:Int×Int}
theorem R9(h:bAt ks j=some p):j<ks.length:=by
 unfold bAt at h;split at h
 next s Z=>exact(gL Z)
 ·cases h
variable{seen:List Nat}
theorem L6(y:seen.Nodup)(H:∀j∈seen,j<ks.length)(I:∀j,j<ks.length→j∈seen):(cS ks seen).Perm (sW ks):=by
 refine List.Perm.filterMap _ ?_;refine(List.perm_ext_iff_of_nodup y List.nodup_range).2 fun j=>?_
 simp only[List.mem_range];exact⟨H j,I j⟩
theorem G7(y:VU ks)(H:j∉seen)(I:bAt ks j=some p):qe (cS ks seen) p.1=none:=by
 refine EL fun q X e=>?_
 obtain⟨i,V,Z⟩:=List.mem_filterMap.1 X;have:=y i j q p Z I e;subst this;exact H V
theorem G8(y:VU ks):∀p∈cS ks seen,∀q∈cS ks seen,p.1=q.1→p=q:=by intro p V q U e;obtain⟨i,_,X⟩:=List.mem_filterMap.1 V;obtain⟨j,_,Z⟩:=List.mem_filterMap.1 U;have:=y i j p q X Z e;subst this;rw[X] at Z;cases Z;rfl
def wU(B:List (Int×Int))(first:Int):Nat→Int→List Int→Option (List Int)
 |0,_,out=>some out
 |n+1,a,out=>match qe B a with
  |none=>none
  |some b=>if a=first∧out≠[] then none else wU B first n b (out++[a])
def B0(B:List (Int×Int)):Option (List Int):=wU B (AH (-1) B) B.length (AH (-1) B) []
def uQ(ks:List Sd):Bool:=
 let B:=sW ks
 decide (B≠[])&&decide ((B.map (·.1)).Nodup)&&B.all (fun p=>decide (0≤p.1))&&decide (ks.length≤1000000)
theorem Sb{i:Nat}{q:Int×Int}(I:((sW ks).map (·.1)).Nodup)(y:bAt ks i=some p)(H:bAt ks j=some q)(e:p.1=q.1):i=j:=by
 have R:∀(l:List Nat),l.Nodup→((l.filterMap (bAt ks)).map (·.1)).Nodup→i∈l→j∈l→i=j:=by
  intro l;induction l with
  |nil=>intro _ _ h;cases h
  |cons a l ih=>
   intro Q Z X V;have U :=(List.nodup_cons.1 Q).2;rw[List.filterMap_cons] at Z;cases ha:bAt ks a with
   |none=>
    rw[ha] at Z;have O:i≠a:=by rintro rfl;rw[y] at ha;cases ha
    have N:j≠a:=by rintro rfl;rw[H] at ha;cases ha
    exact ih U Z ((List.mem_cons.1 X).resolve_left O) ((List.mem_cons.1 V).resolve_left N)
   |some r=>
    rw[ha] at Z;simp only[List.map_cons,List.nodup_cons] at Z;have S:∀k s,k∈l→bAt ks k=some s→s.1≠r.1:=by intro k s M L h;exact Z.1 (List.mem_map.2 ⟨s,List.mem_filterMap.2 ⟨k,M,L⟩,h⟩)
    rcases List.mem_cons.1 X with X | X<;>rcases List.mem_cons.1 V with V | V
    ·rw[X,V]
    ·rw[←X,y] at ha;cases ha;exact absurd e.symm (S j q V H)
    ·rw[←V,H] at ha;cases ha;exact absurd e (S i p X y)
    ·exact ih U Z.2 X V
 exact R _ List.nodup_range I (List.mem_range.2 (R9 y)) (List.mem_range.2 (R9 H))
theorem Lw(h:uQ ks=true):sW ks≠[]∧VU ks∧(∀p∈sW ks,0≤p.1)∧ks.length≤1000000:=by simp only[uQ,Bool.and_eq_true,decide_eq_true_eq,List.all_eq_true] at h;obtain⟨⟨⟨Z,X⟩,h3⟩,V⟩:=h;exact⟨Z,fun i j p q U S e=>Sb X U S e,h3,V⟩
theorem Rm(h:∀p∈sW ks,0≤p.1):∀p∈cS ks seen,0≤p.1:=by intro p X;obtain⟨i,_,Z⟩:=List.mem_filterMap.1 X;exact h p (List.mem_filterMap.2 ⟨i,List.mem_range.2 (R9 Z),Z⟩)
theorem zj{B:List (Int×Int)}{first:Int}:∀{n:Nat} {a:Int} {y H:List Int},wU B first n a y=some H→H.length=y.length+n
 |0,a,y,H,h=>by simp only[wU,Option.some.injEq] at h;subst h;rfl
 |n+1,a,y,H,h=>by
  rw[wU] at h;split at h
  ·cases h
  ·split at h
   ·cases h
   ·have:=zj h
    simp at this;omega
def QF(y:List Nat)(n j:Nat):Bool:=dS y j&&(List.range n).all fun k=>decide (k≤j)||bef y j k
def dT(r:Rec):Bool:=decide (r.nx.length=r.mem.length)&&r.wr.isEmpty
def Ev(y:List Nat)(n j:Nat)(r:Rec):Bool:=
 r.v.ae6 (fun b=>decide (b<r.nx.length))&&
  (dT r||(QF y n j&&r.wr.all (fun b=>eO r.tm b&&(match r.nx[b]? with | some s=>s.ae6 (fun b=>decide (b<r.nx.length)) | none=>true))&&
   (r.nx.drop r.mem.length).all fun s=>(s.own||match s with | .qK=>true | _=>false)&&s.ae6 (fun b=>decide (b<r.nx.length))))
def vW(y:List Nat)(n:Nat):Nat→List Rec→Bool
 |_,[]=>true
 |j,r::rest=>Ev y n j r&&vW y n (j+1) rest
def pr(T:TypeId→Option TyI)(O:ae3)(N m0:Nat)(ops:Array Oper)(y:List Nat)(s:XS):Option XS:=
 match mP T O N ops y 0 ops.toList s.env s.mem [] with
 |none=>none
 |some (R,env,mem)=>
  if vW y R.length 0 R then some ⟨env,mem,s.afv||R.any fun r=>r.wr.any fun b=>decide (b<m0)⟩ else none
structure ahD (bs:List Nat)(n:Nat)(f:Nat×Rec):Prop where
 refs:f.2.v.ae6 (fun b=>decide (b<f.2.nx.length))=true
 or:(f.2.nx.length=f.2.mem.length∧f.2.wr=[])∨((∀i,i<f.1→bef bs i f.1=true)∧(∀k,f.1<k→k<n→bef bs f.1 k=true)∧
  f.2.wr.all (fun b=>eO f.2.tm b&&(match f.2.nx[b]? with | some s=>s.ae6 (fun b=>decide (b<f.2.nx.length)) | none=>true))=true∧
  ((f.2.nx.drop f.2.mem.length).all fun s=>(s.own||match s with | .qK=>true | _=>false)&&s.ae6 (fun b=>decide (b<f.2.nx.length)))=true)
theorem BX{y:List Nat}{n:Nat}:∀{j0:Nat} {R:List Rec},vW y n j0 R=true→∀f∈br j0 R,ahD y n f
 |_,[],_,f,hf=>by simp[br] at hf
 |j0,r::rest,h,f,hf=>by
  simp only[vW,Bool.and_eq_true] at h;rw[br,List.mem_cons] at hf;rcases hf with rfl | hf
  ·have X:=h.1
   simp only[Ev,dT,QF,Bool.and_eq_true,Bool.or_eq_true,decide_eq_true_eq,List.isEmpty_iff] at X;obtain⟨X,Z⟩:=X;refine⟨X,?_⟩;rcases Z with Z | ⟨⟨⟨Z,h3⟩,U⟩,S⟩
   ·exact .inl Z
   ·refine .inr ⟨fun i Q=>List.all_eq_true.1 Z i (List.mem_range.2 Q),fun k O V=>?_,U,S⟩
    have:=List.all_eq_true.1 h3 k (List.mem_range.2 V);simp only[Bool.or_eq_true,decide_eq_true_eq] at this;rcases this with h6 | h6
    ·omega
    ·exact h6
  ·exact BX h.2 f hf
variable{R:List Rec}
theorem KI{y:List Nat}(h:vW y R.length 0 R=true){f:Nat×Rec}(hf:f∈br 0 R):iq y (br 0 R) f.1 f.2=true:=by
 have N:=BX h;have S:=N f hf;have C:=iH hf;unfold iq;have M:∀g∈(br 0 R).filter (fun g=>decide (g.1<f.1)&& !bef y g.1 f.1),g.2.nx.length=g.2.mem.length∧g.2.wr=[]:=by
  intro g X;have Z:=List.mem_filter.1 X;simp only[Bool.and_eq_true,decide_eq_true_eq,Bool.not_eq_true'] at Z;rcases (N g Z.1).or with V | ⟨_,V,_⟩
  ·exact V
  ·have:=V f.1 Z.2.1 (by omega)
   rw[this] at Z;exact absurd Z.2.2 (by simp)
 have L:∀U,iy U ((br 0 R).filter fun g=>decide (g.1<f.1)&& !bef y g.1 f.1)=fun b=>decide (b<U):=by
  intro U;funext b;unfold iy;have:(((br 0 R).filter fun g=>decide (g.1<f.1)&& !bef y g.1 f.1).all fun f=> !decide (f.2.mem.length≤b∧b<f.2.nx.length))=true:=List.all_eq_true.2 fun g X=>by have:=(M g X).1;simp;omega
  rw[this,Bool.and_true]
 simp only[L,Bool.and_eq_true];rcases S.or with⟨V,Q⟩ | ⟨V,_,h3,K⟩
 ·have G:f.2.nx.drop f.2.mem.length=[]:=List.drop_of_length_le (by rw[V];exact Nat.le_refl _)
  refine⟨⟨⟨⟨by rw[Q];rfl,S.refs⟩,by rw[Q];rfl⟩,by rw[G];rfl⟩,?_⟩;refine List.all_eq_true.2 fun g X=>?_
  obtain⟨F,D⟩:=M g X;rw[D,Q,F,Nat.sub_self,List.take_zero];rfl
 ·refine⟨⟨⟨⟨?_,S.refs⟩,?_⟩,K⟩,?_⟩
  ·refine List.all_eq_true.2 fun b O=>?_
   have:=List.all_eq_true.1 h3 b O;simp only[Bool.and_eq_true] at this;exact this.1
  ·refine List.all_eq_true.2 fun b O=>?_
   have:=List.all_eq_true.1 h3 b O;simp only[Bool.and_eq_true] at this;exact this.2
  ·refine List.all_eq_true.2 fun g X=>?_
   have Z:=List.mem_filter.1 X;simp only[Bool.and_eq_true,decide_eq_true_eq,Bool.not_eq_true'] at Z;rw[V g.1 Z.2.1] at Z;exact absurd Z.2.2 (by simp)
variable{N m0:Nat}{O:ae3}
theorem pz{T:TypeId→Option TyI}{ops:Array Oper}{y:List Nat}(H:dW ops.toList=y)(s:XS):
  aK T O N m0 ops s=match pr T O N m0 ops y s with
   |some s' =>some s'
   |none=>pw T O N m0 ops s:=by
 cases h:pr T O N m0 ops y s with
 |none=>rfl
 |some s' =>
  simp only;unfold pr at h;unfold aK;simp only;rw[H];split at h
  ·cases h
  ·rename_i R env mem Z
   split at h
   ·rename_i X
    cases h;rw[Z];simp only;rw[if_pos (List.all_eq_true.2 fun f V=>KI X V)]
   ·cases h
def Ky(y:List Nat)(n j:Nat):Bool:=(List.range n).all fun k=>decide (k≤j)||bef y j k
def OZ(y:List Nat)(n j:Nat)(r:Rec):Bool:=
 r.v.ae6 (fun b=>decide (b<r.nx.length))&&
  (dT r||(Ky y n j&&(r.wr.isEmpty||(dS y j&&r.wr.all (fun b=>eO r.tm b&&(match r.nx[b]? with | some s=>s.ae6 (fun b=>decide (b<r.nx.length)) | none=>true))))&&
   (r.nx.drop r.mem.length).all fun s=>(s.own||match s with | .qK=>true | _=>false)&&s.ae6 (fun b=>decide (b<r.nx.length))))
def Cr(y:List Nat)(n:Nat):Nat→List Rec→Bool
 |_,[]=>true
 |j,r::rest=>OZ y n j r&&Cr y n (j+1) rest
def wL(T:TypeId→Option TyI)(O:ae3)(N m0:Nat)(ops:Array Oper)(y:List Nat)(s:XS):Option XS:=
 match mP T O N ops y 0 ops.toList s.env s.mem [] with
 |none=>none
 |some (R,env,mem)=>
  if Cr y R.length 0 R then some ⟨env,mem,s.afv||R.any fun r=>r.wr.any fun b=>decide (b<m0)⟩ else none
structure ahE (bs:List Nat)(n:Nat)(f:Nat×Rec):Prop where
 refs:f.2.v.ae6 (fun b=>decide (b<f.2.nx.length))=true
 or:(f.2.nx.length=f.2.mem.length∧f.2.wr=[])∨((f.2.wr=[]∨∀i,i<f.1→bef bs i f.1=true)∧(∀k,f.1<k→k<n→bef bs f.1 k=true)∧
  f.2.wr.all (fun b=>eO f.2.tm b&&(match f.2.nx[b]? with | some s=>s.ae6 (fun b=>decide (b<f.2.nx.length)) | none=>true))=true∧
  ((f.2.nx.drop f.2.mem.length).all fun s=>(s.own||match s with | .qK=>true | _=>false)&&s.ae6 (fun b=>decide (b<f.2.nx.length)))=true)
theorem Ct{y:List Nat}{n:Nat}:∀{j0:Nat} {R:List Rec},Cr y n j0 R=true→∀f∈br j0 R,ahE y n f
 |_,[],_,f,hf=>by simp[br] at hf
 |j0,r::rest,h,f,hf=>by
  simp only[Cr,Bool.and_eq_true] at h;rw[br,List.mem_cons] at hf;rcases hf with rfl | hf
  ·have X:=h.1
   simp only[OZ,dT,Ky,Bool.and_eq_true,Bool.or_eq_true,decide_eq_true_eq,List.isEmpty_iff] at X;obtain⟨X,V⟩:=X;refine⟨X,?_⟩;rcases V with V | ⟨⟨h3,Z⟩,S⟩
   ·exact .inl V
   ·refine .inr ⟨?_,fun k M U=>?_,?_,S⟩
    ·rcases Z with Z | ⟨Z,_⟩
     ·exact .inl Z
     ·exact .inr fun i Q=>List.all_eq_true.1 Z i (List.mem_range.2 Q)
    ·have:=List.all_eq_true.1 h3 k (List.mem_range.2 U)
     simp only[Bool.or_eq_true,decide_eq_true_eq] at this;rcases this with h6 | h6
     ·omega
     ·exact h6
    ·rcases Z with Z | ⟨_,Z⟩
     ·rw[Z];rfl
     ·exact Z
  ·exact Ct h.2 f hf
theorem KJ{y:List Nat}(h:Cr y R.length 0 R=true){f:Nat×Rec}(hf:f∈br 0 R):iq y (br 0 R) f.1 f.2=true:=by
 have F:=Ct h;have S:=F f hf;have u:=iH hf;unfold iq;have Q:∀g∈(br 0 R).filter (fun g=>decide (g.1<f.1)&& !bef y g.1 f.1),g.2.nx.length=g.2.mem.length∧g.2.wr=[]:=by
  intro g V;have X:=List.mem_filter.1 V;simp only[Bool.and_eq_true,decide_eq_true_eq,Bool.not_eq_true'] at X;rcases (F g X.1).or with Z | ⟨_,Z,_⟩
  ·exact Z
  ·have:=Z f.1 X.2.1 (by omega)
   rw[this] at X;exact absurd X.2.2 (by simp)
 have D:∀U,iy U ((br 0 R).filter fun g=>decide (g.1<f.1)&& !bef y g.1 f.1)=fun b=>decide (b<U):=by
  intro U;funext b;unfold iy;have:(((br 0 R).filter fun g=>decide (g.1<f.1)&& !bef y g.1 f.1).all fun f=> !decide (f.2.mem.length≤b∧b<f.2.nx.length))=true:=List.all_eq_true.2 fun g V=>by have:=(Q g V).1;simp;omega
  rw[this,Bool.and_true]
 simp only[D,Bool.and_eq_true];rcases S.or with⟨Z,M⟩ | ⟨Z,_,h3,C⟩
 ·have B:f.2.nx.drop f.2.mem.length=[]:=List.drop_of_length_le (by rw[Z];exact Nat.le_refl _)
  refine⟨⟨⟨⟨by rw[M];rfl,S.refs⟩,by rw[M];rfl⟩,by rw[B];rfl⟩,?_⟩;refine List.all_eq_true.2 fun g V=>?_
  obtain⟨L,K⟩:=Q g V;rw[K,M,L,Nat.sub_self,List.take_zero];rfl
 ·refine⟨⟨⟨⟨?_,S.refs⟩,?_⟩,C⟩,?_⟩
  ·refine List.all_eq_true.2 fun b G=>?_
   have:=List.all_eq_true.1 h3 b G;simp only[Bool.and_eq_true] at this;exact this.1
  ·refine List.all_eq_true.2 fun b G=>?_
   have:=List.all_eq_true.1 h3 b G;simp only[Bool.and_eq_true] at this;exact this.2
  ·refine List.all_eq_true.2 fun g V=>?_
   obtain⟨L,K⟩:=Q g V;rcases Z with Z | Z
   ·rw[K,Z,L,Nat.sub_self,List.take_zero]
    rfl
   ·have X:=List.mem_filter.1 V
    simp only[Bool.and_eq_true,decide_eq_true_eq,Bool.not_eq_true'] at X;rw[Z g.1 X.2.1] at X;exact absurd X.2.2 (by simp)
theorem CU{T:TypeId→Option TyI}{ops:Array Oper}{y:List Nat}(H:dW ops.toList=y)(s:XS):
  aK T O N m0 ops s=match wL T O N m0 ops y s with
   |some s' =>some s'
   |none=>pw T O N m0 ops s:=by
 cases h:wL T O N m0 ops y s with
 |none=>rfl
 |some s' =>
  simp only;unfold wL at h;unfold aK;simp only;rw[H];split at h
  ·cases h
  ·rename_i R env mem Z
   split at h
   ·rename_i X
    cases h;rw[Z];simp only;rw[if_pos (List.all_eq_true.2 fun f V=>KJ X V)]
   ·cases h
mutual
theorem afr{p q:Nat→Bool}:∀(v:AV),v.ae6 p=true→v.ae6 q=true→v.ae6 (fun b=>p b&&q b)=true
 |.ptr _ _,h1,h2=>by simp only[AV.ae6] at h1 h2 ⊢;rw[h1,h2];rfl
 |.slice _ _ _ _,h1,h2=>by simp only[AV.ae6] at h1 h2 ⊢;rw[h1,h2];rfl
 |.map _,h1,h2=>by simp only[AV.ae6] at h1 h2 ⊢;rw[h1,h2];rfl
 |.yield _,h1,h2=>by simp only[AV.ae6] at h1 h2 ⊢;rw[h1,h2];rfl
 |.func _ Z,h1,h2=>by simp only[AV.ae6] at h1 h2 ⊢;exact lx Z h1 h2
 |.iface _ v,h1,h2=>by simp only[AV.ae6] at h1 h2 ⊢;exact afr v h1 h2
 |.agg Z,h1,h2=>by simp only[AV.ae6] at h1 h2 ⊢;exact lx Z h1 h2
 |.tuple Z,h1,h2=>by simp only[AV.ae6] at h1 h2 ⊢;exact lx Z h1 h2
 |.undef,_,_=>rfl
 |.bool _,_,_=>rfl
 |.int _ _,_,_=>rfl
 |.str _,_,_=>rfl
 |.afk,_,_=>rfl
 |.qF,_,_=>rfl
 |.aft,_,_=>rfl
 |.nilFunc,_,_=>rfl
 |.nilIface,_,_=>rfl
theorem lx{p q:Nat→Bool}:∀(cs:List AV),AV.afa p cs=true→AV.afa q cs=true→AV.afa (fun b=>p b&&q b) cs=true
 | [],_,_=>rfl
 |v::vs,h1,h2=>by simp only[AV.afa,Bool.and_eq_true] at h1 h2 ⊢;exact⟨afr v h1.1 h2.1,lx vs h1.2 h2.2⟩
end
mutual
theorem afo:∀(v:AV),v.ae6 (fun _=>true)=true
 |.ptr _ _=>rfl
 |.slice _ _ _ _=>rfl
 |.map _=>rfl
 |.yield _=>rfl
 |.func _ Z=>by simp only[AV.ae6];exact ke Z
 |.iface _ v=>by simp only[AV.ae6];exact afo v
 |.agg Z=>by simp only[AV.ae6];exact ke Z
 |.tuple Z=>by simp only[AV.ae6];exact ke Z
 |.undef=>rfl
 |.bool _=>rfl
 |.int _ _=>rfl
 |.str _=>rfl
 |.afk=>rfl
 |.qF=>rfl
 |.aft=>rfl
 |.nilFunc=>rfl
 |.nilIface=>rfl
theorem ke:∀(cs:List AV),AV.afa (fun _=>true) cs=true
 | []=>rfl
 |v::vs=>by simp only[AV.afa,Bool.and_eq_true];exact⟨afo v,ke vs⟩
end
theorem afw{top:Nat}{v:AV}(h:v.ae6 (fun b=>decide (b<top))=true):∀{un:List (Nat×Rec)},(∀g∈un,v.ae6 (fun b=> !decide (g.2.mem.length≤b∧b<g.2.nx.length))=true)→v.ae6 (iy top un)=true
 | [],_=>by
  have:iy top []=fun b=>decide (b<top):=by funext b;simp[iy]
  rw[this];exact h
 |g::un,hg=>by
  have Z:=afw h (un:=un) (fun x X=>hg x (List.mem_cons_of_mem _ X));have V:=afr v Z (hg g (List.mem_cons_self ..));have:iy top (g::un)=fun b=>iy top un b&& !decide (g.2.mem.length≤b∧b<g.2.nx.length):=by funext b;simp only[iy,List.all_cons];cases decide (b<top)<;>cases (un.all fun f=> !decide (f.2.mem.length≤b∧b<f.2.nx.length))<;>simp
  rw[this];exact V
def lQ:afb→Bool
 |.qK=>true
 |_=>false
def Xd(y H:Nat)(r:Rec):Bool:=
 dT r&&r.v.ae6 (fun b=> !decide (y≤b∧b<H))&&((r.tm.drop y).take (H-y)).all lQ
structure ahM (bs:List Nat)(R:List (Nat×Rec))(f:Nat×Rec):Prop where
 refs:f.2.v.ae6 (fun b=>decide (b<f.2.nx.length))=true
 or:(f.2.nx.length=f.2.mem.length∧f.2.wr=[])∨((f.2.wr=[]∨∀i,i<f.1→bef bs i f.1=true)∧(∀g∈R,f.1<g.1→bef bs f.1 g.1=true∨(f.2.wr=[]∧Xd f.2.mem.length f.2.nx.length g.2=true))∧
  f.2.wr.all (fun b=>eO f.2.tm b&&(match f.2.nx[b]? with | some s=>s.ae6 (fun b=>decide (b<f.2.nx.length)) | none=>true))=true∧
  ((f.2.nx.drop f.2.mem.length).all fun s=>(s.own||match s with | .qK=>true | _=>false)&&s.ae6 (fun b=>decide (b<f.2.nx.length)))=true)
theorem Cw(f:Nat→Bool)(new:Mem):∀(i:Nat) (M:Mem),bQ [] i M (cc f i M++new)=M++new
 |_,[]=>rfl
 |i,s::M=>by simp[cc,bQ,Cw f new (i+1) M]
theorem yV(new:Mem):∀(i:Nat) (M:Mem),bQ [] i M (M++new)=M++new
 |_,[]=>rfl
 |i,s::M=>by simp[bQ,yV new (i+1) M]
theorem yX(f:Nat→Bool)(s:afb):∀(i:Nat) (M:Mem) (k:Nat),bQ [i+k] i M ((cc f i M).set k s)=M.set k s
 |_,[],_=>rfl
 |i,x::M,0=>by
  simp only[cc,List.set_cons_zero,bQ,Nat.add_zero];have h:∀(j:Nat) (M:Mem),i<j→bQ [i] j M (cc f j M)=M:=by
   intro j M Z;induction M generalizing j with
   |nil=>rfl
   |cons y M ih=>simp[cc,bQ,ih (j+1) (by omega),show¬j=i by omega]
  simp[h (i+1) M (by omega)]
 |i,x::M,k+1=>by have:=yX f s (i+1) M k;rw[show i+1+k=i+(k+1) by omega] at this;simp[cc,bQ,this,show¬i=i+(k+1) by omega]
theorem Lq(f:Nat→Bool)(s:afb)(M:Mem)(k:Nat):bQ [k] 0 M ((cc f 0 M).set k s)=M.set k s:=by
 have:=yX f s 0 M k
 rwa [Nat.zero_add] at this
theorem ES(f:Nat→Bool):∀(i:Nat) (M:Mem),(cc f i M).length=M.length
 |_,[]=>rfl
 |i,x::M=>by simp[cc,ES f (i+1) M]
theorem Q1(f:Nat→Bool)(M:Mem)(y n:Nat)(h:∀b,y≤b→b<y+n→f b=false):(((cc f 0 M).drop y).take n).all lQ=true:=by
 rw[List.all_eq_true];intro s X;obtain⟨i,Z⟩:=List.getElem?_of_mem X;rw[List.getElem?_take] at Z;split at Z
 ·rename_i V
  rw[List.getElem?_drop,uK] at Z;cases hM:M[y+i]? with
  |none=>rw[hM] at Z;simp at Z
  |some x=>
   rw[hM] at Z;simp only[Option.map_some,Nat.zero_add,Option.some.injEq] at Z;rw[h (y+i) (by omega) (by omega)] at Z;simp at Z;subst Z;rfl
 ·cases Z
theorem N1(M:Mem)(y n:Nat):(((cc (fun _=>false) 0 M).drop y).take n).all lQ=true:=Q1 _ M y n fun _ _ _=>rfl
theorem Wd(M X:Mem)(k:Nat):(M++X).drop (M.length+k)=X.drop k:=by rw[List.drop_append];simp
theorem U1(M X:Mem):(M++X).drop M.length=X:=by simp
theorem wA(i:Nat)(s s' :afb)(r r' :Mem):bQ [] i (s::r) (s' ::r')=s::bQ [] (i+1) r r' :=by simp[bQ]
theorem Cx:∀(i:Nat) (N X Y:Mem),bQ [] i (N++X) (N++Y)=N++bQ [] (i+N.length) X Y
 |i,[],X,Y=>by simp
 |i,s::N,X,Y=>by simp only[List.cons_append,wA,Cx (i+1) N X Y,List.length_cons];rw[show i+1+N.length=i+(N.length+1) by omega]
theorem afb.afr{p q:Nat→Bool}:∀(s:afb),s.ae6 p=true→s.ae6 q=true→s.ae6 (fun b=>p b&&q b)=true
 |.qK,_,_=>rfl
 |.cells _ _ cs,h,h' =>lx cs h h'
 |.map es,h,h' =>by simp only[afb.ae6,List.all_eq_true,Bool.and_eq_true] at h h' ⊢;exact fun e Z=>⟨Go.Eng.afr _ (h e Z).1 (h' e Z).1,Go.Eng.afr _ (h e Z).2 (h' e Z).2⟩
 |.afH es,h,h' =>by simp only[afb.ae6,List.all_eq_true,Bool.and_eq_true] at h h' ⊢;exact fun e Z=>⟨Go.Eng.afr _ (h e Z).1 (h' e Z).1,Go.Eng.afr _ (h e Z).2 (h' e Z).2⟩
 |.loop r,h,h' =>by simp only[afb.ae6,List.all_eq_true] at h h' ⊢;exact fun e Z=>Go.Eng.afr _ (h e Z) (h' e Z)
theorem afb.afw{top:Nat}{s:afb}(h:s.ae6 (fun b=>decide (b<top))=true):∀{un:List (Nat×Rec)},(∀g∈un,s.ae6 (fun b=> !decide (g.2.mem.length≤b∧b<g.2.nx.length))=true)→s.ae6 (iy top un)=true
 | [],_=>by
  have:iy top []=fun b=>decide (b<top):=by funext b;simp[iy]
  rw[this];exact h
 |g::un,hg=>by
  have Z:=afb.afw h (un:=un) (fun x X=>hg x (List.mem_cons_of_mem _ X));have V:=afb.afr s Z (hg g (List.mem_cons_self ..));have:iy top (g::un)=fun b=>iy top un b&& !decide (g.2.mem.length≤b∧b<g.2.nx.length):=by funext b;simp only[iy,List.all_cons];cases decide (b<top)<;>cases (un.all fun f=> !decide (f.2.mem.length≤b∧b<f.2.nx.length))<;>simp
  rw[this];exact V
theorem rV{g:Rec}(h:g.nx.length=g.mem.length):(fun b=> !decide (g.mem.length≤b∧b<g.nx.length))=fun _=>true:=by
 funext b;rw[h];have:¬(g.mem.length≤b∧b<g.mem.length):=by omega
 simp[this]
theorem afb.afo:∀(s:afb),s.ae6 (fun _=>true)=true
 |.qK=>rfl
 |.cells _ _ cs=>ke cs
 |.map es=>by simp only[afb.ae6,List.all_eq_true,Bool.and_eq_true];exact fun e _=>⟨Go.Eng.afo _,Go.Eng.afo _⟩
 |.afH es=>by simp only[afb.ae6,List.all_eq_true,Bool.and_eq_true];exact fun e _=>⟨Go.Eng.afo _,Go.Eng.afo _⟩
 |.loop r=>by simp only[afb.ae6,List.all_eq_true];exact fun e _=>Go.Eng.afo _
def dJ(y H:Nat)(r:Rec):Bool:=
 r.wr.isEmpty&&r.v.ae6 (fun b=> !decide (y≤b∧b<H))&&((r.nx.drop r.mem.length).all fun s=>s.ae6 (fun b=> !decide (y≤b∧b<H)))&&((r.tm.drop y).take (H-y)).all lQ
def fQ(y:List Nat)(i:Nat)(r:Rec):Nat→List Rec→Bool
 |_,[]=>true
 |j,s::rest=>(bef y i j||(r.wr.isEmpty&&dJ r.mem.length r.nx.length s))&&fQ y i r (j+1) rest
def kk(y:List Nat)(j:Nat)(r:Rec):List (Nat×Rec)→Bool
 | []=>true
 |g::l=>(bef y g.1 j||(dT g.2&&r.wr.all fun b=> !eO g.2.tm b))&&kk y j r l
def dP(y:List Nat):Nat→List (Nat×Rec)→List Rec→Bool
 |_,_,[]=>true
 |j,acc,r::rest=>r.v.ae6 (fun b=>decide (b<r.nx.length))&&(dT r||(fQ y j r (j+1) rest&&(r.wr.isEmpty||(kk y j r acc&&r.wr.all (fun b=>eO r.tm b&&(match r.nx[b]? with | some s=>s.ae6 (fun b=>decide (b<r.nx.length)) | none=>true))))&&
   (r.nx.drop r.mem.length).all fun s=>(s.own||match s with | .qK=>true | _=>false)&&s.ae6 (fun b=>decide (b<r.nx.length))))&&dP y (j+1) ((j,r)::acc) rest
def dG(T:TypeId→Option TyI)(O:ae3)(N m0:Nat)(ops:Array Oper)(y:List Nat)(s:XS):Option XS:=
 match mP T O N ops y 0 ops.toList s.env s.mem [] with
 |none=>none
 |some (R,env,mem)=>
  if dP y 0 [] R then some ⟨env,mem,s.afv||R.any fun r=>r.wr.any fun b=>decide (b<m0)⟩ else none
theorem B9{y:List Nat}{i:Nat}{r:Rec}:∀{j0:Nat} {R:List Rec},fQ y i r j0 R=true→∀g∈br j0 R,bef y i g.1=true∨(r.wr=[]∧dJ r.mem.length r.nx.length g.2=true)
 |_,[],_,g,hg=>by simp[br] at hg
 |j0,s::rest,h,g,hg=>by
  simp only[fQ,Bool.and_eq_true,Bool.or_eq_true,List.isEmpty_iff] at h;rw[br,List.mem_cons] at hg;rcases hg with rfl | hg
  ·exact h.1
  ·exact B9 h.2 g hg
theorem Eu{y:List Nat}{j:Nat}{r:Rec}:∀{acc:List (Nat×Rec)},kk y j r acc=true→∀g∈acc,bef y g.1 j=true∨((g.2.nx.length=g.2.mem.length∧g.2.wr=[])∧(r.wr.all fun b=> !eO g.2.tm b)=true)
 | [],_,g,hg=>by cases hg
 |a::l,h,g,hg=>by
  simp only[kk,dT,Bool.and_eq_true,Bool.or_eq_true,decide_eq_true_eq,List.isEmpty_iff] at h;rcases List.mem_cons.1 hg with rfl | hg
  ·exact h.1
  ·exact Eu h.2 g hg
structure ahl (bs:List Nat)(R:List (Nat×Rec))(f:Nat×Rec):Prop where
 refs:f.2.v.ae6 (fun b=>decide (b<f.2.nx.length))=true
 or:(f.2.nx.length=f.2.mem.length∧f.2.wr=[])∨((f.2.wr=[]∨∀g∈R,g.1<f.1→bef bs g.1 f.1=true∨((g.2.nx.length=g.2.mem.length∧g.2.wr=[])∧(f.2.wr.all fun b=> !eO g.2.tm b)=true))∧(∀g∈R,f.1<g.1→bef bs f.1 g.1=true∨(f.2.wr=[]∧dJ f.2.mem.length f.2.nx.length g.2=true))∧
  f.2.wr.all (fun b=>eO f.2.tm b&&(match f.2.nx[b]? with | some s=>s.ae6 (fun b=>decide (b<f.2.nx.length)) | none=>true))=true∧
  ((f.2.nx.drop f.2.mem.length).all fun s=>(s.own||match s with | .qK=>true | _=>false)&&s.ae6 (fun b=>decide (b<f.2.nx.length)))=true)
theorem yQ{y:List Nat}{R0:List (Nat×Rec)}:∀{j0:Nat} {acc:List (Nat×Rec)} {R:List Rec},(∀g∈R0,g.1<j0∨g∈br j0 R)→(∀g∈R0,g.1<j0→g∈acc)→dP y j0 acc R=true→∀f∈br j0 R,ahl y R0 f
 |_,_,[],_,_,_,f,hf=>by simp[br] at hf
 |j0,acc,r::rest,hR,aba,h,f,hf=>by
  simp only[dP,Bool.and_eq_true] at h;obtain⟨⟨M,U⟩,L⟩:=h;have V :∀g∈R0,g.1<j0+1∨g∈br (j0+1) rest:=by
   intro g X;rcases hR g X with h3 | h3
   ·exact .inl (by omega)
   ·rw[br,List.mem_cons] at h3
    rcases h3 with rfl | h3
    ·exact .inl (by simp)
    ·exact .inr h3
  have Q :∀g∈R0,g.1<j0+1→g∈(j0,r)::acc:=by
   intro g X S;rcases hR g X with h3 | h3
   ·exact List.mem_cons_of_mem _ (aba g X h3)
   ·rw[br,List.mem_cons] at h3
    rcases h3 with rfl | h3
    ·exact List.mem_cons_self ..
    ·have:=(iH h3).1;omega
  rw[br,List.mem_cons] at hf;rcases hf with rfl | hf
  ·refine⟨M,?_⟩
   simp only[dT,Bool.and_eq_true,Bool.or_eq_true,decide_eq_true_eq,List.isEmpty_iff] at U;rcases U with U | ⟨⟨h3,Z⟩,K⟩
   ·exact .inl U
   ·refine .inr ⟨?_,fun g X S=>?_,?_,K⟩
    ·rcases Z with Z | ⟨Z,_⟩
     ·exact .inl Z
     ·exact .inr fun g X S=>Eu Z g (aba g X S)
    ·rcases V g X with h6 | h6
     ·simp only at S;omega
     ·exact B9 h3 g h6
    ·rcases Z with Z | ⟨_,Z⟩
     ·rw[Z];rfl
     ·exact Z
  ·exact yQ V Q L f hf
theorem Gw{y:List Nat}(h:dP y 0 [] R=true){f:Nat×Rec}(hf:f∈br 0 R):iq y (br 0 R) f.1 f.2=true:=by
 have u:=yQ (R0:=br 0 R) (fun g Z=>.inr Z) (fun g _ m=>absurd m (Nat.not_lt_zero _)) h;have D:=u f hf;unfold iq;have S:∀g∈(br 0 R).filter (fun g=>decide (g.1<f.1)&& !bef y g.1 f.1),(g.2.nx.length=g.2.mem.length∧g.2.wr=[])∨(g.2.wr=[]∧dJ g.2.mem.length g.2.nx.length f.2=true):=by
  intro g Z;have U:=List.mem_filter.1 Z;simp only[Bool.and_eq_true,decide_eq_true_eq,Bool.not_eq_true'] at U;rcases (u g U.1).or with V | ⟨_,V,_⟩
  ·exact .inl V
  ·rcases V f hf U.2.1 with K | K
   ·rw[K] at U;exact absurd U.2.2 (by simp)
   ·exact .inr K
 have G:∀g∈(br 0 R).filter (fun g=>decide (g.1<f.1)&& !bef y g.1 f.1),g.2.wr=[]∧(f.2.wr.all fun b=> !eO g.2.tm b)=true∧(f.2.wr=[]∨g.2.nx.length=g.2.mem.length):=by
  intro g Z;have U:=List.mem_filter.1 Z;simp only[Bool.and_eq_true,decide_eq_true_eq,Bool.not_eq_true'] at U;rcases S g Z with⟨Q,X⟩ | ⟨Q,X⟩
  ·refine⟨X,?_,.inr Q⟩
   rcases D.or with V | ⟨V,_⟩
   ·rw[V.2];rfl
   ·rcases V with V | V
    ·rw[V];rfl
    ·rcases V g U.1 U.2.1 with h3 | h3
     ·rw[h3] at U;exact absurd U.2.2 (by simp)
     ·exact h3.2
  ·simp only[dJ,Bool.and_eq_true,List.isEmpty_iff] at X
   refine⟨Q,?_,.inl X.1.1.1⟩;rw[X.1.1.1];rfl
 have Y:f.2.v.ae6 (iy f.2.nx.length ((br 0 R).filter fun g=>decide (g.1<f.1)&& !bef y g.1 f.1))=true:=afw D.refs fun g Z=>by
  rcases S g Z with⟨Q,_⟩ | ⟨_,X⟩
  ·rw[rV Q];exact afo _
  ·simp only[dJ,Bool.and_eq_true] at X
   exact X.1.1.2
 have C:(((br 0 R).filter fun g=>decide (g.1<f.1)&& !bef y g.1 f.1).all fun g=>g.2.wr.all (fun b=> !eO f.2.tm b)&&f.2.wr.all (fun b=> !eO g.2.tm b)&&
   ((f.2.tm.drop g.2.mem.length).take (g.2.nx.length-g.2.mem.length)).all fun s=>match s with | .qK=>true | _=>false)=true:=List.all_eq_true.2 fun g Z=>by
  obtain⟨w1,w2,_⟩:=G g Z;rw[w1,w2];simp only[List.all_nil,Bool.true_and];rcases S g Z with⟨Q,_⟩ | ⟨_,X⟩
  ·rw[Q,Nat.sub_self,List.take_zero];rfl
  ·simp only[dJ,Bool.and_eq_true] at X
   refine List.all_eq_true.2 fun s L=>?_
   have:=List.all_eq_true.1 X.2 s L;cases s<;>simp_all[lQ]
 have B:((f.2.nx.drop f.2.mem.length).all fun s=>(s.own||match s with | .qK=>true | _=>false)&&s.ae6 (iy f.2.nx.length ((br 0 R).filter fun g=>decide (g.1<f.1)&& !bef y g.1 f.1)))=true:=by
  refine List.all_eq_true.2 fun s L=>?_
  rcases D.or with⟨V,_⟩ | ⟨_,_,_,W⟩
  ·rw[List.drop_of_length_le (by rw[V];exact Nat.le_refl _)] at L;cases L
  ·have M:=List.all_eq_true.1 W s L
   simp only[Bool.and_eq_true] at M ⊢;refine⟨M.1,afb.afw M.2 fun g Z=>?_⟩;rcases S g Z with⟨Q,_⟩ | ⟨_,X⟩
   ·rw[rV Q];exact afb.afo _
   ·simp only[dJ,Bool.and_eq_true] at X
    exact List.all_eq_true.1 X.1.2 s L
 have o:f.2.wr.all (fun b=>eO f.2.tm b)=true∧(f.2.wr.all fun b=>match f.2.nx[b]? with | some s=>s.ae6 (iy f.2.nx.length ((br 0 R).filter fun g=>decide (g.1<f.1)&& !bef y g.1 f.1)) | none=>true)=true:=by
  rcases D.or with⟨_,K⟩ | ⟨_,_,h3,_⟩
  ·rw[K];exact⟨rfl,rfl⟩
  ·constructor
   ·refine List.all_eq_true.2 fun b F=>?_
    have:=List.all_eq_true.1 h3 b F;simp only[Bool.and_eq_true] at this;exact this.1
   ·refine List.all_eq_true.2 fun b F=>?_
    have:=List.all_eq_true.1 h3 b F;simp only[Bool.and_eq_true] at this;cases hn:f.2.nx[b]? with
    |none=>rfl
    |some s=>
     simp only[hn] at this ⊢;refine afb.afw this.2 fun g Z=>?_
     rcases (G g Z).2.2 with M | M
     ·rw[M] at F;cases F
     ·rw[rV M];exact afb.afo _
 simp only[Bool.and_eq_true];exact⟨⟨⟨⟨o.1,Y⟩,o.2⟩,B⟩,C⟩
theorem bT{T:TypeId→Option TyI}{ops:Array Oper}{y:List Nat}(H:dW ops.toList=y)(s:XS):
  aK T O N m0 ops s=match dG T O N m0 ops y s with
   |some s' =>some s'
   |none=>pw T O N m0 ops s:=by
 cases h:dG T O N m0 ops y s with
 |none=>rfl
 |some s' =>
  simp only;unfold dG at h;unfold aK;simp only;rw[H];split at h
  ·cases h
  ·rename_i R env mem Z
   split at h
   ·rename_i X
    cases h;rw[Z];simp only;rw[if_pos (List.all_eq_true.2 fun f V=>Gw X V)]
   ·cases h
mutual
theorem AV.afY{k n:Nat}(y:k≤n):∀{v:AV},v.under k=true→v.refs n=[]
 |.undef,_=>rfl
 |.bool _,_=>rfl
 |.int _ _,_=>rfl
 |.str _,_=>rfl
 |.ptr b o,h=>by simp only[AV.under,decide_eq_true_eq] at h;simp only[AV.refs];rw[if_pos (by omega)]
 |.afk,_=>rfl
 |.slice b o l c,h=>by simp only[AV.under,decide_eq_true_eq] at h;simp only[AV.refs];rw[if_pos (by omega)]
 |.qF,_=>rfl
 |.map b,h=>by simp only[AV.under,decide_eq_true_eq] at h;simp only[AV.refs];rw[if_pos (by omega)]
 |.yield b,h=>by simp only[AV.under,decide_eq_true_eq] at h;simp only[AV.refs];rw[if_pos (by omega)]
 |.aft,_=>rfl
 |.func f Z,h=>by simp only[AV.under] at h;simp only[AV.refs];exact AV.afx y h
 |.nilFunc,_=>rfl
 |.iface t v,h=>by simp only[AV.under] at h;simp only[AV.refs];exact AV.afY y h
 |.nilIface,_=>rfl
 |.agg Z,h=>by simp only[AV.under] at h;simp only[AV.refs];exact AV.afx y h
 |.tuple Z,h=>by simp only[AV.under] at h;simp only[AV.refs];exact AV.afx y h
theorem AV.afx{k n:Nat}(y:k≤n):∀{vs:List AV},AV.afd k vs=true→AV.afm n vs=[]
 | [],_=>rfl
 |v::vs,h=>by simp only[AV.afd,Bool.and_eq_true] at h;simp only[AV.afm,AV.afY y h.1,AV.afx y h.2,List.append_nil]
end
mutual
theorem AV.afP{k:Nat}{f:Nat→Bool}(hf:∀b,b<k→f b=true):∀{v:AV},v.under k=true→v.ae6 f=true
 |.undef,_=>rfl
 |.bool _,_=>rfl
 |.int _ _,_=>rfl
 |.str _,_=>rfl
 |.ptr b o,h=>by simp only[AV.under,decide_eq_true_eq] at h;simp only[AV.ae6];exact hf b h
 |.afk,_=>rfl
 |.slice b o l c,h=>by simp only[AV.under,decide_eq_true_eq] at h;simp only[AV.ae6];exact hf b h
 |.qF,_=>rfl
 |.map b,h=>by simp only[AV.under,decide_eq_true_eq] at h;simp only[AV.ae6];exact hf b h
 |.yield b,h=>by simp only[AV.under,decide_eq_true_eq] at h;simp only[AV.ae6];exact hf b h
 |.aft,_=>rfl
 |.func f Z,h=>by simp only[AV.under] at h;simp only[AV.ae6];exact AV.afs hf h
 |.nilFunc,_=>rfl
 |.iface t v,h=>by simp only[AV.under] at h;simp only[AV.ae6];exact AV.afP hf h
 |.nilIface,_=>rfl
 |.agg Z,h=>by simp only[AV.under] at h;simp only[AV.ae6];exact AV.afs hf h
 |.tuple Z,h=>by simp only[AV.under] at h;simp only[AV.ae6];exact AV.afs hf h
theorem AV.afs{k:Nat}{f:Nat→Bool}(hf:∀b,b<k→f b=true):∀{vs:List AV},AV.afd k vs=true→AV.afa f vs=true
 | [],_=>rfl
 |v::vs,h=>by simp only[AV.afd,Bool.and_eq_true] at h;simp only[AV.afa,AV.afP hf h.1,AV.afs hf h.2,Bool.and_self]
end
mutual
theorem yr{k n:Nat}(y:k≤n):∀{v:AV},v.under k=true→v.under n=true
 |.undef,_=>rfl
 |.bool _,_=>rfl
 |.int _ _,_=>rfl
 |.str _,_=>rfl
 |.ptr b o,h=>by simp only[AV.under,decide_eq_true_eq] at h ⊢;omega
 |.afk,_=>rfl
 |.slice b o l c,h=>by simp only[AV.under,decide_eq_true_eq] at h ⊢;omega
 |.qF,_=>rfl
 |.map b,h=>by simp only[AV.under,decide_eq_true_eq] at h ⊢;omega
 |.yield b,h=>by simp only[AV.under,decide_eq_true_eq] at h ⊢;omega
 |.aft,_=>rfl
 |.func f Z,h=>by simp only[AV.under] at h ⊢;exact pP y h
 |.nilFunc,_=>rfl
 |.iface t v,h=>by simp only[AV.under] at h ⊢;exact yr y h
 |.nilIface,_=>rfl
 |.agg Z,h=>by simp only[AV.under] at h ⊢;exact pP y h
 |.tuple Z,h=>by simp only[AV.under] at h ⊢;exact pP y h
theorem pP{k n:Nat}(y:k≤n):∀{vs:List AV},AV.afd k vs=true→AV.afd n vs=true
 | [],_=>rfl
 |v::vs,h=>by simp only[AV.afd,Bool.and_eq_true] at h ⊢;exact⟨yr y h.1,pP y h.2⟩
end
variable{k:Nat}
theorem fG{vs:List AV}(h:AV.afd k vs=true):(∀n,k≤n→AV.afm n vs=[])∧(∀n,k≤n→AV.afa (fun b=>decide (b<n)) vs=true):=
 ⟨fun n Z=>AV.afx Z h,fun n Z=>AV.afs (fun b X=>by simp only[decide_eq_true_eq];omega) h⟩
variable{v:AV}
theorem fg(h:v.under k=true):(∀n,k≤n→v.refs n=[])∧(∀n,k≤n→v.ae6 (fun b=>decide (b<n))=true):=
 ⟨fun n Z=>AV.afY Z h,fun n Z=>AV.afP (fun b X=>by simp only[decide_eq_true_eq];omega) h⟩
mutual
theorem ae5.cut{μ μ' :Nat→Place}{n n' :Nat}:∀{v V V'},ae5 μ n v V→ae5 μ' n' v V' →ae5 μ' n v V'
 |.undef,V,V',_,_=>by simp[ae5]
 |.bool b,V,V',_,h=>by simpa [ae5] using h
 |.int k i,V,V',_,h=>by simpa [ae5] using h
 |.str s,V,V',_,h=>by simpa [ae5] using h
 |.ptr b o,V,V',h,Z =>by simp only[ae5] at h Z ⊢;exact⟨h.1,Z.2⟩
 |.afk,V,V',_,h=>by simpa [ae5] using h
 |.slice b o l c,V,V',h,Z =>by simp only[ae5] at h Z ⊢;exact⟨h.1,Z.2⟩
 |.qF,V,V',_,h=>by simpa [ae5] using h
 |.map b,V,V',h,Z =>by simp only[ae5] at h Z ⊢;exact⟨h.1,Z.2⟩
 |.yield b,V,V',h,Z =>by simp only[ae5] at h Z ⊢;exact⟨h.1,Z.2⟩
 |.aft,V,V',_,h=>by simpa [ae5] using h
 |.func f S,V,V',h,Z =>by simp only[ae5] at h Z ⊢;obtain⟨Q,rfl,h⟩:=h;obtain⟨X,rfl,Z⟩:=Z;exact⟨X,rfl,ae7.cut h Z⟩
 |.nilFunc,V,V',_,h=>by simpa [ae5] using h
 |.iface t v,V,V',h,Z =>by simp only[ae5] at h Z ⊢;obtain⟨U,rfl,h⟩:=h;obtain⟨M,rfl,Z⟩:=Z;exact⟨M,rfl,ae5.cut h Z⟩
 |.nilIface,V,V',_,h=>by simpa [ae5] using h
 |.agg S,V,V',h,Z =>by simp only[ae5] at h Z ⊢;obtain⟨Q,rfl,h⟩:=h;obtain⟨X,rfl,Z⟩:=Z;exact⟨X,rfl,ae7.cut h Z⟩
 |.tuple S,V,V',h,Z =>by simp only[ae5] at h Z ⊢;obtain⟨Q,rfl,h⟩:=h;obtain⟨X,rfl,Z⟩:=Z;exact⟨X,rfl,ae7.cut h Z⟩
theorem ae7.cut{μ μ' :Nat→Place}{n n' :Nat}:∀{vs Us Us'},ae7 μ n vs Us→ae7 μ' n' vs Us' →ae7 μ' n vs Us'
 | [],Us,Us',_,h=>by simpa [ae7] using h
 |v::vs,Us,Us',h,h' =>by simp only[ae7] at h h' ⊢;obtain⟨U,L,rfl,V,S⟩:=h;obtain⟨Q,Z,rfl,M,X⟩:=h';exact⟨Q,Z,rfl,ae5.cut V M,ae7.cut S X⟩
end
theorem afl.cut{μ μ' :Nat→Place}{n n' y:Nat}{w w' :World}{p H :Place}{s:afb}(h:afl μ n y w p s)(h' :afl μ' n' y w' H s):afl μ' n y w' H s:=by
 cases s with
 |qK=>trivial
 |cells own es cs=>
  simp only[afl] at h h' ⊢;obtain⟨_,_,_,_,_,_,Q,_⟩:=h;obtain⟨G,e,o,X,U,M,K,m⟩:=h';refine⟨G,e,o,X,U,M,fun j v Z=>?_,m⟩;obtain⟨V,_,r⟩:=Q j v Z;obtain⟨Y,F,S⟩:=K j v Z;exact⟨Y,F,ae5.cut r S⟩
 |map es=>
  simp only[afl] at h h' ⊢;obtain⟨_,_,_,_,_,Q⟩:=h;obtain⟨D,C,X,U,M,K⟩:=h';refine⟨D,C,X,U,M,fun j e Z=>?_⟩;obtain⟨E,_,r⟩:=Q j e Z;obtain⟨B,u,S⟩:=K j e Z;exact⟨B,u,ae5.cut r.1 S.1,ae5.cut r.2 S.2⟩
 |afH es=>
  simp only[afl] at h h' ⊢;obtain⟨_,_,_,_,_,Q⟩:=h;obtain⟨D,C,X,U,M,K⟩:=h';refine⟨D,C,X,U,M,fun j e Z=>?_⟩;obtain⟨E,_,r⟩:=Q j e Z;obtain⟨B,u,S⟩:=K j e Z;exact⟨B,u,ae5.cut r.1 S.1,ae5.cut r.2 S.2⟩
 |loop r=>
  simp only[afl] at h h' ⊢;obtain⟨L,_,_,g⟩:=h;obtain⟨W,X,U,k⟩:=h';exact⟨W,X,U,k.st,k.agc,k.ps,k.assign,k.body,k.size,fun t=>ae5.cut (g.tmps t) (k.tmps t)⟩
variable{P:Program}{args:List AV}{m new:Mem}
theorem kO.forget{f:FuncId}(y:v.closed=true)(h:kO P f args m v (m++new)):kO P f args m v m:=by
 refine⟨h.1,fun base μ w Vs hG hH hV=>(h.2 base μ w Vs hG hH hV).mono ?_⟩;rintro e w' ⟨V,v',m',μ',rfl,q1,q2,q3,rfl,rfl⟩;have X:∀{b:Nat}{s:afb},m[b]? =some s→(m++new)[b]? =some s:=fun {b s} Z=>gU Z _
 have U:∀{b:Nat},ek m b→ek (m++new) b:=fun ⟨s,S,Q⟩=>⟨s,X S,Q⟩
 exact⟨V,_,m,μ',rfl,ae5.closed y q1,⟨q2.afe,fun b s Z=>(hH.slot b s Z).cut (q2.slot b s (X Z)),fun b M L Z K =>q2.sep b M L (U Z) (X K)⟩,
  ⟨Nat.le_refl _,q3.agree,q3.os,q3.tape,q3.output,q3.size,q3.frame,fun b Z=>q3.owner b (U Z),q3.drawn⟩,rfl,rfl⟩
mutual
theorem ae5.low{μ:Nat→Place}{n n' :Nat}:∀{v V},v.under n=true→ae5 μ n' v V→ae5 μ n v V
 |.undef,V,_,_=>by simp[ae5]
 |.bool b,V,_,h=>by simpa [ae5] using h
 |.int k i,V,_,h=>by simpa [ae5] using h
 |.str s,V,_,h=>by simpa [ae5] using h
 |.ptr b o,V,hu,h=>by simp only[AV.under,decide_eq_true_eq] at hu;simp only[ae5] at h ⊢;exact⟨hu,h.2⟩
 |.afk,V,_,h=>by simpa [ae5] using h
 |.slice b o l c,V,hu,h=>by simp only[AV.under,decide_eq_true_eq] at hu;simp only[ae5] at h ⊢;exact⟨hu,h.2⟩
 |.qF,V,_,h=>by simpa [ae5] using h
 |.map b,V,hu,h=>by simp only[AV.under,decide_eq_true_eq] at hu;simp only[ae5] at h ⊢;exact⟨hu,h.2⟩
 |.yield b,V,hu,h=>by simp only[AV.under,decide_eq_true_eq] at hu;simp only[ae5] at h ⊢;exact⟨hu,h.2⟩
 |.aft,V,_,h=>by simpa [ae5] using h
 |.func f X,V,hu,h=>by simp only[AV.under] at hu;simp only[ae5] at h ⊢;obtain⟨Z,rfl,h⟩:=h;exact⟨Z,rfl,ae7.low hu h⟩
 |.nilFunc,V,_,h=>by simpa [ae5] using h
 |.iface t v,V,hu,h=>by simp only[AV.under] at hu;simp only[ae5] at h ⊢;obtain⟨U,rfl,h⟩:=h;exact⟨U,rfl,ae5.low hu h⟩
 |.nilIface,V,_,h=>by simpa [ae5] using h
 |.agg X,V,hu,h=>by simp only[AV.under] at hu;simp only[ae5] at h ⊢;obtain⟨Z,rfl,h⟩:=h;exact⟨Z,rfl,ae7.low hu h⟩
 |.tuple X,V,hu,h=>by simp only[AV.under] at hu;simp only[ae5] at h ⊢;obtain⟨Z,rfl,h⟩:=h;exact⟨Z,rfl,ae7.low hu h⟩
theorem ae7.low{μ:Nat→Place}{n n' :Nat}:∀{vs Us},AV.afd n vs=true→ae7 μ n' vs Us→ae7 μ n vs Us
 | [],Us,_,h=>by simpa [ae7] using h
 |v::vs,Us,hu,h=>by simp only[AV.afd,Bool.and_eq_true] at hu;simp only[ae7] at h ⊢;obtain⟨U,Z,rfl,X,V⟩:=h;exact⟨U,Z,rfl,ae5.low hu.1 X,ae7.low hu.2 V⟩
end
theorem kO.agZ{f:FuncId}{y:Mem}(I:v.closed=true)(H:y.length=m.length)(hc:∀(b:Nat) s,y[b]? =some s→m[b]? =some s∨∃o es U,s=.cells o es U∧AV.afd m.length U=true)(h:kO P f args m v (y++new)):kO P f args m v y:=by
 refine⟨h.1,fun base μ w Vs hG hH hV=>(h.2 base μ w Vs hG hH hV).mono ?_⟩;rintro e w' ⟨V,v',m',μ',rfl,q1,q2,q3,rfl,rfl⟩;have X:∀{b:Nat}{s:afb},y[b]? =some s→(y++new)[b]? =some s:=fun {b s} Z=>gU Z _
 have L:∀{b:Nat},ek y b→ek (y++new) b:=fun ⟨s,S,G⟩=>⟨s,X S,G⟩
 refine⟨V,_,y,μ',rfl,ae5.closed I q1,⟨q2.afe,fun b s Z=>?_,fun b F D Z C =>q2.sep b F D (L Z) (X C)⟩,
  ⟨by rw[H];exact Nat.le_refl _,q3.agree,q3.os,q3.tape,q3.output,q3.size,q3.frame,fun b Z=>q3.owner b (L Z),q3.drawn⟩,rfl,rfl⟩
 rw[H];rcases hc b s Z with S | ⟨o,es,U,rfl,B⟩
 ·exact(hH.slot b s S).cut (q2.slot b s (X Z))
 ·have:=q2.slot _ _ (X Z)
  simp only[afl] at this ⊢;obtain⟨Q,e,u,Y,W,J,k4,k5⟩:=this;refine⟨Q,e,u,Y,W,J,fun j v K=>?_,k5⟩;obtain⟨V',M,r'⟩:=k4 j v K;exact⟨V',M,ae5.low (yu B j v K) r'⟩
end Go.Eng
