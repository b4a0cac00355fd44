/- See C54. -/
import Derived.Test.YtffdedmakncfmaaGreatDoorC04
import Derived.Maps.RangeRun
set_option linter.all false
namespace Go.Eng
theorem Y3:iZ []=[]:=rfl
theorem sJ(n:Int)(l:List Int):iZ (n::l)=.int .i64 n::iZ l:=rfl
theorem Un(l:List Int):(iZ l).length=l.length:=by simp[iZ]
theorem C9(l r:List Int):iZ (l++r)=iZ l++iZ r:=by simp[iZ]
theorem Xp(l:List Int)(i:Nat):(iZ l)[i]? =(l[i]?).map fun n=>.int .i64 n:=by simp[iZ]
theorem Sk(l:List Int)(i:Nat)(h:i<(iZ l).length):(iZ l)[i]=.int .i64 (l[i]'(by simpa [iZ] using h)):=by simp[iZ]
theorem XY(l:List Int)(i:Nat):(iZ l).take i=iZ (l.take i):=by simp[iZ]
theorem XX(l:List Int)(i:Nat):(iZ l).drop i=iZ (l.drop i):=by simp[iZ]
theorem Y0(l:List Int):(iZ l).all AV.afR=true:=by simp[iZ,AV.afR]
theorem HJ(m:Nat)(l:List Int):AV.af6 m (iZ l)=[]:=by
 induction l with
 |nil=>rfl
 |cons x l ih=>simp[sJ,AV.af6,AV.refs,ih]
theorem DL(ρ:Nat→Option Nat)(l:List Int):AV.af9 ρ (iZ l)=iZ l:=by
 induction l with
 |nil=>rfl
 |cons x l ih=>simp[sJ,AV.af9,AV.ren,ih]
theorem MY(m:Nat)(l:List Int):AV.afX m (iZ l)=true:=by
 induction l with
 |nil=>rfl
 |cons x l ih=>simp[sJ,AV.afX,AV.under,ih]
theorem FP(ok:Nat→Bool)(l:List Int):AV.afV ok (iZ l)=true:=by
 induction l with
 |nil=>rfl
 |cons x l ih=>simp[sJ,AV.afV,AV.afP,ih]
theorem MK(m:Nat)(o:Bool)(e:Nat)(l:List Int):afU.refs m (.cells o e (iZ l))=[]:=by simp[afU.refs,HJ]
theorem Pt(ρ:Nat→Option Nat)(o:Bool)(e:Nat)(l:List Int):afU.ren ρ (.cells o e (iZ l))=.cells o e (iZ l):=by simp[afU.ren,DL]
theorem E4(ok:Nat→Bool)(o:Bool)(e:Nat)(l:List Int):afU.afP ok (.cells o e (iZ l))=true:=by simp[afU.afP,FP]
theorem P8(l:List Int)(i:Nat)(n:Int)(h:i<l.length):(iZ l).take i++.int .i64 n::(iZ l).drop (i+1)=iZ (l.set i n):=by rw[XY,XX,←sJ,←C9,List.set_eq_take_append_cons_drop,if_pos h]
theorem Uo(l:Nat):fY [.int .i64 0] l=iZ (List.replicate l 0):=by
 induction l with
 |zero=>rfl
 |succ l ih=>rw[fY,ih,List.replicate_succ,sJ];rfl
theorem ZD(l:List Nat):iN .i64 l=iZ (l.map fun n:Nat=>(n:Int)):=by simp[iN,iZ]
attribute [simp] Y3 Un Xp Sk HJ DL MY FP MK Pt E4 Y0
def zK:List AV→Option (List Int)
 | []=>some []
 |.int .i64 n::l=>match zK l with
  |some r=>some (n::r)
  |none=>none
 |_::_=>none
theorem Uu(l:List Int):zK (iZ l)=some l:=by
 induction l with
 |nil=>rfl
 |cons x l ih=>rw[sJ,zK,ih]
theorem Da:∀{l:List AV} {r:List Int},zK l=some r→l=iZ r
 | [],r,h=>by cases h;rfl
 |v::l,r,h=>by
  cases v<;>first | (unfold zK at h;cases h;done) | skip
  rename_i Z n;cases Z <;>first | (unfold zK at h;cases h;done) | skip
  unfold zK at h;split at h
  ·rename_i V X
   cases h;rw[sJ,Da X]
  ·cases h
def Zr(M:Mem)(x:AV)(A:List Int):Prop:=∃b o Z,x=.slice b 0 A.length none∧M[b]? =some (.cells o 1 Z)∧Z.take A.length=iZ A
def zY(M:Mem):AV→Option (List Int)
 |.slice b 0 n none=>match M[b]? with
  |some (.cells _ 1 cs)=>if n≤cs.length then zK (cs.take n) else none
  |_=>none
 |_=>none
theorem PD{M:Mem}{x:AV}{A:List Int}(h:zY M x=some A):Zr M x A:=by
 unfold zY at h;split at h
 ·rename_i b n
  split at h
  ·rename_i o X V
   split at h
   ·rename_i S
    have Z:=Da h;have U:n=A.length:=by have:=congrArg List.length Z;simp at this;omega
    subst U;exact⟨b,o,X,rfl,V,Z⟩
   ·cases h
  ·cases h
 ·cases h
variable{b:Nat}{cs:List AV}
theorem DP{M:Mem}{n:Nat}{ow:Bool}{A:List Int}(h:M[b]? =some (.cells ow 1 cs))(y:n≤cs.length)(H:cs.take n=iZ A):zY M (.slice b 0 n none)=some A:=by simp only[zY,h];rw[if_pos y,H,Uu]
theorem agx.aiu{ks:List Nat}{M:Mem}{o:Bool}{A:List Int}(h:M[b]? =some (.cells o 1 cs))(y:cs.take A.length=iZ A):agx ks M b (.cells false 1 (iZ A)):=by
 refine⟨MY _ _,o,cs,h,fun j v Z=>?_⟩;have X:j<A.length:=by have:=gL Z;simpa using this
 have:cs[j]? =(iZ A)[j]? :=by rw[←y,List.getElem?_take_of_lt X]
 rw[this,Z];rw[Xp] at Z;simp only[Option.map_eq_some_iff] at Z;obtain⟨n,_,rfl⟩:=Z;simp[AV.ren]
section
variable {P:Program}{f:FuncId}{A B:List Int}{M:Mem}{x y:AV}
theorem kO.ahZ{rest:List AV}{v:AV}{new:Mem}(hr:AV.afT rest=true)(H:new.all (fun s=>s.own||match s with | .qK=>true | _=>false)=true)(h:kO P f (.slice 0 0 A.length none::rest) [.cells false 1 (iZ A)] v (.cells false 1 (iZ A)::new))(I:Zr M x A):
  ∃b,x=.slice b 0 A.length none∧kO P f (x::rest) M (v.ren (fj [b] M.length)) (M++new.map (afU.ren (fj [b] M.length))):=by
 obtain⟨b,o,cs,rfl,X,V⟩:=I;refine⟨b,rfl,?_⟩;have U:=gL X;have:=kO.frame (M:=M) [b] (m:=[.cells false 1 (iZ A)]) rfl (by simpa using U) (by simp only[AV.afX,AV.under,bl hr];rfl) (fun i s Z=>by
  cases i with
  |zero=>simp at Z;subst Z;exact .aiu X V
  |succ i=>simp at Z) H h
 simpa [AV.af9,AV.ren,fj,aO hr] using this
end
end Go.Eng
namespace Go.Eng
def dH(y:List Nat)(j:Nat):Bool:=(List.range j).all fun i=>bef y i j
def aX(y:Bool)(H:List Nat)(j:Nat)(r:Rec):Bool:=
 decide (r.nx.length=r.mem.length)&&r.v.afP (fun b=>decide (b<r.nx.length))&&
  (if y then dH H j&&r.wr.all (fun b=>fg r.tm b&&(match r.nx[b]? with | some s=>s.afP (fun b=>decide (b<r.nx.length)) | none=>true)) else r.wr.isEmpty)
def aV(y:List Nat):Nat→List Rec→Bool
 |_,[]=>true
 |j,[r]=>aX true y j r
 |j,r::r2::rest=>aX false y j r&&aV y (j+1) (r2::rest)
def be(T:TypeId→Option TyI)(O:afF)(N m0:Nat)(ops:Array Oper)(y:List Nat)(s:XS):Option XS:=
 match n9 T O N ops y 0 ops.toList s.env s.mem [] with
 |none=>none
 |some (R,env,mem)=>
  if aV y 0 R then some ⟨env,mem,s.agf||R.any fun r=>r.wr.any fun b=>decide (b<m0)⟩ else none
def qD(T:TypeId→Option TyI)(O:afF)(N m0:Nat)(ops:Array Oper)(s:XS):Option XS:=aH T O N m0 ops s
theorem jq:∀{j0:Nat} {R:List Rec} {f:Nat×Rec},f∈bq j0 R→j0≤f.1∧f.1<j0+R.length
 |_,[],f,h=>by simp[bq] at h
 |j0,r::R,f,h=>by
  simp only[bq,List.mem_cons] at h;rcases h with rfl | h
  ·simp
  ·have:=jq h
   simp only[List.length_cons];omega
structure ag3 (bs:List Nat)(n:Nat)(f:Nat×Rec):Prop where
 len:f.2.nx.length=f.2.mem.length
 refs:f.2.v.afP (fun b=>decide (b<f.2.nx.length))=true
 wr:f.2.wr=[]∨(f.1+1=n∧(∀i,i<f.1→bef bs i f.1=true)∧f.2.wr.all (fun b=>fg f.2.tm b&&(match f.2.nx[b]? with | some s=>s.afP (fun b=>decide (b<f.2.nx.length)) | none=>true))=true)
theorem xu{y:List Nat}:∀{j0:Nat} {R:List Rec},aV y j0 R=true→∀f∈bq j0 R,ag3 y (j0+R.length) f
 |_,[],_,f,hf=>by simp[bq] at hf
 |j0,[r],h,f,hf=>by simp only[bq,lM] at hf;subst hf;simp only[aV,aX,Bool.and_eq_true,decide_eq_true_eq,if_true] at h;obtain⟨⟨Z,X⟩,h3,V⟩:=h;exact⟨Z,X,.inr ⟨rfl,fun i U=>List.all_eq_true.1 h3 i (List.mem_range.2 U),V⟩⟩
 |j0,r::r2::rest,h,f,hf=>by
  simp only[aV,Bool.and_eq_true] at h;rw[bq,List.mem_cons] at hf;rcases hf with rfl | hf
  ·have Z:=h.1
   simp only[aX,Bool.and_eq_true,decide_eq_true_eq,Bool.false_eq_true,if_false,List.isEmpty_iff] at Z;obtain⟨⟨Z,X⟩,h3⟩:=Z;exact⟨Z,X,.inl h3⟩
  ·have:=xu h.2 f hf
   have e:j0+1+(r2::rest).length=j0+(r::r2::rest).length:=by simp only[List.length_cons];omega
   rw[e] at this;exact this
variable{bs:List Nat}
theorem Pj{n top:Nat}{un:List (Nat×Rec)}(h:∀f∈un,ag3 bs n f):jc top un=fun b=>decide (b<top):=by
 funext b;unfold jc;have:(un.all fun f=> !decide (f.2.mem.length≤b∧b<f.2.nx.length))=true:=List.all_eq_true.2 fun f Z=>by have:=(h f Z).len;simp;omega
 rw[this,Bool.and_true]
theorem EP{R:List Rec}(h:aV bs 0 R=true){f:Nat×Rec}(hf:f∈bq 0 R):iL bs (bq 0 R) f.1 f.2=true:=by
 have L:=xu h;have X:=L f hf;have G:=jq hf;unfold iL;have U:∀g∈(bq 0 R).filter (fun g=>decide (g.1<f.1)&& !bef bs g.1 f.1),ag3 bs (0+R.length) g:=fun g S=>L g ((List.mem_filter.1 S).1)
 simp only[Pj U,Bool.and_eq_true];have K:f.2.nx.drop f.2.mem.length=[]:=List.drop_of_length_le (by rw[X.len];exact Nat.le_refl _);refine⟨⟨⟨⟨?_,X.refs⟩,?_⟩,by rw[K];rfl⟩,?_⟩
 ·rcases X.wr with Z | ⟨_,_,Z⟩
  ·rw[Z];rfl
  ·refine List.all_eq_true.2 fun b O=>?_
   have:=List.all_eq_true.1 Z b O;simp only[Bool.and_eq_true] at this;exact this.1
 ·rcases X.wr with Z | ⟨_,_,Z⟩
  ·rw[Z];rfl
  ·refine List.all_eq_true.2 fun b O=>?_
   have:=List.all_eq_true.1 Z b O;simp only[Bool.and_eq_true] at this;exact this.2
 ·refine List.all_eq_true.2 fun g S=>?_
  have Q:=U g S;have V:=List.mem_filter.1 S;simp only[Bool.and_eq_true,decide_eq_true_eq,Bool.not_eq_true'] at V;have N:g.2.wr=[]:=by
   rcases Q.wr with Z | ⟨Z,_,_⟩
   ·exact Z
   ·have:=jq ((List.mem_filter.1 S).1)
    omega
  have M:f.2.wr=[]:=by
   rcases X.wr with Z | ⟨_,Z,_⟩
   ·exact Z
   ·rw[Z g.1 V.2.1] at V
    exact absurd V.2.2 (by simp)
  rw[N,M,Q.len,Nat.sub_self,List.take_zero];rfl
variable{ops:Array Oper}
theorem ak{T:TypeId→Option TyI}{O:afF}{N m0:Nat}(y:dm ops.toList=bs)(s:XS):
  aH T O N m0 ops s=match be T O N m0 ops bs s with
   |some s' =>some s'
   |none=>qD T O N m0 ops s:=by
 cases h:be T O N m0 ops bs s with
 |none=>rfl
 |some s' =>
  simp only;unfold be at h;unfold aH;simp only;rw[y];split at h
  ·cases h
  ·rename_i R env mem Z
   split at h
   ·rename_i X
    cases h;rw[Z];simp only;rw[if_pos (List.all_eq_true.2 fun f V=>EP X V)]
   ·cases h
def bQ:Code→List (Array Oper)
 |.region _ ops true=>[ops]
 |.seq a b=>bQ a++bQ b
 |.cond _ a b=>bQ a++bQ b
 |.block _ b=>bQ b
 |.loop b=>bQ b
 |.rangeFunc _ _ a b=>bQ a++bQ b
 |_=>[]
def aG(f:Func):List (Array Oper):=match f.body with
 |some c=>bQ c
 |none=>[]
variable{f:Func}{l:List Nat}
theorem kJ(h:aG f=[ops])(y:(aG f).map (fun o=>dm o.toList)=[l]):dm ops.toList=l:=by rw[h] at y;simpa using y
theorem cC{j:Nat}(h:aG f=[ops])(y:(aG f).map (fun o=>dm o.toList)=[l])(H:dH l j=true):dm ops.toList=l∧dH l j=true:=⟨kJ h y,H⟩
theorem CV{o o' :Array Oper}{l' :List Nat}(h:aG f=[o,o'])(y:(aG f).map (fun o=>dm o.toList)=[l,l']):dm o.toList=l∧dm o'.toList=l' :=by rw[h] at y;simpa using y
theorem cr{os:List (Array Oper)}{ls:List (List Nat)}(h:aG f=os)(y:(aG f).map (fun o=>dm o.toList)=ls):os.map (fun o=>dm o.toList)=ls:=by rw[←h];exact y
end Go.Eng
namespace Go.Eng
open Go.ChangeMaps (setBlock)
variable{w' :World}
section
variable {P:Program}{T:TypeId→Option TyI}{μ:Nat→Place}{mem:Mem}{base:Nat}{w:World}
theorem zT(y:af3 base μ mem w){r:Nat}{m s seen c}(hr:w.heap[r]? =some (.mapIter m s seen c)){b:Nat}{s' :afU}(H:mem[b]? =some s')(hs:s' ≠ .qK):(μ b).blk≠r:=by
 intro e;have:=y.slot b s' H;cases s' with
 |qK=>exact hs rfl
 |cells own es cs=>simp only[af5] at this;obtain⟨_,_,_,Z,_⟩:=this;rw[e,hr] at Z;cases Z
 |map es=>simp only[af5] at this;obtain⟨_,_,Z,_⟩:=this;rw[e,hr] at Z;cases Z
 |agq es=>simp only[af5] at this;obtain⟨_,_,Z,_⟩:=this;rw[e,hr] at Z;cases Z
 |loop r=>simp only[af5] at this;obtain⟨_,Z,_⟩:=this;rw[e,hr] at Z;cases Z
theorem af3.ah0{r:Nat}{m s seen c}{o:Obj}(y:af3 base μ mem w)(hr:w.heap[r]? =some (.mapIter m s seen c)):af3 base μ mem (setBlock w r o):=by
 refine⟨by simpa [setBlock] using y.afY,fun b Z X=>?_,y.sep⟩;by_cases V:Z =.qK
 ·subst V;trivial
 ·refine(y.slot b Z X).mono (Nat.le_refl _) (fun _ _=>rfl) fun _=>?_
  exact Array.getElem?_setIfInBounds_ne (Ne.symm (zT y hr X V))
theorem Step.ah0{m0:Nat}{μ' :Nat→Place}{y :Mem}{r:Nat}{o:Obj}(h:Step m0 μ mem w μ' y w')(hr:w.heap.size≤r):Step m0 μ mem w μ' y (setBlock w' r o):=h.shut hr
theorem MOk.ah0{h0 r:Nat}{y:List Deferred}{m s seen c}{o:Obj}(h:MOk P base h0 w y)(hr:w.heap[r]? =some (.mapIter m s seen c))(H:base≤r):MOk P base h0 (setBlock w r o) y:=by
 refine⟨⟨h.ag1.below,?_⟩,h.afY,by simpa [setBlock] using h.le,fun d X=>?_,h.nodup⟩
 ·have:=h.ag1.tab
  unfold Lib.TabIs at this ⊢;rw[←this];refine QG fun k S=>Array.getElem?_setIfInBounds_ne ?_
  have:=h.ag1.below;omega
 ·obtain⟨q,e,V,Z⟩:=h.each d X
  refine⟨q,e,V,?_⟩;have U:r≠q:=by rintro rfl;rw[hr] at Z;cases Z
  show(w.heap.setIfInBounds r o)[q]? =_
  rw[Array.getElem?_setIfInBounds_ne U,Z]
theorem Pn(hT:cX P T){N:Nat}{ops:Array Oper}{Q:Exit→Act→World→Prop}{rest:List Oper}:∀{l:List Oper}{y H :St}{μ:Nat→Place} {w:World} {a:Act} {m0:Nat}{μ0:Nat→Place} {mem0:Mem} {w0:World} {h0:Nat} {I:Option Nat},
  nP P T N ops l y H →af3 base μ y.mem w→agn μ y.mem.length y.env a.tmps→a.tmps.size=N→MOk P base h0 w a.defers→m0≤y.mem.length→Step m0 μ0 mem0 w0 μ y.mem w→
  (∀a' w' μ',af3 base μ' H.mem w' →agn μ' H.mem.length H.env a'.tmps→a'.tmps.size=N→MOk P base h0 w' a'.defers→m0≤H.mem.length→Step m0 μ0 mem0 w0 μ' H.mem w' →wpListIn (Fr I) 0 P ops Q rest a' w')→
  wpListIn (Fr I) 0 P ops Q (l++rest) a w
 | [],y,H,μ,w,a,m0,μ0,mem0,w0,h0,I,h,hH,hR,hN,hdf,hm,hS,hQ=>by simp only[nP] at h;subst h;exact hQ a w μ hH hR hN hdf hm hS
 |o::os,y,H,μ,w,a,m0,μ0,mem0,w0,h0,I,h,hH,hR,hN,hdf,hm,hS,hQ=>by
  obtain⟨b,O,U,M,L⟩:=h;rw[List.cons_append];refine wpListIn_step fun K S=>?_
  rw[qM hR O];cases b with
  |false=>
   simp only[Bool.false_eq_true,if_false];refine⟨fun _ _=>trivial,?_⟩;refine S _ _ (Pn hT (M rfl) hH (hR.agH hN U (by simp[afQ,afS,undef])) (by rw[fE];exact hN) (by rw[fU];exact hdf) hm hS hQ)
  |true=>
   simp only[if_true];obtain⟨v,R,Z,X⟩:=L rfl;refine sU hT hdf.ag1 hH hR hN U Z fun V w' μ' q1 q2 q3 q4=>S _ _ ?_
   exact Pn hT X q2 q3 (by rw[fE];exact hN) (by rw[fU];exact hdf.step hH q4) (Nat.le_trans hm q4.len) (hS.trans (q4.mono hm)) hQ
theorem Bj(a:Act)(d:Nat)(V:Value)(h:d<a.tmps.size):(a.put (some d) V).eval (.tmp d)=V:=by simp[Act.put,Act.eval,h]
variable {tp:Bool}{N m0:Nat}{Q:Exit→St→Prop}
theorem zh{F:Option Nat}{ops:Array Oper}{Q:Exit→Act→World→Prop}{o:Oper}{rest:List Oper}{a:Act}{w:World}{V:Value}(hg:o.guard=none)(y:∀c,o.op≠ .defer c)(H:(execOp a.eval o).run P w=.ok (.value V) w')(h:wpListIn (Fr F) 0 P ops Q rest (a.put o.dst V) w'):wpListIn (Fr F) 0 P ops Q (o::rest) a w:=by
 refine wpListIn_plain hg fun K Z=>⟨fun _ _=>trivial,?_⟩
 rw[Oper.semAt_eq _ _ _ y,H];exact Z _ _ h
theorem LM(hT:cX P T){idB out nx idS idA:Nat}{Y ab6 abF:Array Oper}{pre aaN:List Oper}{oR oN oX oE:Oper}{W:Code}{H y more J:Nat}{tR tk te:TypeId}{iR:TyI}{mOp:Operand}(hB:Y.toList=pre++[oR])(r1:oR.op=.range tR mOp)(r2:oR.dst=some H)(r3:oR.guard=none)(hTR:T tR=some iR)(hdR:iR.desc=.map tk te)(hS:ab6.toList=[oN,oX])(n1:oN.op=.next (.tmp H) false)(n2:oN.dst=some y)(n3:oN.guard=none)(x1:oX.op=.extract (.tmp y) 0)(x2:oX.dst=some more)(x3:oX.guard=none)(hA:abF.toList=oE::aaN)(e1:oE.op=.entry (.tmp H))(e2:oE.dst=some J)(e3:oE.guard=none)(P':H<N∧y<N∧more<N∧J<N)(I':y≠H∧more≠H){st st1:St}{b:Nat}{es:List (AV×AV)}(aai:nP P T N Y pre st st1)(hmo:get st1.env mOp=.map b)(hb:st1.mem[b]? =some (.agq es))(I:List Nat→St→Prop)(h0:I [] ⟨(H,.ptr st1.mem.length 0)::st1.env,st1.mem++[.qK]⟩)(hI:∀seen s,I seen s→ad s.env H=.ptr st1.mem.length 0∧s.mem[st1.mem.length]? =some .qK∧s.mem[b]? =some (.agq es))(acV:∀seen s,I seen s→(∀j,j<es.length→j∈seen)→Q .normal ⟨(more,.bool false)::(y,.tuple [.bool false])::s.env,s.mem⟩)(aa4:∀seen s j k v,I seen s→es[j]? =some (k,v)→j∉seen→∃s3,nP P T N abF aaN ⟨(J,.tuple [k,v])::(more,.bool true)::(y,.tuple [.bool true,k,v])::s.env,s.mem⟩ s3∧
   AWP P tp N (st1.mem.length+1) W s3 fun e s4=>(e=.normal∨e=.exit nx)∧∃s5,agN (st1.mem.length+1) s4 s5∧I (seen++[j]) s5):
  AWP P tp N m0 (.seq (.region idB Y false) (.block out (.loop (.seq (.region idS ab6 false) (.seq (.cond (.tmp more) .skip (.exit out)) (.block nx (.seq (.region idA abF false) W))))))) st Q:=by
 obtain⟨b1,b2,b3,b4⟩:=P';intro ro h0' base μ w a hro hH hR hN hdf hm;refine wpIn_seq (wpIn_region_list ?_);rw[hB];refine Pn hT aai hH hR hN hdf hm (.refl hm) fun a1 w1 μ1 c1 c2 c3 c4 c5 c6=>?_
 have O:=bp c2 mOp;rw[hmo] at O;simp only[afQ] at O;obtain⟨hbl,O⟩:=O;have hsl:=c1.slot b _ hb;simp only[af5] at hsl;obtain⟨Z,IR,k1,⟨hck,L⟩,k3,k4⟩:=hsl;subst hck;have hd:=(hT tR iR hTR).desc;rw[hdR] at hd;have U:=run_range_map (P:=P) w1 tR tk te (μ1 b).blk Z Z.size hd k1;refine zh r3 (by rw[r1];intro c e;cases e) (V:=.pointer (some ⟨w1.heap.size,0,none⟩)) (w' :=w1.alloc (.mapIter (some (μ1 b).blk) Z.size #[] Z.size)) (by simp only[execOp,r1,O];simp[U]) (wpListIn_nil ?_);rw[r2];show Code.wpIn (Fr ro) 0 P _ _ _ _
 refine wpIn_block ?_;obtain⟨p1,p2⟩:=c1.push (.mapIter (some (μ1 b).blk) Z.size #[] Z.size) .qK ⟨w1.heap.size,0,0,0⟩ rfl trivial;have hrw:w.heap.size≤w1.heap.size:=c6.size;have hrb:base≤w1.heap.size:=c1.afY;obtain⟨X,hmb⟩:=xE ((μ1 b).blk);rw[←hmb] at k1 p1 p2 ⊢;have ael:X<w1.heap.size:=(Array.getElem?_eq_some_iff.1 k1).1;obtain⟨r,hr⟩:=xE w1.heap.size;have aam:∀x∈Z.toList,x.born<Z.size:=by
  intro x C;obtain⟨j,hj⟩:=List.getElem?_of_mem C;have R :Z[j]? =some x:=by simpa using hj
  rw[L j x R];exact(Array.getElem?_eq_some_iff.1 R).1
 have hnd:(Z.toList.map (·.born)).Nodup:=by
  have e:Z.toList.map (·.born)=List.range Z.size:=by
   refine List.ext_getElem? fun i=>?_
   rw[List.getElem?_map,Array.getElem?_toList];cases hi:Z[i]? with
   |none=>
    have:=Array.getElem?_eq_none_iff.1 hi;simp[this]
   |some x=>
    have:=(Array.getElem?_eq_some_iff.1 hi).1;simp[L i x hi,this]
  rw[e];exact List.nodup_range
 refine Ad (σ:=Array Nat) (fun seen K w' =>∃T' μ',af3 base μ' T'.mem w' ∧agn μ' T'.mem.length T'.env K.tmps∧K.tmps.size=N∧MOk P base h0' w' K.defers∧st1.mem.length<T'.mem.length∧
   Step m0 μ st.mem w μ' T'.mem w' ∧μ' st1.mem.length=⟨r,0,0,0⟩∧(μ' b).blk=X∧w'.heap[r]? =some (.mapIter (some X) Z.size seen Z.size)∧w'.heap[X]? =some (.map Z Z.size)∧I seen.toList T')
  (fun seen=>(leftOf Z seen).size) ?_ (s:= #[]) ⟨_,_,p1,?_,?_,?_,?_,c6.trans (p2.mono c5),?_,?_,?_,?_,h0⟩
 ·rintro seen K w' ⟨T',μ',d1,d2,d3,d4,d5,d6,d7,d8,d9,d10,d11⟩
  obtain⟨i1,i2,i3⟩:=hI _ _ d11;have B:K.eval (.tmp H)=.pointer (some ⟨r,0,none⟩):=by have:=d2 H;rw[i1] at this;simp only[afQ,d7] at this;exact this.2
  have hm' :m0≤T'.mem.length:=d6.len;refine wpIn_seq (wpIn_region_list ?_);rw[hS];rcases run_next_at (P:=P) w' oN.type r X Z.size Z.size seen Z Z.size d9 d10 aam (Nat.le_refl _) with⟨l0,U⟩ | ⟨E,hE,w2,M,U⟩
  ·refine zh n3 (by rw[n1];intro c e;cases e) (V:=.tuple #[.bool false]) (w' :=w') (by simp only[execOp,n1,B];simp[U]) ?_
   rw[n2];refine zh x3 (by rw[x1];intro c e;cases e) (V:=.bool false) (w' :=w') (by simp only[execOp,x1,Bj K y _ (by omega)];simp[Instr.extract]) (wpListIn_nil ?_);rw[x2];show Code.wpIn (Fr ro) 0 P _ _ _ _
   refine wpIn_seq (wpIn_cond_false (Bj _ _ _ (by rw[fE];omega)) (wpIn_exit ?_));simp only[Exit.then,Exit.inBlock,if_true];refine⟨⟨(more,.bool false)::(y,.tuple [.bool false])::T'.env,T'.mem⟩,μ',d1,?_,by rw[fE,fE];exact d3,by rw[fU,fU];exact d4,hm',d6,acV _ _ d11 fun j hj=>?_⟩
   ·exact agn.put (agn.put d2 (by omega) (by simp[afQ,afS])) (by rw[fE];omega) (by simp[afQ])
   ·have FS:j<Z.size:=by omega
    have:=all_seen Z seen l0 Z[j] (by simp);rw[L j _ (by simp[FS])] at this;simpa using this
  ·obtain⟨hem,u⟩:=mem_left hE
   obtain⟨j,hj⟩:=List.getElem?_of_mem hem;have R :Z[j]? =some E:=by simpa using hj
   have hbj:=L j E R;have hjl:j<es.length:=by have:=(Array.getElem?_eq_some_iff.1 R).1;omega
   have adJ :=d1.slot b _ i3;simp only[af5] at adJ;obtain⟨aac,aaa,g1,_,_,g4⟩:=adJ;rw[d8,d10] at g1;cases g1;obtain⟨E',hE',hk,hv⟩:=g4 j es[j] (by simp[hjl]);rw[R] at hE';cases hE';have hH2:af3 base μ' T'.mem w2:=by rcases M with rfl | rfl<;>first | exact d1 | exact d1.drew
   have hS2:Step m0 μ st.mem w μ' T'.mem w2:=by rcases M with rfl | rfl<;>first | exact d6 | exact d6.trans ((Step.drew (Nat.le_refl _)).mono hm')
   have hM2:MOk P base h0' w2 K.defers:=by rcases M with rfl | rfl<;>first | exact d4 | exact d4.step d1 (Step.drew (Nat.le_refl _))
   have m:w2.heap[r]? =some (.mapIter (some X) Z.size seen Z.size):=by rcases M with rfl | rfl<;>exact d9
   have aem:w2.heap[X]? =some (.map Z Z.size):=by rcases M with rfl | rfl<;>exact d10
   have G:=hH2.ah0 (o:=.mapIter (some X) Z.size (seen.push E.born) Z.size) m;have hS3:=hS2.ah0 (r:=r) (o:=.mapIter (some X) Z.size (seen.push E.born) Z.size) (by omega);have hM3:=hM2.ah0 (o:=.mapIter (some X) Z.size (seen.push E.born) Z.size) m (by omega);have hrl:r<w2.heap.size:=(Array.getElem?_eq_some_iff.1 m).1;have F:(setBlock w2 r (.mapIter (some X) Z.size (seen.push E.born) Z.size)).heap[r]? =some (.mapIter (some X) Z.size (seen.push E.born) Z.size):=by simp[setBlock,hrl]
   have D:(setBlock w2 r (.mapIter (some X) Z.size (seen.push E.born) Z.size)).heap[X]? =some (.map Z Z.size):=by rw[←aem];exact Array.getElem?_setIfInBounds_ne (by omega)
   obtain⟨w3,hw3⟩:=xE (setBlock w2 r (.mapIter (some X) Z.size (seen.push E.born) Z.size));rw[←hw3] at G hS3 hM3 F D U;refine zh n3 (by rw[n1];intro c e;cases e) (V:=.tuple #[.bool true,E.key,E.val]) (w' :=w3) (by simp only[execOp,n1,B];simp[U]) ?_;rw[n2];refine zh x3 (by rw[x1];intro c e;cases e) (V:=.bool true) (w' :=w3) (by simp only[execOp,x1,Bj K y _ (by omega)];simp[Instr.extract]) (wpListIn_nil ?_);rw[x2];show Code.wpIn (Fr ro) 0 P _ _ _ _
   refine wpIn_seq (wpIn_cond_true (Bj _ _ _ (by rw[fE];omega)) (wpIn_skip ?_));show Code.wpIn (Fr ro) 0 P _ _ _ _
   refine wpIn_block (wpIn_seq (wpIn_region_list ?_));rw[hA];have hev:((K.put (some y) (.tuple #[.bool true,E.key,E.val])).put (some more) (.bool true)).eval (.tmp H)=.pointer (some ⟨r,0,none⟩):=by rw[←B];simp[Act.put,Act.eval,Array.getElem?_setIfInBounds_ne I'.1,Array.getElem?_setIfInBounds_ne I'.2]
   have hen:=run_entry_at (P:=P) w3 r X Z.size seen Z Z.size E F D hem hnd;refine zh e3 (by rw[e1];intro c e;cases e) (V:=.tuple #[E.key,E.val]) (w' :=w3) (by simp only[execOp,e1,hev];simp[hen]) ?_;rw[e2];have hkv:es[j]? =some (es[j].1,es[j].2):=by simp[hjl]
   have hnj:j∉seen.toList:=by
    intro aaI;rw[hbj] at u;have:seen.contains j=true:=by simpa using aaI
    rw[this] at u;cases u
   obtain⟨s3,D',adn⟩:=aa4 _ _ j _ _ d11 hkv hnj;have hT1:=agn.put d2 (d:=y) (by omega) (V:=.tuple #[.bool true,E.key,E.val]) (v:=.tuple [.bool true,es[j].1,es[j].2]) (by simp only[afQ];exact⟨_,rfl,bO.2 ⟨by simp[afQ],bO.2 ⟨hk,bO.2 ⟨hv,by simp[afS]⟩⟩⟩⟩);have hT2:=agn.put hT1 (d:=more) (by rw[fE];omega) (V:=.bool true) (v:=.bool true) (by simp[afQ]);have hT3:=agn.put hT2 (d:=J) (by rw[fE,fE];omega) (V:=.tuple #[E.key,E.val]) (v:=.tuple [es[j].1,es[j].2]) (by simp only[afQ];exact⟨_,rfl,bO.2 ⟨hk,bO.2 ⟨hv,by simp[afS]⟩⟩⟩);have G':st1.mem.length+1≤T'.mem.length:=by omega
   refine xD (m0:=st1.mem.length+1) (μ0:=μ') (mem0:=T'.mem) (w0:=w3) hT D' G hT3 (by rw[fE,fE,fE];exact d3) (by rw[fU,fU,fU];exact hM3) G' (.refl G') fun a4 w4 μ4 f1 f2 f3 f4 f5 f6=>?_
   show Code.wpIn (Fr ro) 0 P _ _ _ _
   refine wpIn_mono (adn ro h0' base μ4 w4 a4 hro f1 f2 f3 f4 f5) ?_;rintro e a5 w5 ⟨s4,μ5,y1,y2,y3,y4,y5,y6,hee,s5,hwk,hI5⟩;obtain⟨μ6,z1,z2,z3,z4⟩:=hwk base μ5 w5 a5.tmps y1 y2 y5;have S:=(f6.trans y6).trans z4;have hbb:b<st1.mem.length:=gL hb;have fin:∃s',(∃T' μ',af3 base μ' T'.mem w5∧agn μ' T'.mem.length T'.env a5.tmps∧a5.tmps.size=N∧MOk P base h0' w5 a5.defers∧st1.mem.length<T'.mem.length∧
     Step m0 μ st.mem w μ' T'.mem w5∧μ' st1.mem.length=⟨r,0,0,0⟩∧(μ' b).blk=X∧w5.heap[r]? =some (.mapIter (some X) Z.size s' Z.size)∧w5.heap[X]? =some (.map Z Z.size)∧I s'.toList T')∧
     (leftOf Z s').size<(leftOf Z seen).size:=by
    refine⟨seen.push E.born,⟨s5,μ6,z1,z2,y3,y4,z3,hS3.trans (S.mono (by have:=c5;omega)),?_,?_,?_,?_,?_⟩,left_shrinks Z seen E hE⟩
    ·rw[S.agree _ (by omega),d7]
    ·rw[S.agree _ (by omega),d8]
    ·rw[S.frame r (by rw[hw3];simpa [setBlock] using hrl) fun x C=>by obtain⟨sx,q1,q2⟩:=C;exact zT G F q1 (afU.agr q2)]
     exact F
    ·rw[S.frame X (Array.getElem?_eq_some_iff.1 D).1 fun x C=>?_]
     ·exact D
     ·rw[←d8]
      refine G.sep x b _ C i3 (by simp) ?_;rintro rfl;obtain⟨sx,q1,q2⟩:=C;rw[i3] at q1;cases q1;cases q2
    ·rw[Array.toList_push,hbj];exact hI5
   rcases hee with rfl | rfl
   ·exact fin
   ·simp only[Exit.inBlock,if_true];exact fin
 ·refine agn.put (c2.mono (by simp) fun x C=>xR C) (by omega) ?_
  simp only[afQ,List.length_append,List.length_singleton,eI];exact⟨by omega,trivial⟩
 ·rw[fE];exact c3
 ·rw[fU];exact c4.step c1 p2
 ·simp
 ·rw[eI,hr]
 ·have hbb:b<st1.mem.length:=gL hb
  rw[xR hbb];exact hmb.symm
 ·rw[hr];exact heap_alloc_new w1 _
 ·rw[ir w1 _ ael];exact k1
end
end Go.Eng
namespace Go.Eng
theorem DI{m:Nat}:∀{env:Env},(env.all fun e=>(e.2.refs m).isEmpty)=true→∀t,(ad env t).refs m=[]
 | [],_,t=>by simp[ad,AV.refs]
 |(k,v)::r,h,t=>by
  simp only[List.all_cons,Bool.and_eq_true,List.isEmpty_iff] at h;simp only[ad];split
  ·exact h.1
  ·exact DI h.2 t
variable{s:XS}
section
variable {P:Program}{T:TypeId→Option TyI}{O:afF}{tp:Bool}{N m0 K:Nat}{lv:Code→List Nat}{Q:Exit→St→Prop}
section
variable (hm:P.follows .mixedOrders=true)(hT:cX P T)(hO:qS P O)
include hm hT hO
theorem xj{c:Code}{s' :XS}{e:Exit}(hs:cM c=true)(h:aW T lv O K N m0 tp c s=some (e,s'))(hq:Q e ⟨s'.env,s'.mem⟩):AWP P tp N m0 c ⟨s.env,s.mem⟩ Q:=
 (dv hm hT hO hs h).1 Q hq
theorem OQ{idB out nx idS idA:Nat}{J ab6 Y:Array Oper}{aaN:List Oper}{oR oN oX oE:Oper}{H:Code}{I y more W:Nat}{tR tk te:TypeId}{iR:TyI}{mOp:Operand}(hB:J.toList=J.toList.dropLast++[oR])(r1:oR.op=.range tR mOp)(r2:oR.dst=some I)(r3:oR.guard=none)(hTR:T tR=some iR)(hdR:iR.desc=.map tk te)(hS:ab6.toList=[oN,oX])(n1:oN.op=.next (.tmp I) false)(n2:oN.dst=some y)(n3:oN.guard=none)(x1:oX.op=.extract (.tmp y) 0)(x2:oX.dst=some more)(x3:oX.guard=none)(hA:Y.toList=oE::aaN)(e1:oE.op=.entry (.tmp I))(e2:oE.dst=some W)(e3:oE.guard=none)(P':I<N∧y<N∧more<N∧W<N)(I':y≠I∧more≠I)(Z6:cM H=true){s1:XS}{b:Nat}{es:List (AV×AV)}(aai:dF T O N m0 J J.toList.dropLast s=some s1)(hmo:get s1.env mOp=.map b)(hb:s1.mem[b]? =some (.agq es))(lw wr:List Nat)(V:List Nat→Nat→AV)(M:List Nat→Mem)(Inv:List Nat→Prop)(hwr:wr=W::more::y::(aaN.filterMap (·.dst)++ae H))(hit:I∉wr)(aaO:(((I,AV.ptr s1.mem.length 0)::s1.env).all fun e=>(e.2.refs (s1.mem.length+1)).isEmpty)=true)(hM:∀seen,Inv seen→(M seen).length=s1.mem.length+1∧(M seen)[s1.mem.length]? =some .qK∧(M seen)[b]? =some (.agq es)∧∀x∈M seen,x.refs (s1.mem.length+1)=[])(hV:∀seen t,Inv seen→t∈lw→(V seen t).refs (s1.mem.length+1)=[])(h0:Inv []∧M []=s1.mem++[.qK]∧∀t∈lw,ad ((I,AV.ptr s1.mem.length 0)::s1.env) t=V [] t)(acV:∀seen env,Inv seen→agv wr ((I,AV.ptr s1.mem.length 0)::s1.env) env→(∀t∈lw,ad env t=V seen t)→(∀j,j<es.length→j∈seen)→Q .normal ⟨(more,.bool false)::(y,.tuple [.bool false])::env,M seen⟩)(aa4:∀seen env j k v,Inv seen→agv wr ((I,AV.ptr s1.mem.length 0)::s1.env) env→(∀t∈lw,ad env t=V seen t)→es[j]? =some (k,v)→j∉seen→∃U e X,dF T O N (s1.mem.length+1) Y aaN ⟨(W,.tuple [k,v])::(more,.bool true)::(y,.tuple [.bool true,k,v])::env,M seen,false⟩=some U∧
   aW T lv O K N (s1.mem.length+1) tp H U=some (e,X)∧(e=.normal∨e=.exit nx)∧Inv (seen++[j])∧(∀t∈lw,ad X.env t=V (seen++[j]) t)∧X.mem.take (s1.mem.length+1)=M (seen++[j])):
  AWP P tp N m0 (.seq (.region idB J false) (.block out (.loop (.seq (.region idS ab6 false) (.seq (.cond (.tmp more) .skip (.exit out)) (.block nx (.seq (.region idA Y false) H))))))) ⟨s.env,s.mem⟩ Q:=by
 have R:=DI aaO;refine LM (st1:=⟨s1.env,s1.mem⟩) hT hB r1 r2 r3 hTR hdR hS n1 n2 n3 x1 x2 x3 hA e1 e2 e3 P' I' (kR hO aai).1 hmo hb
  (fun seen S=>Inv seen∧agv wr ((I,AV.ptr s1.mem.length 0)::s1.env) S.env∧(∀t∈lw,ad S.env t=V seen t)∧S.mem=M seen) ⟨h0.1,.refl _ _,h0.2.2,h0.2.1.symm⟩ ?_ ?_ ?_
 ·rintro seen S ⟨i1,i2,i3,i4⟩
  obtain⟨F,D,C,_⟩:=hM seen i1;refine⟨?_,by rw[i4];exact D,by rw[i4];exact C⟩;rw[i2 I hit];simp[ad]
 ·rintro seen ⟨env,mem⟩ ⟨i1,i2,i3,i4⟩ UV
  have:=acV seen env i1 i2 i3 UV;simp only at i4 ⊢;rw[i4];exact this
 ·rintro seen ⟨env,mem⟩ j k v ⟨i1,i2,i3,i4⟩ hj hns
  simp only at i2 i3 i4;subst i4;obtain⟨U,e,X,B,u,m,L,k5,o⟩:=aa4 seen env j k v i1 i2 i3 hj hns;refine⟨⟨U.env,U.mem⟩,(kR hO B).1,?_⟩;refine AWP.assume fun G' _=>?_
  refine xj hm hT hO Z6 u ⟨m,?_⟩;obtain⟨F,D,C,j4⟩:=hM _ L;have aaA :s1.mem.length+1≤X.mem.length:=by have h1:=congrArg List.length o;rw[List.length_take,F] at h1;omega
  have G:agv wr ((I,AV.ptr s1.mem.length 0)::s1.env) X.env:=by
   have q1:=(qG B).mono (wr' :=wr) (by intro t Z;rw[hwr];simp[Z]);have q2:=(fR hO u).mono (wr' :=wr) (by intro t Z;rw[hwr];simp[Z]);intro t Z;rw[q2 t Z,q1 t Z,←i2 t Z];have:t≠W∧t≠more∧t≠y:=by rw[hwr] at Z;simp only[List.mem_cons,not_or] at Z;exact⟨Z.1,Z.2.1,Z.2.2.1⟩
   simp[ad,Ne.symm this.1,Ne.symm this.2.1,Ne.symm this.2.2]
  refine⟨_,agN.af2 [] (by simp[EW]),L,?_,?_,?_⟩
  ·intro t Z
   simp only[jb];rw[G t Z,AV.af7 (R t)]
  ·intro t Z
   simp only[jb];rw[k5 t Z,AV.af7 (hV _ t L Z)]
  ·simp only[af2,agK,List.map_nil,List.append_nil,o]
   conv=>rhs;rw[←List.map_id (M (seen++[j]))]
   exact List.map_congr_left fun x hx=>afU.af7 (j4 x hx)
end
end
end Go.Eng
namespace Go.Eng
abbrev Sd:=(Int×Int)×Int
def sdE(s:Sd):AV×AV:=(.agg [.int .i64 s.1.1,.int .i64 s.1.2],.int .i64 s.2)
def nxE(p:Int×Int):AV×AV:=(.int .i64 p.1,.int .i64 p.2)
def qY:List (Int×Int)→Int→Option Int
 | [],_=>none
 |p::l,a=>if a=p.1 then some p.2 else qY l a
def Sw:List Sd→Int×Int→Option Int
 | [],_=>none
 |s::l,a=>if a.1=s.1.1∧a.2=s.1.2 then some s.2 else Sw l a
def bAt(ks:List Sd)(j:Nat):Option (Int×Int):=match ks[j]? with
 |some s=>if (Sw ks (s.1.2,s.1.1)).isSome then none else some s.1
 |none=>none
def um(ks:List Sd):List (Int×Int):=(List.range ks.length).filterMap (bAt ks)
def Br(f:Int):List (Int×Int)→Int
 | []=>f
 |p::l=>Br (if f<0∨p.1<f then p.1 else f) l
theorem Pg(f:Int):∀(l m:List (Int×Int)),Br f (l++m)=Br (Br f l) m:=by
 intro l;induction l generalizing f with
 |nil=>intro m;rfl
 |cons p l ih=>intro m;exact ih _ m
theorem Du:∀(l:List (Int×Int)) (f:Int),(∀p∈l,0≤p.1)→(0≤f∨l≠[])→0≤Br f l∧(Br f l=f∨∃p∈l,Br f l=p.1)∧(0≤f→Br f l≤f)∧∀p∈l,Br f l≤p.1
 | [],f,_,h=>by have:0≤f:=h.resolve_right (by simp);exact⟨this,.inl rfl,fun _=>Int.le_refl _,by simp⟩
 |p::l,f,hp,_=>by
  have V:=hp p (by simp);have U:=Du l (if f<0∨p.1<f then p.1 else f) (fun q Z=>hp q (by simp[Z])) (.inl (by split<;>omega));obtain⟨S,R,X,Q⟩:=U;have O:(0:Int)≤(if f<0∨p.1<f then p.1 else f):=by split<;>omega
  have X:=X O;simp only[Br];refine⟨S,?_,fun N=>?_,fun q Z=>?_⟩
  ·rcases R with h | ⟨q,Z,h⟩
   ·rw[h]
    split
    ·exact .inr ⟨p,by simp,rfl⟩
    ·exact .inl rfl
   ·exact .inr ⟨q,by simp[Z],h⟩
  ·refine Int.le_trans X ?_
   split<;>omega
  ·rcases List.mem_cons.1 Z with rfl | Z
   ·refine Int.le_trans X ?_
    split<;>omega
   ·exact Q q Z
theorem UE{l m:List (Int×Int)}(h:l.Perm m)(y:∀p∈l,0≤p.1):Br (-1) l=Br (-1) m:=by
 by_cases Z:l=[]
 ·subst Z
  rw[List.nil_perm.1 h]
 ·have X:m≠[]:=by rintro rfl;exact Z (List.perm_nil.1 h)
  have V:∀p∈m,0≤p.1:=fun p R=>y p (h.mem_iff.2 R)
  obtain⟨G,Q,_,O⟩:=Du l (-1) y (.inr Z);obtain⟨F,N,_,M⟩:=Du m (-1) V (.inr X);obtain⟨p,U,L⟩:=Q.resolve_left (by omega);obtain⟨q,S,K⟩:=N.resolve_left (by omega);have D:=M p (h.mem_iff.1 U);have C:=O q (h.mem_iff.2 S);omega
theorem UB{l:List (Int×Int)}{a b:Int}(h:qY l a=some b):(a,b)∈l:=by
 induction l with
 |nil=>cases h
 |cons p l ih=>
  rw[qY] at h;split at h
  next e=>cases h;subst e;simp
  ·simp[ih h]
theorem FC{l:List (Int×Int)}{a:Int}(h:∀p∈l,p.1≠a):qY l a=none:=by
 induction l with
 |nil=>rfl
 |cons p l ih=>
  rw[qY,if_neg (fun e=>h p (by simp) e.symm)];exact ih fun q Z=>h q (by simp[Z])
theorem zL{l:List (Int×Int)}{a b:Int}(y:∀p∈l,∀q∈l,p.1=q.1→p=q)(h:(a,b)∈l):qY l a=some b:=by
 induction l with
 |nil=>cases h
 |cons p l ih=>
  rw[qY];split
  ·rename_i e
   have:=y p (by simp) (a,b) h e.symm;rw[this]
  ·rename_i e
   rcases List.mem_cons.1 h with rfl | h
   ·exact absurd rfl e
   ·exact ih (fun p Z q X=>y p (by simp[Z]) q (by simp[X])) h
theorem Sv{l m:List (Int×Int)}(h:l.Perm m)(y:∀p∈l,∀q∈l,p.1=q.1→p=q)(a:Int):qY l a=qY m a:=by
 have Z :∀p∈m,∀q∈m,p.1=q.1→p=q:=fun p X q V=>y p (h.mem_iff.2 X) q (h.mem_iff.2 V)
 cases hb:qY m a with
 |some b=>exact zL y (h.mem_iff.2 (UB hb))
 |none=>
  refine FC fun p X e=>?_
  have:=zL Z (a:=a) (b:=p.2) (by rw[←e];exact h.mem_iff.1 X);rw[hb] at this;cases this
def Xx(ks:List Sd):Prop:=∀i j p q,bAt ks i=some p→bAt ks j=some q→p.1=q.1→i=j
def cU(ks:List Sd)(seen:List Nat):List (Int×Int):=seen.filterMap (bAt ks)
variable{j:Nat}{ks:List Sd}{p:Int×Int}
theorem TP(h:bAt ks j=some p):j<ks.length:=by
 unfold bAt at h;split at h
 next s Z=>exact(gL Z)
 ·cases h
variable{seen:List Nat}
theorem M2(y:seen.Nodup)(H:∀j∈seen,j<ks.length)(I:∀j,j<ks.length→j∈seen):(cU ks seen).Perm (um ks):=by
 refine List.Perm.filterMap _ ?_;refine(List.perm_ext_iff_of_nodup y List.nodup_range).2 fun j=>?_
 simp only[List.mem_range];exact⟨H j,I j⟩
theorem HW(y:Xx ks)(H:j∉seen)(I:bAt ks j=some p):qY (cU ks seen) p.1=none:=by
 refine FC fun q X e=>?_
 obtain⟨i,V,Z⟩:=List.mem_filterMap.1 X;have:=y i j q p Z I e;subst this;exact H V
theorem HX(y:Xx ks):∀p∈cU ks seen,∀q∈cU ks seen,p.1=q.1→p=q:=by intro p V q U e;obtain⟨i,_,X⟩:=List.mem_filterMap.1 V;obtain⟨j,_,Z⟩:=List.mem_filterMap.1 U;have:=y i j p q X Z e;subst this;rw[X] at Z;cases Z;rfl
def xT(B:List (Int×Int))(first:Int):Nat→Int→List Int→Option (List Int)
 |0,_,out=>some out
 |n+1,a,out=>match qY B a with
  |none=>none
  |some b=>if a=first∧out≠[] then none else xT B first n b (out++[a])
def CP(B:List (Int×Int)):Option (List Int):=xT B (Br (-1) B) B.length (Br (-1) B) []
def wo(ks:List Sd):Bool:=
 let B:=um ks
 decide (B≠[])&&decide ((B.map (·.1)).Nodup)&&B.all (fun p=>decide (0≤p.1))&&decide (ks.length≤1000000)
theorem TR{i:Nat}{q:Int×Int}(I:((um ks).map (·.1)).Nodup)(y:bAt ks i=some p)(H:bAt ks j=some q)(e:p.1=q.1):i=j:=by
 have R:∀(l:List Nat),l.Nodup→((l.filterMap (bAt ks)).map (·.1)).Nodup→i∈l→j∈l→i=j:=by
  intro l;induction l with
  |nil=>intro _ _ h;cases h
  |cons a l ih=>
   intro Q Z X V;have U :=(List.nodup_cons.1 Q).2;rw[List.filterMap_cons] at Z;cases ha:bAt ks a with
   |none=>
    rw[ha] at Z;have O:i≠a:=by rintro rfl;rw[y] at ha;cases ha
    have N:j≠a:=by rintro rfl;rw[H] at ha;cases ha
    exact ih U Z ((List.mem_cons.1 X).resolve_left O) ((List.mem_cons.1 V).resolve_left N)
   |some r=>
    rw[ha] at Z;simp only[List.map_cons,List.nodup_cons] at Z;have S:∀k s,k∈l→bAt ks k=some s→s.1≠r.1:=by intro k s M L h;exact Z.1 (List.mem_map.2 ⟨s,List.mem_filterMap.2 ⟨k,M,L⟩,h⟩)
    rcases List.mem_cons.1 X with X | X<;>rcases List.mem_cons.1 V with V | V
    ·rw[X,V]
    ·rw[←X,y] at ha;cases ha;exact absurd e.symm (S j q V H)
    ·rw[←V,H] at ha;cases ha;exact absurd e (S i p X y)
    ·exact ih U Z.2 X V
 exact R _ List.nodup_range I (List.mem_range.2 (TP y)) (List.mem_range.2 (TP H))
theorem My(h:wo ks=true):um ks≠[]∧Xx ks∧(∀p∈um ks,0≤p.1)∧ks.length≤1000000:=by simp only[wo,Bool.and_eq_true,decide_eq_true_eq,List.all_eq_true] at h;obtain⟨⟨⟨Z,X⟩,h3⟩,V⟩:=h;exact⟨Z,fun i j p q U S e=>TR X U S e,h3,V⟩
theorem SY(h:∀p∈um ks,0≤p.1):∀p∈cU ks seen,0≤p.1:=by intro p X;obtain⟨i,_,Z⟩:=List.mem_filterMap.1 X;exact h p (List.mem_filterMap.2 ⟨i,List.mem_range.2 (TP Z),Z⟩)
theorem Ac{B:List (Int×Int)}{first:Int}:∀{n:Nat} {a:Int} {y H:List Int},xT B first n a y=some H→H.length=y.length+n
 |0,a,y,H,h=>by simp only[xT,Option.some.injEq] at h;subst h;rfl
 |n+1,a,y,H,h=>by
  rw[xT] at h;split at h
  ·cases h
  ·split at h
   ·cases h
   ·have:=Ac h
    simp at this;omega
def OR(y:List Nat)(n j:Nat):Bool:=dH y j&&(List.range n).all fun k=>decide (k≤j)||bef y j k
def dE(r:Rec):Bool:=decide (r.nx.length=r.mem.length)&&r.wr.isEmpty
def CM(y:List Nat)(n j:Nat)(r:Rec):Bool:=
 r.v.afP (fun b=>decide (b<r.nx.length))&&
  (dE r||(OR y n j&&r.wr.all (fun b=>fg r.tm b&&(match r.nx[b]? with | some s=>s.afP (fun b=>decide (b<r.nx.length)) | none=>true))&&
   (r.nx.drop r.mem.length).all fun s=>(s.own||match s with | .qK=>true | _=>false)&&s.afP (fun b=>decide (b<r.nx.length))))
def uA(y:List Nat)(n:Nat):Nat→List Rec→Bool
 |_,[]=>true
 |j,r::rest=>CM y n j r&&uA y n (j+1) rest
def nv(T:TypeId→Option TyI)(O:afF)(N m0:Nat)(ops:Array Oper)(y:List Nat)(s:XS):Option XS:=
 match n9 T O N ops y 0 ops.toList s.env s.mem [] with
 |none=>none
 |some (R,env,mem)=>
  if uA y R.length 0 R then some ⟨env,mem,s.agf||R.any fun r=>r.wr.any fun b=>decide (b<m0)⟩ else none
structure aik (bs:List Nat)(n:Nat)(f:Nat×Rec):Prop where
 refs:f.2.v.afP (fun b=>decide (b<f.2.nx.length))=true
 or:(f.2.nx.length=f.2.mem.length∧f.2.wr=[])∨((∀i,i<f.1→bef bs i f.1=true)∧(∀k,f.1<k→k<n→bef bs f.1 k=true)∧
  f.2.wr.all (fun b=>fg f.2.tm b&&(match f.2.nx[b]? with | some s=>s.afP (fun b=>decide (b<f.2.nx.length)) | none=>true))=true∧
  ((f.2.nx.drop f.2.mem.length).all fun s=>(s.own||match s with | .qK=>true | _=>false)&&s.afP (fun b=>decide (b<f.2.nx.length)))=true)
theorem CL{y:List Nat}{n:Nat}:∀{j0:Nat} {R:List Rec},uA y n j0 R=true→∀f∈bq j0 R,aik y n f
 |_,[],_,f,hf=>by simp[bq] at hf
 |j0,r::rest,h,f,hf=>by
  simp only[uA,Bool.and_eq_true] at h;rw[bq,List.mem_cons] at hf;rcases hf with rfl | hf
  ·have X:=h.1
   simp only[CM,dE,OR,Bool.and_eq_true,Bool.or_eq_true,decide_eq_true_eq,List.isEmpty_iff] at X;obtain⟨X,Z⟩:=X;refine⟨X,?_⟩;rcases Z with Z | ⟨⟨⟨Z,h3⟩,U⟩,S⟩
   ·exact .inl Z
   ·refine .inr ⟨fun i Q=>List.all_eq_true.1 Z i (List.mem_range.2 Q),fun k O V=>?_,U,S⟩
    have:=List.all_eq_true.1 h3 k (List.mem_range.2 V);simp only[Bool.or_eq_true,decide_eq_true_eq] at this;rcases this with h6 | h6
    ·omega
    ·exact h6
  ·exact CL h.2 f hf
variable{R:List Rec}
theorem LS{y:List Nat}(h:uA y R.length 0 R=true){f:Nat×Rec}(hf:f∈bq 0 R):iL y (bq 0 R) f.1 f.2=true:=by
 have M:=CL h;have X:=M f hf;have C:=jq hf;unfold iL;have L:∀g∈(bq 0 R).filter (fun g=>decide (g.1<f.1)&& !bef y g.1 f.1),g.2.nx.length=g.2.mem.length∧g.2.wr=[]:=by
  intro g V;have Z:=List.mem_filter.1 V;simp only[Bool.and_eq_true,decide_eq_true_eq,Bool.not_eq_true'] at Z;rcases (M g Z.1).or with U | ⟨_,U,_⟩
  ·exact U
  ·have:=U f.1 Z.2.1 (by omega)
   rw[this] at Z;exact absurd Z.2.2 (by simp)
 have Q:∀S,jc S ((bq 0 R).filter fun g=>decide (g.1<f.1)&& !bef y g.1 f.1)=fun b=>decide (b<S):=by
  intro S;funext b;unfold jc;have:(((bq 0 R).filter fun g=>decide (g.1<f.1)&& !bef y g.1 f.1).all fun f=> !decide (f.2.mem.length≤b∧b<f.2.nx.length))=true:=List.all_eq_true.2 fun g V=>by have:=(L g V).1;simp;omega
  rw[this,Bool.and_true]
 simp only[Q,Bool.and_eq_true];rcases X.or with⟨U,O⟩ | ⟨U,_,h3,K⟩
 ·have G:f.2.nx.drop f.2.mem.length=[]:=List.drop_of_length_le (by rw[U];exact Nat.le_refl _)
  refine⟨⟨⟨⟨by rw[O];rfl,X.refs⟩,by rw[O];rfl⟩,by rw[G];rfl⟩,?_⟩;refine List.all_eq_true.2 fun g V=>?_
  obtain⟨F,D⟩:=L g V;rw[D,O,F,Nat.sub_self,List.take_zero];rfl
 ·refine⟨⟨⟨⟨?_,X.refs⟩,?_⟩,K⟩,?_⟩
  ·refine List.all_eq_true.2 fun b N=>?_
   have:=List.all_eq_true.1 h3 b N;simp only[Bool.and_eq_true] at this;exact this.1
  ·refine List.all_eq_true.2 fun b N=>?_
   have:=List.all_eq_true.1 h3 b N;simp only[Bool.and_eq_true] at this;exact this.2
  ·refine List.all_eq_true.2 fun g V=>?_
   have Z:=List.mem_filter.1 V;simp only[Bool.and_eq_true,decide_eq_true_eq,Bool.not_eq_true'] at Z;rw[U g.1 Z.2.1] at Z;exact absurd Z.2.2 (by simp)
variable{N m0:Nat}{O:afF}
theorem my{T:TypeId→Option TyI}{ops:Array Oper}{y:List Nat}(H:dm ops.toList=y)(s:XS):
  aH T O N m0 ops s=match nv T O N m0 ops y s with
   |some s' =>some s'
   |none=>qD T O N m0 ops s:=by
 cases h:nv T O N m0 ops y s with
 |none=>rfl
 |some s' =>
  simp only;unfold nv at h;unfold aH;simp only;rw[H];split at h
  ·cases h
  ·rename_i R env mem Z
   split at h
   ·rename_i X
    cases h;rw[Z];simp only;rw[if_pos (List.all_eq_true.2 fun f V=>LS X V)]
   ·cases h
def LJ(y:List Nat)(n j:Nat):Bool:=(List.range n).all fun k=>decide (k≤j)||bef y j k
def Qj(y:List Nat)(n j:Nat)(r:Rec):Bool:=
 r.v.afP (fun b=>decide (b<r.nx.length))&&
  (dE r||(LJ y n j&&(r.wr.isEmpty||(dH y j&&r.wr.all (fun b=>fg r.tm b&&(match r.nx[b]? with | some s=>s.afP (fun b=>decide (b<r.nx.length)) | none=>true))))&&
   (r.nx.drop r.mem.length).all fun s=>(s.own||match s with | .qK=>true | _=>false)&&s.afP (fun b=>decide (b<r.nx.length))))
def Dl(y:List Nat)(n:Nat):Nat→List Rec→Bool
 |_,[]=>true
 |j,r::rest=>Qj y n j r&&Dl y n (j+1) rest
def xJ(T:TypeId→Option TyI)(O:afF)(N m0:Nat)(ops:Array Oper)(y:List Nat)(s:XS):Option XS:=
 match n9 T O N ops y 0 ops.toList s.env s.mem [] with
 |none=>none
 |some (R,env,mem)=>
  if Dl y R.length 0 R then some ⟨env,mem,s.agf||R.any fun r=>r.wr.any fun b=>decide (b<m0)⟩ else none
structure ail (bs:List Nat)(n:Nat)(f:Nat×Rec):Prop where
 refs:f.2.v.afP (fun b=>decide (b<f.2.nx.length))=true
 or:(f.2.nx.length=f.2.mem.length∧f.2.wr=[])∨((f.2.wr=[]∨∀i,i<f.1→bef bs i f.1=true)∧(∀k,f.1<k→k<n→bef bs f.1 k=true)∧
  f.2.wr.all (fun b=>fg f.2.tm b&&(match f.2.nx[b]? with | some s=>s.afP (fun b=>decide (b<f.2.nx.length)) | none=>true))=true∧
  ((f.2.nx.drop f.2.mem.length).all fun s=>(s.own||match s with | .qK=>true | _=>false)&&s.afP (fun b=>decide (b<f.2.nx.length)))=true)
theorem Dm{y:List Nat}{n:Nat}:∀{j0:Nat} {R:List Rec},Dl y n j0 R=true→∀f∈bq j0 R,ail y n f
 |_,[],_,f,hf=>by simp[bq] at hf
 |j0,r::rest,h,f,hf=>by
  simp only[Dl,Bool.and_eq_true] at h;rw[bq,List.mem_cons] at hf;rcases hf with rfl | hf
  ·have X:=h.1
   simp only[Qj,dE,LJ,Bool.and_eq_true,Bool.or_eq_true,decide_eq_true_eq,List.isEmpty_iff] at X;obtain⟨X,V⟩:=X;refine⟨X,?_⟩;rcases V with V | ⟨⟨h3,Z⟩,S⟩
   ·exact .inl V
   ·refine .inr ⟨?_,fun k M U=>?_,?_,S⟩
    ·rcases Z with Z | ⟨Z,_⟩
     ·exact .inl Z
     ·exact .inr fun i Q=>List.all_eq_true.1 Z i (List.mem_range.2 Q)
    ·have:=List.all_eq_true.1 h3 k (List.mem_range.2 U)
     simp only[Bool.or_eq_true,decide_eq_true_eq] at this;rcases this with h6 | h6
     ·omega
     ·exact h6
    ·rcases Z with Z | ⟨_,Z⟩
     ·rw[Z];rfl
     ·exact Z
  ·exact Dm h.2 f hf
theorem LU{y:List Nat}(h:Dl y R.length 0 R=true){f:Nat×Rec}(hf:f∈bq 0 R):iL y (bq 0 R) f.1 f.2=true:=by
 have D:=Dm h;have U:=D f hf;have u:=jq hf;unfold iL;have Q:∀g∈(bq 0 R).filter (fun g=>decide (g.1<f.1)&& !bef y g.1 f.1),g.2.nx.length=g.2.mem.length∧g.2.wr=[]:=by
  intro g V;have Z:=List.mem_filter.1 V;simp only[Bool.and_eq_true,decide_eq_true_eq,Bool.not_eq_true'] at Z;rcases (D g Z.1).or with X | ⟨_,X,_⟩
  ·exact X
  ·have:=X f.1 Z.2.1 (by omega)
   rw[this] at Z;exact absurd Z.2.2 (by simp)
 have M:∀S,jc S ((bq 0 R).filter fun g=>decide (g.1<f.1)&& !bef y g.1 f.1)=fun b=>decide (b<S):=by
  intro S;funext b;unfold jc;have:(((bq 0 R).filter fun g=>decide (g.1<f.1)&& !bef y g.1 f.1).all fun f=> !decide (f.2.mem.length≤b∧b<f.2.nx.length))=true:=List.all_eq_true.2 fun g V=>by have:=(Q g V).1;simp;omega
  rw[this,Bool.and_true]
 simp only[M,Bool.and_eq_true];rcases U.or with⟨X,L⟩ | ⟨X,_,h3,C⟩
 ·have B:f.2.nx.drop f.2.mem.length=[]:=List.drop_of_length_le (by rw[X];exact Nat.le_refl _)
  refine⟨⟨⟨⟨by rw[L];rfl,U.refs⟩,by rw[L];rfl⟩,by rw[B];rfl⟩,?_⟩;refine List.all_eq_true.2 fun g V=>?_
  obtain⟨K,G⟩:=Q g V;rw[G,L,K,Nat.sub_self,List.take_zero];rfl
 ·refine⟨⟨⟨⟨?_,U.refs⟩,?_⟩,C⟩,?_⟩
  ·refine List.all_eq_true.2 fun b F=>?_
   have:=List.all_eq_true.1 h3 b F;simp only[Bool.and_eq_true] at this;exact this.1
  ·refine List.all_eq_true.2 fun b F=>?_
   have:=List.all_eq_true.1 h3 b F;simp only[Bool.and_eq_true] at this;exact this.2
  ·refine List.all_eq_true.2 fun g V=>?_
   obtain⟨K,G⟩:=Q g V;rcases X with X | X
   ·rw[G,X,K,Nat.sub_self,List.take_zero]
    rfl
   ·have Z:=List.mem_filter.1 V
    simp only[Bool.and_eq_true,decide_eq_true_eq,Bool.not_eq_true'] at Z;rw[X g.1 Z.2.1] at Z;exact absurd Z.2.2 (by simp)
theorem DN{T:TypeId→Option TyI}{ops:Array Oper}{y:List Nat}(H:dm ops.toList=y)(s:XS):
  aH T O N m0 ops s=match xJ T O N m0 ops y s with
   |some s' =>some s'
   |none=>qD T O N m0 ops s:=by
 cases h:xJ T O N m0 ops y s with
 |none=>rfl
 |some s' =>
  simp only;unfold xJ at h;unfold aH;simp only;rw[H];split at h
  ·cases h
  ·rename_i R env mem Z
   split at h
   ·rename_i X
    cases h;rw[Z];simp only;rw[if_pos (List.all_eq_true.2 fun f V=>LU X V)]
   ·cases h
mutual
theorem agc{p q:Nat→Bool}:∀(v:AV),v.afP p=true→v.afP q=true→v.afP (fun b=>p b&&q b)=true
 |.ptr _ _,h1,h2=>by simp only[AV.afP] at h1 h2 ⊢;rw[h1,h2];rfl
 |.slice _ _ _ _,h1,h2=>by simp only[AV.afP] at h1 h2 ⊢;rw[h1,h2];rfl
 |.map _,h1,h2=>by simp only[AV.afP] at h1 h2 ⊢;rw[h1,h2];rfl
 |.yield _,h1,h2=>by simp only[AV.afP] at h1 h2 ⊢;rw[h1,h2];rfl
 |.func _ Z,h1,h2=>by simp only[AV.afP] at h1 h2 ⊢;exact mr Z h1 h2
 |.iface _ v,h1,h2=>by simp only[AV.afP] at h1 h2 ⊢;exact agc v h1 h2
 |.agg Z,h1,h2=>by simp only[AV.afP] at h1 h2 ⊢;exact mr Z h1 h2
 |.tuple Z,h1,h2=>by simp only[AV.afP] at h1 h2 ⊢;exact mr Z h1 h2
 |.undef,_,_=>rfl
 |.bool _,_,_=>rfl
 |.int _ _,_,_=>rfl
 |.str _,_,_=>rfl
 |.af4,_,_=>rfl
 |.qF,_,_=>rfl
 |.age,_,_=>rfl
 |.nilFunc,_,_=>rfl
 |.nilIface,_,_=>rfl
theorem mr{p q:Nat→Bool}:∀(cs:List AV),AV.afV p cs=true→AV.afV q cs=true→AV.afV (fun b=>p b&&q b) cs=true
 | [],_,_=>rfl
 |v::vs,h1,h2=>by simp only[AV.afV,Bool.and_eq_true] at h1 h2 ⊢;exact⟨agc v h1.1 h2.1,mr vs h1.2 h2.2⟩
end
mutual
theorem af8:∀(v:AV),v.afP (fun _=>true)=true
 |.ptr _ _=>rfl
 |.slice _ _ _ _=>rfl
 |.map _=>rfl
 |.yield _=>rfl
 |.func _ Z=>by simp only[AV.afP];exact kQ Z
 |.iface _ v=>by simp only[AV.afP];exact af8 v
 |.agg Z=>by simp only[AV.afP];exact kQ Z
 |.tuple Z=>by simp only[AV.afP];exact kQ Z
 |.undef=>rfl
 |.bool _=>rfl
 |.int _ _=>rfl
 |.str _=>rfl
 |.af4=>rfl
 |.qF=>rfl
 |.age=>rfl
 |.nilFunc=>rfl
 |.nilIface=>rfl
theorem kQ:∀(cs:List AV),AV.afV (fun _=>true) cs=true
 | []=>rfl
 |v::vs=>by simp only[AV.afV,Bool.and_eq_true];exact⟨af8 v,kQ vs⟩
end
theorem agh{top:Nat}{v:AV}(h:v.afP (fun b=>decide (b<top))=true):∀{un:List (Nat×Rec)},(∀g∈un,v.afP (fun b=> !decide (g.2.mem.length≤b∧b<g.2.nx.length))=true)→v.afP (jc top un)=true
 | [],_=>by
  have:jc top []=fun b=>decide (b<top):=by funext b;simp[jc]
  rw[this];exact h
 |g::un,hg=>by
  have Z:=agh h (un:=un) (fun x X=>hg x (List.mem_cons_of_mem _ X));have V:=agc v Z (hg g (List.mem_cons_self ..));have:jc top (g::un)=fun b=>jc top un b&& !decide (g.2.mem.length≤b∧b<g.2.nx.length):=by funext b;simp only[jc,List.all_cons];cases decide (b<top)<;>cases (un.all fun f=> !decide (f.2.mem.length≤b∧b<f.2.nx.length))<;>simp
  rw[this];exact V
def oO:afU→Bool
 |.qK=>true
 |_=>false
def Zd(y H:Nat)(r:Rec):Bool:=
 dE r&&r.v.afP (fun b=> !decide (y≤b∧b<H))&&((r.tm.drop y).take (H-y)).all oO
structure aiv (bs:List Nat)(R:List (Nat×Rec))(f:Nat×Rec):Prop where
 refs:f.2.v.afP (fun b=>decide (b<f.2.nx.length))=true
 or:(f.2.nx.length=f.2.mem.length∧f.2.wr=[])∨((f.2.wr=[]∨∀i,i<f.1→bef bs i f.1=true)∧(∀g∈R,f.1<g.1→bef bs f.1 g.1=true∨(f.2.wr=[]∧Zd f.2.mem.length f.2.nx.length g.2=true))∧
  f.2.wr.all (fun b=>fg f.2.tm b&&(match f.2.nx[b]? with | some s=>s.afP (fun b=>decide (b<f.2.nx.length)) | none=>true))=true∧
  ((f.2.nx.drop f.2.mem.length).all fun s=>(s.own||match s with | .qK=>true | _=>false)&&s.afP (fun b=>decide (b<f.2.nx.length)))=true)
theorem Ds(f:Nat→Bool)(new:Mem):∀(i:Nat) (M:Mem),bt [] i M (bK f i M++new)=M++new
 |_,[]=>rfl
 |i,s::M=>by simp[bK,bt,Ds f new (i+1) M]
theorem zN(new:Mem):∀(i:Nat) (M:Mem),bt [] i M (M++new)=M++new
 |_,[]=>rfl
 |i,s::M=>by simp[bt,zN new (i+1) M]
theorem zP(f:Nat→Bool)(s:afU):∀(i:Nat) (M:Mem) (k:Nat),bt [i+k] i M ((bK f i M).set k s)=M.set k s
 |_,[],_=>rfl
 |i,x::M,0=>by
  simp only[bK,List.set_cons_zero,bt,Nat.add_zero];have h:∀(j:Nat) (M:Mem),i<j→bt [i] j M (bK f j M)=M:=by
   intro j M Z;induction M generalizing j with
   |nil=>rfl
   |cons y M ih=>simp[bK,bt,ih (j+1) (by omega),show¬j=i by omega]
  simp[h (i+1) M (by omega)]
 |i,x::M,k+1=>by have:=zP f s (i+1) M k;rw[show i+1+k=i+(k+1) by omega] at this;simp[bK,bt,this,show¬i=i+(k+1) by omega]
theorem Mr(f:Nat→Bool)(s:afU)(M:Mem)(k:Nat):bt [k] 0 M ((bK f 0 M).set k s)=M.set k s:=by
 have:=zP f s 0 M k
 rwa [Nat.zero_add] at this
theorem FK(f:Nat→Bool):∀(i:Nat) (M:Mem),(bK f i M).length=M.length
 |_,[]=>rfl
 |i,x::M=>by simp[bK,FK f (i+1) M]
theorem FI(f:Nat→Bool)(M:Mem)(y n:Nat)(h:∀b,y≤b→b<y+n→f b=false):(((bK f 0 M).drop y).take n).all oO=true:=by
 rw[List.all_eq_true];intro s X;obtain⟨i,Z⟩:=List.getElem?_of_mem X;rw[List.getElem?_take] at Z;split at Z
 ·rename_i V
  rw[List.getElem?_drop,v8] at Z;cases hM:M[y+i]? with
  |none=>rw[hM] at Z;simp at Z
  |some x=>
   rw[hM] at Z;simp only[Option.map_some,Nat.zero_add,Option.some.injEq] at Z;rw[h (y+i) (by omega) (by omega)] at Z;simp at Z;subst Z;rfl
 ·cases Z
theorem Pf(M:Mem)(y n:Nat):(((bK (fun _=>false) 0 M).drop y).take n).all oO=true:=FI _ M y n fun _ _ _=>rfl
theorem XR(M X:Mem)(k:Nat):(M++X).drop (M.length+k)=X.drop k:=by rw[List.drop_append];simp
theorem WG(M X:Mem):(M++X).drop M.length=X:=by simp
theorem xw(i:Nat)(s s' :afU)(r r' :Mem):bt [] i (s::r) (s' ::r')=s::bt [] (i+1) r r' :=by simp[bt]
theorem Dt:∀(i:Nat) (N X Y:Mem),bt [] i (N++X) (N++Y)=N++bt [] (i+N.length) X Y
 |i,[],X,Y=>by simp
 |i,s::N,X,Y=>by simp only[List.cons_append,xw,Dt (i+1) N X Y,List.length_cons];rw[show i+1+N.length=i+(N.length+1) by omega]
theorem afU.agc{p q:Nat→Bool}:∀(s:afU),s.afP p=true→s.afP q=true→s.afP (fun b=>p b&&q b)=true
 |.qK,_,_=>rfl
 |.cells _ _ cs,h,h' =>mr cs h h'
 |.map es,h,h' =>by simp only[afU.afP,List.all_eq_true,Bool.and_eq_true] at h h' ⊢;exact fun e Z=>⟨Go.Eng.agc _ (h e Z).1 (h' e Z).1,Go.Eng.agc _ (h e Z).2 (h' e Z).2⟩
 |.agq es,h,h' =>by simp only[afU.afP,List.all_eq_true,Bool.and_eq_true] at h h' ⊢;exact fun e Z=>⟨Go.Eng.agc _ (h e Z).1 (h' e Z).1,Go.Eng.agc _ (h e Z).2 (h' e Z).2⟩
 |.loop r,h,h' =>by simp only[afU.afP,List.all_eq_true] at h h' ⊢;exact fun e Z=>Go.Eng.agc _ (h e Z) (h' e Z)
theorem afU.agh{top:Nat}{s:afU}(h:s.afP (fun b=>decide (b<top))=true):∀{un:List (Nat×Rec)},(∀g∈un,s.afP (fun b=> !decide (g.2.mem.length≤b∧b<g.2.nx.length))=true)→s.afP (jc top un)=true
 | [],_=>by
  have:jc top []=fun b=>decide (b<top):=by funext b;simp[jc]
  rw[this];exact h
 |g::un,hg=>by
  have Z:=afU.agh h (un:=un) (fun x X=>hg x (List.mem_cons_of_mem _ X));have V:=afU.agc s Z (hg g (List.mem_cons_self ..));have:jc top (g::un)=fun b=>jc top un b&& !decide (g.2.mem.length≤b∧b<g.2.nx.length):=by funext b;simp only[jc,List.all_cons];cases decide (b<top)<;>cases (un.all fun f=> !decide (f.2.mem.length≤b∧b<f.2.nx.length))<;>simp
  rw[this];exact V
theorem td{g:Rec}(h:g.nx.length=g.mem.length):(fun b=> !decide (g.mem.length≤b∧b<g.nx.length))=fun _=>true:=by
 funext b;rw[h];have:¬(g.mem.length≤b∧b<g.mem.length):=by omega
 simp[this]
theorem afU.af8:∀(s:afU),s.afP (fun _=>true)=true
 |.qK=>rfl
 |.cells _ _ cs=>kQ cs
 |.map es=>by simp only[afU.afP,List.all_eq_true,Bool.and_eq_true];exact fun e _=>⟨Go.Eng.af8 _,Go.Eng.af8 _⟩
 |.agq es=>by simp only[afU.afP,List.all_eq_true,Bool.and_eq_true];exact fun e _=>⟨Go.Eng.af8 _,Go.Eng.af8 _⟩
 |.loop r=>by simp only[afU.afP,List.all_eq_true];exact fun e _=>Go.Eng.af8 _
def dw(y H:Nat)(r:Rec):Bool:=
 r.wr.isEmpty&&r.v.afP (fun b=> !decide (y≤b∧b<H))&&((r.nx.drop r.mem.length).all fun s=>s.afP (fun b=> !decide (y≤b∧b<H)))&&((r.tm.drop y).take (H-y)).all oO
def fJ(y:List Nat)(i:Nat)(r:Rec):Nat→List Rec→Bool
 |_,[]=>true
 |j,s::rest=>(bef y i j||(r.wr.isEmpty&&dw r.mem.length r.nx.length s))&&fJ y i r (j+1) rest
def jQ(y:List Nat)(j:Nat)(r:Rec):List (Nat×Rec)→Bool
 | []=>true
 |g::l=>(bef y g.1 j||(dE g.2&&r.wr.all fun b=> !fg g.2.tm b))&&jQ y j r l
def fu(y:List Nat):Nat→List (Nat×Rec)→List Rec→Bool
 |_,_,[]=>true
 |j,acc,r::rest=>r.v.afP (fun b=>decide (b<r.nx.length))&&(dE r||(fJ y j r (j+1) rest&&(r.wr.isEmpty||(jQ y j r acc&&r.wr.all (fun b=>fg r.tm b&&(match r.nx[b]? with | some s=>s.afP (fun b=>decide (b<r.nx.length)) | none=>true))))&&
   (r.nx.drop r.mem.length).all fun s=>(s.own||match s with | .qK=>true | _=>false)&&s.afP (fun b=>decide (b<r.nx.length))))&&fu y (j+1) ((j,r)::acc) rest
def dh(T:TypeId→Option TyI)(O:afF)(N m0:Nat)(ops:Array Oper)(y:List Nat)(s:XS):Option XS:=
 match n9 T O N ops y 0 ops.toList s.env s.mem [] with
 |none=>none
 |some (R,env,mem)=>
  if fu y 0 [] R then some ⟨env,mem,s.agf||R.any fun r=>r.wr.any fun b=>decide (b<m0)⟩ else none
theorem CY{y:List Nat}{i:Nat}{r:Rec}:∀{j0:Nat} {R:List Rec},fJ y i r j0 R=true→∀g∈bq j0 R,bef y i g.1=true∨(r.wr=[]∧dw r.mem.length r.nx.length g.2=true)
 |_,[],_,g,hg=>by simp[bq] at hg
 |j0,s::rest,h,g,hg=>by
  simp only[fJ,Bool.and_eq_true,Bool.or_eq_true,List.isEmpty_iff] at h;rw[bq,List.mem_cons] at hg;rcases hg with rfl | hg
  ·exact h.1
  ·exact CY h.2 g hg
theorem Fi{y:List Nat}{j:Nat}{r:Rec}:∀{acc:List (Nat×Rec)},jQ y j r acc=true→∀g∈acc,bef y g.1 j=true∨((g.2.nx.length=g.2.mem.length∧g.2.wr=[])∧(r.wr.all fun b=> !fg g.2.tm b)=true)
 | [],_,g,hg=>by cases hg
 |a::l,h,g,hg=>by
  simp only[jQ,dE,Bool.and_eq_true,Bool.or_eq_true,decide_eq_true_eq,List.isEmpty_iff] at h;rcases List.mem_cons.1 hg with rfl | hg
  ·exact h.1
  ·exact Fi h.2 g hg
structure ah1 (bs:List Nat)(R:List (Nat×Rec))(f:Nat×Rec):Prop where
 refs:f.2.v.afP (fun b=>decide (b<f.2.nx.length))=true
 or:(f.2.nx.length=f.2.mem.length∧f.2.wr=[])∨((f.2.wr=[]∨∀g∈R,g.1<f.1→bef bs g.1 f.1=true∨((g.2.nx.length=g.2.mem.length∧g.2.wr=[])∧(f.2.wr.all fun b=> !fg g.2.tm b)=true))∧(∀g∈R,f.1<g.1→bef bs f.1 g.1=true∨(f.2.wr=[]∧dw f.2.mem.length f.2.nx.length g.2=true))∧
  f.2.wr.all (fun b=>fg f.2.tm b&&(match f.2.nx[b]? with | some s=>s.afP (fun b=>decide (b<f.2.nx.length)) | none=>true))=true∧
  ((f.2.nx.drop f.2.mem.length).all fun s=>(s.own||match s with | .qK=>true | _=>false)&&s.afP (fun b=>decide (b<f.2.nx.length)))=true)
theorem zI{y:List Nat}{R0:List (Nat×Rec)}:∀{j0:Nat} {acc:List (Nat×Rec)} {R:List Rec},(∀g∈R0,g.1<j0∨g∈bq j0 R)→(∀g∈R0,g.1<j0→g∈acc)→fu y j0 acc R=true→∀f∈bq j0 R,ah1 y R0 f
 |_,_,[],_,_,_,f,hf=>by simp[bq] at hf
 |j0,acc,r::rest,hR,abW,h,f,hf=>by
  simp only[fu,Bool.and_eq_true] at h;obtain⟨⟨M,U⟩,L⟩:=h;have V :∀g∈R0,g.1<j0+1∨g∈bq (j0+1) rest:=by
   intro g X;rcases hR g X with h3 | h3
   ·exact .inl (by omega)
   ·rw[bq,List.mem_cons] at h3
    rcases h3 with rfl | h3
    ·exact .inl (by simp)
    ·exact .inr h3
  have Q :∀g∈R0,g.1<j0+1→g∈(j0,r)::acc:=by
   intro g X S;rcases hR g X with h3 | h3
   ·exact List.mem_cons_of_mem _ (abW g X h3)
   ·rw[bq,List.mem_cons] at h3
    rcases h3 with rfl | h3
    ·exact List.mem_cons_self ..
    ·have:=(jq h3).1;omega
  rw[bq,List.mem_cons] at hf;rcases hf with rfl | hf
  ·refine⟨M,?_⟩
   simp only[dE,Bool.and_eq_true,Bool.or_eq_true,decide_eq_true_eq,List.isEmpty_iff] at U;rcases U with U | ⟨⟨h3,Z⟩,K⟩
   ·exact .inl U
   ·refine .inr ⟨?_,fun g X S=>?_,?_,K⟩
    ·rcases Z with Z | ⟨Z,_⟩
     ·exact .inl Z
     ·exact .inr fun g X S=>Fi Z g (abW g X S)
    ·rcases V g X with h6 | h6
     ·simp only at S;omega
     ·exact CY h3 g h6
    ·rcases Z with Z | ⟨_,Z⟩
     ·rw[Z];rfl
     ·exact Z
  ·exact zI V Q L f hf
theorem Hn{y:List Nat}(h:fu y 0 [] R=true){f:Nat×Rec}(hf:f∈bq 0 R):iL y (bq 0 R) f.1 f.2=true:=by
 have u:=zI (R0:=bq 0 R) (fun g X=>.inr X) (fun g _ m=>absurd m (Nat.not_lt_zero _)) h;have S:=u f hf;unfold iL;have Q:∀g∈(bq 0 R).filter (fun g=>decide (g.1<f.1)&& !bef y g.1 f.1),(g.2.nx.length=g.2.mem.length∧g.2.wr=[])∨(g.2.wr=[]∧dw g.2.mem.length g.2.nx.length f.2=true):=by
  intro g X;have Z:=List.mem_filter.1 X;simp only[Bool.and_eq_true,decide_eq_true_eq,Bool.not_eq_true'] at Z;rcases (u g Z.1).or with U | ⟨_,U,_⟩
  ·exact .inl U
  ·rcases U f hf Z.2.1 with G | G
   ·rw[G] at Z;exact absurd Z.2.2 (by simp)
   ·exact .inr G
 have F:∀g∈(bq 0 R).filter (fun g=>decide (g.1<f.1)&& !bef y g.1 f.1),g.2.wr=[]∧(f.2.wr.all fun b=> !fg g.2.tm b)=true∧(f.2.wr=[]∨g.2.nx.length=g.2.mem.length):=by
  intro g X;have Z:=List.mem_filter.1 X;simp only[Bool.and_eq_true,decide_eq_true_eq,Bool.not_eq_true'] at Z;rcases Q g X with⟨M,V⟩ | ⟨M,V⟩
  ·refine⟨V,?_,.inr M⟩
   rcases S.or with U | ⟨U,_⟩
   ·rw[U.2];rfl
   ·rcases U with U | U
    ·rw[U];rfl
    ·rcases U g Z.1 Z.2.1 with h3 | h3
     ·rw[h3] at Z;exact absurd Z.2.2 (by simp)
     ·exact h3.2
  ·simp only[dw,Bool.and_eq_true,List.isEmpty_iff] at V
   refine⟨M,?_,.inl V.1.1.1⟩;rw[V.1.1.1];rfl
 have Y:f.2.v.afP (jc f.2.nx.length ((bq 0 R).filter fun g=>decide (g.1<f.1)&& !bef y g.1 f.1))=true:=agh S.refs fun g X=>by
  rcases Q g X with⟨M,_⟩ | ⟨_,V⟩
  ·rw[td M];exact af8 _
  ·simp only[dw,Bool.and_eq_true] at V
   exact V.1.1.2
 have C:(((bq 0 R).filter fun g=>decide (g.1<f.1)&& !bef y g.1 f.1).all fun g=>g.2.wr.all (fun b=> !fg f.2.tm b)&&f.2.wr.all (fun b=> !fg g.2.tm b)&&
   ((f.2.tm.drop g.2.mem.length).take (g.2.nx.length-g.2.mem.length)).all fun s=>match s with | .qK=>true | _=>false)=true:=List.all_eq_true.2 fun g X=>by
  obtain⟨w1,w2,_⟩:=F g X;rw[w1,w2];simp only[List.all_nil,Bool.true_and];rcases Q g X with⟨M,_⟩ | ⟨_,V⟩
  ·rw[M,Nat.sub_self,List.take_zero];rfl
  ·simp only[dw,Bool.and_eq_true] at V
   refine List.all_eq_true.2 fun s K=>?_
   have:=List.all_eq_true.1 V.2 s K;cases s<;>simp_all[oO]
 have B:((f.2.nx.drop f.2.mem.length).all fun s=>(s.own||match s with | .qK=>true | _=>false)&&s.afP (jc f.2.nx.length ((bq 0 R).filter fun g=>decide (g.1<f.1)&& !bef y g.1 f.1)))=true:=by
  refine List.all_eq_true.2 fun s K=>?_
  rcases S.or with⟨U,_⟩ | ⟨_,_,_,W⟩
  ·rw[List.drop_of_length_le (by rw[U];exact Nat.le_refl _)] at K;cases K
  ·have L:=List.all_eq_true.1 W s K
   simp only[Bool.and_eq_true] at L ⊢;refine⟨L.1,afU.agh L.2 fun g X=>?_⟩;rcases Q g X with⟨M,_⟩ | ⟨_,V⟩
   ·rw[td M];exact afU.af8 _
   ·simp only[dw,Bool.and_eq_true] at V
    exact List.all_eq_true.1 V.1.2 s K
 have o:f.2.wr.all (fun b=>fg f.2.tm b)=true∧(f.2.wr.all fun b=>match f.2.nx[b]? with | some s=>s.afP (jc f.2.nx.length ((bq 0 R).filter fun g=>decide (g.1<f.1)&& !bef y g.1 f.1)) | none=>true)=true:=by
  rcases S.or with⟨_,G⟩ | ⟨_,_,h3,_⟩
  ·rw[G];exact⟨rfl,rfl⟩
  ·constructor
   ·refine List.all_eq_true.2 fun b D=>?_
    have:=List.all_eq_true.1 h3 b D;simp only[Bool.and_eq_true] at this;exact this.1
   ·refine List.all_eq_true.2 fun b D=>?_
    have:=List.all_eq_true.1 h3 b D;simp only[Bool.and_eq_true] at this;cases hn:f.2.nx[b]? with
    |none=>rfl
    |some s=>
     simp only[hn] at this ⊢;refine afU.agh this.2 fun g X=>?_
     rcases (F g X).2.2 with L | L
     ·rw[L] at D;cases D
     ·rw[td L];exact afU.af8 _
 simp only[Bool.and_eq_true];exact⟨⟨⟨⟨o.1,Y⟩,o.2⟩,B⟩,C⟩
theorem bE{T:TypeId→Option TyI}{ops:Array Oper}{y:List Nat}(H:dm ops.toList=y)(s:XS):
  aH T O N m0 ops s=match dh T O N m0 ops y s with
   |some s' =>some s'
   |none=>qD T O N m0 ops s:=by
 cases h:dh T O N m0 ops y s with
 |none=>rfl
 |some s' =>
  simp only;unfold dh at h;unfold aH;simp only;rw[H];split at h
  ·cases h
  ·rename_i R env mem Z
   split at h
   ·rename_i X
    cases h;rw[Z];simp only;rw[if_pos (List.all_eq_true.2 fun f V=>Hn X V)]
   ·cases h
mutual
theorem AV.agI{k n:Nat}(y:k≤n):∀{v:AV},v.under k=true→v.refs n=[]
 |.undef,_=>rfl
 |.bool _,_=>rfl
 |.int _ _,_=>rfl
 |.str _,_=>rfl
 |.ptr b o,h=>by simp only[AV.under,decide_eq_true_eq] at h;simp only[AV.refs];rw[if_pos (by omega)]
 |.af4,_=>rfl
 |.slice b o l c,h=>by simp only[AV.under,decide_eq_true_eq] at h;simp only[AV.refs];rw[if_pos (by omega)]
 |.qF,_=>rfl
 |.map b,h=>by simp only[AV.under,decide_eq_true_eq] at h;simp only[AV.refs];rw[if_pos (by omega)]
 |.yield b,h=>by simp only[AV.under,decide_eq_true_eq] at h;simp only[AV.refs];rw[if_pos (by omega)]
 |.age,_=>rfl
 |.func f Z,h=>by simp only[AV.under] at h;simp only[AV.refs];exact AV.agi y h
 |.nilFunc,_=>rfl
 |.iface t v,h=>by simp only[AV.under] at h;simp only[AV.refs];exact AV.agI y h
 |.nilIface,_=>rfl
 |.agg Z,h=>by simp only[AV.under] at h;simp only[AV.refs];exact AV.agi y h
 |.tuple Z,h=>by simp only[AV.under] at h;simp only[AV.refs];exact AV.agi y h
theorem AV.agi{k n:Nat}(y:k≤n):∀{vs:List AV},AV.afX k vs=true→AV.af6 n vs=[]
 | [],_=>rfl
 |v::vs,h=>by simp only[AV.afX,Bool.and_eq_true] at h;simp only[AV.af6,AV.agI y h.1,AV.agi y h.2,List.append_nil]
end
mutual
theorem AV.agy{k:Nat}{f:Nat→Bool}(hf:∀b,b<k→f b=true):∀{v:AV},v.under k=true→v.afP f=true
 |.undef,_=>rfl
 |.bool _,_=>rfl
 |.int _ _,_=>rfl
 |.str _,_=>rfl
 |.ptr b o,h=>by simp only[AV.under,decide_eq_true_eq] at h;simp only[AV.afP];exact hf b h
 |.af4,_=>rfl
 |.slice b o l c,h=>by simp only[AV.under,decide_eq_true_eq] at h;simp only[AV.afP];exact hf b h
 |.qF,_=>rfl
 |.map b,h=>by simp only[AV.under,decide_eq_true_eq] at h;simp only[AV.afP];exact hf b h
 |.yield b,h=>by simp only[AV.under,decide_eq_true_eq] at h;simp only[AV.afP];exact hf b h
 |.age,_=>rfl
 |.func f Z,h=>by simp only[AV.under] at h;simp only[AV.afP];exact AV.agd hf h
 |.nilFunc,_=>rfl
 |.iface t v,h=>by simp only[AV.under] at h;simp only[AV.afP];exact AV.agy hf h
 |.nilIface,_=>rfl
 |.agg Z,h=>by simp only[AV.under] at h;simp only[AV.afP];exact AV.agd hf h
 |.tuple Z,h=>by simp only[AV.under] at h;simp only[AV.afP];exact AV.agd hf h
theorem AV.agd{k:Nat}{f:Nat→Bool}(hf:∀b,b<k→f b=true):∀{vs:List AV},AV.afX k vs=true→AV.afV f vs=true
 | [],_=>rfl
 |v::vs,h=>by simp only[AV.afX,Bool.and_eq_true] at h;simp only[AV.afV,AV.agy hf h.1,AV.agd hf h.2,Bool.and_self]
end
mutual
theorem zf{k n:Nat}(y:k≤n):∀{v:AV},v.under k=true→v.under n=true
 |.undef,_=>rfl
 |.bool _,_=>rfl
 |.int _ _,_=>rfl
 |.str _,_=>rfl
 |.ptr b o,h=>by simp only[AV.under,decide_eq_true_eq] at h ⊢;omega
 |.af4,_=>rfl
 |.slice b o l c,h=>by simp only[AV.under,decide_eq_true_eq] at h ⊢;omega
 |.qF,_=>rfl
 |.map b,h=>by simp only[AV.under,decide_eq_true_eq] at h ⊢;omega
 |.yield b,h=>by simp only[AV.under,decide_eq_true_eq] at h ⊢;omega
 |.age,_=>rfl
 |.func f Z,h=>by simp only[AV.under] at h ⊢;exact qL y h
 |.nilFunc,_=>rfl
 |.iface t v,h=>by simp only[AV.under] at h ⊢;exact zf y h
 |.nilIface,_=>rfl
 |.agg Z,h=>by simp only[AV.under] at h ⊢;exact qL y h
 |.tuple Z,h=>by simp only[AV.under] at h ⊢;exact qL y h
theorem qL{k n:Nat}(y:k≤n):∀{vs:List AV},AV.afX k vs=true→AV.afX n vs=true
 | [],_=>rfl
 |v::vs,h=>by simp only[AV.afX,Bool.and_eq_true] at h ⊢;exact⟨zf y h.1,qL y h.2⟩
end
variable{k:Nat}
theorem gf{vs:List AV}(h:AV.afX k vs=true):(∀n,k≤n→AV.af6 n vs=[])∧(∀n,k≤n→AV.afV (fun b=>decide (b<n)) vs=true):=
 ⟨fun n Z=>AV.agi Z h,fun n Z=>AV.agd (fun b X=>by simp only[decide_eq_true_eq];omega) h⟩
variable{v:AV}
theorem fH(h:v.under k=true):(∀n,k≤n→v.refs n=[])∧(∀n,k≤n→v.afP (fun b=>decide (b<n))=true):=
 ⟨fun n Z=>AV.agI Z h,fun n Z=>AV.agy (fun b X=>by simp only[decide_eq_true_eq];omega) h⟩
mutual
theorem afQ.cut{μ μ' :Nat→Place}{n n' :Nat}:∀{v V V'},afQ μ n v V→afQ μ' n' v V' →afQ μ' n v V'
 |.undef,V,V',_,_=>by simp[afQ]
 |.bool b,V,V',_,h=>by simpa [afQ] using h
 |.int k i,V,V',_,h=>by simpa [afQ] using h
 |.str s,V,V',_,h=>by simpa [afQ] using h
 |.ptr b o,V,V',h,Z =>by simp only[afQ] at h Z ⊢;exact⟨h.1,Z.2⟩
 |.af4,V,V',_,h=>by simpa [afQ] using h
 |.slice b o l c,V,V',h,Z =>by simp only[afQ] at h Z ⊢;exact⟨h.1,Z.2⟩
 |.qF,V,V',_,h=>by simpa [afQ] using h
 |.map b,V,V',h,Z =>by simp only[afQ] at h Z ⊢;exact⟨h.1,Z.2⟩
 |.yield b,V,V',h,Z =>by simp only[afQ] at h Z ⊢;exact⟨h.1,Z.2⟩
 |.age,V,V',_,h=>by simpa [afQ] using h
 |.func f S,V,V',h,Z =>by simp only[afQ] at h Z ⊢;obtain⟨Q,rfl,h⟩:=h;obtain⟨X,rfl,Z⟩:=Z;exact⟨X,rfl,afS.cut h Z⟩
 |.nilFunc,V,V',_,h=>by simpa [afQ] using h
 |.iface t v,V,V',h,Z =>by simp only[afQ] at h Z ⊢;obtain⟨U,rfl,h⟩:=h;obtain⟨M,rfl,Z⟩:=Z;exact⟨M,rfl,afQ.cut h Z⟩
 |.nilIface,V,V',_,h=>by simpa [afQ] using h
 |.agg S,V,V',h,Z =>by simp only[afQ] at h Z ⊢;obtain⟨Q,rfl,h⟩:=h;obtain⟨X,rfl,Z⟩:=Z;exact⟨X,rfl,afS.cut h Z⟩
 |.tuple S,V,V',h,Z =>by simp only[afQ] at h Z ⊢;obtain⟨Q,rfl,h⟩:=h;obtain⟨X,rfl,Z⟩:=Z;exact⟨X,rfl,afS.cut h Z⟩
theorem afS.cut{μ μ' :Nat→Place}{n n' :Nat}:∀{vs Us Us'},afS μ n vs Us→afS μ' n' vs Us' →afS μ' n vs Us'
 | [],Us,Us',_,h=>by simpa [afS] using h
 |v::vs,Us,Us',h,h' =>by simp only[afS] at h h' ⊢;obtain⟨U,L,rfl,S,Q⟩:=h;obtain⟨M,Z,rfl,X,V⟩:=h';exact⟨M,Z,rfl,afQ.cut S X,afS.cut Q V⟩
end
theorem af5.cut{μ μ' :Nat→Place}{n n' y:Nat}{w w' :World}{p H :Place}{s:afU}(h:af5 μ n y w p s)(h' :af5 μ' n' y w' H s):af5 μ' n y w' H s:=by
 cases s with
 |qK=>trivial
 |cells own es cs=>
  simp only[af5] at h h' ⊢;obtain⟨_,_,_,_,_,_,M,_⟩:=h;obtain⟨F,e,o,X,U,K,G,m⟩:=h';refine⟨F,e,o,X,U,K,fun j v Z=>?_,m⟩;obtain⟨V,_,r⟩:=M j v Z;obtain⟨Y,D,S⟩:=G j v Z;exact⟨Y,D,afQ.cut r S⟩
 |map es=>
  simp only[af5] at h h' ⊢;obtain⟨_,_,_,_,_,M⟩:=h;obtain⟨C,B,X,U,K,G⟩:=h';refine⟨C,B,X,U,K,fun j e Z=>?_⟩;obtain⟨E,_,r⟩:=M j e Z;obtain⟨u,Q,S⟩:=G j e Z;exact⟨u,Q,afQ.cut r.1 S.1,afQ.cut r.2 S.2⟩
 |agq es=>
  simp only[af5] at h h' ⊢;obtain⟨_,_,_,_,_,M⟩:=h;obtain⟨C,B,X,U,K,G⟩:=h';refine⟨C,B,X,U,K,fun j e Z=>?_⟩;obtain⟨E,_,r⟩:=M j e Z;obtain⟨u,Q,S⟩:=G j e Z;exact⟨u,Q,afQ.cut r.1 S.1,afQ.cut r.2 S.2⟩
 |loop r=>
  simp only[af5] at h h' ⊢;obtain⟨L,_,_,g⟩:=h;obtain⟨W,X,U,k⟩:=h';exact⟨W,X,U,k.st,k.agX,k.ps,k.assign,k.body,k.size,fun t=>afQ.cut (g.tmps t) (k.tmps t)⟩
variable{P:Program}{args:List AV}{m new:Mem}
theorem kO.forget{f:FuncId}(y:v.closed=true)(h:kO P f args m v (m++new)):kO P f args m v m:=by
 refine⟨h.1,fun base μ w Vs hG hH hV=>(h.2 base μ w Vs hG hH hV).mono ?_⟩;rintro e w' ⟨V,v',m',μ',rfl,q1,q2,q3,rfl,rfl⟩;have X:∀{b:Nat}{s:afU},m[b]? =some s→(m++new)[b]? =some s:=fun {b s} Z=>gU Z _
 have U:∀{b:Nat},ef m b→ef (m++new) b:=fun ⟨s,S,Q⟩=>⟨s,X S,Q⟩
 exact⟨V,_,m,μ',rfl,afQ.closed y q1,⟨q2.afY,fun b s Z=>(hH.slot b s Z).cut (q2.slot b s (X Z)),fun b M L Z K =>q2.sep b M L (U Z) (X K)⟩,
  ⟨Nat.le_refl _,q3.agree,q3.os,q3.tape,q3.output,q3.size,q3.frame,fun b Z=>q3.owner b (U Z),q3.drawn⟩,rfl,rfl⟩
mutual
theorem afQ.low{μ:Nat→Place}{n n' :Nat}:∀{v V},v.under n=true→afQ μ n' v V→afQ μ n v V
 |.undef,V,_,_=>by simp[afQ]
 |.bool b,V,_,h=>by simpa [afQ] using h
 |.int k i,V,_,h=>by simpa [afQ] using h
 |.str s,V,_,h=>by simpa [afQ] using h
 |.ptr b o,V,hu,h=>by simp only[AV.under,decide_eq_true_eq] at hu;simp only[afQ] at h ⊢;exact⟨hu,h.2⟩
 |.af4,V,_,h=>by simpa [afQ] using h
 |.slice b o l c,V,hu,h=>by simp only[AV.under,decide_eq_true_eq] at hu;simp only[afQ] at h ⊢;exact⟨hu,h.2⟩
 |.qF,V,_,h=>by simpa [afQ] using h
 |.map b,V,hu,h=>by simp only[AV.under,decide_eq_true_eq] at hu;simp only[afQ] at h ⊢;exact⟨hu,h.2⟩
 |.yield b,V,hu,h=>by simp only[AV.under,decide_eq_true_eq] at hu;simp only[afQ] at h ⊢;exact⟨hu,h.2⟩
 |.age,V,_,h=>by simpa [afQ] using h
 |.func f X,V,hu,h=>by simp only[AV.under] at hu;simp only[afQ] at h ⊢;obtain⟨Z,rfl,h⟩:=h;exact⟨Z,rfl,afS.low hu h⟩
 |.nilFunc,V,_,h=>by simpa [afQ] using h
 |.iface t v,V,hu,h=>by simp only[AV.under] at hu;simp only[afQ] at h ⊢;obtain⟨U,rfl,h⟩:=h;exact⟨U,rfl,afQ.low hu h⟩
 |.nilIface,V,_,h=>by simpa [afQ] using h
 |.agg X,V,hu,h=>by simp only[AV.under] at hu;simp only[afQ] at h ⊢;obtain⟨Z,rfl,h⟩:=h;exact⟨Z,rfl,afS.low hu h⟩
 |.tuple X,V,hu,h=>by simp only[AV.under] at hu;simp only[afQ] at h ⊢;obtain⟨Z,rfl,h⟩:=h;exact⟨Z,rfl,afS.low hu h⟩
theorem afS.low{μ:Nat→Place}{n n' :Nat}:∀{vs Us},AV.afX n vs=true→afS μ n' vs Us→afS μ n vs Us
 | [],Us,_,h=>by simpa [afS] using h
 |v::vs,Us,hu,h=>by simp only[AV.afX,Bool.and_eq_true] at hu;simp only[afS] at h ⊢;obtain⟨U,Z,rfl,X,V⟩:=h;exact⟨U,Z,rfl,afQ.low hu.1 X,afS.low hu.2 V⟩
end
theorem kO.ahF{f:FuncId}{y:Mem}(I:v.closed=true)(H:y.length=m.length)(hc:∀(b:Nat) s,y[b]? =some s→m[b]? =some s∨∃o es S,s=.cells o es S∧AV.afX m.length S=true)(h:kO P f args m v (y++new)):kO P f args m v y:=by
 refine⟨h.1,fun base μ w Vs hG hH hV=>(h.2 base μ w Vs hG hH hV).mono ?_⟩;rintro e w' ⟨V,v',m',μ',rfl,q1,q2,q3,rfl,rfl⟩;have Z:∀{b:Nat}{s:afU},y[b]? =some s→(y++new)[b]? =some s:=fun {b s} X=>gU X _
 have U:∀{b:Nat},ef y b→ef (y++new) b:=fun ⟨s,Q,G⟩=>⟨s,Z Q,G⟩
 refine⟨V,_,y,μ',rfl,afQ.closed I q1,⟨q2.afY,fun b s X=>?_,fun b F D X C =>q2.sep b F D (U X) (Z C)⟩,
  ⟨by rw[H];exact Nat.le_refl _,q3.agree,q3.os,q3.tape,q3.output,q3.size,q3.frame,fun b X=>q3.owner b (U X),q3.drawn⟩,rfl,rfl⟩
 rw[H];rcases hc b s X with Q | ⟨o,es,S,rfl,B⟩
 ·exact(hH.slot b s Q).cut (q2.slot b s (Z X))
 ·have:=q2.slot _ _ (Z X)
  simp only[af5] at this ⊢;obtain⟨M,e,u,Y,W,J,k4,k5⟩:=this;refine⟨M,e,u,Y,W,J,fun j v K=>?_,k5⟩;obtain⟨V',L,r'⟩:=k4 j v K;exact⟨V',L,afQ.low (zg B j v K) r'⟩
end Go.Eng
