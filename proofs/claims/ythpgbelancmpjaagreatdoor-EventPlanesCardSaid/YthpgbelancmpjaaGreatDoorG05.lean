/- See G38. -/
import Derived.Test.YthpgbelancmpjaaGreatDoorG04
import Derived.Maps.RangeRun
set_option linter.all false
namespace Go.Eng
theorem Yj:iZ []=[]:=rfl
theorem rV(n:Int)(l:List Int):iZ (n::l)=.int .i64 n::iZ l:=rfl
theorem Tx(l:List Int):(iZ l).length=l.length:=by simp[iZ]
theorem Cq(l r:List Int):iZ (l++r)=iZ l++iZ r:=by simp[iZ]
theorem Wx(l:List Int)(i:Nat):(iZ l)[i]? =(l[i]?).map fun n=>.int .i64 n:=by simp[iZ]
theorem Rt(l:List Int)(i:Nat)(h:i<(iZ l).length):(iZ l)[i]=.int .i64 (l[i]'(by simpa [iZ] using h)):=by simp[iZ]
theorem W8(l:List Int)(i:Nat):(iZ l).take i=iZ (l.take i):=by simp[iZ]
theorem W7(l:List Int)(i:Nat):(iZ l).drop i=iZ (l.drop i):=by simp[iZ]
theorem Yi(l:List Int):(iZ l).all AV.afp=true:=by simp[iZ,AV.afp]
theorem Hh(m:Nat)(l:List Int):AV.afE m (iZ l)=[]:=by
 induction l with
 |nil=>rfl
 |cons x l ih=>simp[rV,AV.afE,AV.refs,ih]
theorem Db(ρ:Nat->Option Nat)(l:List Int):AV.afI ρ (iZ l)=iZ l:=by
 induction l with
 |nil=>rfl
 |cons x l ih=>simp[rV,AV.afI,AV.ren,ih]
theorem MB(m:Nat)(l:List Int):AV.afu m (iZ l)=true:=by
 induction l with
 |nil=>rfl
 |cons x l ih=>simp[rV,AV.afu,AV.under,ih]
theorem E8(ok:Nat->Bool)(l:List Int):AV.afs ok (iZ l)=true:=by
 induction l with
 |nil=>rfl
 |cons x l ih=>simp[rV,AV.afs,AV.afm,ih]
theorem Ml(m:Nat)(o:Bool)(e:Nat)(l:List Int):afq.refs m (.cells o e (iZ l))=[]:=by simp[afq.refs,Hh]
theorem OI(ρ:Nat->Option Nat)(o:Bool)(e:Nat)(l:List Int):afq.ren ρ (.cells o e (iZ l))=.cells o e (iZ l):=by simp[afq.ren,Db]
theorem Em(ok:Nat->Bool)(o:Bool)(e:Nat)(l:List Int):afq.afm ok (.cells o e (iZ l))=true:=by simp[afq.afm,E8]
theorem Pk(l:List Int)(i:Nat)(n:Int)(h:i<l.length):(iZ l).take i++.int .i64 n::(iZ l).drop (i+1)=iZ (l.set i n):=by rw[W8,W7,<-rV,<-Cq,List.set_eq_take_append_cons_drop,if_pos h]
theorem Ty(l:Nat):jT [.int .i64 0] l=iZ (List.replicate l 0):=by
 induction l with
 |zero=>rfl
 |succ l ih=>rw[jT,ih,List.replicate_succ,rV];rfl
theorem YY(l:List Nat):iN .i64 l=iZ (l.map fun n:Nat=>(n:Int)):=by simp[iN,iZ]
attribute [simp] Yj Tx Wx Rt Hh Db MB E8 Ml OI Em Yi
def zq:List AV->Option (List Int)
 | []=>some []
 |.int .i64 n::l=>match zq l with
  |some r=>some (n::r)
  |none=>none
 |_::_=>none
theorem TC(l:List Int):zq (iZ l)=some l:=by
 induction l with
 |nil=>rfl
 |cons x l ih=>rw[rV,zq,ih]
theorem Cr:∀{l:List AV} {r:List Int},zq l=some r->l=iZ r
 | [],r,h=>by cases h;rfl
 |v::l,r,h=>by
  cases v<;>first | (unfold zq at h;cases h;done) | skip
  rename_i Z n;cases Z <;>first | (unfold zq at h;cases h;done) | skip
  unfold zq at h;split at h
  .rename_i V X
   cases h;rw[rV,Cr X]
  .cases h
def YQ(M:Mem)(x:AV)(A:List Int):Prop:=∃b o Z,x=.slice b 0 A.length none/\M[b]? =some (.cells o 1 Z)/\Z.take A.length=iZ A
def zD(M:Mem):AV->Option (List Int)
 |.slice b 0 n none=>match M[b]? with
  |some (.cells _ 1 cs)=>if n<=cs.length then zq (cs.take n) else none
  |_=>none
 |_=>none
theorem OS{M:Mem}{x:AV}{A:List Int}(h:zD M x=some A):YQ M x A:=by
 unfold zD at h;split at h
 .rename_i b n
  split at h
  .rename_i o X V
   split at h
   .rename_i S
    have Z:=Cr h;have U:n=A.length:=by have:=congrArg List.length Z;simp at this;omega
    subst U;exact⟨b,o,X,rfl,V,Z⟩
   .cases h
  .cases h
 .cases h
variable{b:Nat}{cs:List AV}
theorem Dg{M:Mem}{n:Nat}{ow:Bool}{A:List Int}(h:M[b]? =some (.cells ow 1 cs))(H:n<=cs.length)(I:cs.take n=iZ A):zD M (.slice b 0 n none)=some A:=by simp only[zD,h];rw[if_pos H,I,TC]
theorem af5.ah7{ks:List Nat}{M:Mem}{o:Bool}{A:List Int}(h:M[b]? =some (.cells o 1 cs))(H:cs.take A.length=iZ A):af5 ks M b (.cells false 1 (iZ A)):=by
 refine⟨MB _ _,o,cs,h,fun j v Z=>?_⟩;have X:j<A.length:=by have:=gL Z;simpa using this
 have:cs[j]? =(iZ A)[j]? :=by rw[<-H,QQa X]
 rw[this,Z];rw[Wx] at Z;simp only[Y1] at Z;obtain⟨n,_,rfl⟩:=Z;simp[AV.ren]
section
variable {P:Program}{f:FuncId}{A B:List Int}{M:Mem}{x y:AV}
theorem kO.ahv{rest:List AV}{v:AV}{new:Mem}(hr:AV.afr rest=true)(H:new.all (fun s=>s.own||match s with | .qK=>true | _=>false)=true)(h:kO P f (.slice 0 0 A.length none::rest) [.cells false 1 (iZ A)] v (.cells false 1 (iZ A)::new))(I:YQ M x A):
  ∃b,x=.slice b 0 A.length none/\kO P f (x::rest) M (v.ren (fA [b] M.length)) (M++new.map (afq.ren (fA [b] M.length))):=by
 obtain⟨b,o,cs,rfl,X,V⟩:=I;refine⟨b,rfl,?_⟩;have U:=gL X;have:=kO.frame (M:=M) [b] (m:=[.cells false 1 (iZ A)]) rfl (by simpa using U) (by simp only[AV.afu,AV.under,bl hr];rfl) (fun i s Z=>by
  cases i with
  |zero=>simp at Z;subst Z;exact .ah7 X V
  |succ i=>simp at Z) H h
 simpa [AV.afI,AV.ren,fA,aT hr] using this
end
end Go.Eng
namespace Go.Eng
def fu(H:List Nat)(j:Nat):Bool:=(List.range j).all fun i=>bef H i j
def bQ(H:Bool)(I:List Nat)(j:Nat)(r:Rec):Bool:=
 decide (r.nx.length=r.mem.length)&&r.v.afm (fun b=>decide (b<r.nx.length))&&
  (if H then fu I j&&r.wr.all (fun b=>fJ r.tm b&&(match r.nx[b]? with | some s=>s.afm (fun b=>decide (b<r.nx.length)) | none=>true)) else r.wr.isEmpty)
def bK(H:List Nat):Nat->List Rec->Bool
 |_,[]=>true
 |j,[r]=>bQ true H j r
 |j,r::r2::rest=>bQ false H j r&&bK H (j+1) (r2::rest)
def bV(T:TypeId->Option TyI)(O:y9)(N m0:Nat)(ops:Array Oper)(H:List Nat)(s:XS):Option XS:=
 match nr T O N ops H 0 ops.toList s.env s.mem [] with
 |none=>none
 |some (R,env,mem)=>
  if bK H 0 R then some ⟨env,mem,s.afH||R.any fun r=>r.wr.any fun b=>decide (b<m0)⟩ else none
def pU(T:TypeId->Option TyI)(O:y9)(N m0:Nat)(ops:Array Oper)(s:XS):Option XS:=aR T O N m0 ops s
theorem jx:∀{j0:Nat} {R:List Rec} {f:Nat×Rec},f∈br j0 R->j0<=f.1/\f.1<j0+R.length
 |_,[],f,h=>by simp[br] at h
 |j0,r::R,f,h=>by
  simp only[br,List.mem_cons] at h;rcases h with rfl | h
  .simp
  .have:=jx h
   simp only[List.length_cons];omega
structure agC (bs:List Nat)(n:Nat)(f:Nat×Rec):Prop where
 len:f.2.nx.length=f.2.mem.length
 refs:f.2.v.afm (fun b=>decide (b<f.2.nx.length))=true
 wr:f.2.wr=[]\/(f.1+1=n/\(∀i,i<f.1->bef bs i f.1=true)/\f.2.wr.all (fun b=>fJ f.2.tm b&&(match f.2.nx[b]? with | some s=>s.afm (fun b=>decide (b<f.2.nx.length)) | none=>true))=true)
theorem wS{H:List Nat}:∀{j0:Nat} {R:List Rec},bK H j0 R=true->∀f∈br j0 R,agC H (j0+R.length) f
 |_,[],_,f,hf=>by simp[br] at hf
 |j0,[r],h,f,hf=>by simp only[br,lM] at hf;subst hf;simp only[bK,bQ,Es,GE,if_true] at h;obtain⟨⟨Z,X⟩,h3,V⟩:=h;exact⟨Z,X,.inr ⟨rfl,fun i U=>List.all_eq_true.1 h3 i (List.mem_range.2 U),V⟩⟩
 |j0,r::r2::rest,h,f,hf=>by
  simp only[bK,Es] at h;rw[br,List.mem_cons] at hf;rcases hf with rfl | hf
  .have Z:=h.1
   simp only[bQ,Es,GE,Bool.false_eq_true,if_false,List.isEmpty_iff] at Z;obtain⟨⟨Z,X⟩,h3⟩:=Z;exact⟨Z,X,.inl h3⟩
  .have:=wS h.2 f hf
   have e:j0+1+(r2::rest).length=j0+(r::r2::rest).length:=by simp only[List.length_cons];omega
   rw[e] at this;exact this
variable{bs:List Nat}
theorem Ox{n top:Nat}{un:List (Nat×Rec)}(h:∀f∈un,agC bs n f):jj top un=fun b=>decide (b<top):=by
 funext b;unfold jj;have:(un.all fun f=> !decide (f.2.mem.length<=b/\b<f.2.nx.length))=true:=List.all_eq_true.2 fun f Z=>by have:=(h f Z).len;simp;omega
 rw[this,Bool.and_true]
theorem Ed{R:List Rec}(h:bK bs 0 R=true){f:Nat×Rec}(hf:f∈br 0 R):iY bs (br 0 R) f.1 f.2=true:=by
 have K:=wS h;have X:=K f hf;have F:=jx hf;unfold iY;have V:∀g∈(br 0 R).filter (fun g=>decide (g.1<f.1)&& !bef bs g.1 f.1),agC bs (0+R.length) g:=fun g U=>K g ((List.mem_filter.1 U).1)
 simp only[Ox V,Es];have G:f.2.nx.drop f.2.mem.length=[]:=ZN (by rw[X.len];exact L9 _);refine⟨⟨⟨⟨?_,X.refs⟩,?_⟩,by rw[G];rfl⟩,?_⟩
 .rcases X.wr with Z | ⟨_,_,Z⟩
  .rw[Z];rfl
  .refine List.all_eq_true.2 fun b N=>?_
   have:=List.all_eq_true.1 Z b N;simp only[Es] at this;exact this.1
 .rcases X.wr with Z | ⟨_,_,Z⟩
  .rw[Z];rfl
  .refine List.all_eq_true.2 fun b N=>?_
   have:=List.all_eq_true.1 Z b N;simp only[Es] at this;exact this.2
 .refine List.all_eq_true.2 fun g U=>?_
  have S:=V g U;have O:=List.mem_filter.1 U;simp only[Es,GE,Bool.not_eq_true'] at O;have M:g.2.wr=[]:=by
   rcases S.wr with Z | ⟨Z,_,_⟩
   .exact Z
   .have:=jx ((List.mem_filter.1 U).1)
    omega
  have L:f.2.wr=[]:=by
   rcases X.wr with Z | ⟨_,Z,_⟩
   .exact Z
   .rw[Z g.1 O.2.1] at O
    exact absurd O.2.2 (by simp)
  rw[M,L,S.len,Nat.sub_self,List.take_zero];rfl
variable{ops:Array Oper}
theorem aC{T:TypeId->Option TyI}{O:y9}{N m0:Nat}(H:dT ops.toList=bs)(s:XS):
  aR T O N m0 ops s=match bV T O N m0 ops bs s with
   |some s' =>some s'
   |none=>pU T O N m0 ops s:=by
 cases h:bV T O N m0 ops bs s with
 |none=>rfl
 |some s' =>
  simp only;unfold bV at h;unfold aR;simp only;rw[H];split at h
  .cases h
  .rename_i R env mem Z
   split at h
   .rename_i X
    cases h;rw[Z];simp only;rw[if_pos (List.all_eq_true.2 fun f V=>Ed X V)]
   .cases h
def cB:Code->List (Array Oper)
 |.region _ ops true=>[ops]
 |.seq a b=>cB a++cB b
 |.cond _ a b=>cB a++cB b
 |.block _ b=>cB b
 |.loop b=>cB b
 |.rangeFunc _ _ a b=>cB a++cB b
 |_=>[]
def aJ(f:Func):List (Array Oper):=match f.body with
 |some c=>cB c
 |none=>[]
variable{f:Func}{l:List Nat}
theorem nS(h:aJ f=[ops])(H:(aJ f).map (fun o=>dT o.toList)=[l]):dT ops.toList=l:=by rw[h] at H;simpa using H
theorem eU{j:Nat}(h:aJ f=[ops])(H:(aJ f).map (fun o=>dT o.toList)=[l])(I:fu l j=true):dT ops.toList=l/\fu l j=true:=⟨nS h H,I⟩
theorem Cl{o o' :Array Oper}{l' :List Nat}(h:aJ f=[o,o'])(H:(aJ f).map (fun o=>dT o.toList)=[l,l']):dT o.toList=l/\dT o'.toList=l' :=by rw[h] at H;simpa using H
theorem cG{os:List (Array Oper)}{ls:List (List Nat)}(h:aJ f=os)(H:(aJ f).map (fun o=>dT o.toList)=ls):os.map (fun o=>dT o.toList)=ls:=by rw[<-h];exact H
end Go.Eng
namespace Go.Eng
open Go.ChangeMaps (setBlock)
variable{w' :World}
section
variable {P:Program}{T:TypeId->Option TyI}{μ:Nat->Place}{mem:Mem}{base:Nat}{w:World}
theorem zy(H:afA base μ mem w){r:Nat}{m s seen c}(hr:w.heap[r]? =some (.mapIter m s seen c)){b:Nat}{s' :afq}(I:mem[b]? =some s')(hs:s' ≠ .qK):(μ b).blk≠r:=by
 intro e;have:=H.slot b s' I;cases s' with
 |qK=>exact hs rfl
 |cells own es cs=>simp only[afD] at this;obtain⟨_,_,_,Z,_⟩:=this;rw[e,hr] at Z;cases Z
 |map es=>simp only[afD] at this;obtain⟨_,_,Z,_⟩:=this;rw[e,hr] at Z;cases Z
 |afX es=>simp only[afD] at this;obtain⟨_,_,Z,_⟩:=this;rw[e,hr] at Z;cases Z
 |loop r=>simp only[afD] at this;obtain⟨_,Z,_⟩:=this;rw[e,hr] at Z;cases Z
theorem afA.ahw{r:Nat}{m s seen c}{o:Obj}(H:afA base μ mem w)(hr:w.heap[r]? =some (.mapIter m s seen c)):afA base μ mem (setBlock w r o):=by
 refine⟨by simpa [setBlock] using H.afx,fun b Z X=>?_,H.sep⟩;by_cases V:Z =.qK
 .subst V;trivial
 .refine(H.slot b Z X).mono (L9 _) (fun _ _=>rfl) fun _=>?_
  exact QQY (Ne.symm (zy H hr X V))
theorem Step.ahw{m0:Nat}{μ' :Nat->Place}{H :Mem}{r:Nat}{o:Obj}(h:Step m0 μ mem w μ' H w')(hr:w.heap.size<=r):Step m0 μ mem w μ' H (setBlock w' r o):=h.shut hr
theorem MOk.ahw{h0 r:Nat}{H:List Deferred}{m s seen c}{o:Obj}(h:MOk P base h0 w H)(hr:w.heap[r]? =some (.mapIter m s seen c))(I:base<=r):MOk P base h0 (setBlock w r o) H:=by
 refine⟨⟨h.agA.below,?_⟩,h.afx,by simpa [setBlock] using h.le,fun d X=>?_,h.nodup⟩
 .have:=h.agA.tab
  unfold Lib.TabIs at this |-;rw[<-this];refine PN fun k S=>QQY ?_
  have:=h.agA.below;omega
 .obtain⟨q,e,V,Z⟩:=h.each d X
  refine⟨q,e,V,?_⟩;have U:r≠q:=by rintro rfl;rw[hr] at Z;cases Z
  show(w.heap.setIfInBounds r o)[q]? =_
  rw[QQY U,Z]
theorem OA(hT:dQ P T){N:Nat}{ops:Array Oper}{Q:Exit->Act->World->Prop}{rest:List Oper}:∀{l:List Oper}{H I :St}{μ:Nat->Place} {w:World} {a:Act} {m0:Nat}{μ0:Nat->Place} {mem0:Mem} {w0:World} {h0:Nat} {J:Option Nat},
  mZ P T N ops l H I ->afA base μ H.mem w->afU μ H.mem.length H.env a.tmps->a.tmps.size=N->MOk P base h0 w a.defers->m0<=H.mem.length->Step m0 μ0 mem0 w0 μ H.mem w->
  (∀a' w' μ',afA base μ' I.mem w' ->afU μ' I.mem.length I.env a'.tmps->a'.tmps.size=N->MOk P base h0 w' a'.defers->m0<=I.mem.length->Step m0 μ0 mem0 w0 μ' I.mem w' ->wpListIn (Fr J) 0 P ops Q rest a' w')->
  wpListIn (Fr J) 0 P ops Q (l++rest) a w
 | [],H,I,μ,w,a,m0,μ0,mem0,w0,h0,J,h,hH,hR,hN,hdf,hm,hS,hQ=>by simp only[mZ] at h;subst h;exact hQ a w μ hH hR hN hdf hm hS
 |o::os,H,I,μ,w,a,m0,μ0,mem0,w0,h0,J,h,hH,hR,hN,hdf,hm,hS,hQ=>by
  obtain⟨b,R,X,O,M⟩:=h;rw[List.cons_append];refine wpListIn_step fun K U=>?_
  rw[qe hR R];cases b with
  |false=>
   simp only[Bool.false_eq_true,if_false];refine⟨fun _ _=>trivial,?_⟩;refine U _ _ (OA hT (O rfl) hH (hR.age hN X (by simp[afn,afo,undef])) (by rw[fX];exact hN) (by rw[gu];exact hdf) hm hS hQ)
  |true=>
   simp only[if_true];obtain⟨v,S,Z,L⟩:=M rfl;refine sn hT hdf.agA hH hR hN X Z fun V w' μ' q1 q2 q3 q4=>U _ _ ?_
   exact OA hT L q2 q3 (by rw[fX];exact hN) (by rw[gu];exact hdf.step hH q4) (QQd hm q4.len) (hS.trans (q4.mono hm)) hQ
theorem AM(a:Act)(d:Nat)(V:Value)(h:d<a.tmps.size):(a.put (some d) V).eval (.tmp d)=V:=by simp[Act.put,Act.eval,h]
variable {tp:Bool}{N m0:Nat}{Q:Exit->St->Prop}
theorem yD{F:Option Nat}{ops:Array Oper}{Q:Exit->Act->World->Prop}{o:Oper}{rest:List Oper}{a:Act}{w:World}{V:Value}(hg:o.guard=none)(H:∀c,o.op≠ .defer c)(I:(execOp a.eval o).run P w=.ok (.value V) w')(h:wpListIn (Fr F) 0 P ops Q rest (a.put o.dst V) w'):wpListIn (Fr F) 0 P ops Q (o::rest) a w:=by
 refine wpListIn_plain hg fun K Z=>⟨fun _ _=>trivial,?_⟩
 rw[Oper.semAt_eq _ _ _ H,I];exact Z _ _ h
theorem Lh(hT:dQ P T){idB out nx idS idA:Nat}{aa0 abP abp:Array Oper}{pre aaA:List Oper}{oR oN oX oE:Oper}{code:Code}{J H more Y:Nat}{tR tk te:TypeId}{iR:TyI}{mOp:Operand}(hB:aa0.toList=pre++[oR])(r1:oR.op=.range tR mOp)(r2:oR.dst=some J)(r3:oR.guard=none)(hTR:T tR=some iR)(hdR:iR.desc=.map tk te)(hS:abP.toList=[oN,oX])(n1:oN.op=.next (.tmp J) false)(n2:oN.dst=some H)(n3:oN.guard=none)(x1:oX.op=.extract (.tmp H) 0)(x2:oX.dst=some more)(x3:oX.guard=none)(hA:abp.toList=oE::aaA)(e1:oE.op=.entry (.tmp J))(e2:oE.dst=some Y)(e3:oE.guard=none)(S':J<N/\H<N/\more<N/\Y<N)(J':H≠J/\more≠J){st st1:St}{b:Nat}{es:List (AV×AV)}(ZU:mZ P T N aa0 pre st st1)(hmo:get st1.env mOp=.map b)(hb:st1.mem[b]? =some (.afX es))(I:List Nat->St->Prop)(h0:I [] ⟨(J,.ptr st1.mem.length 0)::st1.env,st1.mem++[.qK]⟩)(hI:∀seen s,I seen s->ad s.env J=.ptr st1.mem.length 0/\s.mem[st1.mem.length]? =some .qK/\s.mem[b]? =some (.afX es))(acE:∀seen s,I seen s->(∀j,j<es.length->j∈seen)->Q .normal ⟨(more,.bool false)::(H,.tuple [.bool false])::s.env,s.mem⟩)(aaS:∀seen s j k v,I seen s->es[j]? =some (k,v)->j∉seen->∃s3,mZ P T N abp aaA ⟨(Y,.tuple [k,v])::(more,.bool true)::(H,.tuple [.bool true,k,v])::s.env,s.mem⟩ s3/\
   AWP P tp N (st1.mem.length+1) code s3 fun e s4=>(e=.normal\/e=.exit nx)/\∃s5,agk (st1.mem.length+1) s4 s5/\I (seen++[j]) s5):
  AWP P tp N m0 (.seq (.region idB aa0 false) (.block out (.loop (.seq (.region idS abP false) (.seq (.cond (.tmp more) .skip (.exit out)) (.block nx (.seq (.region idA abp false) code))))))) st Q:=by
 obtain⟨b1,b2,b3,b4⟩:=S';intro ro h0' base μ w a hro hH hR hN hdf hm;refine wpIn_seq (wpIn_region_list ?_);rw[hB];refine OA hT ZU hH hR hN hdf hm (.refl hm) fun a1 w1 μ1 c1 c2 c3 c4 c5 c6=>?_
 have R:=bN c2 mOp;rw[hmo] at R;simp only[afn] at R;obtain⟨hbl,R⟩:=R;have hsl:=c1.slot b _ hb;simp only[afD] at hsl;obtain⟨Z,I',k1,⟨hck,M⟩,k3,k4⟩:=hsl;subst hck;have hd:=(hT tR iR hTR).desc;rw[hdR] at hd;have Zr:=run_range_map (P:=P) w1 tR tk te (μ1 b).blk Z Z.size hd k1;refine yD r3 (by rw[r1];intro c e;cases e) (V:=.pointer (some ⟨w1.heap.size,0,none⟩)) (w' :=w1.alloc (.mapIter (some (μ1 b).blk) Z.size #[] Z.size)) (by simp only[execOp,r1,R];simp[Zr]) (wpListIn_nil ?_);rw[r2];show Code.wpIn (Fr ro) 0 P _ _ _ _
 refine wpIn_block ?_;obtain⟨p1,p2⟩:=c1.push (.mapIter (some (μ1 b).blk) Z.size #[] Z.size) .qK ⟨w1.heap.size,0,0,0⟩ rfl trivial;have hrw:w.heap.size<=w1.heap.size:=c6.size;have hrb:base<=w1.heap.size:=c1.afx;obtain⟨X,hmb⟩:=xE ((μ1 b).blk);rw[<-hmb] at k1 p1 p2 |-;have adZ:X<w1.heap.size:=(Nm.1 k1).1;obtain⟨r,hr⟩:=xE w1.heap.size;have ZZ:∀x∈Z.toList,x.born<Z.size:=by
  intro x C;obtain⟨j,hj⟩:=QXe C;have U :Z[j]? =some x:=by simpa using hj
  rw[M j x U];exact(Nm.1 U).1
 have hnd:(Z.toList.map (·.born)).Nodup:=by
  have e:Z.toList.map (·.born)=List.range Z.size:=by
   refine List.ext_getElem? fun i=>?_
   rw[QQJ,Array.getElem?_toList];cases hi:Z[i]? with
   |none=>
    have:=Array.getElem?_eq_none_iff.1 hi;simp[this]
   |some x=>
    have:=(Nm.1 hi).1;simp[M i x hi,this]
  rw[e];exact List.nodup_range
 refine zI (σ:=Array Nat) (fun seen L w' =>∃T' μ',afA base μ' T'.mem w' /\afU μ' T'.mem.length T'.env L.tmps/\L.tmps.size=N/\MOk P base h0' w' L.defers/\st1.mem.length<T'.mem.length/\
   Step m0 μ st.mem w μ' T'.mem w' /\μ' st1.mem.length=⟨r,0,0,0⟩/\(μ' b).blk=X/\w'.heap[r]? =some (.mapIter (some X) Z.size seen Z.size)/\w'.heap[X]? =some (.map Z Z.size)/\I seen.toList T')
  (fun seen=>(leftOf Z seen).size) ?_ (s:= #[]) ⟨_,_,p1,?_,?_,?_,?_,c6.trans (p2.mono c5),?_,?_,?_,?_,h0⟩
 .rintro seen L w' ⟨T',μ',d1,d2,d3,d4,d5,d6,d7,d8,d9,d10,d11⟩
  obtain⟨i1,i2,i3⟩:=hI _ _ d11;have B:L.eval (.tmp J)=.pointer (some ⟨r,0,none⟩):=by have:=d2 J;rw[i1] at this;simp only[afn,d7] at this;exact this.2
  have hm' :m0<=T'.mem.length:=d6.len;refine wpIn_seq (wpIn_region_list ?_);rw[hS];rcases run_next_at (P:=P) w' oN.type r X Z.size Z.size seen Z Z.size d9 d10 ZZ (L9 _) with⟨l0,Zr⟩ | ⟨E,hE,w2,O,Zr⟩
  .refine yD n3 (by rw[n1];intro c e;cases e) (V:=.tuple #[.bool false]) (w' :=w') (by simp only[execOp,n1,B];simp[Zr]) ?_
   rw[n2];refine yD x3 (by rw[x1];intro c e;cases e) (V:=.bool false) (w' :=w') (by simp only[execOp,x1,AM L H _ (by omega)];simp[Instr.extract]) (wpListIn_nil ?_);rw[x2];show Code.wpIn (Fr ro) 0 P _ _ _ _
   refine wpIn_seq (wpIn_cond_false (AM _ _ _ (by rw[fX];omega)) (wpIn_exit ?_));simp only[Exit.then,Exit.inBlock,if_true];refine⟨⟨(more,.bool false)::(H,.tuple [.bool false])::T'.env,T'.mem⟩,μ',d1,?_,by rw[fX,fX];exact d3,by rw[gu,gu];exact d4,hm',d6,acE _ _ d11 fun j hj=>?_⟩
   .exact afU.put (afU.put d2 (by omega) (by simp[afn,afo])) (by rw[fX];omega) (by simp[afn])
   .have FS:j<Z.size:=by omega
    have:=all_seen Z seen l0 Z[j] (by simp);rw[M j _ (by simp[FS])] at this;simpa using this
  .obtain⟨hem,u⟩:=mem_left hE
   obtain⟨j,hj⟩:=QXe hem;have U :Z[j]? =some E:=by simpa using hj
   have hbj:=M j E U;have hjl:j<es.length:=by have:=(Nm.1 U).1;omega
   have ado :=d1.slot b _ i3;simp only[afD] at ado;obtain⟨ZG,ZD,g1,_,_,g4⟩:=ado;rw[d8,d10] at g1;cases g1;obtain⟨E',ZR,hk,hv⟩:=g4 j es[j] (by simp[hjl]);rw[U] at ZR;cases ZR;have hH2:afA base μ' T'.mem w2:=by rcases O with rfl | rfl<;>first | exact d1 | exact d1.drew
   have hS2:Step m0 μ st.mem w μ' T'.mem w2:=by rcases O with rfl | rfl<;>first | exact d6 | exact d6.trans ((Step.drew (L9 _)).mono hm')
   have hM2:MOk P base h0' w2 L.defers:=by rcases O with rfl | rfl<;>first | exact d4 | exact d4.step d1 (Step.drew (L9 _))
   have m:w2.heap[r]? =some (.mapIter (some X) Z.size seen Z.size):=by rcases O with rfl | rfl<;>exact d9
   have ad0:w2.heap[X]? =some (.map Z Z.size):=by rcases O with rfl | rfl<;>exact d10
   have K:=hH2.ahw (o:=.mapIter (some X) Z.size (seen.push E.born) Z.size) m;have hS3:=hS2.ahw (r:=r) (o:=.mapIter (some X) Z.size (seen.push E.born) Z.size) (by omega);have hM3:=hM2.ahw (o:=.mapIter (some X) Z.size (seen.push E.born) Z.size) m (by omega);have hrl:r<w2.heap.size:=(Nm.1 m).1;have G:(setBlock w2 r (.mapIter (some X) Z.size (seen.push E.born) Z.size)).heap[r]? =some (.mapIter (some X) Z.size (seen.push E.born) Z.size):=by simp[setBlock,hrl]
   have F:(setBlock w2 r (.mapIter (some X) Z.size (seen.push E.born) Z.size)).heap[X]? =some (.map Z Z.size):=by rw[<-ad0];exact QQY (by omega)
   obtain⟨w3,hw3⟩:=xE (setBlock w2 r (.mapIter (some X) Z.size (seen.push E.born) Z.size));rw[<-hw3] at K hS3 hM3 G F Zr;refine yD n3 (by rw[n1];intro c e;cases e) (V:=.tuple #[.bool true,E.key,E.val]) (w' :=w3) (by simp only[execOp,n1,B];simp[Zr]) ?_;rw[n2];refine yD x3 (by rw[x1];intro c e;cases e) (V:=.bool true) (w' :=w3) (by simp only[execOp,x1,AM L H _ (by omega)];simp[Instr.extract]) (wpListIn_nil ?_);rw[x2];show Code.wpIn (Fr ro) 0 P _ _ _ _
   refine wpIn_seq (wpIn_cond_true (AM _ _ _ (by rw[fX];omega)) (wpIn_skip ?_));show Code.wpIn (Fr ro) 0 P _ _ _ _
   refine wpIn_block (wpIn_seq (wpIn_region_list ?_));rw[hA];have hev:((L.put (some H) (.tuple #[.bool true,E.key,E.val])).put (some more) (.bool true)).eval (.tmp J)=.pointer (some ⟨r,0,none⟩):=by rw[<-B];simp[Act.put,Act.eval,QQY J'.1,QQY J'.2]
   have hen:=run_entry_at (P:=P) w3 r X Z.size seen Z Z.size E G F hem hnd;refine yD e3 (by rw[e1];intro c e;cases e) (V:=.tuple #[E.key,E.val]) (w' :=w3) (by simp only[execOp,e1,hev];simp[hen]) ?_;rw[e2];have hkv:es[j]? =some (es[j].1,es[j].2):=by simp[hjl]
   have hnj:j∉seen.toList:=by
    intro aat;rw[hbj] at u;have:seen.contains j=true:=by simpa using aat
    rw[this] at u;cases u
   obtain⟨s3,F',ac2⟩:=aaS _ _ j _ _ d11 hkv hnj;have hT1:=afU.put d2 (d:=H) (by omega) (V:=.tuple #[.bool true,E.key,E.val]) (v:=.tuple [.bool true,es[j].1,es[j].2]) (by simp only[afn];exact⟨_,rfl,bX.2 ⟨by simp[afn],bX.2 ⟨hk,bX.2 ⟨hv,by simp[afo]⟩⟩⟩⟩);have hT2:=afU.put hT1 (d:=more) (by rw[fX];omega) (V:=.bool true) (v:=.bool true) (by simp[afn]);have hT3:=afU.put hT2 (d:=Y) (by rw[fX,fX];omega) (V:=.tuple #[E.key,E.val]) (v:=.tuple [es[j].1,es[j].2]) (by simp only[afn];exact⟨_,rfl,bX.2 ⟨hk,bX.2 ⟨hv,by simp[afo]⟩⟩⟩);have G':st1.mem.length+1<=T'.mem.length:=by omega
   refine xb (m0:=st1.mem.length+1) (μ0:=μ') (mem0:=T'.mem) (w0:=w3) hT F' K hT3 (by rw[fX,fX,fX];exact d3) (by rw[gu,gu,gu];exact hM3) G' (.refl G') fun a4 w4 μ4 f1 f2 f3 f4 f5 f6=>?_
   show Code.wpIn (Fr ro) 0 P _ _ _ _
   refine wpIn_mono (ac2 ro h0' base μ4 w4 a4 hro f1 f2 f3 f4 f5) ?_;rintro e a5 w5 ⟨s4,μ5,y1,y2,y3,y4,y5,y6,hee,s5,hwk,hI5⟩;obtain⟨μ6,z1,z2,z3,z4⟩:=hwk base μ5 w5 a5.tmps y1 y2 y5;have S:=(f6.trans y6).trans z4;have ZY:b<st1.mem.length:=gL hb;have fin:∃s',(∃T' μ',afA base μ' T'.mem w5/\afU μ' T'.mem.length T'.env a5.tmps/\a5.tmps.size=N/\MOk P base h0' w5 a5.defers/\st1.mem.length<T'.mem.length/\
     Step m0 μ st.mem w μ' T'.mem w5/\μ' st1.mem.length=⟨r,0,0,0⟩/\(μ' b).blk=X/\w5.heap[r]? =some (.mapIter (some X) Z.size s' Z.size)/\w5.heap[X]? =some (.map Z Z.size)/\I s'.toList T')/\
     (leftOf Z s').size<(leftOf Z seen).size:=by
    refine⟨seen.push E.born,⟨s5,μ6,z1,z2,y3,y4,z3,hS3.trans (S.mono (by have:=c5;omega)),?_,?_,?_,?_,?_⟩,left_shrinks Z seen E hE⟩
    .rw[S.agree _ (by omega),d7]
    .rw[S.agree _ (by omega),d8]
    .rw[S.frame r (by rw[hw3];simpa [setBlock] using hrl) fun x C=>by obtain⟨sx,q1,q2⟩:=C;exact zy K G q1 (afq.afY q2)]
     exact G
    .rw[S.frame X (Nm.1 F).1 fun x C=>?_]
     .exact F
     .rw[<-d8]
      refine K.sep x b _ C i3 (by simp) ?_;rintro rfl;obtain⟨sx,q1,q2⟩:=C;rw[i3] at q1;cases q1;cases q2
    .rw[Array.toList_push,hbj];exact hI5
   rcases hee with rfl | rfl
   .exact fin
   .simp only[Exit.inBlock,if_true];exact fin
 .refine afU.put (c2.mono (by simp) fun x C=>xm C) (by omega) ?_
  simp only[afn,Qs,List.length_singleton,fL];exact⟨by omega,trivial⟩
 .rw[fX];exact c3
 .rw[gu];exact c4.step c1 p2
 .simp
 .rw[fL,hr]
 .have ZY:b<st1.mem.length:=gL hb
  rw[xm ZY];exact hmb.symm
 .rw[hr];exact heap_alloc_new w1 _
 .rw[iC w1 _ adZ];exact k1
end
end Go.Eng
namespace Go.Eng
theorem C8{m:Nat}:∀{env:Env},(env.all fun e=>(e.2.refs m).isEmpty)=true->∀t,(ad env t).refs m=[]
 | [],_,t=>by simp[ad,AV.refs]
 |(k,v)::r,h,t=>by
  simp only[QQg,Es,List.isEmpty_iff] at h;simp only[ad];split
  .exact h.1
  .exact C8 h.2 t
variable{s:XS}
section
variable {P:Program}{T:TypeId->Option TyI}{O:y9}{tp:Bool}{N m0 K:Nat}{lv:Code->List Nat}{Q:Exit->St->Prop}
section
variable (hm:P.follows .mixedOrders=true)(hT:dQ P T)(hO:qS P O)
include hm hT hO
theorem wI{c:Code}{s' :XS}{e:Exit}(hs:cY c=true)(h:aL T lv O K N m0 tp c s=some (e,s'))(hq:Q e ⟨s'.env,s'.mem⟩):AWP P tp N m0 c ⟨s.env,s.mem⟩ Q:=
 (dJ hm hT hO hs h).1 Q hq
theorem N7{idB out nx idS idA:Nat}{Y abP abp:Array Oper}{aaA:List Oper}{oR oN oX oE:Oper}{I:Code}{J H more aaX:Nat}{tR tk te:TypeId}{iR:TyI}{mOp:Operand}(hB:Y.toList=Y.toList.dropLast++[oR])(r1:oR.op=.range tR mOp)(r2:oR.dst=some J)(r3:oR.guard=none)(hTR:T tR=some iR)(hdR:iR.desc=.map tk te)(hS:abP.toList=[oN,oX])(n1:oN.op=.next (.tmp J) false)(n2:oN.dst=some H)(n3:oN.guard=none)(x1:oX.op=.extract (.tmp H) 0)(x2:oX.dst=some more)(x3:oX.guard=none)(hA:abp.toList=oE::aaA)(e1:oE.op=.entry (.tmp J))(e2:oE.dst=some aaX)(e3:oE.guard=none)(S':J<N/\H<N/\more<N/\aaX<N)(J':H≠J/\more≠J)(Zy:cY I=true){s1:XS}{b:Nat}{es:List (AV×AV)}(ZU:fz T O N m0 Y Y.toList.dropLast s=some s1)(hmo:get s1.env mOp=.map b)(hb:s1.mem[b]? =some (.afX es))(lw wr:List Nat)(V:List Nat->Nat->AV)(M:List Nat->Mem)(Inv:List Nat->Prop)(hwr:wr=aaX::more::H::(aaA.filterMap (·.dst)++aa I))(hit:J∉wr)(aaB:(((J,AV.ptr s1.mem.length 0)::s1.env).all fun e=>(e.2.refs (s1.mem.length+1)).isEmpty)=true)(hM:∀seen,Inv seen->(M seen).length=s1.mem.length+1/\(M seen)[s1.mem.length]? =some .qK/\(M seen)[b]? =some (.afX es)/\∀x∈M seen,x.refs (s1.mem.length+1)=[])(hV:∀seen t,Inv seen->t∈lw->(V seen t).refs (s1.mem.length+1)=[])(h0:Inv []/\M []=s1.mem++[.qK]/\∀t∈lw,ad ((J,AV.ptr s1.mem.length 0)::s1.env) t=V [] t)(acE:∀seen env,Inv seen->af3 wr ((J,AV.ptr s1.mem.length 0)::s1.env) env->(∀t∈lw,ad env t=V seen t)->(∀j,j<es.length->j∈seen)->Q .normal ⟨(more,.bool false)::(H,.tuple [.bool false])::env,M seen⟩)(aaS:∀seen env j k v,Inv seen->af3 wr ((J,AV.ptr s1.mem.length 0)::s1.env) env->(∀t∈lw,ad env t=V seen t)->es[j]? =some (k,v)->j∉seen->∃U e X,fz T O N (s1.mem.length+1) abp aaA ⟨(aaX,.tuple [k,v])::(more,.bool true)::(H,.tuple [.bool true,k,v])::env,M seen,false⟩=some U/\
   aL T lv O K N (s1.mem.length+1) tp I U=some (e,X)/\(e=.normal\/e=.exit nx)/\Inv (seen++[j])/\(∀t∈lw,ad X.env t=V (seen++[j]) t)/\X.mem.take (s1.mem.length+1)=M (seen++[j])):
  AWP P tp N m0 (.seq (.region idB Y false) (.block out (.loop (.seq (.region idS abP false) (.seq (.cond (.tmp more) .skip (.exit out)) (.block nx (.seq (.region idA abp false) I))))))) ⟨s.env,s.mem⟩ Q:=by
 have R:=C8 aaB;refine Lh (st1:=⟨s1.env,s1.mem⟩) hT hB r1 r2 r3 hTR hdR hS n1 n2 n3 x1 x2 x3 hA e1 e2 e3 S' J' (kZ hO ZU).1 hmo hb
  (fun seen S=>Inv seen/\af3 wr ((J,AV.ptr s1.mem.length 0)::s1.env) S.env/\(∀t∈lw,ad S.env t=V seen t)/\S.mem=M seen) ⟨h0.1,.refl _ _,h0.2.2,h0.2.1.symm⟩ ?_ ?_ ?_
 .rintro seen S ⟨i1,i2,i3,i4⟩
  obtain⟨F,C,B,_⟩:=hM seen i1;refine⟨?_,by rw[i4];exact C,by rw[i4];exact B⟩;rw[i2 J hit];simp[ad]
 .rintro seen ⟨env,mem⟩ ⟨i1,i2,i3,i4⟩ P'
  have:=acE seen env i1 i2 i3 P';simp only at i4 |-;rw[i4];exact this
 .rintro seen ⟨env,mem⟩ j k v ⟨i1,i2,i3,i4⟩ hj hns
  simp only at i2 i3 i4;subst i4;obtain⟨U,e,X,u,o,k3,L,k5,m⟩:=aaS seen env j k v i1 i2 i3 hj hns;refine⟨⟨U.env,U.mem⟩,(kZ hO u).1,?_⟩;refine AWP.assume fun G' _=>?_
  refine wI hm hT hO Zy o ⟨k3,?_⟩;obtain⟨F,C,B,j4⟩:=hM _ L;have aak :s1.mem.length+1<=X.mem.length:=by have h1:=congrArg List.length m;rw[SP,F] at h1;omega
  have G:af3 wr ((J,AV.ptr s1.mem.length 0)::s1.env) X.env:=by
   have q1:=(pX u).mono (wr' :=wr) (by intro t Z;rw[hwr];simp[Z]);have q2:=(gn hO o).mono (wr' :=wr) (by intro t Z;rw[hwr];simp[Z]);intro t Z;rw[q2 t Z,q1 t Z,<-i2 t Z];have:t≠aaX/\t≠more/\t≠H:=by rw[hwr] at Z;simp only[List.mem_cons,not_or] at Z;exact⟨Z.1,Z.2.1,Z.2.2.1⟩
   simp[ad,Ne.symm this.1,Ne.symm this.2.1,Ne.symm this.2.2]
  refine⟨_,agk.afz [] (by simp[Ei]),L,?_,?_,?_⟩
  .intro t Z
   simp only[ji];rw[G t Z,AV.afF (R t)]
  .intro t Z
   simp only[ji];rw[k5 t Z,AV.afF (hV _ t L Z)]
  .simp only[afz,aga,List.map_nil,List.append_nil,m]
   conv=>rhs;rw[<-List.map_id (M (seen++[j]))]
   exact List.map_congr_left fun x hx=>afq.afF (j4 x hx)
end
end
end Go.Eng
namespace Go.Eng
abbrev Sd:=(Int×Int)×Int
def sdE(s:Sd):AV×AV:=(.agg [.int .i64 s.1.1,.int .i64 s.1.2],.int .i64 s.2)
def nxE(p:Int×Int):AV×AV:=(.int .i64 p.1,.int .i64 p.2)
def qu:List (Int×Int)->Int->Option Int
 | [],_=>none
 |p::l,a=>if a=p.1 then some p.2 else qu l a
def Ry:List Sd->Int×Int->Option Int
 | [],_=>none
 |s::l,a=>if a.1=s.1.1/\a.2=s.1.2 then some s.2 else Ry l a
def bAt(ks:List Sd)(j:Nat):Option (Int×Int):=match ks[j]? with
 |some s=>if (Ry ks (s.1.2,s.1.1)).isSome then none else some s.1
 |none=>none
def tG(ks:List Sd):List (Int×Int):=(List.range ks.length).filterMap (bAt ks)
def AU(f:Int):List (Int×Int)->Int
 | []=>f
 |p::l=>AU (if f<0\/p.1<f then p.1 else f) l
theorem Ow(f:Int):∀(l m:List (Int×Int)),AU f (l++m)=AU (AU f l) m:=by
 intro l;induction l generalizing f with
 |nil=>intro m;rfl
 |cons p l ih=>intro m;exact ih _ m
theorem CM:∀(l:List (Int×Int)) (f:Int),(∀p∈l,0<=p.1)->(0<=f\/l≠[])->0<=AU f l/\(AU f l=f\/∃p∈l,AU f l=p.1)/\(0<=f->AU f l<=f)/\∀p∈l,AU f l<=p.1
 | [],f,_,h=>by have:0<=f:=h.resolve_right (by simp);exact⟨this,.inl rfl,fun _=>Int.le_refl _,by simp⟩
 |p::l,f,hp,_=>by
  have V:=hp p (by simp);have U:=CM l (if f<0\/p.1<f then p.1 else f) (fun q Z=>hp q (by simp[Z])) (.inl (by split<;>omega));obtain⟨S,R,X,O⟩:=U;have N:(0:Int)<=(if f<0\/p.1<f then p.1 else f):=by split<;>omega
  have X:=X N;simp only[AU];refine⟨S,?_,fun M=>?_,fun q Z=>?_⟩
  .rcases R with h | ⟨q,Z,h⟩
   .rw[h]
    split
    .exact .inr ⟨p,by simp,rfl⟩
    .exact .inl rfl
   .exact .inr ⟨q,by simp[Z],h⟩
  .refine Int.le_trans X ?_
   split<;>omega
  .rcases List.mem_cons.1 Z with rfl | Z
   .refine Int.le_trans X ?_
    split<;>omega
   .exact O q Z
theorem TN{l m:List (Int×Int)}(h:l.Perm m)(H:∀p∈l,0<=p.1):AU (-1) l=AU (-1) m:=by
 by_cases Z:l=[]
 .subst Z
  rw[List.nil_perm.1 h]
 .have S:m≠[]:=by rintro rfl;exact Z (List.perm_nil.1 h)
  have X:∀p∈m,0<=p.1:=fun p R=>H p (h.mem_iff.2 R)
  obtain⟨F,O,_,N⟩:=CM l (-1) H (.inr Z);obtain⟨C,M,_,L⟩:=CM m (-1) X (.inr S);obtain⟨p,V,K⟩:=O.resolve_left (by omega);obtain⟨q,U,G⟩:=M.resolve_left (by omega);have B:=L p (h.mem_iff.1 V);have u:=N q (h.mem_iff.2 U);omega
theorem TL{l:List (Int×Int)}{a b:Int}(h:qu l a=some b):(a,b)∈l:=by
 induction l with
 |nil=>cases h
 |cons p l ih=>
  rw[qu] at h;split at h
  next e=>cases h;subst e;simp
  .simp[ih h]
theorem EW{l:List (Int×Int)}{a:Int}(h:∀p∈l,p.1≠a):qu l a=none:=by
 induction l with
 |nil=>rfl
 |cons p l ih=>
  rw[qu,if_neg (fun e=>h p (by simp) e.symm)];exact ih fun q Z=>h q (by simp[Z])
theorem zr{l:List (Int×Int)}{a b:Int}(H:∀p∈l,∀q∈l,p.1=q.1->p=q)(h:(a,b)∈l):qu l a=some b:=by
 induction l with
 |nil=>cases h
 |cons p l ih=>
  rw[qu];split
  .rename_i e
   have:=H p (by simp) (a,b) h e.symm;rw[this]
  .rename_i e
   rcases List.mem_cons.1 h with rfl | h
   .exact absurd rfl e
   .exact ih (fun p Z q X=>H p (by simp[Z]) q (by simp[X])) h
theorem Rx{l m:List (Int×Int)}(h:l.Perm m)(H:∀p∈l,∀q∈l,p.1=q.1->p=q)(a:Int):qu l a=qu m a:=by
 have Z :∀p∈m,∀q∈m,p.1=q.1->p=q:=fun p X q V=>H p (h.mem_iff.2 X) q (h.mem_iff.2 V)
 cases hb:qu m a with
 |some b=>exact zr H (h.mem_iff.2 (TL hb))
 |none=>
  refine EW fun p X e=>?_
  have:=zr Z (a:=a) (b:=p.2) (by rw[<-e];exact h.mem_iff.1 X);rw[hb] at this;cases this
def WK(ks:List Sd):Prop:=∀i j p q,bAt ks i=some p->bAt ks j=some q->p.1=q.1->i=j
def dn(ks:List Sd)(seen:List Nat):List (Int×Int):=seen.filterMap (bAt ks)
variable{j:Nat}{ks:List Sd}{p:Int×Int}
theorem SK(h:bAt ks j=some p):j<ks.length:=by
 unfold bAt at h;split at h
 next s Z=>exact(gL Z)
 .cases h
variable{seen:List Nat}
theorem ME(H:seen.Nodup)(I:∀j∈seen,j<ks.length)(J:∀j,j<ks.length->j∈seen):(dn ks seen).Perm (tG ks):=by
 refine List.Perm.filterMap _ ?_;refine(List.perm_ext_iff_of_nodup H List.nodup_range).2 fun j=>?_
 simp only[List.mem_range];exact⟨I j,J j⟩
theorem Hs(H:WK ks)(I:j∉seen)(J:bAt ks j=some p):qu (dn ks seen) p.1=none:=by
 refine EW fun q X e=>?_
 obtain⟨i,V,Z⟩:=List.mem_filterMap.1 X;have:=H i j q p Z J e;subst this;exact I V
theorem Ht(H:WK ks):∀p∈dn ks seen,∀q∈dn ks seen,p.1=q.1->p=q:=by intro p V q U e;obtain⟨i,_,X⟩:=List.mem_filterMap.1 V;obtain⟨j,_,Z⟩:=List.mem_filterMap.1 U;have:=H i j p q X Z e;subst this;rw[X] at Z;cases Z;rfl
def xo(B:List (Int×Int))(first:Int):Nat->Int->List Int->Option (List Int)
 |0,_,out=>some out
 |n+1,a,out=>match qu B a with
  |none=>none
  |some b=>if a=first/\out≠[] then none else xo B first n b (out++[a])
def Cf(B:List (Int×Int)):Option (List Int):=xo B (AU (-1) B) B.length (AU (-1) B) []
def vt(ks:List Sd):Bool:=
 let B:=tG ks
 decide (B≠[])&&decide ((B.map (·.1)).Nodup)&&B.all (fun p=>decide (0<=p.1))&&decide (ks.length<=1000000)
theorem SN{i:Nat}{q:Int×Int}(J:((tG ks).map (·.1)).Nodup)(H:bAt ks i=some p)(I:bAt ks j=some q)(e:p.1=q.1):i=j:=by
 have R:∀(l:List Nat),l.Nodup->((l.filterMap (bAt ks)).map (·.1)).Nodup->i∈l->j∈l->i=j:=by
  intro l;induction l with
  |nil=>intro _ _ h;cases h
  |cons a l ih=>
   intro O Z X V;have U :=(List.nodup_cons.1 O).2;rw[List.filterMap_cons] at Z;cases ha:bAt ks a with
   |none=>
    rw[ha] at Z;have N:i≠a:=by rintro rfl;rw[H] at ha;cases ha
    have M:j≠a:=by rintro rfl;rw[I] at ha;cases ha
    exact ih U Z ((List.mem_cons.1 X).resolve_left N) ((List.mem_cons.1 V).resolve_left M)
   |some r=>
    rw[ha] at Z;simp only[List.map_cons,List.nodup_cons] at Z;have S:∀k s,k∈l->bAt ks k=some s->s.1≠r.1:=by intro k s L K h;exact Z.1 (QQm.2 ⟨s,List.mem_filterMap.2 ⟨k,L,K⟩,h⟩)
    rcases List.mem_cons.1 X with X | X<;>rcases List.mem_cons.1 V with V | V
    .rw[X,V]
    .rw[<-X,H] at ha;cases ha;exact absurd e.symm (S j q V I)
    .rw[<-V,I] at ha;cases ha;exact absurd e (S i p X H)
    .exact ih U Z.2 X V
 exact R _ List.nodup_range J (List.mem_range.2 (SK H)) (List.mem_range.2 (SK I))
theorem Mb(h:vt ks=true):tG ks≠[]/\WK ks/\(∀p∈tG ks,0<=p.1)/\ks.length<=1000000:=by simp only[vt,Es,GE,List.all_eq_true] at h;obtain⟨⟨⟨Z,X⟩,h3⟩,V⟩:=h;exact⟨Z,fun i j p q U S e=>SN X U S e,h3,V⟩
theorem RZ(h:∀p∈tG ks,0<=p.1):∀p∈dn ks seen,0<=p.1:=by intro p X;obtain⟨i,_,Z⟩:=List.mem_filterMap.1 X;exact h p (List.mem_filterMap.2 ⟨i,List.mem_range.2 (SK Z),Z⟩)
theorem zH{B:List (Int×Int)}{first:Int}:∀{n:Nat} {a:Int} {H I:List Int},xo B first n a H=some I->I.length=H.length+n
 |0,a,H,I,h=>by simp only[xo,Pi] at h;subst h;rfl
 |n+1,a,H,I,h=>by
  rw[xo] at h;split at h
  .cases h
  .split at h
   .cases h
   .have:=zH h
    simp at this;omega
def Rg(H:List Nat)(n j:Nat):Bool:=fu H j&&(List.range n).all fun k=>decide (k<=j)||bef H j k
def dR(r:Rec):Bool:=decide (r.nx.length=r.mem.length)&&r.wr.isEmpty
def EB(H:List Nat)(n j:Nat)(r:Rec):Bool:=
 r.v.afm (fun b=>decide (b<r.nx.length))&&
  (dR r||(Rg H n j&&r.wr.all (fun b=>fJ r.tm b&&(match r.nx[b]? with | some s=>s.afm (fun b=>decide (b<r.nx.length)) | none=>true))&&
   (r.nx.drop r.mem.length).all fun s=>(s.own||match s with | .qK=>true | _=>false)&&s.afm (fun b=>decide (b<r.nx.length))))
def wJ(H:List Nat)(n:Nat):Nat->List Rec->Bool
 |_,[]=>true
 |j,r::rest=>EB H n j r&&wJ H n (j+1) rest
def pT(T:TypeId->Option TyI)(O:y9)(N m0:Nat)(ops:Array Oper)(H:List Nat)(s:XS):Option XS:=
 match nr T O N ops H 0 ops.toList s.env s.mem [] with
 |none=>none
 |some (R,env,mem)=>
  if wJ H R.length 0 R then some ⟨env,mem,s.afH||R.any fun r=>r.wr.any fun b=>decide (b<m0)⟩ else none
structure ahR (bs:List Nat)(n:Nat)(f:Nat×Rec):Prop where
 refs:f.2.v.afm (fun b=>decide (b<f.2.nx.length))=true
 or:(f.2.nx.length=f.2.mem.length/\f.2.wr=[])\/((∀i,i<f.1->bef bs i f.1=true)/\(∀k,f.1<k->k<n->bef bs f.1 k=true)/\
  f.2.wr.all (fun b=>fJ f.2.tm b&&(match f.2.nx[b]? with | some s=>s.afm (fun b=>decide (b<f.2.nx.length)) | none=>true))=true/\
  ((f.2.nx.drop f.2.mem.length).all fun s=>(s.own||match s with | .qK=>true | _=>false)&&s.afm (fun b=>decide (b<f.2.nx.length)))=true)
theorem Cd{H:List Nat}{n:Nat}:∀{j0:Nat} {R:List Rec},wJ H n j0 R=true->∀f∈br j0 R,ahR H n f
 |_,[],_,f,hf=>by simp[br] at hf
 |j0,r::rest,h,f,hf=>by
  simp only[wJ,Es] at h;rw[br,List.mem_cons] at hf;rcases hf with rfl | hf
  .have X:=h.1
   simp only[EB,dR,Rg,Es,QXa,GE,List.isEmpty_iff] at X;obtain⟨X,Z⟩:=X;refine⟨X,?_⟩;rcases Z with Z | ⟨⟨⟨Z,h3⟩,U⟩,S⟩
   .exact .inl Z
   .refine .inr ⟨fun i O=>List.all_eq_true.1 Z i (List.mem_range.2 O),fun k N V=>?_,U,S⟩
    have:=List.all_eq_true.1 h3 k (List.mem_range.2 V);simp only[QXa,GE] at this;rcases this with h6 | h6
    .omega
    .exact h6
  .exact Cd h.2 f hf
variable{R:List Rec}
theorem Lm{H:List Nat}(h:wJ H R.length 0 R=true){f:Nat×Rec}(hf:f∈br 0 R):iY H (br 0 R) f.1 f.2=true:=by
 have M:=Cd h;have X:=M f hf;have u:=jx hf;unfold iY;have L:∀g∈(br 0 R).filter (fun g=>decide (g.1<f.1)&& !bef H g.1 f.1),g.2.nx.length=g.2.mem.length/\g.2.wr=[]:=by
  intro g V;have Z:=List.mem_filter.1 V;simp only[Es,GE,Bool.not_eq_true'] at Z;rcases (M g Z.1).or with U | ⟨_,U,_⟩
  .exact U
  .have:=U f.1 Z.2.1 (by omega)
   rw[this] at Z;exact absurd Z.2.2 (by simp)
 have K:∀S,jj S ((br 0 R).filter fun g=>decide (g.1<f.1)&& !bef H g.1 f.1)=fun b=>decide (b<S):=by
  intro S;funext b;unfold jj;have:(((br 0 R).filter fun g=>decide (g.1<f.1)&& !bef H g.1 f.1).all fun f=> !decide (f.2.mem.length<=b/\b<f.2.nx.length))=true:=List.all_eq_true.2 fun g V=>by have:=(L g V).1;simp;omega
  rw[this,Bool.and_true]
 simp only[K,Es];rcases X.or with⟨U,O⟩ | ⟨U,_,h3,G⟩
 .have F:f.2.nx.drop f.2.mem.length=[]:=ZN (by rw[U];exact L9 _)
  refine⟨⟨⟨⟨by rw[O];rfl,X.refs⟩,by rw[O];rfl⟩,by rw[F];rfl⟩,?_⟩;refine List.all_eq_true.2 fun g V=>?_
  obtain⟨C,B⟩:=L g V;rw[B,O,C,Nat.sub_self,List.take_zero];rfl
 .refine⟨⟨⟨⟨?_,X.refs⟩,?_⟩,G⟩,?_⟩
  .refine List.all_eq_true.2 fun b N=>?_
   have:=List.all_eq_true.1 h3 b N;simp only[Es] at this;exact this.1
  .refine List.all_eq_true.2 fun b N=>?_
   have:=List.all_eq_true.1 h3 b N;simp only[Es] at this;exact this.2
  .refine List.all_eq_true.2 fun g V=>?_
   have Z:=List.mem_filter.1 V;simp only[Es,GE,Bool.not_eq_true'] at Z;rw[U g.1 Z.2.1] at Z;exact absurd Z.2.2 (by simp)
variable{N m0:Nat}{O:y9}
theorem pV{T:TypeId->Option TyI}{ops:Array Oper}{H:List Nat}(I:dT ops.toList=H)(s:XS):
  aR T O N m0 ops s=match pT T O N m0 ops H s with
   |some s' =>some s'
   |none=>pU T O N m0 ops s:=by
 cases h:pT T O N m0 ops H s with
 |none=>rfl
 |some s' =>
  simp only;unfold pT at h;unfold aR;simp only;rw[I];split at h
  .cases h
  .rename_i R env mem Z
   split at h
   .rename_i X
    cases h;rw[Z];simp only;rw[if_pos (List.all_eq_true.2 fun f V=>Lm X V)]
   .cases h
def Lf(H:List Nat)(n j:Nat):Bool:=(List.range n).all fun k=>decide (k<=j)||bef H j k
def Ps(H:List Nat)(n j:Nat)(r:Rec):Bool:=
 r.v.afm (fun b=>decide (b<r.nx.length))&&
  (dR r||(Lf H n j&&(r.wr.isEmpty||(fu H j&&r.wr.all (fun b=>fJ r.tm b&&(match r.nx[b]? with | some s=>s.afm (fun b=>decide (b<r.nx.length)) | none=>true))))&&
   (r.nx.drop r.mem.length).all fun s=>(s.own||match s with | .qK=>true | _=>false)&&s.afm (fun b=>decide (b<r.nx.length))))
def CF(H:List Nat)(n:Nat):Nat->List Rec->Bool
 |_,[]=>true
 |j,r::rest=>Ps H n j r&&CF H n (j+1) rest
def xf(T:TypeId->Option TyI)(O:y9)(N m0:Nat)(ops:Array Oper)(H:List Nat)(s:XS):Option XS:=
 match nr T O N ops H 0 ops.toList s.env s.mem [] with
 |none=>none
 |some (R,env,mem)=>
  if CF H R.length 0 R then some ⟨env,mem,s.afH||R.any fun r=>r.wr.any fun b=>decide (b<m0)⟩ else none
structure ahS (bs:List Nat)(n:Nat)(f:Nat×Rec):Prop where
 refs:f.2.v.afm (fun b=>decide (b<f.2.nx.length))=true
 or:(f.2.nx.length=f.2.mem.length/\f.2.wr=[])\/((f.2.wr=[]\/∀i,i<f.1->bef bs i f.1=true)/\(∀k,f.1<k->k<n->bef bs f.1 k=true)/\
  f.2.wr.all (fun b=>fJ f.2.tm b&&(match f.2.nx[b]? with | some s=>s.afm (fun b=>decide (b<f.2.nx.length)) | none=>true))=true/\
  ((f.2.nx.drop f.2.mem.length).all fun s=>(s.own||match s with | .qK=>true | _=>false)&&s.afm (fun b=>decide (b<f.2.nx.length)))=true)
theorem CG{H:List Nat}{n:Nat}:∀{j0:Nat} {R:List Rec},CF H n j0 R=true->∀f∈br j0 R,ahS H n f
 |_,[],_,f,hf=>by simp[br] at hf
 |j0,r::rest,h,f,hf=>by
  simp only[CF,Es] at h;rw[br,List.mem_cons] at hf;rcases hf with rfl | hf
  .have X:=h.1
   simp only[Ps,dR,Lf,Es,QXa,GE,List.isEmpty_iff] at X;obtain⟨X,V⟩:=X;refine⟨X,?_⟩;rcases V with V | ⟨⟨h3,Z⟩,S⟩
   .exact .inl V
   .refine .inr ⟨?_,fun k L U=>?_,?_,S⟩
    .rcases Z with Z | ⟨Z,_⟩
     .exact .inl Z
     .exact .inr fun i M=>List.all_eq_true.1 Z i (List.mem_range.2 M)
    .have:=List.all_eq_true.1 h3 k (List.mem_range.2 U)
     simp only[QXa,GE] at this;rcases this with h6 | h6
     .omega
     .exact h6
    .rcases Z with Z | ⟨_,Z⟩
     .rw[Z];rfl
     .exact Z
  .exact CG h.2 f hf
theorem Ln{H:List Nat}(h:CF H R.length 0 R=true){f:Nat×Rec}(hf:f∈br 0 R):iY H (br 0 R) f.1 f.2=true:=by
 have C:=CG h;have U:=C f hf;have m:=jx hf;unfold iY;have M:∀g∈(br 0 R).filter (fun g=>decide (g.1<f.1)&& !bef H g.1 f.1),g.2.nx.length=g.2.mem.length/\g.2.wr=[]:=by
  intro g V;have X:=List.mem_filter.1 V;simp only[Es,GE,Bool.not_eq_true'] at X;rcases (C g X.1).or with Z | ⟨_,Z,_⟩
  .exact Z
  .have:=Z f.1 X.2.1 (by omega)
   rw[this] at X;exact absurd X.2.2 (by simp)
 have B:∀S,jj S ((br 0 R).filter fun g=>decide (g.1<f.1)&& !bef H g.1 f.1)=fun b=>decide (b<S):=by
  intro S;funext b;unfold jj;have:(((br 0 R).filter fun g=>decide (g.1<f.1)&& !bef H g.1 f.1).all fun f=> !decide (f.2.mem.length<=b/\b<f.2.nx.length))=true:=List.all_eq_true.2 fun g V=>by have:=(M g V).1;simp;omega
  rw[this,Bool.and_true]
 simp only[B,Es];rcases U.or with⟨Z,L⟩ | ⟨Z,_,h3,u⟩
 .have o:f.2.nx.drop f.2.mem.length=[]:=ZN (by rw[Z];exact L9 _)
  refine⟨⟨⟨⟨by rw[L];rfl,U.refs⟩,by rw[L];rfl⟩,by rw[o];rfl⟩,?_⟩;refine List.all_eq_true.2 fun g V=>?_
  obtain⟨K,G⟩:=M g V;rw[G,L,K,Nat.sub_self,List.take_zero];rfl
 .refine⟨⟨⟨⟨?_,U.refs⟩,?_⟩,u⟩,?_⟩
  .refine List.all_eq_true.2 fun b F=>?_
   have:=List.all_eq_true.1 h3 b F;simp only[Es] at this;exact this.1
  .refine List.all_eq_true.2 fun b F=>?_
   have:=List.all_eq_true.1 h3 b F;simp only[Es] at this;exact this.2
  .refine List.all_eq_true.2 fun g V=>?_
   obtain⟨K,G⟩:=M g V;rcases Z with Z | Z
   .rw[G,Z,K,Nat.sub_self,List.take_zero]
    rfl
   .have X:=List.mem_filter.1 V
    simp only[Es,GE,Bool.not_eq_true'] at X;rw[Z g.1 X.2.1] at X;exact absurd X.2.2 (by simp)
theorem De{T:TypeId->Option TyI}{ops:Array Oper}{H:List Nat}(I:dT ops.toList=H)(s:XS):
  aR T O N m0 ops s=match xf T O N m0 ops H s with
   |some s' =>some s'
   |none=>pU T O N m0 ops s:=by
 cases h:xf T O N m0 ops H s with
 |none=>rfl
 |some s' =>
  simp only;unfold xf at h;unfold aR;simp only;rw[I];split at h
  .cases h
  .rename_i R env mem Z
   split at h
   .rename_i X
    cases h;rw[Z];simp only;rw[if_pos (List.all_eq_true.2 fun f V=>Ln X V)]
   .cases h
mutual
theorem afJ{p q:Nat->Bool}:∀(v:AV),v.afm p=true->v.afm q=true->v.afm (fun b=>p b&&q b)=true
 |.ptr _ _,h1,h2=>by simp only[AV.afm] at h1 h2 |-;rw[h1,h2];rfl
 |.slice _ _ _ _,h1,h2=>by simp only[AV.afm] at h1 h2 |-;rw[h1,h2];rfl
 |.map _,h1,h2=>by simp only[AV.afm] at h1 h2 |-;rw[h1,h2];rfl
 |.yield _,h1,h2=>by simp only[AV.afm] at h1 h2 |-;rw[h1,h2];rfl
 |.func _ Z,h1,h2=>by simp only[AV.afm] at h1 h2 |-;exact mi Z h1 h2
 |.iface _ v,h1,h2=>by simp only[AV.afm] at h1 h2 |-;exact afJ v h1 h2
 |.agg Z,h1,h2=>by simp only[AV.afm] at h1 h2 |-;exact mi Z h1 h2
 |.tuple Z,h1,h2=>by simp only[AV.afm] at h1 h2 |-;exact mi Z h1 h2
 |.undef,_,_=>rfl
 |.bool _,_,_=>rfl
 |.int _ _,_,_=>rfl
 |.str _,_,_=>rfl
 |.afB,_,_=>rfl
 |.qF,_,_=>rfl
 |.afL,_,_=>rfl
 |.nilFunc,_,_=>rfl
 |.nilIface,_,_=>rfl
theorem mi{p q:Nat->Bool}:∀(cs:List AV),AV.afs p cs=true->AV.afs q cs=true->AV.afs (fun b=>p b&&q b) cs=true
 | [],_,_=>rfl
 |v::vs,h1,h2=>by simp only[AV.afs,Es] at h1 h2 |-;exact⟨afJ v h1.1 h2.1,mi vs h1.2 h2.2⟩
end
mutual
theorem afG:∀(v:AV),v.afm (fun _=>true)=true
 |.ptr _ _=>rfl
 |.slice _ _ _ _=>rfl
 |.map _=>rfl
 |.yield _=>rfl
 |.func _ Z=>by simp only[AV.afm];exact kY Z
 |.iface _ v=>by simp only[AV.afm];exact afG v
 |.agg Z=>by simp only[AV.afm];exact kY Z
 |.tuple Z=>by simp only[AV.afm];exact kY Z
 |.undef=>rfl
 |.bool _=>rfl
 |.int _ _=>rfl
 |.str _=>rfl
 |.afB=>rfl
 |.qF=>rfl
 |.afL=>rfl
 |.nilFunc=>rfl
 |.nilIface=>rfl
theorem kY:∀(cs:List AV),AV.afs (fun _=>true) cs=true
 | []=>rfl
 |v::vs=>by simp only[AV.afs,Es];exact⟨afG v,kY vs⟩
end
theorem afQ{top:Nat}{v:AV}(h:v.afm (fun b=>decide (b<top))=true):∀{un:List (Nat×Rec)},(∀g∈un,v.afm (fun b=> !decide (g.2.mem.length<=b/\b<g.2.nx.length))=true)->v.afm (jj top un)=true
 | [],_=>by
  have:jj top []=fun b=>decide (b<top):=by funext b;simp[jj]
  rw[this];exact h
 |g::un,hg=>by
  have Z:=afQ h (un:=un) (fun x X=>hg x (List.mem_cons_of_mem _ X));have V:=afJ v Z (hg g (List.mem_cons_self ..));have:jj top (g::un)=fun b=>jj top un b&& !decide (g.2.mem.length<=b/\b<g.2.nx.length):=by funext b;simp only[jj,QQg];cases decide (b<top)<;>cases (un.all fun f=> !decide (f.2.mem.length<=b/\b<f.2.nx.length))<;>simp
  rw[this];exact V
def qt:afq->Bool
 |.qK=>true
 |_=>false
def Yv(H I:Nat)(r:Rec):Bool:=
 dR r&&r.v.afm (fun b=> !decide (H<=b/\b<I))&&((r.tm.drop H).take (I-H)).all qt
structure ah8 (bs:List Nat)(R:List (Nat×Rec))(f:Nat×Rec):Prop where
 refs:f.2.v.afm (fun b=>decide (b<f.2.nx.length))=true
 or:(f.2.nx.length=f.2.mem.length/\f.2.wr=[])\/((f.2.wr=[]\/∀i,i<f.1->bef bs i f.1=true)/\(∀g∈R,f.1<g.1->bef bs f.1 g.1=true\/(f.2.wr=[]/\Yv f.2.mem.length f.2.nx.length g.2=true))/\
  f.2.wr.all (fun b=>fJ f.2.tm b&&(match f.2.nx[b]? with | some s=>s.afm (fun b=>decide (b<f.2.nx.length)) | none=>true))=true/\
  ((f.2.nx.drop f.2.mem.length).all fun s=>(s.own||match s with | .qK=>true | _=>false)&&s.afm (fun b=>decide (b<f.2.nx.length)))=true)
theorem CK(f:Nat->Bool)(new:Mem):∀(i:Nat) (M:Mem),bw [] i M (bP f i M++new)=M++new
 |_,[]=>rfl
 |i,s::M=>by simp[bP,bw,CK f new (i+1) M]
theorem zu(new:Mem):∀(i:Nat) (M:Mem),bw [] i M (M++new)=M++new
 |_,[]=>rfl
 |i,s::M=>by simp[bw,zu new (i+1) M]
theorem zw(f:Nat->Bool)(s:afq):∀(i:Nat) (M:Mem) (k:Nat),bw [i+k] i M ((bP f i M).set k s)=M.set k s
 |_,[],_=>rfl
 |i,x::M,0=>by
  simp only[bP,List.set_cons_zero,bw,Nat.add_zero];have h:∀(j:Nat) (M:Mem),i<j->bw [i] j M (bP f j M)=M:=by
   intro j M Z;induction M generalizing j with
   |nil=>rfl
   |cons y M ih=>simp[bP,bw,ih (j+1) (by omega),show¬j=i by omega]
  simp[h (i+1) M (by omega)]
 |i,x::M,k+1=>by have:=zw f s (i+1) M k;rw[show i+1+k=i+(k+1) by omega] at this;simp[bP,bw,this,show¬i=i+(k+1) by omega]
theorem L4(f:Nat->Bool)(s:afq)(M:Mem)(k:Nat):bw [k] 0 M ((bP f 0 M).set k s)=M.set k s:=by
 have:=zw f s 0 M k
 rwa [QQb] at this
theorem E4(f:Nat->Bool):∀(i:Nat) (M:Mem),(bP f i M).length=M.length
 |_,[]=>rfl
 |i,x::M=>by simp[bP,E4 f (i+1) M]
theorem E2(f:Nat->Bool)(M:Mem)(H n:Nat)(h:∀b,H<=b->b<H+n->f b=false):(((bP f 0 M).drop H).take n).all qt=true:=by
 rw[List.all_eq_true];intro s X;obtain⟨i,Z⟩:=QXe X;rw[List.getElem?_take] at Z;split at Z
 .rename_i V
  rw[QQf,vl] at Z;cases hM:M[H+i]? with
  |none=>rw[hM] at Z;simp at Z
  |some x=>
   rw[hM] at Z;simp only[Option.map_some,QQb,Pi] at Z;rw[h (H+i) (by omega) (by omega)] at Z;simp at Z;subst Z;rfl
 .cases Z
theorem Ov(M:Mem)(H n:Nat):(((bP (fun _=>false) 0 M).drop H).take n).all qt=true:=E2 _ M H n fun _ _ _=>rfl
theorem W2(M X:Mem)(k:Nat):(M++X).drop (M.length+k)=X.drop k:=by rw[List.drop_append];simp
theorem VK(M X:Mem):(M++X).drop M.length=X:=by simp
theorem wV(i:Nat)(s s' :afq)(r r' :Mem):bw [] i (s::r) (s' ::r')=s::bw [] (i+1) r r' :=by simp[bw]
theorem CL:∀(i:Nat) (N X Y:Mem),bw [] i (N++X) (N++Y)=N++bw [] (i+N.length) X Y
 |i,[],X,Y=>by simp
 |i,s::N,X,Y=>by simp only[List.cons_append,wV,CL (i+1) N X Y,List.length_cons];rw[show i+1+N.length=i+(N.length+1) by omega]
theorem afq.afJ{p q:Nat->Bool}:∀(s:afq),s.afm p=true->s.afm q=true->s.afm (fun b=>p b&&q b)=true
 |.qK,_,_=>rfl
 |.cells _ _ cs,h,h' =>mi cs h h'
 |.map es,h,h' =>by simp only[afq.afm,List.all_eq_true,Es] at h h' |-;exact fun e Z=>⟨Go.Eng.afJ _ (h e Z).1 (h' e Z).1,Go.Eng.afJ _ (h e Z).2 (h' e Z).2⟩
 |.afX es,h,h' =>by simp only[afq.afm,List.all_eq_true,Es] at h h' |-;exact fun e Z=>⟨Go.Eng.afJ _ (h e Z).1 (h' e Z).1,Go.Eng.afJ _ (h e Z).2 (h' e Z).2⟩
 |.loop r,h,h' =>by simp only[afq.afm,List.all_eq_true] at h h' |-;exact fun e Z=>Go.Eng.afJ _ (h e Z) (h' e Z)
theorem afq.afQ{top:Nat}{s:afq}(h:s.afm (fun b=>decide (b<top))=true):∀{un:List (Nat×Rec)},(∀g∈un,s.afm (fun b=> !decide (g.2.mem.length<=b/\b<g.2.nx.length))=true)->s.afm (jj top un)=true
 | [],_=>by
  have:jj top []=fun b=>decide (b<top):=by funext b;simp[jj]
  rw[this];exact h
 |g::un,hg=>by
  have Z:=afq.afQ h (un:=un) (fun x X=>hg x (List.mem_cons_of_mem _ X));have V:=afq.afJ s Z (hg g (List.mem_cons_self ..));have:jj top (g::un)=fun b=>jj top un b&& !decide (g.2.mem.length<=b/\b<g.2.nx.length):=by funext b;simp only[jj,QQg];cases decide (b<top)<;>cases (un.all fun f=> !decide (f.2.mem.length<=b/\b<f.2.nx.length))<;>simp
  rw[this];exact V
theorem sz{g:Rec}(h:g.nx.length=g.mem.length):(fun b=> !decide (g.mem.length<=b/\b<g.nx.length))=fun _=>true:=by
 funext b;rw[h];have:¬(g.mem.length<=b/\b<g.mem.length):=by omega
 simp[this]
theorem afq.afG:∀(s:afq),s.afm (fun _=>true)=true
 |.qK=>rfl
 |.cells _ _ cs=>kY cs
 |.map es=>by simp only[afq.afm,List.all_eq_true,Es];exact fun e _=>⟨Go.Eng.afG _,Go.Eng.afG _⟩
 |.afX es=>by simp only[afq.afm,List.all_eq_true,Es];exact fun e _=>⟨Go.Eng.afG _,Go.Eng.afG _⟩
 |.loop r=>by simp only[afq.afm,List.all_eq_true];exact fun e _=>Go.Eng.afG _
def dD(H I:Nat)(r:Rec):Bool:=
 r.wr.isEmpty&&r.v.afm (fun b=> !decide (H<=b/\b<I))&&((r.nx.drop r.mem.length).all fun s=>s.afm (fun b=> !decide (H<=b/\b<I)))&&((r.tm.drop H).take (I-H)).all qt
def fT(H:List Nat)(i:Nat)(r:Rec):Nat->List Rec->Bool
 |_,[]=>true
 |j,s::rest=>(bef H i j||(r.wr.isEmpty&&dD r.mem.length r.nx.length s))&&fT H i r (j+1) rest
def jB(H:List Nat)(j:Nat)(r:Rec):List (Nat×Rec)->Bool
 | []=>true
 |g::l=>(bef H g.1 j||(dR g.2&&r.wr.all fun b=> !fJ g.2.tm b))&&jB H j r l
def gD(H:List Nat):Nat->List (Nat×Rec)->List Rec->Bool
 |_,_,[]=>true
 |j,acc,r::rest=>r.v.afm (fun b=>decide (b<r.nx.length))&&(dR r||(fT H j r (j+1) rest&&(r.wr.isEmpty||(jB H j r acc&&r.wr.all (fun b=>fJ r.tm b&&(match r.nx[b]? with | some s=>s.afm (fun b=>decide (b<r.nx.length)) | none=>true))))&&
   (r.nx.drop r.mem.length).all fun s=>(s.own||match s with | .qK=>true | _=>false)&&s.afm (fun b=>decide (b<r.nx.length))))&&gD H (j+1) ((j,r)::acc) rest
def dq(T:TypeId->Option TyI)(O:y9)(N m0:Nat)(ops:Array Oper)(H:List Nat)(s:XS):Option XS:=
 match nr T O N ops H 0 ops.toList s.env s.mem [] with
 |none=>none
 |some (R,env,mem)=>
  if gD H 0 [] R then some ⟨env,mem,s.afH||R.any fun r=>r.wr.any fun b=>decide (b<m0)⟩ else none
theorem Cn{H:List Nat}{i:Nat}{r:Rec}:∀{j0:Nat} {R:List Rec},fT H i r j0 R=true->∀g∈br j0 R,bef H i g.1=true\/(r.wr=[]/\dD r.mem.length r.nx.length g.2=true)
 |_,[],_,g,hg=>by simp[br] at hg
 |j0,s::rest,h,g,hg=>by
  simp only[fT,Es,QXa,List.isEmpty_iff] at h;rw[br,List.mem_cons] at hg;rcases hg with rfl | hg
  .exact h.1
  .exact Cn h.2 g hg
theorem EA{H:List Nat}{j:Nat}{r:Rec}:∀{acc:List (Nat×Rec)},jB H j r acc=true->∀g∈acc,bef H g.1 j=true\/((g.2.nx.length=g.2.mem.length/\g.2.wr=[])/\(r.wr.all fun b=> !fJ g.2.tm b)=true)
 | [],_,g,hg=>by cases hg
 |a::l,h,g,hg=>by
  simp only[jB,dR,Es,QXa,GE,List.isEmpty_iff] at h;rcases List.mem_cons.1 hg with rfl | hg
  .exact h.1
  .exact EA h.2 g hg
structure ahx (bs:List Nat)(R:List (Nat×Rec))(f:Nat×Rec):Prop where
 refs:f.2.v.afm (fun b=>decide (b<f.2.nx.length))=true
 or:(f.2.nx.length=f.2.mem.length/\f.2.wr=[])\/((f.2.wr=[]\/∀g∈R,g.1<f.1->bef bs g.1 f.1=true\/((g.2.nx.length=g.2.mem.length/\g.2.wr=[])/\(f.2.wr.all fun b=> !fJ g.2.tm b)=true))/\(∀g∈R,f.1<g.1->bef bs f.1 g.1=true\/(f.2.wr=[]/\dD f.2.mem.length f.2.nx.length g.2=true))/\
  f.2.wr.all (fun b=>fJ f.2.tm b&&(match f.2.nx[b]? with | some s=>s.afm (fun b=>decide (b<f.2.nx.length)) | none=>true))=true/\
  ((f.2.nx.drop f.2.mem.length).all fun s=>(s.own||match s with | .qK=>true | _=>false)&&s.afm (fun b=>decide (b<f.2.nx.length)))=true)
theorem zo{H:List Nat}{R0:List (Nat×Rec)}:∀{j0:Nat} {acc:List (Nat×Rec)} {R:List Rec},(∀g∈R0,g.1<j0\/g∈br j0 R)->(∀g∈R0,g.1<j0->g∈acc)->gD H j0 acc R=true->∀f∈br j0 R,ahx H R0 f
 |_,_,[],_,_,_,f,hf=>by simp[br] at hf
 |j0,acc,r::rest,hR,abG,h,f,hf=>by
  simp only[gD,Es] at h;obtain⟨⟨L,U⟩,K⟩:=h;have V :∀g∈R0,g.1<j0+1\/g∈br (j0+1) rest:=by
   intro g X;rcases hR g X with h3 | h3
   .exact .inl (by omega)
   .rw[br,List.mem_cons] at h3
    rcases h3 with rfl | h3
    .exact .inl (by simp)
    .exact .inr h3
  have M :∀g∈R0,g.1<j0+1->g∈(j0,r)::acc:=by
   intro g X S;rcases hR g X with h3 | h3
   .exact List.mem_cons_of_mem _ (abG g X h3)
   .rw[br,List.mem_cons] at h3
    rcases h3 with rfl | h3
    .exact List.mem_cons_self ..
    .have:=(jx h3).1;omega
  rw[br,List.mem_cons] at hf;rcases hf with rfl | hf
  .refine⟨L,?_⟩
   simp only[dR,Es,QXa,GE,List.isEmpty_iff] at U;rcases U with U | ⟨⟨h3,Z⟩,G⟩
   .exact .inl U
   .refine .inr ⟨?_,fun g X S=>?_,?_,G⟩
    .rcases Z with Z | ⟨Z,_⟩
     .exact .inl Z
     .exact .inr fun g X S=>EA Z g (abG g X S)
    .rcases V g X with h6 | h6
     .simp only at S;omega
     .exact Cn h3 g h6
    .rcases Z with Z | ⟨_,Z⟩
     .rw[Z];rfl
     .exact Z
  .exact zo V M K f hf
theorem GR{H:List Nat}(h:gD H 0 [] R=true){f:Nat×Rec}(hf:f∈br 0 R):iY H (br 0 R) f.1 f.2=true:=by
 have m:=zo (R0:=br 0 R) (fun g Z=>.inr Z) (fun g _ J=>absurd J (Nat.not_lt_zero _)) h;have S:=m f hf;unfold iY;have M:∀g∈(br 0 R).filter (fun g=>decide (g.1<f.1)&& !bef H g.1 f.1),(g.2.nx.length=g.2.mem.length/\g.2.wr=[])\/(g.2.wr=[]/\dD g.2.mem.length g.2.nx.length f.2=true):=by
  intro g Z;have U:=List.mem_filter.1 Z;simp only[Es,GE,Bool.not_eq_true'] at U;rcases (m g U.1).or with V | ⟨_,V,_⟩
  .exact .inl V
  .rcases V f hf U.2.1 with F | F
   .rw[F] at U;exact absurd U.2.2 (by simp)
   .exact .inr F
 have C:∀g∈(br 0 R).filter (fun g=>decide (g.1<f.1)&& !bef H g.1 f.1),g.2.wr=[]/\(f.2.wr.all fun b=> !fJ g.2.tm b)=true/\(f.2.wr=[]\/g.2.nx.length=g.2.mem.length):=by
  intro g Z;have U:=List.mem_filter.1 Z;simp only[Es,GE,Bool.not_eq_true'] at U;rcases M g Z with⟨L,X⟩ | ⟨L,X⟩
  .refine⟨X,?_,.inr L⟩
   rcases S.or with V | ⟨V,_⟩
   .rw[V.2];rfl
   .rcases V with V | V
    .rw[V];rfl
    .rcases V g U.1 U.2.1 with h3 | h3
     .rw[h3] at U;exact absurd U.2.2 (by simp)
     .exact h3.2
  .simp only[dD,Es,List.isEmpty_iff] at X
   refine⟨L,?_,.inl X.1.1.1⟩;rw[X.1.1.1];rfl
 have I:f.2.v.afm (jj f.2.nx.length ((br 0 R).filter fun g=>decide (g.1<f.1)&& !bef H g.1 f.1))=true:=afQ S.refs fun g Z=>by
  rcases M g Z with⟨L,_⟩ | ⟨_,X⟩
  .rw[sz L];exact afG _
  .simp only[dD,Es] at X
   exact X.1.1.2
 have u:(((br 0 R).filter fun g=>decide (g.1<f.1)&& !bef H g.1 f.1).all fun g=>g.2.wr.all (fun b=> !fJ f.2.tm b)&&f.2.wr.all (fun b=> !fJ g.2.tm b)&&
   ((f.2.tm.drop g.2.mem.length).take (g.2.nx.length-g.2.mem.length)).all fun s=>match s with | .qK=>true | _=>false)=true:=List.all_eq_true.2 fun g Z=>by
  obtain⟨w1,w2,_⟩:=C g Z;rw[w1,w2];simp only[List.all_nil,Bool.true_and];rcases M g Z with⟨L,_⟩ | ⟨_,X⟩
  .rw[L,Nat.sub_self,List.take_zero];rfl
  .simp only[dD,Es] at X
   refine List.all_eq_true.2 fun s G=>?_
   have:=List.all_eq_true.1 X.2 s G;cases s<;>simp_all[qt]
 have o:((f.2.nx.drop f.2.mem.length).all fun s=>(s.own||match s with | .qK=>true | _=>false)&&s.afm (jj f.2.nx.length ((br 0 R).filter fun g=>decide (g.1<f.1)&& !bef H g.1 f.1)))=true:=by
  refine List.all_eq_true.2 fun s G=>?_
  rcases S.or with⟨V,_⟩ | ⟨_,_,_,h4⟩
  .rw[ZN (by rw[V];exact L9 _)] at G;cases G
  .have K:=List.all_eq_true.1 h4 s G
   simp only[Es] at K |-;refine⟨K.1,afq.afQ K.2 fun g Z=>?_⟩;rcases M g Z with⟨L,_⟩ | ⟨_,X⟩
   .rw[sz L];exact afq.afG _
   .simp only[dD,Es] at X
    exact List.all_eq_true.1 X.1.2 s G
 have Y:f.2.wr.all (fun b=>fJ f.2.tm b)=true/\(f.2.wr.all fun b=>match f.2.nx[b]? with | some s=>s.afm (jj f.2.nx.length ((br 0 R).filter fun g=>decide (g.1<f.1)&& !bef H g.1 f.1)) | none=>true)=true:=by
  rcases S.or with⟨_,F⟩ | ⟨_,_,h3,_⟩
  .rw[F];exact⟨rfl,rfl⟩
  .constructor
   .refine List.all_eq_true.2 fun b B=>?_
    have:=List.all_eq_true.1 h3 b B;simp only[Es] at this;exact this.1
   .refine List.all_eq_true.2 fun b B=>?_
    have:=List.all_eq_true.1 h3 b B;simp only[Es] at this;cases hn:f.2.nx[b]? with
    |none=>rfl
    |some s=>
     simp only[hn] at this |-;refine afq.afQ this.2 fun g Z=>?_
     rcases (C g Z).2.2 with K | K
     .rw[K] at B;cases B
     .rw[sz K];exact afq.afG _
 simp only[Es];exact⟨⟨⟨⟨Y.1,I⟩,Y.2⟩,o⟩,u⟩
theorem bW{T:TypeId->Option TyI}{ops:Array Oper}{H:List Nat}(I:dT ops.toList=H)(s:XS):
  aR T O N m0 ops s=match dq T O N m0 ops H s with
   |some s' =>some s'
   |none=>pU T O N m0 ops s:=by
 cases h:dq T O N m0 ops H s with
 |none=>rfl
 |some s' =>
  simp only;unfold dq at h;unfold aR;simp only;rw[I];split at h
  .cases h
  .rename_i R env mem Z
   split at h
   .rename_i X
    cases h;rw[Z];simp only;rw[if_pos (List.all_eq_true.2 fun f V=>GR X V)]
   .cases h
mutual
theorem AV.agf{k n:Nat}(H:k<=n):∀{v:AV},v.under k=true->v.refs n=[]
 |.undef,_=>rfl
 |.bool _,_=>rfl
 |.int _ _,_=>rfl
 |.str _,_=>rfl
 |.ptr b o,h=>by simp only[AV.under,GE] at h;simp only[AV.refs];rw[if_pos (by omega)]
 |.afB,_=>rfl
 |.slice b o l c,h=>by simp only[AV.under,GE] at h;simp only[AV.refs];rw[if_pos (by omega)]
 |.qF,_=>rfl
 |.map b,h=>by simp only[AV.under,GE] at h;simp only[AV.refs];rw[if_pos (by omega)]
 |.yield b,h=>by simp only[AV.under,GE] at h;simp only[AV.refs];rw[if_pos (by omega)]
 |.afL,_=>rfl
 |.func f Z,h=>by simp only[AV.under] at h;simp only[AV.refs];exact AV.afR H h
 |.nilFunc,_=>rfl
 |.iface t v,h=>by simp only[AV.under] at h;simp only[AV.refs];exact AV.agf H h
 |.nilIface,_=>rfl
 |.agg Z,h=>by simp only[AV.under] at h;simp only[AV.refs];exact AV.afR H h
 |.tuple Z,h=>by simp only[AV.under] at h;simp only[AV.refs];exact AV.afR H h
theorem AV.afR{k n:Nat}(H:k<=n):∀{vs:List AV},AV.afu k vs=true->AV.afE n vs=[]
 | [],_=>rfl
 |v::vs,h=>by simp only[AV.afu,Es] at h;simp only[AV.afE,AV.agf H h.1,AV.afR H h.2,List.append_nil]
end
mutual
theorem AV.af6{k:Nat}{f:Nat->Bool}(hf:∀b,b<k->f b=true):∀{v:AV},v.under k=true->v.afm f=true
 |.undef,_=>rfl
 |.bool _,_=>rfl
 |.int _ _,_=>rfl
 |.str _,_=>rfl
 |.ptr b o,h=>by simp only[AV.under,GE] at h;simp only[AV.afm];exact hf b h
 |.afB,_=>rfl
 |.slice b o l c,h=>by simp only[AV.under,GE] at h;simp only[AV.afm];exact hf b h
 |.qF,_=>rfl
 |.map b,h=>by simp only[AV.under,GE] at h;simp only[AV.afm];exact hf b h
 |.yield b,h=>by simp only[AV.under,GE] at h;simp only[AV.afm];exact hf b h
 |.afL,_=>rfl
 |.func f Z,h=>by simp only[AV.under] at h;simp only[AV.afm];exact AV.afK hf h
 |.nilFunc,_=>rfl
 |.iface t v,h=>by simp only[AV.under] at h;simp only[AV.afm];exact AV.af6 hf h
 |.nilIface,_=>rfl
 |.agg Z,h=>by simp only[AV.under] at h;simp only[AV.afm];exact AV.afK hf h
 |.tuple Z,h=>by simp only[AV.under] at h;simp only[AV.afm];exact AV.afK hf h
theorem AV.afK{k:Nat}{f:Nat->Bool}(hf:∀b,b<k->f b=true):∀{vs:List AV},AV.afu k vs=true->AV.afs f vs=true
 | [],_=>rfl
 |v::vs,h=>by simp only[AV.afu,Es] at h;simp only[AV.afs,AV.af6 hf h.1,AV.afK hf h.2,Bool.and_self]
end
mutual
theorem yB{k n:Nat}(H:k<=n):∀{v:AV},v.under k=true->v.under n=true
 |.undef,_=>rfl
 |.bool _,_=>rfl
 |.int _ _,_=>rfl
 |.str _,_=>rfl
 |.ptr b o,h=>by simp only[AV.under,GE] at h |-;omega
 |.afB,_=>rfl
 |.slice b o l c,h=>by simp only[AV.under,GE] at h |-;omega
 |.qF,_=>rfl
 |.map b,h=>by simp only[AV.under,GE] at h |-;omega
 |.yield b,h=>by simp only[AV.under,GE] at h |-;omega
 |.afL,_=>rfl
 |.func f Z,h=>by simp only[AV.under] at h |-;exact qd H h
 |.nilFunc,_=>rfl
 |.iface t v,h=>by simp only[AV.under] at h |-;exact yB H h
 |.nilIface,_=>rfl
 |.agg Z,h=>by simp only[AV.under] at h |-;exact qd H h
 |.tuple Z,h=>by simp only[AV.under] at h |-;exact qd H h
theorem qd{k n:Nat}(H:k<=n):∀{vs:List AV},AV.afu k vs=true->AV.afu n vs=true
 | [],_=>rfl
 |v::vs,h=>by simp only[AV.afu,Es] at h |-;exact⟨yB H h.1,qd H h.2⟩
end
variable{k:Nat}
theorem gy{vs:List AV}(h:AV.afu k vs=true):(∀n,k<=n->AV.afE n vs=[])/\(∀n,k<=n->AV.afs (fun b=>decide (b<n)) vs=true):=
 ⟨fun n Z=>AV.afR Z h,fun n Z=>AV.afK (fun b X=>by simp only[GE];omega) h⟩
variable{v:AV}
theorem gf(h:v.under k=true):(∀n,k<=n->v.refs n=[])/\(∀n,k<=n->v.afm (fun b=>decide (b<n))=true):=
 ⟨fun n Z=>AV.agf Z h,fun n Z=>AV.af6 (fun b X=>by simp only[GE];omega) h⟩
mutual
theorem afn.cut{μ μ' :Nat->Place}{n n' :Nat}:∀{v V V'},afn μ n v V->afn μ' n' v V' ->afn μ' n v V'
 |.undef,V,V',_,_=>by simp[afn]
 |.bool b,V,V',_,h=>by simpa [afn] using h
 |.int k i,V,V',_,h=>by simpa [afn] using h
 |.str s,V,V',_,h=>by simpa [afn] using h
 |.ptr b o,V,V',h,Z =>by simp only[afn] at h Z |-;exact⟨h.1,Z.2⟩
 |.afB,V,V',_,h=>by simpa [afn] using h
 |.slice b o l c,V,V',h,Z =>by simp only[afn] at h Z |-;exact⟨h.1,Z.2⟩
 |.qF,V,V',_,h=>by simpa [afn] using h
 |.map b,V,V',h,Z =>by simp only[afn] at h Z |-;exact⟨h.1,Z.2⟩
 |.yield b,V,V',h,Z =>by simp only[afn] at h Z |-;exact⟨h.1,Z.2⟩
 |.afL,V,V',_,h=>by simpa [afn] using h
 |.func f S,V,V',h,Z =>by simp only[afn] at h Z |-;obtain⟨M,rfl,h⟩:=h;obtain⟨X,rfl,Z⟩:=Z;exact⟨X,rfl,afo.cut h Z⟩
 |.nilFunc,V,V',_,h=>by simpa [afn] using h
 |.iface t v,V,V',h,Z =>by simp only[afn] at h Z |-;obtain⟨U,rfl,h⟩:=h;obtain⟨L,rfl,Z⟩:=Z;exact⟨L,rfl,afn.cut h Z⟩
 |.nilIface,V,V',_,h=>by simpa [afn] using h
 |.agg S,V,V',h,Z =>by simp only[afn] at h Z |-;obtain⟨M,rfl,h⟩:=h;obtain⟨X,rfl,Z⟩:=Z;exact⟨X,rfl,afo.cut h Z⟩
 |.tuple S,V,V',h,Z =>by simp only[afn] at h Z |-;obtain⟨M,rfl,h⟩:=h;obtain⟨X,rfl,Z⟩:=Z;exact⟨X,rfl,afo.cut h Z⟩
theorem afo.cut{μ μ' :Nat->Place}{n n' :Nat}:∀{vs Us Us'},afo μ n vs Us->afo μ' n' vs Us' ->afo μ' n vs Us'
 | [],Us,Us',_,h=>by simpa [afo] using h
 |v::vs,Us,Us',h,h' =>by simp only[afo] at h h' |-;obtain⟨U,K,rfl,S,M⟩:=h;obtain⟨L,Z,rfl,X,V⟩:=h';exact⟨L,Z,rfl,afn.cut S X,afo.cut M V⟩
end
theorem afD.cut{μ μ' :Nat->Place}{n n' H:Nat}{w w' :World}{p I :Place}{s:afq}(h:afD μ n H w p s)(h' :afD μ' n' H w' I s):afD μ' n H w' I s:=by
 cases s with
 |qK=>trivial
 |cells own es cs=>
  simp only[afD] at h h' |-;obtain⟨_,_,_,_,_,_,M,_⟩:=h;obtain⟨F,e,Y,X,U,K,G,J⟩:=h';refine⟨F,e,Y,X,U,K,fun j v Z=>?_,J⟩;obtain⟨V,_,r⟩:=M j v Z;obtain⟨V',C,S⟩:=G j v Z;exact⟨V',C,afn.cut r S⟩
 |map es=>
  simp only[afD] at h h' |-;obtain⟨_,_,_,_,_,M⟩:=h;obtain⟨B,u,X,U,K,G⟩:=h';refine⟨B,u,X,U,K,fun j e Z=>?_⟩;obtain⟨E,_,r⟩:=M j e Z;obtain⟨o,m,S⟩:=G j e Z;exact⟨o,m,afn.cut r.1 S.1,afn.cut r.2 S.2⟩
 |afX es=>
  simp only[afD] at h h' |-;obtain⟨_,_,_,_,_,M⟩:=h;obtain⟨B,u,X,U,K,G⟩:=h';refine⟨B,u,X,U,K,fun j e Z=>?_⟩;obtain⟨E,_,r⟩:=M j e Z;obtain⟨o,m,S⟩:=G j e Z;exact⟨o,m,afn.cut r.1 S.1,afn.cut r.2 S.2⟩
 |loop r=>
  simp only[afD] at h h' |-;obtain⟨L,_,_,g⟩:=h;obtain⟨L',X,U,k⟩:=h';exact⟨L',X,U,k.st,k.agt,k.ps,k.assign,k.body,k.size,fun t=>afn.cut (g.tmps t) (k.tmps t)⟩
variable{P:Program}{args:List AV}{m new:Mem}
theorem kO.forget{f:FuncId}(H:v.closed=true)(h:kO P f args m v (m++new)):kO P f args m v m:=by
 refine⟨h.1,fun base μ w Vs hG hH hV=>(h.2 base μ w Vs hG hH hV).mono ?_⟩;rintro e w' ⟨V,v',m',μ',rfl,q1,q2,q3,rfl,rfl⟩;have X:∀{b:Nat}{s:afq},m[b]? =some s->(m++new)[b]? =some s:=fun {b s} Z=>gU Z _
 have U:∀{b:Nat},eG m b->eG (m++new) b:=fun ⟨s,S,M⟩=>⟨s,X S,M⟩
 exact⟨V,_,m,μ',rfl,afn.closed H q1,⟨q2.afx,fun b s Z=>(hH.slot b s Z).cut (q2.slot b s (X Z)),fun b L K Z G =>q2.sep b L K (U Z) (X G)⟩,
  ⟨L9 _,q3.agree,q3.os,q3.tape,q3.output,q3.size,q3.frame,fun b Z=>q3.owner b (U Z),q3.drawn⟩,rfl,rfl⟩
mutual
theorem afn.low{μ:Nat->Place}{n n' :Nat}:∀{v V},v.under n=true->afn μ n' v V->afn μ n v V
 |.undef,V,_,_=>by simp[afn]
 |.bool b,V,_,h=>by simpa [afn] using h
 |.int k i,V,_,h=>by simpa [afn] using h
 |.str s,V,_,h=>by simpa [afn] using h
 |.ptr b o,V,hu,h=>by simp only[AV.under,GE] at hu;simp only[afn] at h |-;exact⟨hu,h.2⟩
 |.afB,V,_,h=>by simpa [afn] using h
 |.slice b o l c,V,hu,h=>by simp only[AV.under,GE] at hu;simp only[afn] at h |-;exact⟨hu,h.2⟩
 |.qF,V,_,h=>by simpa [afn] using h
 |.map b,V,hu,h=>by simp only[AV.under,GE] at hu;simp only[afn] at h |-;exact⟨hu,h.2⟩
 |.yield b,V,hu,h=>by simp only[AV.under,GE] at hu;simp only[afn] at h |-;exact⟨hu,h.2⟩
 |.afL,V,_,h=>by simpa [afn] using h
 |.func f X,V,hu,h=>by simp only[AV.under] at hu;simp only[afn] at h |-;obtain⟨Z,rfl,h⟩:=h;exact⟨Z,rfl,afo.low hu h⟩
 |.nilFunc,V,_,h=>by simpa [afn] using h
 |.iface t v,V,hu,h=>by simp only[AV.under] at hu;simp only[afn] at h |-;obtain⟨U,rfl,h⟩:=h;exact⟨U,rfl,afn.low hu h⟩
 |.nilIface,V,_,h=>by simpa [afn] using h
 |.agg X,V,hu,h=>by simp only[AV.under] at hu;simp only[afn] at h |-;obtain⟨Z,rfl,h⟩:=h;exact⟨Z,rfl,afo.low hu h⟩
 |.tuple X,V,hu,h=>by simp only[AV.under] at hu;simp only[afn] at h |-;obtain⟨Z,rfl,h⟩:=h;exact⟨Z,rfl,afo.low hu h⟩
theorem afo.low{μ:Nat->Place}{n n' :Nat}:∀{vs Us},AV.afu n vs=true->afo μ n' vs Us->afo μ n vs Us
 | [],Us,_,h=>by simpa [afo] using h
 |v::vs,Us,hu,h=>by simp only[AV.afu,Es] at hu;simp only[afo] at h |-;obtain⟨U,Z,rfl,X,V⟩:=h;exact⟨U,Z,rfl,afn.low hu.1 X,afo.low hu.2 V⟩
end
theorem kO.ahe{f:FuncId}{H:Mem}(J:v.closed=true)(I:H.length=m.length)(hc:∀(b:Nat) s,H[b]? =some s->m[b]? =some s\/∃o es U,s=.cells o es U/\AV.afu m.length U=true)(h:kO P f args m v (H++new)):kO P f args m v H:=by
 refine⟨h.1,fun base μ w Vs hG hH hV=>(h.2 base μ w Vs hG hH hV).mono ?_⟩;rintro e w' ⟨V,v',m',μ',rfl,q1,q2,q3,rfl,rfl⟩;have X:∀{b:Nat}{s:afq},H[b]? =some s->(H++new)[b]? =some s:=fun {b s} Z=>gU Z _
 have K:∀{b:Nat},eG H b->eG (H++new) b:=fun ⟨s,S,F⟩=>⟨s,X S,F⟩
 refine⟨V,_,H,μ',rfl,afn.closed J q1,⟨q2.afx,fun b s Z=>?_,fun b C B Z u =>q2.sep b C B (K Z) (X u)⟩,
  ⟨by rw[I];exact L9 _,q3.agree,q3.os,q3.tape,q3.output,q3.size,q3.frame,fun b Z=>q3.owner b (K Z),q3.drawn⟩,rfl,rfl⟩
 rw[I];rcases hc b s Z with S | ⟨o,es,U,rfl,Y⟩
 .exact(hH.slot b s S).cut (q2.slot b s (X Z))
 .have:=q2.slot _ _ (X Z)
  simp only[afD] at this |-;obtain⟨M,e,fr,k1,k2,k3,k4,k5⟩:=this;refine⟨M,e,fr,k1,k2,k3,fun j v G=>?_,k5⟩;obtain⟨V',L,r'⟩:=k4 j v G;exact⟨V',L,afn.low (yC Y j v G) r'⟩
end Go.Eng
