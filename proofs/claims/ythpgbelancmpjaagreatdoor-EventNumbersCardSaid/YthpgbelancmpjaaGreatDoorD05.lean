/- See D38. -/
import Derived.Test.YthpgbelancmpjaaGreatDoorD04
import Derived.Maps.RangeRun
set_option linter.all false
namespace Go.Eng
theorem XM:iZ []=[]:=rfl
theorem rU(n:Int)(l:List Int):iZ (n::l)=.int .i64 n::iZ l:=rfl
theorem Tj(l:List Int):(iZ l).length=l.length:=by simp[iZ]
theorem Ce(l r:List Int):iZ (l++r)=iZ l++iZ r:=by simp[iZ]
theorem Wn(l:List Int)(i:Nat):(iZ l)[i]? =(l[i]?).map fun n=>.int .i64 n:=by simp[iZ]
theorem Rh(l:List Int)(i:Nat)(h:i<(iZ l).length):(iZ l)[i]=.int .i64 (l[i]'(by simpa [iZ] using h)):=by simp[iZ]
theorem WX(l:List Int)(i:Nat):(iZ l).take i=iZ (l.take i):=by simp[iZ]
theorem WW(l:List Int)(i:Nat):(iZ l).drop i=iZ (l.drop i):=by simp[iZ]
theorem XL(l:List Int):(iZ l).all AV.afi=true:=by simp[iZ,AV.afi]
theorem G3(m:Nat)(l:List Int):AV.afy m (iZ l)=[]:=by
 induction l with
 |nil=>rfl
 |cons x l ih=>simp[rU,AV.afy,AV.refs,ih]
theorem CR(ρ:Nat->Option Nat)(l:List Int):AV.afz ρ (iZ l)=iZ l:=by
 induction l with
 |nil=>rfl
 |cons x l ih=>simp[rU,AV.afz,AV.ren,ih]
theorem Mo(m:Nat)(l:List Int):AV.afp m (iZ l)=true:=by
 induction l with
 |nil=>rfl
 |cons x l ih=>simp[rU,AV.afp,AV.under,ih]
theorem EV(ok:Nat->Bool)(l:List Int):AV.afn ok (iZ l)=true:=by
 induction l with
 |nil=>rfl
 |cons x l ih=>simp[rU,AV.afn,AV.adM,ih]
theorem L6(m:Nat)(o:Bool)(e:Nat)(l:List Int):afl.refs m (.cells o e (iZ l))=[]:=by simp[afl.refs,G3]
theorem OA(ρ:Nat->Option Nat)(o:Bool)(e:Nat)(l:List Int):afl.ren ρ (.cells o e (iZ l))=.cells o e (iZ l):=by simp[afl.ren,CR]
theorem D9(ok:Nat->Bool)(o:Bool)(e:Nat)(l:List Int):afl.adM ok (.cells o e (iZ l))=true:=by simp[afl.adM,EV]
theorem O8(l:List Int)(i:Nat)(n:Int)(h:i<l.length):(iZ l).take i++.int .i64 n::(iZ l).drop (i+1)=iZ (l.set i n):=by rw[WX,WW,<-rU,<-Ce,List.set_eq_take_append_cons_drop,if_pos h]
theorem Tk(l:Nat):jU [.int .i64 0] l=iZ (List.replicate l 0):=by
 induction l with
 |zero=>rfl
 |succ l ih=>rw[jU,ih,List.replicate_succ,rU];rfl
theorem YD(l:List Nat):iN .i64 l=iZ (l.map fun n:Nat=>(n:Int)):=by simp[iN,iZ]
attribute [simp] XM Tj Wn Rh G3 CR Mo EV L6 OA D9 XL
def yZ:List AV->Option (List Int)
 | []=>some []
 |.int .i64 n::l=>match yZ l with
  |some r=>some (n::r)
  |none=>none
 |_::_=>none
theorem Tp(l:List Int):yZ (iZ l)=some l:=by
 induction l with
 |nil=>rfl
 |cons x l ih=>rw[rU,yZ,ih]
theorem Cf:∀{l:List AV} {r:List Int},yZ l=some r->l=iZ r
 | [],r,h=>by cases h;rfl
 |v::l,r,h=>by
  cases v<;>first | (unfold yZ at h;cases h;done) | skip
  rename_i Z n;cases Z <;>first | (unfold yZ at h;cases h;done) | skip
  unfold yZ at h;split at h
  .rename_i V X
   cases h;rw[rU,Cf X]
  .cases h
def Yv(M:Mem)(x:AV)(A:List Int):Prop:=∃b o Z,x=.slice b 0 A.length none/\M[b]? =some (.cells o 1 Z)/\Z.take A.length=iZ A
def zi(M:Mem):AV->Option (List Int)
 |.slice b 0 n none=>match M[b]? with
  |some (.cells _ 1 cs)=>if n<=cs.length then yZ (cs.take n) else none
  |_=>none
 |_=>none
theorem OJ{M:Mem}{x:AV}{A:List Int}(h:zi M x=some A):Yv M x A:=by
 unfold zi at h;split at h
 .rename_i b n
  split at h
  .rename_i o X V
   split at h
   .rename_i S
    have Z:=Cf h;have U:n=A.length:=by have:=congrArg List.length Z;simp at this;omega
    subst U;exact⟨b,o,X,rfl,V,Z⟩
   .cases h
  .cases h
 .cases h
variable{b:Nat}{cs:List AV}
theorem CY{M:Mem}{n:Nat}{ow:Bool}{A:List Int}(h:M[b]? =some (.cells ow 1 cs))(H:n<=cs.length)(I:cs.take n=iZ A):zi M (.slice b 0 n none)=some A:=by simp only[zi,h];rw[if_pos H,I,Tp]
theorem afX.ah2{ks:List Nat}{M:Mem}{o:Bool}{A:List Int}(h:M[b]? =some (.cells o 1 cs))(H:cs.take A.length=iZ A):afX ks M b (.cells false 1 (iZ A)):=by
 refine⟨Mo _ _,o,cs,h,fun j v Z=>?_⟩;have X:j<A.length:=by have:=gL Z;simpa using this
 have:cs[j]? =(iZ A)[j]? :=by rw[<-H,QQQ X]
 rw[this,Z];rw[Wn] at Z;simp only[Y2] at Z;obtain⟨n,_,rfl⟩:=Z;simp[AV.ren]
section
variable {P:Program}{f:FuncId}{A B:List Int}{M:Mem}{x y:AV}
theorem kO.ahr{rest:List AV}{v:AV}{new:Mem}(hr:AV.afm rest=true)(H:new.all (fun s=>s.own||match s with | .qK=>true | _=>false)=true)(h:kO P f (.slice 0 0 A.length none::rest) [.cells false 1 (iZ A)] v (.cells false 1 (iZ A)::new))(I:Yv M x A):
  ∃b,x=.slice b 0 A.length none/\kO P f (x::rest) M (v.ren (fa [b] M.length)) (M++new.map (afl.ren (fa [b] M.length))):=by
 obtain⟨b,o,cs,rfl,X,V⟩:=I;refine⟨b,rfl,?_⟩;have U:=gL X;have:=kO.frame (M:=M) [b] (m:=[.cells false 1 (iZ A)]) rfl (by simpa using U) (by simp only[AV.afp,AV.under,bj hr];rfl) (fun i s Z=>by
  cases i with
  |zero=>simp at Z;subst Z;exact .ah2 X V
  |succ i=>simp at Z) H h
 simpa [AV.afz,AV.ren,fa,aL hr] using this
end
end Go.Eng
namespace Go.Eng
def fv(H:List Nat)(j:Nat):Bool:=(List.range j).all fun i=>bef H i j
def bB(H:Bool)(I:List Nat)(j:Nat)(r:Rec):Bool:=
 decide (r.nx.length=r.mem.length)&&r.v.adM (fun b=>decide (b<r.nx.length))&&
  (if H then fv I j&&r.wr.all (fun b=>fI r.tm b&&(match r.nx[b]? with | some s=>s.adM (fun b=>decide (b<r.nx.length)) | none=>true)) else r.wr.isEmpty)
def bt(H:List Nat):Nat->List Rec->Bool
 |_,[]=>true
 |j,[r]=>bB true H j r
 |j,r::r2::rest=>bB false H j r&&bt H (j+1) (r2::rest)
def bD(T:TypeId->Option TyI)(O:y9)(N m0:Nat)(ops:Array Oper)(H:List Nat)(s:XS):Option XS:=
 match nE T O N ops H 0 ops.toList s.env s.mem [] with
 |none=>none
 |some (R,env,mem)=>
  if bt H 0 R then some ⟨env,mem,s.afD||R.any fun r=>r.wr.any fun b=>decide (b<m0)⟩ else none
def pS(T:TypeId->Option TyI)(O:y9)(N m0:Nat)(ops:Array Oper)(s:XS):Option XS:=aG T O N m0 ops s
theorem jz:∀{j0:Nat} {R:List Rec} {f:Nat×Rec},f∈bw j0 R->j0<=f.1/\f.1<j0+R.length
 |_,[],f,h=>by simp[bw] at h
 |j0,r::R,f,h=>by
  simp only[bw,List.mem_cons] at h;rcases h with rfl | h
  .simp
  .have:=jz h
   simp only[List.length_cons];omega
structure agx (bs:List Nat)(n:Nat)(f:Nat×Rec):Prop where
 len:f.2.nx.length=f.2.mem.length
 refs:f.2.v.adM (fun b=>decide (b<f.2.nx.length))=true
 wr:f.2.wr=[]\/(f.1+1=n/\(∀i,i<f.1->bef bs i f.1=true)/\f.2.wr.all (fun b=>fI f.2.tm b&&(match f.2.nx[b]? with | some s=>s.adM (fun b=>decide (b<f.2.nx.length)) | none=>true))=true)
theorem wI{H:List Nat}:∀{j0:Nat} {R:List Rec},bt H j0 R=true->∀f∈bw j0 R,agx H (j0+R.length) f
 |_,[],_,f,hf=>by simp[bw] at hf
 |j0,[r],h,f,hf=>by simp only[bw,lM] at hf;subst hf;simp only[bt,bB,C0,Es,if_true] at h;obtain⟨⟨Z,X⟩,h3,V⟩:=h;exact⟨Z,X,.inr ⟨rfl,fun i U=>List.all_eq_true.1 h3 i (List.mem_range.2 U),V⟩⟩
 |j0,r::r2::rest,h,f,hf=>by
  simp only[bt,C0] at h;rw[bw,List.mem_cons] at hf;rcases hf with rfl | hf
  .have Z:=h.1
   simp only[bB,C0,Es,Bool.false_eq_true,if_false,List.isEmpty_iff] at Z;obtain⟨⟨Z,X⟩,h3⟩:=Z;exact⟨Z,X,.inl h3⟩
  .have:=wI h.2 f hf
   have e:j0+1+(r2::rest).length=j0+(r::r2::rest).length:=by simp only[List.length_cons];omega
   rw[e] at this;exact this
variable{bs:List Nat}
theorem On{n top:Nat}{un:List (Nat×Rec)}(h:∀f∈un,agx bs n f):jo top un=fun b=>decide (b<top):=by
 funext b;unfold jo;have:(un.all fun f=> !decide (f.2.mem.length<=b/\b<f.2.nx.length))=true:=List.all_eq_true.2 fun f Z=>by have:=(h f Z).len;simp;omega
 rw[this,Bool.and_true]
theorem DR{R:List Rec}(h:bt bs 0 R=true){f:Nat×Rec}(hf:f∈bw 0 R):jc bs (bw 0 R) f.1 f.2=true:=by
 have K:=wI h;have X:=K f hf;have F:=jz hf;unfold jc;have V:∀g∈(bw 0 R).filter (fun g=>decide (g.1<f.1)&& !bef bs g.1 f.1),agx bs (0+R.length) g:=fun g U=>K g ((List.mem_filter.1 U).1)
 simp only[On V,C0];have G:f.2.nx.drop f.2.mem.length=[]:=ZN (by rw[X.len];exact L9 _);refine⟨⟨⟨⟨?_,X.refs⟩,?_⟩,by rw[G];rfl⟩,?_⟩
 .rcases X.wr with Z | ⟨_,_,Z⟩
  .rw[Z];rfl
  .refine List.all_eq_true.2 fun b N=>?_
   have:=List.all_eq_true.1 Z b N;simp only[C0] at this;exact this.1
 .rcases X.wr with Z | ⟨_,_,Z⟩
  .rw[Z];rfl
  .refine List.all_eq_true.2 fun b N=>?_
   have:=List.all_eq_true.1 Z b N;simp only[C0] at this;exact this.2
 .refine List.all_eq_true.2 fun g U=>?_
  have S:=V g U;have O:=List.mem_filter.1 U;simp only[C0,Es,Bool.not_eq_true'] at O;have M:g.2.wr=[]:=by
   rcases S.wr with Z | ⟨Z,_,_⟩
   .exact Z
   .have:=jz ((List.mem_filter.1 U).1)
    omega
  have L:f.2.wr=[]:=by
   rcases X.wr with Z | ⟨_,Z,_⟩
   .exact Z
   .rw[Z g.1 O.2.1] at O
    exact absurd O.2.2 (by simp)
  rw[M,L,S.len,Nat.sub_self,List.take_zero];rfl
variable{ops:Array Oper}
theorem an{T:TypeId->Option TyI}{O:y9}{N m0:Nat}(H:dO ops.toList=bs)(s:XS):
  aG T O N m0 ops s=match bD T O N m0 ops bs s with
   |some s' =>some s'
   |none=>pS T O N m0 ops s:=by
 cases h:bD T O N m0 ops bs s with
 |none=>rfl
 |some s' =>
  simp only;unfold bD at h;unfold aG;simp only;rw[H];split at h
  .cases h
  .rename_i R env mem Z
   split at h
   .rename_i X
    cases h;rw[Z];simp only;rw[if_pos (List.all_eq_true.2 fun f V=>DR X V)]
   .cases h
def ca:Code->List (Array Oper)
 |.region _ ops true=>[ops]
 |.seq a b=>ca a++ca b
 |.cond _ a b=>ca a++ca b
 |.block _ b=>ca b
 |.loop b=>ca b
 |.rangeFunc _ _ a b=>ca a++ca b
 |_=>[]
def aI(f:Func):List (Array Oper):=match f.body with
 |some c=>ca c
 |none=>[]
variable{f:Func}{l:List Nat}
theorem kM(h:aI f=[ops])(H:(aI f).map (fun o=>dO o.toList)=[l]):dO ops.toList=l:=by rw[h] at H;simpa using H
theorem dx{j:Nat}(h:aI f=[ops])(H:(aI f).map (fun o=>dO o.toList)=[l])(I:fv l j=true):dO ops.toList=l/\fv l j=true:=⟨kM h H,I⟩
theorem Ca{o o' :Array Oper}{l' :List Nat}(h:aI f=[o,o'])(H:(aI f).map (fun o=>dO o.toList)=[l,l']):dO o.toList=l/\dO o'.toList=l' :=by rw[h] at H;simpa using H
theorem cG{os:List (Array Oper)}{ls:List (List Nat)}(h:aI f=os)(H:(aI f).map (fun o=>dO o.toList)=ls):os.map (fun o=>dO o.toList)=ls:=by rw[<-h];exact H
end Go.Eng
namespace Go.Eng
open Go.ChangeMaps (setBlock)
variable{w' :World}
section
variable {P:Program}{T:TypeId->Option TyI}{μ:Nat->Place}{mem:Mem}{base:Nat}{w:World}
theorem ze(H:afv base μ mem w){r:Nat}{m s seen c}(hr:w.heap[r]? =some (.mapIter m s seen c)){b:Nat}{s' :afl}(I:mem[b]? =some s')(hs:s' ≠ .qK):(μ b).blk≠r:=by
 intro e;have:=H.slot b s' I;cases s' with
 |qK=>exact hs rfl
 |cells own es cs=>simp only[afx] at this;obtain⟨_,_,_,Z,_⟩:=this;rw[e,hr] at Z;cases Z
 |map es=>simp only[afx] at this;obtain⟨_,_,Z,_⟩:=this;rw[e,hr] at Z;cases Z
 |afS es=>simp only[afx] at this;obtain⟨_,_,Z,_⟩:=this;rw[e,hr] at Z;cases Z
 |loop r=>simp only[afx] at this;obtain⟨_,Z,_⟩:=this;rw[e,hr] at Z;cases Z
theorem afv.ahs{r:Nat}{m s seen c}{o:Obj}(H:afv base μ mem w)(hr:w.heap[r]? =some (.mapIter m s seen c)):afv base μ mem (setBlock w r o):=by
 refine⟨by simpa [setBlock] using H.afr,fun b Z X=>?_,H.sep⟩;by_cases V:Z =.qK
 .subst V;trivial
 .refine(H.slot b Z X).mono (L9 _) (fun _ _=>rfl) fun _=>?_
  exact ZX (Ne.symm (ze H hr X V))
theorem Step.ahs{m0:Nat}{μ' :Nat->Place}{H :Mem}{r:Nat}{o:Obj}(h:Step m0 μ mem w μ' H w')(hr:w.heap.size<=r):Step m0 μ mem w μ' H (setBlock w' r o):=h.shut hr
theorem MOk.ahs{h0 r:Nat}{H:List Deferred}{m s seen c}{o:Obj}(h:MOk P base h0 w H)(hr:w.heap[r]? =some (.mapIter m s seen c))(I:base<=r):MOk P base h0 (setBlock w r o) H:=by
 refine⟨⟨h.agv.below,?_⟩,h.afr,by simpa [setBlock] using h.le,fun d X=>?_,h.nodup⟩
 .have:=h.agv.tab
  unfold Lib.TabIs at this |-;rw[<-this];refine PB fun k S=>ZX ?_
  have:=h.agv.below;omega
 .obtain⟨q,e,V,Z⟩:=h.each d X
  refine⟨q,e,V,?_⟩;have U:r≠q:=by rintro rfl;rw[hr] at Z;cases Z
  show(w.heap.setIfInBounds r o)[q]? =_
  rw[ZX U,Z]
theorem Ot(hT:dN P T){N:Nat}{ops:Array Oper}{Q:Exit->Act->World->Prop}{rest:List Oper}:∀{l:List Oper}{H I :St}{μ:Nat->Place} {w:World} {a:Act} {m0:Nat}{μ0:Nat->Place} {mem0:Mem} {w0:World} {h0:Nat} {J:Option Nat},
  ni P T N ops l H I ->afv base μ H.mem w->afO μ H.mem.length H.env a.tmps->a.tmps.size=N->MOk P base h0 w a.defers->m0<=H.mem.length->Step m0 μ0 mem0 w0 μ H.mem w->
  (∀a' w' μ',afv base μ' I.mem w' ->afO μ' I.mem.length I.env a'.tmps->a'.tmps.size=N->MOk P base h0 w' a'.defers->m0<=I.mem.length->Step m0 μ0 mem0 w0 μ' I.mem w' ->wpListIn (Fr J) 0 P ops Q rest a' w')->
  wpListIn (Fr J) 0 P ops Q (l++rest) a w
 | [],H,I,μ,w,a,m0,μ0,mem0,w0,h0,J,h,hH,hR,hN,hdf,hm,hS,hQ=>by simp only[ni] at h;subst h;exact hQ a w μ hH hR hN hdf hm hS
 |o::os,H,I,μ,w,a,m0,μ0,mem0,w0,h0,J,h,hH,hR,hN,hdf,hm,hS,hQ=>by
  obtain⟨b,R,X,O,M⟩:=h;rw[List.cons_append];refine wpListIn_step fun K U=>?_
  rw[pY hR R];cases b with
  |false=>
   simp only[Bool.false_eq_true,if_false];refine⟨fun _ _=>trivial,?_⟩;refine U _ _ (Ot hT (O rfl) hH (hR.af9 hN X (by simp[afj,afk,undef])) (by rw[fV];exact hN) (by rw[gp];exact hdf) hm hS hQ)
  |true=>
   simp only[if_true];obtain⟨v,S,Z,L⟩:=M rfl;refine sj hT hdf.agv hH hR hN X Z fun V w' μ' q1 q2 q3 q4=>U _ _ ?_
   exact Ot hT L q2 q3 (by rw[fV];exact hN) (by rw[gp];exact hdf.step hH q4) (QQJ hm q4.len) (hS.trans (q4.mono hm)) hQ
theorem Ay(a:Act)(d:Nat)(V:Value)(h:d<a.tmps.size):(a.put (some d) V).eval (.tmp d)=V:=by simp[Act.put,Act.eval,h]
variable {tp:Bool}{N m0:Nat}{Q:Exit->St->Prop}
theorem yk{F:Option Nat}{ops:Array Oper}{Q:Exit->Act->World->Prop}{o:Oper}{rest:List Oper}{a:Act}{w:World}{V:Value}(hg:o.guard=none)(H:∀c,o.op≠ .defer c)(I:(execOp a.eval o).run P w=.ok (.value V) w')(h:wpListIn (Fr F) 0 P ops Q rest (a.put o.dst V) w'):wpListIn (Fr F) 0 P ops Q (o::rest) a w:=by
 refine wpListIn_plain hg fun K Z=>⟨fun _ _=>trivial,?_⟩
 rw[Oper.semAt_eq _ _ _ H,I];exact Z _ _ h
theorem KT(hT:dN P T){idB out nx idS idA:Nat}{aaW abK abj:Array Oper}{pre aav:List Oper}{oR oN oX oE:Oper}{Y:Code}{J H more W:Nat}{tR tk te:TypeId}{iR:TyI}{mOp:Operand}(hB:aaW.toList=pre++[oR])(r1:oR.op=.range tR mOp)(r2:oR.dst=some J)(r3:oR.guard=none)(hTR:T tR=some iR)(hdR:iR.desc=.map tk te)(hS:abK.toList=[oN,oX])(n1:oN.op=.next (.tmp J) false)(n2:oN.dst=some H)(n3:oN.guard=none)(x1:oX.op=.extract (.tmp H) 0)(x2:oX.dst=some more)(x3:oX.guard=none)(hA:abj.toList=oE::aav)(e1:oE.op=.entry (.tmp J))(e2:oE.dst=some W)(e3:oE.guard=none)(S':J<N/\H<N/\more<N/\W<N)(I':H≠J/\more≠J){st st1:St}{b:Nat}{es:List (AV×AV)}(Zx:ni P T N aaW pre st st1)(hmo:get st1.env mOp=.map b)(hb:st1.mem[b]? =some (.afS es))(I:List Nat->St->Prop)(h0:I [] ⟨(J,.ptr st1.mem.length 0)::st1.env,st1.mem++[.qK]⟩)(hI:∀seen s,I seen s->ae s.env J=.ptr st1.mem.length 0/\s.mem[st1.mem.length]? =some .qK/\s.mem[b]? =some (.afS es))(acz:∀seen s,I seen s->(∀j,j<es.length->j∈seen)->Q .normal ⟨(more,.bool false)::(H,.tuple [.bool false])::s.env,s.mem⟩)(aaN:∀seen s j k v,I seen s->es[j]? =some (k,v)->j∉seen->∃s3,ni P T N abj aav ⟨(W,.tuple [k,v])::(more,.bool true)::(H,.tuple [.bool true,k,v])::s.env,s.mem⟩ s3/\
   AWP P tp N (st1.mem.length+1) Y s3 fun e s4=>(e=.normal\/e=.exit nx)/\∃s5,age (st1.mem.length+1) s4 s5/\I (seen++[j]) s5):
  AWP P tp N m0 (.seq (.region idB aaW false) (.block out (.loop (.seq (.region idS abK false) (.seq (.cond (.tmp more) .skip (.exit out)) (.block nx (.seq (.region idA abj false) Y))))))) st Q:=by
 obtain⟨b1,b2,b3,b4⟩:=S';intro ro h0' base μ w a hro hH hR hN hdf hm;refine wpIn_seq (wpIn_region_list ?_);rw[hB];refine Ot hT Zx hH hR hN hdf hm (.refl hm) fun a1 w1 μ1 c1 c2 c3 c4 c5 c6=>?_
 have R:=bQ c2 mOp;rw[hmo] at R;simp only[afj] at R;obtain⟨Z4,R⟩:=R;have hsl:=c1.slot b _ hb;simp only[afx] at hsl;obtain⟨Z,IR,k1,⟨hck,M⟩,k3,k4⟩:=hsl;subst hck;have hd:=(hT tR iR hTR).desc;rw[hdR] at hd;have m:=run_range_map (P:=P) w1 tR tk te (μ1 b).blk Z Z.size hd k1;refine yk r3 (by rw[r1];intro c e;cases e) (V:=.pointer (some ⟨w1.heap.size,0,none⟩)) (w' :=w1.alloc (.mapIter (some (μ1 b).blk) Z.size #[] Z.size)) (by simp only[execOp,r1,R];simp[m]) (wpListIn_nil ?_);rw[r2];show Code.wpIn (Fr ro) 0 P _ _ _ _
 refine wpIn_block ?_;obtain⟨p1,p2⟩:=c1.push (.mapIter (some (μ1 b).blk) Z.size #[] Z.size) .qK ⟨w1.heap.size,0,0,0⟩ rfl trivial;have hrw:w.heap.size<=w1.heap.size:=c6.size;have hrb:base<=w1.heap.size:=c1.afr;obtain⟨X,hmb⟩:=xE ((μ1 b).blk);rw[<-hmb] at k1 p1 p2 |-;have adW:X<w1.heap.size:=(Nm.1 k1).1;obtain⟨r,hr⟩:=xE w1.heap.size;have ZB:∀x∈Z.toList,x.born<Z.size:=by
  intro x D;obtain⟨j,hj⟩:=QXa D;have U :Z[j]? =some x:=by simpa using hj
  rw[M j x U];exact(Nm.1 U).1
 have hnd:(Z.toList.map (·.born)).Nodup:=by
  have e:Z.toList.map (·.born)=List.range Z.size:=by
   refine List.ext_getElem? fun i=>?_
   rw[Zo,Array.getElem?_toList];cases hi:Z[i]? with
   |none=>
    have:=Array.getElem?_eq_none_iff.1 hi;simp[this]
   |some x=>
    have:=(Nm.1 hi).1;simp[M i x hi,this]
  rw[e];exact List.nodup_range
 refine zo (σ:=Array Nat) (fun seen L w' =>∃T' μ',afv base μ' T'.mem w' /\afO μ' T'.mem.length T'.env L.tmps/\L.tmps.size=N/\MOk P base h0' w' L.defers/\st1.mem.length<T'.mem.length/\
   Step m0 μ st.mem w μ' T'.mem w' /\μ' st1.mem.length=⟨r,0,0,0⟩/\(μ' b).blk=X/\w'.heap[r]? =some (.mapIter (some X) Z.size seen Z.size)/\w'.heap[X]? =some (.map Z Z.size)/\I seen.toList T')
  (fun seen=>(leftOf Z seen).size) ?_ (s:= #[]) ⟨_,_,p1,?_,?_,?_,?_,c6.trans (p2.mono c5),?_,?_,?_,?_,h0⟩
 .rintro seen L w' ⟨T',μ',d1,d2,d3,d4,d5,d6,d7,d8,d9,d10,d11⟩
  obtain⟨i1,i2,i3⟩:=hI _ _ d11;have C:L.eval (.tmp J)=.pointer (some ⟨r,0,none⟩):=by have:=d2 J;rw[i1] at this;simp only[afj,d7] at this;exact this.2
  have hm' :m0<=T'.mem.length:=d6.len;refine wpIn_seq (wpIn_region_list ?_);rw[hS];rcases run_next_at (P:=P) w' oN.type r X Z.size Z.size seen Z Z.size d9 d10 ZB (L9 _) with⟨l0,m⟩ | ⟨E,hE,w2,O,m⟩
  .refine yk n3 (by rw[n1];intro c e;cases e) (V:=.tuple #[.bool false]) (w' :=w') (by simp only[execOp,n1,C];simp[m]) ?_
   rw[n2];refine yk x3 (by rw[x1];intro c e;cases e) (V:=.bool false) (w' :=w') (by simp only[execOp,x1,Ay L H _ (by omega)];simp[Instr.extract]) (wpListIn_nil ?_);rw[x2];show Code.wpIn (Fr ro) 0 P _ _ _ _
   refine wpIn_seq (wpIn_cond_false (Ay _ _ _ (by rw[fV];omega)) (wpIn_exit ?_));simp only[Exit.then,Exit.inBlock,if_true];refine⟨⟨(more,.bool false)::(H,.tuple [.bool false])::T'.env,T'.mem⟩,μ',d1,?_,by rw[fV,fV];exact d3,by rw[gp,gp];exact d4,hm',d6,acz _ _ d11 fun j hj=>?_⟩
   .exact afO.put (afO.put d2 (by omega) (by simp[afj,afk])) (by rw[fV];omega) (by simp[afj])
   .have FS:j<Z.size:=by omega
    have:=all_seen Z seen l0 Z[j] (by simp);rw[M j _ (by simp[FS])] at this;simpa using this
  .obtain⟨hem,B⟩:=mem_left hE
   obtain⟨j,hj⟩:=QXa hem;have U :Z[j]? =some E:=by simpa using hj
   have hbj:=M j E U;have hjl:j<es.length:=by have:=(Nm.1 U).1;omega
   have adi :=d1.slot b _ i3;simp only[afx] at adi;obtain⟨Zk,Zf,g1,_,_,g4⟩:=adi;rw[d8,d10] at g1;cases g1;obtain⟨E',Zu,hk,hv⟩:=g4 j es[j] (by simp[hjl]);rw[U] at Zu;cases Zu;have hH2:afv base μ' T'.mem w2:=by rcases O with rfl | rfl<;>first | exact d1 | exact d1.drew
   have hS2:Step m0 μ st.mem w μ' T'.mem w2:=by rcases O with rfl | rfl<;>first | exact d6 | exact d6.trans ((Step.drew (L9 _)).mono hm')
   have hM2:MOk P base h0' w2 L.defers:=by rcases O with rfl | rfl<;>first | exact d4 | exact d4.step d1 (Step.drew (L9 _))
   have u:w2.heap[r]? =some (.mapIter (some X) Z.size seen Z.size):=by rcases O with rfl | rfl<;>exact d9
   have adX:w2.heap[X]? =some (.map Z Z.size):=by rcases O with rfl | rfl<;>exact d10
   have K:=hH2.ahs (o:=.mapIter (some X) Z.size (seen.push E.born) Z.size) u;have hS3:=hS2.ahs (r:=r) (o:=.mapIter (some X) Z.size (seen.push E.born) Z.size) (by omega);have hM3:=hM2.ahs (o:=.mapIter (some X) Z.size (seen.push E.born) Z.size) u (by omega);have hrl:r<w2.heap.size:=(Nm.1 u).1;have G:(setBlock w2 r (.mapIter (some X) Z.size (seen.push E.born) Z.size)).heap[r]? =some (.mapIter (some X) Z.size (seen.push E.born) Z.size):=by simp[setBlock,hrl]
   have F:(setBlock w2 r (.mapIter (some X) Z.size (seen.push E.born) Z.size)).heap[X]? =some (.map Z Z.size):=by rw[<-adX];exact ZX (by omega)
   obtain⟨w3,hw3⟩:=xE (setBlock w2 r (.mapIter (some X) Z.size (seen.push E.born) Z.size));rw[<-hw3] at K hS3 hM3 G F m;refine yk n3 (by rw[n1];intro c e;cases e) (V:=.tuple #[.bool true,E.key,E.val]) (w' :=w3) (by simp only[execOp,n1,C];simp[m]) ?_;rw[n2];refine yk x3 (by rw[x1];intro c e;cases e) (V:=.bool true) (w' :=w3) (by simp only[execOp,x1,Ay L H _ (by omega)];simp[Instr.extract]) (wpListIn_nil ?_);rw[x2];show Code.wpIn (Fr ro) 0 P _ _ _ _
   refine wpIn_seq (wpIn_cond_true (Ay _ _ _ (by rw[fV];omega)) (wpIn_skip ?_));show Code.wpIn (Fr ro) 0 P _ _ _ _
   refine wpIn_block (wpIn_seq (wpIn_region_list ?_));rw[hA];have hev:((L.put (some H) (.tuple #[.bool true,E.key,E.val])).put (some more) (.bool true)).eval (.tmp J)=.pointer (some ⟨r,0,none⟩):=by rw[<-C];simp[Act.put,Act.eval,ZX I'.1,ZX I'.2]
   have hen:=run_entry_at (P:=P) w3 r X Z.size seen Z Z.size E G F hem hnd;refine yk e3 (by rw[e1];intro c e;cases e) (V:=.tuple #[E.key,E.val]) (w' :=w3) (by simp only[execOp,e1,hev];simp[hen]) ?_;rw[e2];have hkv:es[j]? =some (es[j].1,es[j].2):=by simp[hjl]
   have hnj:j∉seen.toList:=by
    intro aan;rw[hbj] at B;have:seen.contains j=true:=by simpa using aan
    rw[this] at B;cases B
   obtain⟨s3,D',acX⟩:=aaN _ _ j _ _ d11 hkv hnj;have hT1:=afO.put d2 (d:=H) (by omega) (V:=.tuple #[.bool true,E.key,E.val]) (v:=.tuple [.bool true,es[j].1,es[j].2]) (by simp only[afj];exact⟨_,rfl,bV.2 ⟨by simp[afj],bV.2 ⟨hk,bV.2 ⟨hv,by simp[afk]⟩⟩⟩⟩);have hT2:=afO.put hT1 (d:=more) (by rw[fV];omega) (V:=.bool true) (v:=.bool true) (by simp[afj]);have hT3:=afO.put hT2 (d:=W) (by rw[fV,fV];omega) (V:=.tuple #[E.key,E.val]) (v:=.tuple [es[j].1,es[j].2]) (by simp only[afj];exact⟨_,rfl,bV.2 ⟨hk,bV.2 ⟨hv,by simp[afk]⟩⟩⟩);have F':st1.mem.length+1<=T'.mem.length:=by omega
   refine wQ (m0:=st1.mem.length+1) (μ0:=μ') (mem0:=T'.mem) (w0:=w3) hT D' K hT3 (by rw[fV,fV,fV];exact d3) (by rw[gp,gp,gp];exact hM3) F' (.refl F') fun a4 w4 μ4 f1 f2 f3 f4 f5 f6=>?_
   show Code.wpIn (Fr ro) 0 P _ _ _ _
   refine wpIn_mono (acX ro h0' base μ4 w4 a4 hro f1 f2 f3 f4 f5) ?_;rintro e a5 w5 ⟨s4,μ5,y1,y2,y3,y4,y5,y6,hee,s5,hwk,hI5⟩;obtain⟨μ6,z1,z2,z3,z4⟩:=hwk base μ5 w5 a5.tmps y1 y2 y5;have S:=(f6.trans y6).trans z4;have ZA:b<st1.mem.length:=gL hb;have fin:∃s',(∃T' μ',afv base μ' T'.mem w5/\afO μ' T'.mem.length T'.env a5.tmps/\a5.tmps.size=N/\MOk P base h0' w5 a5.defers/\st1.mem.length<T'.mem.length/\
     Step m0 μ st.mem w μ' T'.mem w5/\μ' st1.mem.length=⟨r,0,0,0⟩/\(μ' b).blk=X/\w5.heap[r]? =some (.mapIter (some X) Z.size s' Z.size)/\w5.heap[X]? =some (.map Z Z.size)/\I s'.toList T')/\
     (leftOf Z s').size<(leftOf Z seen).size:=by
    refine⟨seen.push E.born,⟨s5,μ6,z1,z2,y3,y4,z3,hS3.trans (S.mono (by have:=c5;omega)),?_,?_,?_,?_,?_⟩,left_shrinks Z seen E hE⟩
    .rw[S.agree _ (by omega),d7]
    .rw[S.agree _ (by omega),d8]
    .rw[S.frame r (by rw[hw3];simpa [setBlock] using hrl) fun x D=>by obtain⟨sx,q1,q2⟩:=D;exact ze K G q1 (afl.afT q2)]
     exact G
    .rw[S.frame X (Nm.1 F).1 fun x D=>?_]
     .exact F
     .rw[<-d8]
      refine K.sep x b _ D i3 (by simp) ?_;rintro rfl;obtain⟨sx,q1,q2⟩:=D;rw[i3] at q1;cases q1;cases q2
    .rw[Array.toList_push,hbj];exact hI5
   rcases hee with rfl | rfl
   .exact fin
   .simp only[Exit.inBlock,if_true];exact fin
 .refine afO.put (c2.mono (by simp) fun x D=>w9 D) (by omega) ?_
  simp only[afj,SP,List.length_singleton,fL];exact⟨by omega,trivial⟩
 .rw[fV];exact c3
 .rw[gp];exact c4.step c1 p2
 .simp
 .rw[fL,hr]
 .have ZA:b<st1.mem.length:=gL hb
  rw[w9 ZA];exact hmb.symm
 .rw[hr];exact heap_alloc_new w1 _
 .rw[iF w1 _ adW];exact k1
end
end Go.Eng
namespace Go.Eng
theorem CO{m:Nat}:∀{env:Env},(env.all fun e=>(e.2.refs m).isEmpty)=true->∀t,(ae env t).refs m=[]
 | [],_,t=>by simp[ae,AV.refs]
 |(k,v)::r,h,t=>by
  simp only[QQb,C0,List.isEmpty_iff] at h;simp only[ae];split
  .exact h.1
  .exact CO h.2 t
variable{s:XS}
section
variable {P:Program}{T:TypeId->Option TyI}{O:y9}{tp:Bool}{N m0 K:Nat}{lv:Code->List Nat}{Q:Exit->St->Prop}
section
variable (hm:P.follows .mixedOrders=true)(hT:dN P T)(hO:qS P O)
include hm hT hO
theorem wk{c:Code}{s' :XS}{e:Exit}(hs:dc c=true)(h:aU T lv O K N m0 tp c s=some (e,s'))(hq:Q e ⟨s'.env,s'.mem⟩):AWP P tp N m0 c ⟨s.env,s.mem⟩ Q:=
 (dI hm hT hO hs h).1 Q hq
theorem NY{idB out nx idS idA:Nat}{W abK abj:Array Oper}{aav:List Oper}{oR oN oX oE:Oper}{I:Code}{J H more Y:Nat}{tR tk te:TypeId}{iR:TyI}{mOp:Operand}(hB:W.toList=W.toList.dropLast++[oR])(r1:oR.op=.range tR mOp)(r2:oR.dst=some J)(r3:oR.guard=none)(hTR:T tR=some iR)(hdR:iR.desc=.map tk te)(hS:abK.toList=[oN,oX])(n1:oN.op=.next (.tmp J) false)(n2:oN.dst=some H)(n3:oN.guard=none)(x1:oX.op=.extract (.tmp H) 0)(x2:oX.dst=some more)(x3:oX.guard=none)(hA:abj.toList=oE::aav)(e1:oE.op=.entry (.tmp J))(e2:oE.dst=some Y)(e3:oE.guard=none)(S':J<N/\H<N/\more<N/\Y<N)(I':H≠J/\more≠J)(Za:dc I=true){s1:XS}{b:Nat}{es:List (AV×AV)}(Zx:fA T O N m0 W W.toList.dropLast s=some s1)(hmo:get s1.env mOp=.map b)(hb:s1.mem[b]? =some (.afS es))(lw wr:List Nat)(V:List Nat->Nat->AV)(M:List Nat->Mem)(Inv:List Nat->Prop)(hwr:wr=Y::more::H::(aav.filterMap (·.dst)++ad I))(hit:J∉wr)(aaw:(((J,AV.ptr s1.mem.length 0)::s1.env).all fun e=>(e.2.refs (s1.mem.length+1)).isEmpty)=true)(hM:∀seen,Inv seen->(M seen).length=s1.mem.length+1/\(M seen)[s1.mem.length]? =some .qK/\(M seen)[b]? =some (.afS es)/\∀x∈M seen,x.refs (s1.mem.length+1)=[])(hV:∀seen t,Inv seen->t∈lw->(V seen t).refs (s1.mem.length+1)=[])(h0:Inv []/\M []=s1.mem++[.qK]/\∀t∈lw,ae ((J,AV.ptr s1.mem.length 0)::s1.env) t=V [] t)(acz:∀seen env,Inv seen->afY wr ((J,AV.ptr s1.mem.length 0)::s1.env) env->(∀t∈lw,ae env t=V seen t)->(∀j,j<es.length->j∈seen)->Q .normal ⟨(more,.bool false)::(H,.tuple [.bool false])::env,M seen⟩)(aaN:∀seen env j k v,Inv seen->afY wr ((J,AV.ptr s1.mem.length 0)::s1.env) env->(∀t∈lw,ae env t=V seen t)->es[j]? =some (k,v)->j∉seen->∃U e X,fA T O N (s1.mem.length+1) abj aav ⟨(Y,.tuple [k,v])::(more,.bool true)::(H,.tuple [.bool true,k,v])::env,M seen,false⟩=some U/\
   aU T lv O K N (s1.mem.length+1) tp I U=some (e,X)/\(e=.normal\/e=.exit nx)/\Inv (seen++[j])/\(∀t∈lw,ae X.env t=V (seen++[j]) t)/\X.mem.take (s1.mem.length+1)=M (seen++[j])):
  AWP P tp N m0 (.seq (.region idB W false) (.block out (.loop (.seq (.region idS abK false) (.seq (.cond (.tmp more) .skip (.exit out)) (.block nx (.seq (.region idA abj false) I))))))) ⟨s.env,s.mem⟩ Q:=by
 have R:=CO aaw;refine KT (st1:=⟨s1.env,s1.mem⟩) hT hB r1 r2 r3 hTR hdR hS n1 n2 n3 x1 x2 x3 hA e1 e2 e3 S' I' (kW hO Zx).1 hmo hb
  (fun seen S=>Inv seen/\afY wr ((J,AV.ptr s1.mem.length 0)::s1.env) S.env/\(∀t∈lw,ae S.env t=V seen t)/\S.mem=M seen) ⟨h0.1,.refl _ _,h0.2.2,h0.2.1.symm⟩ ?_ ?_ ?_
 .rintro seen S ⟨i1,i2,i3,i4⟩
  obtain⟨F,D,C,_⟩:=hM seen i1;refine⟨?_,by rw[i4];exact D,by rw[i4];exact C⟩;rw[i2 J hit];simp[ae]
 .rintro seen ⟨env,mem⟩ ⟨i1,i2,i3,i4⟩ PP
  have:=acz seen env i1 i2 i3 PP;simp only at i4 |-;rw[i4];exact this
 .rintro seen ⟨env,mem⟩ j k v ⟨i1,i2,i3,i4⟩ hj hns
  simp only at i2 i3 i4;subst i4;obtain⟨U,e,X,B,u,m,L,k5,o⟩:=aaN seen env j k v i1 i2 i3 hj hns;refine⟨⟨U.env,U.mem⟩,(kW hO B).1,?_⟩;refine AWP.assume fun F' _=>?_
  refine wk hm hT hO Za u ⟨m,?_⟩;obtain⟨F,D,C,j4⟩:=hM _ L;have aaf :s1.mem.length+1<=X.mem.length:=by have h1:=congrArg List.length o;rw[S2,F] at h1;omega
  have G:afY wr ((J,AV.ptr s1.mem.length 0)::s1.env) X.env:=by
   have q1:=(pU B).mono (wr' :=wr) (by intro t Z;rw[hwr];simp[Z]);have q2:=(gm hO u).mono (wr' :=wr) (by intro t Z;rw[hwr];simp[Z]);intro t Z;rw[q2 t Z,q1 t Z,<-i2 t Z];have:t≠Y/\t≠more/\t≠H:=by rw[hwr] at Z;simp only[List.mem_cons,not_or] at Z;exact⟨Z.1,Z.2.1,Z.2.2.1⟩
   simp[ae,Ne.symm this.1,Ne.symm this.2.1,Ne.symm this.2.2]
  refine⟨_,age.afu [] (by simp[DX]),L,?_,?_,?_⟩
  .intro t Z
   simp only[jm];rw[G t Z,AV.afA (R t)]
  .intro t Z
   simp only[jm];rw[k5 t Z,AV.afA (hV _ t L Z)]
  .simp only[afu,af4,List.map_nil,List.append_nil,o]
   conv=>rhs;rw[<-List.map_id (M (seen++[j]))]
   exact List.map_congr_left fun x hx=>afl.afA (j4 x hx)
end
end
end Go.Eng
namespace Go.Eng
abbrev Sd:=(Int×Int)×Int
def sdE(s:Sd):AV×AV:=(.agg [.int .i64 s.1.1,.int .i64 s.1.2],.int .i64 s.2)
def nxE(p:Int×Int):AV×AV:=(.int .i64 p.1,.int .i64 p.2)
def qq:List (Int×Int)->Int->Option Int
 | [],_=>none
 |p::l,a=>if a=p.1 then some p.2 else qq l a
def Rm:List Sd->Int×Int->Option Int
 | [],_=>none
 |s::l,a=>if a.1=s.1.1/\a.2=s.1.2 then some s.2 else Rm l a
def bAt(ks:List Sd)(j:Nat):Option (Int×Int):=match ks[j]? with
 |some s=>if (Rm ks (s.1.2,s.1.1)).isSome then none else some s.1
 |none=>none
def tE(ks:List Sd):List (Int×Int):=(List.range ks.length).filterMap (bAt ks)
def AH(f:Int):List (Int×Int)->Int
 | []=>f
 |p::l=>AH (if f<0\/p.1<f then p.1 else f) l
theorem Ol(f:Int):∀(l m:List (Int×Int)),AH f (l++m)=AH (AH f l) m:=by
 intro l;induction l generalizing f with
 |nil=>intro m;rfl
 |cons p l ih=>intro m;exact ih _ m
theorem CA:∀(l:List (Int×Int)) (f:Int),(∀p∈l,0<=p.1)->(0<=f\/l≠[])->0<=AH f l/\(AH f l=f\/∃p∈l,AH f l=p.1)/\(0<=f->AH f l<=f)/\∀p∈l,AH f l<=p.1
 | [],f,_,h=>by have:0<=f:=h.resolve_right (by simp);exact⟨this,.inl rfl,fun _=>Int.le_refl _,by simp⟩
 |p::l,f,hp,_=>by
  have V:=hp p (by simp);have U:=CA l (if f<0\/p.1<f then p.1 else f) (fun q Z=>hp q (by simp[Z])) (.inl (by split<;>omega));obtain⟨S,R,X,O⟩:=U;have N:(0:Int)<=(if f<0\/p.1<f then p.1 else f):=by split<;>omega
  have X:=X N;simp only[AH];refine⟨S,?_,fun M=>?_,fun q Z=>?_⟩
  .rcases R with h | ⟨q,Z,h⟩
   .rw[h]
    split
    .exact .inr ⟨p,by simp,rfl⟩
    .exact .inl rfl
   .exact .inr ⟨q,by simp[Z],h⟩
  .refine Int.le_trans X ?_
   split<;>omega
  .rcases List.mem_cons.1 Z with rfl | Z
   .refine Int.le_trans X ?_
    split<;>omega
   .exact O q Z
theorem TB{l m:List (Int×Int)}(h:l.Perm m)(H:∀p∈l,0<=p.1):AH (-1) l=AH (-1) m:=by
 by_cases Z:l=[]
 .subst Z
  rw[List.nil_perm.1 h]
 .have S:m≠[]:=by rintro rfl;exact Z (List.perm_nil.1 h)
  have X:∀p∈m,0<=p.1:=fun p R=>H p (h.mem_iff.2 R)
  obtain⟨F,O,_,N⟩:=CA l (-1) H (.inr Z);obtain⟨D,M,_,L⟩:=CA m (-1) X (.inr S);obtain⟨p,V,K⟩:=O.resolve_left (by omega);obtain⟨q,U,G⟩:=M.resolve_left (by omega);have C:=L p (h.mem_iff.1 V);have B:=N q (h.mem_iff.2 U);omega
theorem TA{l:List (Int×Int)}{a b:Int}(h:qq l a=some b):(a,b)∈l:=by
 induction l with
 |nil=>cases h
 |cons p l ih=>
  rw[qq] at h;split at h
  next e=>cases h;subst e;simp
  .simp[ih h]
theorem EI{l:List (Int×Int)}{a:Int}(h:∀p∈l,p.1≠a):qq l a=none:=by
 induction l with
 |nil=>rfl
 |cons p l ih=>
  rw[qq,if_neg (fun e=>h p (by simp) e.symm)];exact ih fun q Z=>h q (by simp[Z])
theorem y7{l:List (Int×Int)}{a b:Int}(H:∀p∈l,∀q∈l,p.1=q.1->p=q)(h:(a,b)∈l):qq l a=some b:=by
 induction l with
 |nil=>cases h
 |cons p l ih=>
  rw[qq];split
  .rename_i e
   have:=H p (by simp) (a,b) h e.symm;rw[this]
  .rename_i e
   rcases List.mem_cons.1 h with rfl | h
   .exact absurd rfl e
   .exact ih (fun p Z q X=>H p (by simp[Z]) q (by simp[X])) h
theorem Rl{l m:List (Int×Int)}(h:l.Perm m)(H:∀p∈l,∀q∈l,p.1=q.1->p=q)(a:Int):qq l a=qq m a:=by
 have Z :∀p∈m,∀q∈m,p.1=q.1->p=q:=fun p X q V=>H p (h.mem_iff.2 X) q (h.mem_iff.2 V)
 cases hb:qq m a with
 |some b=>exact y7 H (h.mem_iff.2 (TA hb))
 |none=>
  refine EI fun p X e=>?_
  have:=y7 Z (a:=a) (b:=p.2) (by rw[<-e];exact h.mem_iff.1 X);rw[hb] at this;cases this
def WA(ks:List Sd):Prop:=∀i j p q,bAt ks i=some p->bAt ks j=some q->p.1=q.1->i=j
def dq(ks:List Sd)(seen:List Nat):List (Int×Int):=seen.filterMap (bAt ks)
variable{j:Nat}{ks:List Sd}{p:Int×Int}
theorem Sy(h:bAt ks j=some p):j<ks.length:=by
 unfold bAt at h;split at h
 next s Z=>exact(gL Z)
 .cases h
variable{seen:List Nat}
theorem Ms(H:seen.Nodup)(I:∀j∈seen,j<ks.length)(J:∀j,j<ks.length->j∈seen):(dq ks seen).Perm (tE ks):=by
 refine List.Perm.filterMap _ ?_;refine(List.perm_ext_iff_of_nodup H List.nodup_range).2 fun j=>?_
 simp only[List.mem_range];exact⟨I j,J j⟩
theorem Hf(H:WA ks)(I:j∉seen)(J:bAt ks j=some p):qq (dq ks seen) p.1=none:=by
 refine EI fun q X e=>?_
 obtain⟨i,V,Z⟩:=List.mem_filterMap.1 X;have:=H i j q p Z J e;subst this;exact I V
theorem Hg(H:WA ks):∀p∈dq ks seen,∀q∈dq ks seen,p.1=q.1->p=q:=by intro p V q U e;obtain⟨i,_,X⟩:=List.mem_filterMap.1 V;obtain⟨j,_,Z⟩:=List.mem_filterMap.1 U;have:=H i j p q X Z e;subst this;rw[X] at Z;cases Z;rfl
def xb(B:List (Int×Int))(first:Int):Nat->Int->List Int->Option (List Int)
 |0,_,out=>some out
 |n+1,a,out=>match qq B a with
  |none=>none
  |some b=>if a=first/\out≠[] then none else xb B first n b (out++[a])
def B4(B:List (Int×Int)):Option (List Int):=xb B (AH (-1) B) B.length (AH (-1) B) []
def vh(ks:List Sd):Bool:=
 let B:=tE ks
 decide (B≠[])&&decide ((B.map (·.1)).Nodup)&&B.all (fun p=>decide (0<=p.1))&&decide (ks.length<=1000000)
theorem SA{i:Nat}{q:Int×Int}(J:((tE ks).map (·.1)).Nodup)(H:bAt ks i=some p)(I:bAt ks j=some q)(e:p.1=q.1):i=j:=by
 have R:∀(l:List Nat),l.Nodup->((l.filterMap (bAt ks)).map (·.1)).Nodup->i∈l->j∈l->i=j:=by
  intro l;induction l with
  |nil=>intro _ _ h;cases h
  |cons a l ih=>
   intro O Z X V;have U :=(List.nodup_cons.1 O).2;rw[List.filterMap_cons] at Z;cases ha:bAt ks a with
   |none=>
    rw[ha] at Z;have N:i≠a:=by rintro rfl;rw[H] at ha;cases ha
    have M:j≠a:=by rintro rfl;rw[I] at ha;cases ha
    exact ih U Z ((List.mem_cons.1 X).resolve_left N) ((List.mem_cons.1 V).resolve_left M)
   |some r=>
    rw[ha] at Z;simp only[List.map_cons,List.nodup_cons] at Z;have S:∀k s,k∈l->bAt ks k=some s->s.1≠r.1:=by intro k s L K h;exact Z.1 (QQh.2 ⟨s,List.mem_filterMap.2 ⟨k,L,K⟩,h⟩)
    rcases List.mem_cons.1 X with X | X<;>rcases List.mem_cons.1 V with V | V
    .rw[X,V]
    .rw[<-X,H] at ha;cases ha;exact absurd e.symm (S j q V I)
    .rw[<-V,I] at ha;cases ha;exact absurd e (S i p X H)
    .exact ih U Z.2 X V
 exact R _ List.nodup_range J (List.mem_range.2 (Sy H)) (List.mem_range.2 (Sy I))
theorem LQ(h:vh ks=true):tE ks≠[]/\WA ks/\(∀p∈tE ks,0<=p.1)/\ks.length<=1000000:=by simp only[vh,C0,Es,List.all_eq_true] at h;obtain⟨⟨⟨Z,X⟩,h3⟩,V⟩:=h;exact⟨Z,fun i j p q U S e=>SA X U S e,h3,V⟩
theorem RP(h:∀p∈tE ks,0<=p.1):∀p∈dq ks seen,0<=p.1:=by intro p X;obtain⟨i,_,Z⟩:=List.mem_filterMap.1 X;exact h p (List.mem_filterMap.2 ⟨i,List.mem_range.2 (Sy Z),Z⟩)
theorem zm{B:List (Int×Int)}{first:Int}:∀{n:Nat} {a:Int} {H I:List Int},xb B first n a H=some I->I.length=H.length+n
 |0,a,H,I,h=>by simp only[xb,Pi] at h;subst h;rfl
 |n+1,a,H,I,h=>by
  rw[xb] at h;split at h
  .cases h
  .split at h
   .cases h
   .have:=zm h
    simp at this;omega
def KU(H:List Nat)(n j:Nat):Bool:=fv H j&&(List.range n).all fun k=>decide (k<=j)||bef H j k
def cS(r:Rec):Bool:=decide (r.nx.length=r.mem.length)&&r.wr.isEmpty
def yQ(H:List Nat)(n j:Nat)(r:Rec):Bool:=
 r.v.adM (fun b=>decide (b<r.nx.length))&&
  (cS r||(KU H n j&&r.wr.all (fun b=>fI r.tm b&&(match r.nx[b]? with | some s=>s.adM (fun b=>decide (b<r.nx.length)) | none=>true))&&
   (r.nx.drop r.mem.length).all fun s=>(s.own||match s with | .qK=>true | _=>false)&&s.adM (fun b=>decide (b<r.nx.length))))
def rI(H:List Nat)(n:Nat):Nat->List Rec->Bool
 |_,[]=>true
 |j,r::rest=>yQ H n j r&&rI H n (j+1) rest
def lx(T:TypeId->Option TyI)(O:y9)(N m0:Nat)(ops:Array Oper)(H:List Nat)(s:XS):Option XS:=
 match nE T O N ops H 0 ops.toList s.env s.mem [] with
 |none=>none
 |some (R,env,mem)=>
  if rI H R.length 0 R then some ⟨env,mem,s.afD||R.any fun r=>r.wr.any fun b=>decide (b<m0)⟩ else none
structure ahO (bs:List Nat)(n:Nat)(f:Nat×Rec):Prop where
 refs:f.2.v.adM (fun b=>decide (b<f.2.nx.length))=true
 or:(f.2.nx.length=f.2.mem.length/\f.2.wr=[])\/((∀i,i<f.1->bef bs i f.1=true)/\(∀k,f.1<k->k<n->bef bs f.1 k=true)/\
  f.2.wr.all (fun b=>fI f.2.tm b&&(match f.2.nx[b]? with | some s=>s.adM (fun b=>decide (b<f.2.nx.length)) | none=>true))=true/\
  ((f.2.nx.drop f.2.mem.length).all fun s=>(s.own||match s with | .qK=>true | _=>false)&&s.adM (fun b=>decide (b<f.2.nx.length)))=true)
theorem BY{H:List Nat}{n:Nat}:∀{j0:Nat} {R:List Rec},rI H n j0 R=true->∀f∈bw j0 R,ahO H n f
 |_,[],_,f,hf=>by simp[bw] at hf
 |j0,r::rest,h,f,hf=>by
  simp only[rI,C0] at h;rw[bw,List.mem_cons] at hf;rcases hf with rfl | hf
  .have X:=h.1
   simp only[yQ,cS,KU,C0,QXZ,Es,List.isEmpty_iff] at X;obtain⟨X,Z⟩:=X;refine⟨X,?_⟩;rcases Z with Z | ⟨⟨⟨Z,h3⟩,U⟩,S⟩
   .exact .inl Z
   .refine .inr ⟨fun i O=>List.all_eq_true.1 Z i (List.mem_range.2 O),fun k N V=>?_,U,S⟩
    have:=List.all_eq_true.1 h3 k (List.mem_range.2 V);simp only[QXZ,Es] at this;rcases this with h6 | h6
    .omega
    .exact h6
  .exact BY h.2 f hf
variable{R:List Rec}
theorem KZ{H:List Nat}(h:rI H R.length 0 R=true){f:Nat×Rec}(hf:f∈bw 0 R):jc H (bw 0 R) f.1 f.2=true:=by
 have M:=BY h;have S:=M f hf;have B:=jz hf;unfold jc;have L:∀g∈(bw 0 R).filter (fun g=>decide (g.1<f.1)&& !bef H g.1 f.1),g.2.nx.length=g.2.mem.length/\g.2.wr=[]:=by
  intro g X;have Z:=List.mem_filter.1 X;simp only[C0,Es,Bool.not_eq_true'] at Z;rcases (M g Z.1).or with V | ⟨_,V,_⟩
  .exact V
  .have:=V f.1 Z.2.1 (by omega)
   rw[this] at Z;exact absurd Z.2.2 (by simp)
 have K:∀U,jo U ((bw 0 R).filter fun g=>decide (g.1<f.1)&& !bef H g.1 f.1)=fun b=>decide (b<U):=by
  intro U;funext b;unfold jo;have:(((bw 0 R).filter fun g=>decide (g.1<f.1)&& !bef H g.1 f.1).all fun f=> !decide (f.2.mem.length<=b/\b<f.2.nx.length))=true:=List.all_eq_true.2 fun g X=>by have:=(L g X).1;simp;omega
  rw[this,Bool.and_true]
 simp only[K,C0];rcases S.or with⟨V,O⟩ | ⟨V,_,h3,G⟩
 .have F:f.2.nx.drop f.2.mem.length=[]:=ZN (by rw[V];exact L9 _)
  refine⟨⟨⟨⟨by rw[O];rfl,S.refs⟩,by rw[O];rfl⟩,by rw[F];rfl⟩,?_⟩;refine List.all_eq_true.2 fun g X=>?_
  obtain⟨D,C⟩:=L g X;rw[C,O,D,Nat.sub_self,List.take_zero];rfl
 .refine⟨⟨⟨⟨?_,S.refs⟩,?_⟩,G⟩,?_⟩
  .refine List.all_eq_true.2 fun b N=>?_
   have:=List.all_eq_true.1 h3 b N;simp only[C0] at this;exact this.1
  .refine List.all_eq_true.2 fun b N=>?_
   have:=List.all_eq_true.1 h3 b N;simp only[C0] at this;exact this.2
  .refine List.all_eq_true.2 fun g X=>?_
   have Z:=List.mem_filter.1 X;simp only[C0,Es,Bool.not_eq_true'] at Z;rw[V g.1 Z.2.1] at Z;exact absurd Z.2.2 (by simp)
variable{N m0:Nat}{O:y9}
theorem kh{T:TypeId->Option TyI}{ops:Array Oper}{H:List Nat}(I:dO ops.toList=H)(s:XS):
  aG T O N m0 ops s=match lx T O N m0 ops H s with
   |some s' =>some s'
   |none=>pS T O N m0 ops s:=by
 cases h:lx T O N m0 ops H s with
 |none=>rfl
 |some s' =>
  simp only;unfold lx at h;unfold aG;simp only;rw[I];split at h
  .cases h
  .rename_i R env mem Z
   split at h
   .rename_i X
    cases h;rw[Z];simp only;rw[if_pos (List.all_eq_true.2 fun f V=>KZ X V)]
   .cases h
def KR(H:List Nat)(n j:Nat):Bool:=(List.range n).all fun k=>decide (k<=j)||bef H j k
def Pf(H:List Nat)(n j:Nat)(r:Rec):Bool:=
 r.v.adM (fun b=>decide (b<r.nx.length))&&
  (cS r||(KR H n j&&(r.wr.isEmpty||(fv H j&&r.wr.all (fun b=>fI r.tm b&&(match r.nx[b]? with | some s=>s.adM (fun b=>decide (b<r.nx.length)) | none=>true))))&&
   (r.nx.drop r.mem.length).all fun s=>(s.own||match s with | .qK=>true | _=>false)&&s.adM (fun b=>decide (b<r.nx.length))))
def Cr(H:List Nat)(n:Nat):Nat->List Rec->Bool
 |_,[]=>true
 |j,r::rest=>Pf H n j r&&Cr H n (j+1) rest
def wU(T:TypeId->Option TyI)(O:y9)(N m0:Nat)(ops:Array Oper)(H:List Nat)(s:XS):Option XS:=
 match nE T O N ops H 0 ops.toList s.env s.mem [] with
 |none=>none
 |some (R,env,mem)=>
  if Cr H R.length 0 R then some ⟨env,mem,s.afD||R.any fun r=>r.wr.any fun b=>decide (b<m0)⟩ else none
structure ahP (bs:List Nat)(n:Nat)(f:Nat×Rec):Prop where
 refs:f.2.v.adM (fun b=>decide (b<f.2.nx.length))=true
 or:(f.2.nx.length=f.2.mem.length/\f.2.wr=[])\/((f.2.wr=[]\/∀i,i<f.1->bef bs i f.1=true)/\(∀k,f.1<k->k<n->bef bs f.1 k=true)/\
  f.2.wr.all (fun b=>fI f.2.tm b&&(match f.2.nx[b]? with | some s=>s.adM (fun b=>decide (b<f.2.nx.length)) | none=>true))=true/\
  ((f.2.nx.drop f.2.mem.length).all fun s=>(s.own||match s with | .qK=>true | _=>false)&&s.adM (fun b=>decide (b<f.2.nx.length)))=true)
theorem Ct{H:List Nat}{n:Nat}:∀{j0:Nat} {R:List Rec},Cr H n j0 R=true->∀f∈bw j0 R,ahP H n f
 |_,[],_,f,hf=>by simp[bw] at hf
 |j0,r::rest,h,f,hf=>by
  simp only[Cr,C0] at h;rw[bw,List.mem_cons] at hf;rcases hf with rfl | hf
  .have X:=h.1
   simp only[Pf,cS,KR,C0,QXZ,Es,List.isEmpty_iff] at X;obtain⟨X,V⟩:=X;refine⟨X,?_⟩;rcases V with V | ⟨⟨h3,Z⟩,S⟩
   .exact .inl V
   .refine .inr ⟨?_,fun k L U=>?_,?_,S⟩
    .rcases Z with Z | ⟨Z,_⟩
     .exact .inl Z
     .exact .inr fun i M=>List.all_eq_true.1 Z i (List.mem_range.2 M)
    .have:=List.all_eq_true.1 h3 k (List.mem_range.2 U)
     simp only[QXZ,Es] at this;rcases this with h6 | h6
     .omega
     .exact h6
    .rcases Z with Z | ⟨_,Z⟩
     .rw[Z];rfl
     .exact Z
  .exact Ct h.2 f hf
theorem La{H:List Nat}(h:Cr H R.length 0 R=true){f:Nat×Rec}(hf:f∈bw 0 R):jc H (bw 0 R) f.1 f.2=true:=by
 have D:=Ct h;have S:=D f hf;have o:=jz hf;unfold jc;have M:∀g∈(bw 0 R).filter (fun g=>decide (g.1<f.1)&& !bef H g.1 f.1),g.2.nx.length=g.2.mem.length/\g.2.wr=[]:=by
  intro g V;have X:=List.mem_filter.1 V;simp only[C0,Es,Bool.not_eq_true'] at X;rcases (D g X.1).or with Z | ⟨_,Z,_⟩
  .exact Z
  .have:=Z f.1 X.2.1 (by omega)
   rw[this] at X;exact absurd X.2.2 (by simp)
 have C:∀U,jo U ((bw 0 R).filter fun g=>decide (g.1<f.1)&& !bef H g.1 f.1)=fun b=>decide (b<U):=by
  intro U;funext b;unfold jo;have:(((bw 0 R).filter fun g=>decide (g.1<f.1)&& !bef H g.1 f.1).all fun f=> !decide (f.2.mem.length<=b/\b<f.2.nx.length))=true:=List.all_eq_true.2 fun g V=>by have:=(M g V).1;simp;omega
  rw[this,Bool.and_true]
 simp only[C,C0];rcases S.or with⟨Z,L⟩ | ⟨Z,_,h3,B⟩
 .have u:f.2.nx.drop f.2.mem.length=[]:=ZN (by rw[Z];exact L9 _)
  refine⟨⟨⟨⟨by rw[L];rfl,S.refs⟩,by rw[L];rfl⟩,by rw[u];rfl⟩,?_⟩;refine List.all_eq_true.2 fun g V=>?_
  obtain⟨K,G⟩:=M g V;rw[G,L,K,Nat.sub_self,List.take_zero];rfl
 .refine⟨⟨⟨⟨?_,S.refs⟩,?_⟩,B⟩,?_⟩
  .refine List.all_eq_true.2 fun b F=>?_
   have:=List.all_eq_true.1 h3 b F;simp only[C0] at this;exact this.1
  .refine List.all_eq_true.2 fun b F=>?_
   have:=List.all_eq_true.1 h3 b F;simp only[C0] at this;exact this.2
  .refine List.all_eq_true.2 fun g V=>?_
   obtain⟨K,G⟩:=M g V;rcases Z with Z | Z
   .rw[G,Z,K,Nat.sub_self,List.take_zero]
    rfl
   .have X:=List.mem_filter.1 V
    simp only[C0,Es,Bool.not_eq_true'] at X;rw[Z g.1 X.2.1] at X;exact absurd X.2.2 (by simp)
theorem CU{T:TypeId->Option TyI}{ops:Array Oper}{H:List Nat}(I:dO ops.toList=H)(s:XS):
  aG T O N m0 ops s=match wU T O N m0 ops H s with
   |some s' =>some s'
   |none=>pS T O N m0 ops s:=by
 cases h:wU T O N m0 ops H s with
 |none=>rfl
 |some s' =>
  simp only;unfold wU at h;unfold aG;simp only;rw[I];split at h
  .cases h
  .rename_i R env mem Z
   split at h
   .rename_i X
    cases h;rw[Z];simp only;rw[if_pos (List.all_eq_true.2 fun f V=>La X V)]
   .cases h
mutual
theorem afE{p q:Nat->Bool}:∀(v:AV),v.adM p=true->v.adM q=true->v.adM (fun b=>p b&&q b)=true
 |.ptr _ _,h1,h2=>by simp only[AV.adM] at h1 h2 |-;rw[h1,h2];rfl
 |.slice _ _ _ _,h1,h2=>by simp only[AV.adM] at h1 h2 |-;rw[h1,h2];rfl
 |.map _,h1,h2=>by simp only[AV.adM] at h1 h2 |-;rw[h1,h2];rfl
 |.yield _,h1,h2=>by simp only[AV.adM] at h1 h2 |-;rw[h1,h2];rfl
 |.func _ Z,h1,h2=>by simp only[AV.adM] at h1 h2 |-;exact mq Z h1 h2
 |.iface _ v,h1,h2=>by simp only[AV.adM] at h1 h2 |-;exact afE v h1 h2
 |.agg Z,h1,h2=>by simp only[AV.adM] at h1 h2 |-;exact mq Z h1 h2
 |.tuple Z,h1,h2=>by simp only[AV.adM] at h1 h2 |-;exact mq Z h1 h2
 |.undef,_,_=>rfl
 |.bool _,_,_=>rfl
 |.int _ _,_,_=>rfl
 |.str _,_,_=>rfl
 |.afw,_,_=>rfl
 |.qF,_,_=>rfl
 |.afG,_,_=>rfl
 |.nilFunc,_,_=>rfl
 |.nilIface,_,_=>rfl
theorem mq{p q:Nat->Bool}:∀(cs:List AV),AV.afn p cs=true->AV.afn q cs=true->AV.afn (fun b=>p b&&q b) cs=true
 | [],_,_=>rfl
 |v::vs,h1,h2=>by simp only[AV.afn,C0] at h1 h2 |-;exact⟨afE v h1.1 h2.1,mq vs h1.2 h2.2⟩
end
mutual
theorem afB:∀(v:AV),v.adM (fun _=>true)=true
 |.ptr _ _=>rfl
 |.slice _ _ _ _=>rfl
 |.map _=>rfl
 |.yield _=>rfl
 |.func _ Z=>by simp only[AV.adM];exact kV Z
 |.iface _ v=>by simp only[AV.adM];exact afB v
 |.agg Z=>by simp only[AV.adM];exact kV Z
 |.tuple Z=>by simp only[AV.adM];exact kV Z
 |.undef=>rfl
 |.bool _=>rfl
 |.int _ _=>rfl
 |.str _=>rfl
 |.afw=>rfl
 |.qF=>rfl
 |.afG=>rfl
 |.nilFunc=>rfl
 |.nilIface=>rfl
theorem kV:∀(cs:List AV),AV.afn (fun _=>true) cs=true
 | []=>rfl
 |v::vs=>by simp only[AV.afn,C0];exact⟨afB v,kV vs⟩
end
theorem afK{top:Nat}{v:AV}(h:v.adM (fun b=>decide (b<top))=true):∀{un:List (Nat×Rec)},(∀g∈un,v.adM (fun b=> !decide (g.2.mem.length<=b/\b<g.2.nx.length))=true)->v.adM (jo top un)=true
 | [],_=>by
  have:jo top []=fun b=>decide (b<top):=by funext b;simp[jo]
  rw[this];exact h
 |g::un,hg=>by
  have Z:=afK h (un:=un) (fun x X=>hg x (List.mem_cons_of_mem _ X));have V:=afE v Z (hg g (List.mem_cons_self ..));have:jo top (g::un)=fun b=>jo top un b&& !decide (g.2.mem.length<=b/\b<g.2.nx.length):=by funext b;simp only[jo,QQb];cases decide (b<top)<;>cases (un.all fun f=> !decide (f.2.mem.length<=b/\b<f.2.nx.length))<;>simp
  rw[this];exact V
def qp:afl->Bool
 |.qK=>true
 |_=>false
def XZ(H I:Nat)(r:Rec):Bool:=
 cS r&&r.v.adM (fun b=> !decide (H<=b/\b<I))&&((r.tm.drop H).take (I-H)).all qp
structure ah3 (bs:List Nat)(R:List (Nat×Rec))(f:Nat×Rec):Prop where
 refs:f.2.v.adM (fun b=>decide (b<f.2.nx.length))=true
 or:(f.2.nx.length=f.2.mem.length/\f.2.wr=[])\/((f.2.wr=[]\/∀i,i<f.1->bef bs i f.1=true)/\(∀g∈R,f.1<g.1->bef bs f.1 g.1=true\/(f.2.wr=[]/\XZ f.2.mem.length f.2.nx.length g.2=true))/\
  f.2.wr.all (fun b=>fI f.2.tm b&&(match f.2.nx[b]? with | some s=>s.adM (fun b=>decide (b<f.2.nx.length)) | none=>true))=true/\
  ((f.2.nx.drop f.2.mem.length).all fun s=>(s.own||match s with | .qK=>true | _=>false)&&s.adM (fun b=>decide (b<f.2.nx.length)))=true)
theorem Cy(f:Nat->Bool)(new:Mem):∀(i:Nat) (M:Mem),bn [] i M (bF f i M++new)=M++new
 |_,[]=>rfl
 |i,s::M=>by simp[bF,bn,Cy f new (i+1) M]
theorem za(new:Mem):∀(i:Nat) (M:Mem),bn [] i M (M++new)=M++new
 |_,[]=>rfl
 |i,s::M=>by simp[bn,za new (i+1) M]
theorem zc(f:Nat->Bool)(s:afl):∀(i:Nat) (M:Mem) (k:Nat),bn [i+k] i M ((bF f i M).set k s)=M.set k s
 |_,[],_=>rfl
 |i,x::M,0=>by
  simp only[bF,List.set_cons_zero,bn,Nat.add_zero];have h:∀(j:Nat) (M:Mem),i<j->bn [i] j M (bF f j M)=M:=by
   intro j M Z;induction M generalizing j with
   |nil=>rfl
   |cons y M ih=>simp[bF,bn,ih (j+1) (by omega),show¬j=i by omega]
  simp[h (i+1) M (by omega)]
 |i,x::M,k+1=>by have:=zc f s (i+1) M k;rw[show i+1+k=i+(k+1) by omega] at this;simp[bF,bn,this,show¬i=i+(k+1) by omega]
theorem LI(f:Nat->Bool)(s:afl)(M:Mem)(k:Nat):bn [k] 0 M ((bF f 0 M).set k s)=M.set k s:=by
 have:=zc f s 0 M k
 rwa [QQZ] at this
theorem EP(f:Nat->Bool):∀(i:Nat) (M:Mem),(bF f i M).length=M.length
 |_,[]=>rfl
 |i,x::M=>by simp[bF,EP f (i+1) M]
theorem EN(f:Nat->Bool)(M:Mem)(H n:Nat)(h:∀b,H<=b->b<H+n->f b=false):(((bF f 0 M).drop H).take n).all qp=true:=by
 rw[List.all_eq_true];intro s X;obtain⟨i,Z⟩:=QXa X;rw[List.getElem?_take] at Z;split at Z
 .rename_i V
  rw[QQa,uZ] at Z;cases hM:M[H+i]? with
  |none=>rw[hM] at Z;simp at Z
  |some x=>
   rw[hM] at Z;simp only[Option.map_some,QQZ,Pi] at Z;rw[h (H+i) (by omega) (by omega)] at Z;simp at Z;subst Z;rfl
 .cases Z
theorem Oj(M:Mem)(H n:Nat):(((bF (fun _=>false) 0 M).drop H).take n).all qp=true:=EN _ M H n fun _ _ _=>rfl
theorem WT(M X:Mem)(k:Nat):(M++X).drop (M.length+k)=X.drop k:=by rw[List.drop_append];simp
theorem Vx(M X:Mem):(M++X).drop M.length=X:=by simp
theorem wK(i:Nat)(s s' :afl)(r r' :Mem):bn [] i (s::r) (s' ::r')=s::bn [] (i+1) r r' :=by simp[bn]
theorem Cz:∀(i:Nat) (N X Y:Mem),bn [] i (N++X) (N++Y)=N++bn [] (i+N.length) X Y
 |i,[],X,Y=>by simp
 |i,s::N,X,Y=>by simp only[List.cons_append,wK,Cz (i+1) N X Y,List.length_cons];rw[show i+1+N.length=i+(N.length+1) by omega]
theorem afl.afE{p q:Nat->Bool}:∀(s:afl),s.adM p=true->s.adM q=true->s.adM (fun b=>p b&&q b)=true
 |.qK,_,_=>rfl
 |.cells _ _ cs,h,h' =>mq cs h h'
 |.map es,h,h' =>by simp only[afl.adM,List.all_eq_true,C0] at h h' |-;exact fun e Z=>⟨Go.Eng.afE _ (h e Z).1 (h' e Z).1,Go.Eng.afE _ (h e Z).2 (h' e Z).2⟩
 |.afS es,h,h' =>by simp only[afl.adM,List.all_eq_true,C0] at h h' |-;exact fun e Z=>⟨Go.Eng.afE _ (h e Z).1 (h' e Z).1,Go.Eng.afE _ (h e Z).2 (h' e Z).2⟩
 |.loop r,h,h' =>by simp only[afl.adM,List.all_eq_true] at h h' |-;exact fun e Z=>Go.Eng.afE _ (h e Z) (h' e Z)
theorem afl.afK{top:Nat}{s:afl}(h:s.adM (fun b=>decide (b<top))=true):∀{un:List (Nat×Rec)},(∀g∈un,s.adM (fun b=> !decide (g.2.mem.length<=b/\b<g.2.nx.length))=true)->s.adM (jo top un)=true
 | [],_=>by
  have:jo top []=fun b=>decide (b<top):=by funext b;simp[jo]
  rw[this];exact h
 |g::un,hg=>by
  have Z:=afl.afK h (un:=un) (fun x X=>hg x (List.mem_cons_of_mem _ X));have V:=afl.afE s Z (hg g (List.mem_cons_self ..));have:jo top (g::un)=fun b=>jo top un b&& !decide (g.2.mem.length<=b/\b<g.2.nx.length):=by funext b;simp only[jo,QQb];cases decide (b<top)<;>cases (un.all fun f=> !decide (f.2.mem.length<=b/\b<f.2.nx.length))<;>simp
  rw[this];exact V
theorem ss{g:Rec}(h:g.nx.length=g.mem.length):(fun b=> !decide (g.mem.length<=b/\b<g.nx.length))=fun _=>true:=by
 funext b;rw[h];have:¬(g.mem.length<=b/\b<g.mem.length):=by omega
 simp[this]
theorem afl.afB:∀(s:afl),s.adM (fun _=>true)=true
 |.qK=>rfl
 |.cells _ _ cs=>kV cs
 |.map es=>by simp only[afl.adM,List.all_eq_true,C0];exact fun e _=>⟨Go.Eng.afB _,Go.Eng.afB _⟩
 |.afS es=>by simp only[afl.adM,List.all_eq_true,C0];exact fun e _=>⟨Go.Eng.afB _,Go.Eng.afB _⟩
 |.loop r=>by simp only[afl.adM,List.all_eq_true];exact fun e _=>Go.Eng.afB _
def cK(H I:Nat)(r:Rec):Bool:=
 r.wr.isEmpty&&r.v.adM (fun b=> !decide (H<=b/\b<I))&&((r.nx.drop r.mem.length).all fun s=>s.adM (fun b=> !decide (H<=b/\b<I)))&&((r.tm.drop H).take (I-H)).all qp
def dW(H:List Nat)(i:Nat)(r:Rec):Nat->List Rec->Bool
 |_,[]=>true
 |j,s::rest=>(bef H i j||(r.wr.isEmpty&&cK r.mem.length r.nx.length s))&&dW H i r (j+1) rest
def gB(H:List Nat)(j:Nat)(r:Rec):List (Nat×Rec)->Bool
 | []=>true
 |g::l=>(bef H g.1 j||(cS g.2&&r.wr.all fun b=> !fI g.2.tm b))&&gB H j r l
def gE(H:List Nat):Nat->List (Nat×Rec)->List Rec->Bool
 |_,_,[]=>true
 |j,acc,r::rest=>r.v.adM (fun b=>decide (b<r.nx.length))&&(cS r||(dW H j r (j+1) rest&&(r.wr.isEmpty||(gB H j r acc&&r.wr.all (fun b=>fI r.tm b&&(match r.nx[b]? with | some s=>s.adM (fun b=>decide (b<r.nx.length)) | none=>true))))&&
   (r.nx.drop r.mem.length).all fun s=>(s.own||match s with | .qK=>true | _=>false)&&s.adM (fun b=>decide (b<r.nx.length))))&&gE H (j+1) ((j,r)::acc) rest
def cq(T:TypeId->Option TyI)(O:y9)(N m0:Nat)(ops:Array Oper)(H:List Nat)(s:XS):Option XS:=
 match nE T O N ops H 0 ops.toList s.env s.mem [] with
 |none=>none
 |some (R,env,mem)=>
  if gE H 0 [] R then some ⟨env,mem,s.afD||R.any fun r=>r.wr.any fun b=>decide (b<m0)⟩ else none
theorem Cb{H:List Nat}{i:Nat}{r:Rec}:∀{j0:Nat} {R:List Rec},dW H i r j0 R=true->∀g∈bw j0 R,bef H i g.1=true\/(r.wr=[]/\cK r.mem.length r.nx.length g.2=true)
 |_,[],_,g,hg=>by simp[bw] at hg
 |j0,s::rest,h,g,hg=>by
  simp only[dW,C0,QXZ,List.isEmpty_iff] at h;rw[bw,List.mem_cons] at hg;rcases hg with rfl | hg
  .exact h.1
  .exact Cb h.2 g hg
theorem El{H:List Nat}{j:Nat}{r:Rec}:∀{acc:List (Nat×Rec)},gB H j r acc=true->∀g∈acc,bef H g.1 j=true\/((g.2.nx.length=g.2.mem.length/\g.2.wr=[])/\(r.wr.all fun b=> !fI g.2.tm b)=true)
 | [],_,g,hg=>by cases hg
 |a::l,h,g,hg=>by
  simp only[gB,cS,C0,QXZ,Es,List.isEmpty_iff] at h;rcases List.mem_cons.1 hg with rfl | hg
  .exact h.1
  .exact El h.2 g hg
structure aht (bs:List Nat)(R:List (Nat×Rec))(f:Nat×Rec):Prop where
 refs:f.2.v.adM (fun b=>decide (b<f.2.nx.length))=true
 or:(f.2.nx.length=f.2.mem.length/\f.2.wr=[])\/((f.2.wr=[]\/∀g∈R,g.1<f.1->bef bs g.1 f.1=true\/((g.2.nx.length=g.2.mem.length/\g.2.wr=[])/\(f.2.wr.all fun b=> !fI g.2.tm b)=true))/\(∀g∈R,f.1<g.1->bef bs f.1 g.1=true\/(f.2.wr=[]/\cK f.2.mem.length f.2.nx.length g.2=true))/\
  f.2.wr.all (fun b=>fI f.2.tm b&&(match f.2.nx[b]? with | some s=>s.adM (fun b=>decide (b<f.2.nx.length)) | none=>true))=true/\
  ((f.2.nx.drop f.2.mem.length).all fun s=>(s.own||match s with | .qK=>true | _=>false)&&s.adM (fun b=>decide (b<f.2.nx.length)))=true)
theorem yX{H:List Nat}{R0:List (Nat×Rec)}:∀{j0:Nat} {acc:List (Nat×Rec)} {R:List Rec},(∀g∈R0,g.1<j0\/g∈bw j0 R)->(∀g∈R0,g.1<j0->g∈acc)->gE H j0 acc R=true->∀f∈bw j0 R,aht H R0 f
 |_,_,[],_,_,_,f,hf=>by simp[bw] at hf
 |j0,acc,r::rest,hR,abB,h,f,hf=>by
  simp only[gE,C0] at h;obtain⟨⟨L,U⟩,K⟩:=h;have V :∀g∈R0,g.1<j0+1\/g∈bw (j0+1) rest:=by
   intro g X;rcases hR g X with h3 | h3
   .exact .inl (by omega)
   .rw[bw,List.mem_cons] at h3
    rcases h3 with rfl | h3
    .exact .inl (by simp)
    .exact .inr h3
  have M :∀g∈R0,g.1<j0+1->g∈(j0,r)::acc:=by
   intro g X S;rcases hR g X with h3 | h3
   .exact List.mem_cons_of_mem _ (abB g X h3)
   .rw[bw,List.mem_cons] at h3
    rcases h3 with rfl | h3
    .exact List.mem_cons_self ..
    .have:=(jz h3).1;omega
  rw[bw,List.mem_cons] at hf;rcases hf with rfl | hf
  .refine⟨L,?_⟩
   simp only[cS,C0,QXZ,Es,List.isEmpty_iff] at U;rcases U with U | ⟨⟨h3,Z⟩,G⟩
   .exact .inl U
   .refine .inr ⟨?_,fun g X S=>?_,?_,G⟩
    .rcases Z with Z | ⟨Z,_⟩
     .exact .inl Z
     .exact .inr fun g X S=>El Z g (abB g X S)
    .rcases V g X with h6 | h6
     .simp only at S;omega
     .exact Cb h3 g h6
    .rcases Z with Z | ⟨_,Z⟩
     .rw[Z];rfl
     .exact Z
  .exact yX V M K f hf
theorem GC{H:List Nat}(h:gE H 0 [] R=true){f:Nat×Rec}(hf:f∈bw 0 R):jc H (bw 0 R) f.1 f.2=true:=by
 have o:=yX (R0:=bw 0 R) (fun g Z=>.inr Z) (fun g _ Y=>absurd Y (Nat.not_lt_zero _)) h;have C:=o f hf;unfold jc;have S:∀g∈(bw 0 R).filter (fun g=>decide (g.1<f.1)&& !bef H g.1 f.1),(g.2.nx.length=g.2.mem.length/\g.2.wr=[])\/(g.2.wr=[]/\cK g.2.mem.length g.2.nx.length f.2=true):=by
  intro g Z;have U:=List.mem_filter.1 Z;simp only[C0,Es,Bool.not_eq_true'] at U;rcases (o g U.1).or with V | ⟨_,V,_⟩
  .exact .inl V
  .rcases V f hf U.2.1 with G | G
   .rw[G] at U;exact absurd U.2.2 (by simp)
   .exact .inr G
 have F:∀g∈(bw 0 R).filter (fun g=>decide (g.1<f.1)&& !bef H g.1 f.1),g.2.wr=[]/\(f.2.wr.all fun b=> !fI g.2.tm b)=true/\(f.2.wr=[]\/g.2.nx.length=g.2.mem.length):=by
  intro g Z;have U:=List.mem_filter.1 Z;simp only[C0,Es,Bool.not_eq_true'] at U;rcases S g Z with⟨M,X⟩ | ⟨M,X⟩
  .refine⟨X,?_,.inr M⟩
   rcases C.or with V | ⟨V,_⟩
   .rw[V.2];rfl
   .rcases V with V | V
    .rw[V];rfl
    .rcases V g U.1 U.2.1 with h3 | h3
     .rw[h3] at U;exact absurd U.2.2 (by simp)
     .exact h3.2
  .simp only[cK,C0,List.isEmpty_iff] at X
   refine⟨M,?_,.inl X.1.1.1⟩;rw[X.1.1.1];rfl
 have W:f.2.v.adM (jo f.2.nx.length ((bw 0 R).filter fun g=>decide (g.1<f.1)&& !bef H g.1 f.1))=true:=afK C.refs fun g Z=>by
  rcases S g Z with⟨M,_⟩ | ⟨_,X⟩
  .rw[ss M];exact afB _
  .simp only[cK,C0] at X
   exact X.1.1.2
 have B:(((bw 0 R).filter fun g=>decide (g.1<f.1)&& !bef H g.1 f.1).all fun g=>g.2.wr.all (fun b=> !fI f.2.tm b)&&f.2.wr.all (fun b=> !fI g.2.tm b)&&
   ((f.2.tm.drop g.2.mem.length).take (g.2.nx.length-g.2.mem.length)).all fun s=>match s with | .qK=>true | _=>false)=true:=List.all_eq_true.2 fun g Z=>by
  obtain⟨w1,w2,_⟩:=F g Z;rw[w1,w2];simp only[List.all_nil,Bool.true_and];rcases S g Z with⟨M,_⟩ | ⟨_,X⟩
  .rw[M,Nat.sub_self,List.take_zero];rfl
  .simp only[cK,C0] at X
   refine List.all_eq_true.2 fun s K=>?_
   have:=List.all_eq_true.1 X.2 s K;cases s<;>simp_all[qp]
 have u:((f.2.nx.drop f.2.mem.length).all fun s=>(s.own||match s with | .qK=>true | _=>false)&&s.adM (jo f.2.nx.length ((bw 0 R).filter fun g=>decide (g.1<f.1)&& !bef H g.1 f.1)))=true:=by
  refine List.all_eq_true.2 fun s K=>?_
  rcases C.or with⟨V,_⟩ | ⟨_,_,_,J⟩
  .rw[ZN (by rw[V];exact L9 _)] at K;cases K
  .have L:=List.all_eq_true.1 J s K
   simp only[C0] at L |-;refine⟨L.1,afl.afK L.2 fun g Z=>?_⟩;rcases S g Z with⟨M,_⟩ | ⟨_,X⟩
   .rw[ss M];exact afl.afB _
   .simp only[cK,C0] at X
    exact List.all_eq_true.1 X.1.2 s K
 have m:f.2.wr.all (fun b=>fI f.2.tm b)=true/\(f.2.wr.all fun b=>match f.2.nx[b]? with | some s=>s.adM (jo f.2.nx.length ((bw 0 R).filter fun g=>decide (g.1<f.1)&& !bef H g.1 f.1)) | none=>true)=true:=by
  rcases C.or with⟨_,G⟩ | ⟨_,_,h3,_⟩
  .rw[G];exact⟨rfl,rfl⟩
  .constructor
   .refine List.all_eq_true.2 fun b D=>?_
    have:=List.all_eq_true.1 h3 b D;simp only[C0] at this;exact this.1
   .refine List.all_eq_true.2 fun b D=>?_
    have:=List.all_eq_true.1 h3 b D;simp only[C0] at this;cases hn:f.2.nx[b]? with
    |none=>rfl
    |some s=>
     simp only[hn] at this |-;refine afl.afK this.2 fun g Z=>?_
     rcases (F g Z).2.2 with L | L
     .rw[L] at D;cases D
     .rw[ss L];exact afl.afB _
 simp only[C0];exact⟨⟨⟨⟨m.1,W⟩,m.2⟩,u⟩,B⟩
theorem aY{T:TypeId->Option TyI}{ops:Array Oper}{H:List Nat}(I:dO ops.toList=H)(s:XS):
  aG T O N m0 ops s=match cq T O N m0 ops H s with
   |some s' =>some s'
   |none=>pS T O N m0 ops s:=by
 cases h:cq T O N m0 ops H s with
 |none=>rfl
 |some s' =>
  simp only;unfold cq at h;unfold aG;simp only;rw[I];split at h
  .cases h
  .rename_i R env mem Z
   split at h
   .rename_i X
    cases h;rw[Z];simp only;rw[if_pos (List.all_eq_true.2 fun f V=>GC X V)]
   .cases h
mutual
theorem AV.aga{k n:Nat}(H:k<=n):∀{v:AV},v.under k=true->v.refs n=[]
 |.undef,_=>rfl
 |.bool _,_=>rfl
 |.int _ _,_=>rfl
 |.str _,_=>rfl
 |.ptr b o,h=>by simp only[AV.under,Es] at h;simp only[AV.refs];rw[if_pos (by omega)]
 |.afw,_=>rfl
 |.slice b o l c,h=>by simp only[AV.under,Es] at h;simp only[AV.refs];rw[if_pos (by omega)]
 |.qF,_=>rfl
 |.map b,h=>by simp only[AV.under,Es] at h;simp only[AV.refs];rw[if_pos (by omega)]
 |.yield b,h=>by simp only[AV.under,Es] at h;simp only[AV.refs];rw[if_pos (by omega)]
 |.afG,_=>rfl
 |.func f Z,h=>by simp only[AV.under] at h;simp only[AV.refs];exact AV.afL H h
 |.nilFunc,_=>rfl
 |.iface t v,h=>by simp only[AV.under] at h;simp only[AV.refs];exact AV.aga H h
 |.nilIface,_=>rfl
 |.agg Z,h=>by simp only[AV.under] at h;simp only[AV.refs];exact AV.afL H h
 |.tuple Z,h=>by simp only[AV.under] at h;simp only[AV.refs];exact AV.afL H h
theorem AV.afL{k n:Nat}(H:k<=n):∀{vs:List AV},AV.afp k vs=true->AV.afy n vs=[]
 | [],_=>rfl
 |v::vs,h=>by simp only[AV.afp,C0] at h;simp only[AV.afy,AV.aga H h.1,AV.afL H h.2,List.append_nil]
end
mutual
theorem AV.af0{k:Nat}{f:Nat->Bool}(hf:∀b,b<k->f b=true):∀{v:AV},v.under k=true->v.adM f=true
 |.undef,_=>rfl
 |.bool _,_=>rfl
 |.int _ _,_=>rfl
 |.str _,_=>rfl
 |.ptr b o,h=>by simp only[AV.under,Es] at h;simp only[AV.adM];exact hf b h
 |.afw,_=>rfl
 |.slice b o l c,h=>by simp only[AV.under,Es] at h;simp only[AV.adM];exact hf b h
 |.qF,_=>rfl
 |.map b,h=>by simp only[AV.under,Es] at h;simp only[AV.adM];exact hf b h
 |.yield b,h=>by simp only[AV.under,Es] at h;simp only[AV.adM];exact hf b h
 |.afG,_=>rfl
 |.func f Z,h=>by simp only[AV.under] at h;simp only[AV.adM];exact AV.afF hf h
 |.nilFunc,_=>rfl
 |.iface t v,h=>by simp only[AV.under] at h;simp only[AV.adM];exact AV.af0 hf h
 |.nilIface,_=>rfl
 |.agg Z,h=>by simp only[AV.under] at h;simp only[AV.adM];exact AV.afF hf h
 |.tuple Z,h=>by simp only[AV.under] at h;simp only[AV.adM];exact AV.afF hf h
theorem AV.afF{k:Nat}{f:Nat->Bool}(hf:∀b,b<k->f b=true):∀{vs:List AV},AV.afp k vs=true->AV.afn f vs=true
 | [],_=>rfl
 |v::vs,h=>by simp only[AV.afp,C0] at h;simp only[AV.afn,AV.af0 hf h.1,AV.afF hf h.2,Bool.and_self]
end
mutual
theorem yi{k n:Nat}(H:k<=n):∀{v:AV},v.under k=true->v.under n=true
 |.undef,_=>rfl
 |.bool _,_=>rfl
 |.int _ _,_=>rfl
 |.str _,_=>rfl
 |.ptr b o,h=>by simp only[AV.under,Es] at h |-;omega
 |.afw,_=>rfl
 |.slice b o l c,h=>by simp only[AV.under,Es] at h |-;omega
 |.qF,_=>rfl
 |.map b,h=>by simp only[AV.under,Es] at h |-;omega
 |.yield b,h=>by simp only[AV.under,Es] at h |-;omega
 |.afG,_=>rfl
 |.func f Z,h=>by simp only[AV.under] at h |-;exact pX H h
 |.nilFunc,_=>rfl
 |.iface t v,h=>by simp only[AV.under] at h |-;exact yi H h
 |.nilIface,_=>rfl
 |.agg Z,h=>by simp only[AV.under] at h |-;exact pX H h
 |.tuple Z,h=>by simp only[AV.under] at h |-;exact pX H h
theorem pX{k n:Nat}(H:k<=n):∀{vs:List AV},AV.afp k vs=true->AV.afp n vs=true
 | [],_=>rfl
 |v::vs,h=>by simp only[AV.afp,C0] at h |-;exact⟨yi H h.1,pX H h.2⟩
end
variable{k:Nat}
theorem gy{vs:List AV}(h:AV.afp k vs=true):(∀n,k<=n->AV.afy n vs=[])/\(∀n,k<=n->AV.afn (fun b=>decide (b<n)) vs=true):=
 ⟨fun n Z=>AV.afL Z h,fun n Z=>AV.afF (fun b X=>by simp only[Es];omega) h⟩
variable{v:AV}
theorem gf(h:v.under k=true):(∀n,k<=n->v.refs n=[])/\(∀n,k<=n->v.adM (fun b=>decide (b<n))=true):=
 ⟨fun n Z=>AV.aga Z h,fun n Z=>AV.af0 (fun b X=>by simp only[Es];omega) h⟩
mutual
theorem afj.cut{μ μ' :Nat->Place}{n n' :Nat}:∀{v V V'},afj μ n v V->afj μ' n' v V' ->afj μ' n v V'
 |.undef,V,V',_,_=>by simp[afj]
 |.bool b,V,V',_,h=>by simpa [afj] using h
 |.int k i,V,V',_,h=>by simpa [afj] using h
 |.str s,V,V',_,h=>by simpa [afj] using h
 |.ptr b o,V,V',h,Z =>by simp only[afj] at h Z |-;exact⟨h.1,Z.2⟩
 |.afw,V,V',_,h=>by simpa [afj] using h
 |.slice b o l c,V,V',h,Z =>by simp only[afj] at h Z |-;exact⟨h.1,Z.2⟩
 |.qF,V,V',_,h=>by simpa [afj] using h
 |.map b,V,V',h,Z =>by simp only[afj] at h Z |-;exact⟨h.1,Z.2⟩
 |.yield b,V,V',h,Z =>by simp only[afj] at h Z |-;exact⟨h.1,Z.2⟩
 |.afG,V,V',_,h=>by simpa [afj] using h
 |.func f S,V,V',h,Z =>by simp only[afj] at h Z |-;obtain⟨M,rfl,h⟩:=h;obtain⟨X,rfl,Z⟩:=Z;exact⟨X,rfl,afk.cut h Z⟩
 |.nilFunc,V,V',_,h=>by simpa [afj] using h
 |.iface t v,V,V',h,Z =>by simp only[afj] at h Z |-;obtain⟨U,rfl,h⟩:=h;obtain⟨L,rfl,Z⟩:=Z;exact⟨L,rfl,afj.cut h Z⟩
 |.nilIface,V,V',_,h=>by simpa [afj] using h
 |.agg S,V,V',h,Z =>by simp only[afj] at h Z |-;obtain⟨M,rfl,h⟩:=h;obtain⟨X,rfl,Z⟩:=Z;exact⟨X,rfl,afk.cut h Z⟩
 |.tuple S,V,V',h,Z =>by simp only[afj] at h Z |-;obtain⟨M,rfl,h⟩:=h;obtain⟨X,rfl,Z⟩:=Z;exact⟨X,rfl,afk.cut h Z⟩
theorem afk.cut{μ μ' :Nat->Place}{n n' :Nat}:∀{vs Us Us'},afk μ n vs Us->afk μ' n' vs Us' ->afk μ' n vs Us'
 | [],Us,Us',_,h=>by simpa [afk] using h
 |v::vs,Us,Us',h,h' =>by simp only[afk] at h h' |-;obtain⟨U,K,rfl,V,S⟩:=h;obtain⟨M,Z,rfl,L,X⟩:=h';exact⟨M,Z,rfl,afj.cut V L,afk.cut S X⟩
end
theorem afx.cut{μ μ' :Nat->Place}{n n' H:Nat}{w w' :World}{p I :Place}{s:afl}(h:afx μ n H w p s)(h' :afx μ' n' H w' I s):afx μ' n H w' I s:=by
 cases s with
 |qK=>trivial
 |cells own es cs=>
  simp only[afx] at h h' |-;obtain⟨_,_,_,_,_,_,M,_⟩:=h;obtain⟨F,e,m,X,U,K,G,Y⟩:=h';refine⟨F,e,m,X,U,K,fun j v Z=>?_,Y⟩;obtain⟨V,_,r⟩:=M j v Z;obtain⟨W,D,S⟩:=G j v Z;exact⟨W,D,afj.cut r S⟩
 |map es=>
  simp only[afx] at h h' |-;obtain⟨_,_,_,_,_,M⟩:=h;obtain⟨C,B,X,U,K,G⟩:=h';refine⟨C,B,X,U,K,fun j e Z=>?_⟩;obtain⟨E,_,r⟩:=M j e Z;obtain⟨u,o,S⟩:=G j e Z;exact⟨u,o,afj.cut r.1 S.1,afj.cut r.2 S.2⟩
 |afS es=>
  simp only[afx] at h h' |-;obtain⟨_,_,_,_,_,M⟩:=h;obtain⟨C,B,X,U,K,G⟩:=h';refine⟨C,B,X,U,K,fun j e Z=>?_⟩;obtain⟨E,_,r⟩:=M j e Z;obtain⟨u,o,S⟩:=G j e Z;exact⟨u,o,afj.cut r.1 S.1,afj.cut r.2 S.2⟩
 |loop r=>
  simp only[afx] at h h' |-;obtain⟨L,_,_,g⟩:=h;obtain⟨J,X,U,k⟩:=h';exact⟨J,X,U,k.st,k.ago,k.ps,k.assign,k.body,k.size,fun t=>afj.cut (g.tmps t) (k.tmps t)⟩
variable{P:Program}{args:List AV}{m new:Mem}
theorem kO.forget{f:FuncId}(H:v.closed=true)(h:kO P f args m v (m++new)):kO P f args m v m:=by
 refine⟨h.1,fun base μ w Vs hG hH hV=>(h.2 base μ w Vs hG hH hV).mono ?_⟩;rintro e w' ⟨V,v',m',μ',rfl,q1,q2,q3,rfl,rfl⟩;have X:∀{b:Nat}{s:afl},m[b]? =some s->(m++new)[b]? =some s:=fun {b s} Z=>gU Z _
 have U:∀{b:Nat},eJ m b->eJ (m++new) b:=fun ⟨s,S,M⟩=>⟨s,X S,M⟩
 exact⟨V,_,m,μ',rfl,afj.closed H q1,⟨q2.afr,fun b s Z=>(hH.slot b s Z).cut (q2.slot b s (X Z)),fun b L K Z G =>q2.sep b L K (U Z) (X G)⟩,
  ⟨L9 _,q3.agree,q3.os,q3.tape,q3.output,q3.size,q3.frame,fun b Z=>q3.owner b (U Z),q3.drawn⟩,rfl,rfl⟩
mutual
theorem afj.low{μ:Nat->Place}{n n' :Nat}:∀{v V},v.under n=true->afj μ n' v V->afj μ n v V
 |.undef,V,_,_=>by simp[afj]
 |.bool b,V,_,h=>by simpa [afj] using h
 |.int k i,V,_,h=>by simpa [afj] using h
 |.str s,V,_,h=>by simpa [afj] using h
 |.ptr b o,V,hu,h=>by simp only[AV.under,Es] at hu;simp only[afj] at h |-;exact⟨hu,h.2⟩
 |.afw,V,_,h=>by simpa [afj] using h
 |.slice b o l c,V,hu,h=>by simp only[AV.under,Es] at hu;simp only[afj] at h |-;exact⟨hu,h.2⟩
 |.qF,V,_,h=>by simpa [afj] using h
 |.map b,V,hu,h=>by simp only[AV.under,Es] at hu;simp only[afj] at h |-;exact⟨hu,h.2⟩
 |.yield b,V,hu,h=>by simp only[AV.under,Es] at hu;simp only[afj] at h |-;exact⟨hu,h.2⟩
 |.afG,V,_,h=>by simpa [afj] using h
 |.func f X,V,hu,h=>by simp only[AV.under] at hu;simp only[afj] at h |-;obtain⟨Z,rfl,h⟩:=h;exact⟨Z,rfl,afk.low hu h⟩
 |.nilFunc,V,_,h=>by simpa [afj] using h
 |.iface t v,V,hu,h=>by simp only[AV.under] at hu;simp only[afj] at h |-;obtain⟨U,rfl,h⟩:=h;exact⟨U,rfl,afj.low hu h⟩
 |.nilIface,V,_,h=>by simpa [afj] using h
 |.agg X,V,hu,h=>by simp only[AV.under] at hu;simp only[afj] at h |-;obtain⟨Z,rfl,h⟩:=h;exact⟨Z,rfl,afk.low hu h⟩
 |.tuple X,V,hu,h=>by simp only[AV.under] at hu;simp only[afj] at h |-;obtain⟨Z,rfl,h⟩:=h;exact⟨Z,rfl,afk.low hu h⟩
theorem afk.low{μ:Nat->Place}{n n' :Nat}:∀{vs Us},AV.afp n vs=true->afk μ n' vs Us->afk μ n vs Us
 | [],Us,_,h=>by simpa [afk] using h
 |v::vs,Us,hu,h=>by simp only[AV.afp,C0] at hu;simp only[afk] at h |-;obtain⟨U,Z,rfl,X,V⟩:=h;exact⟨U,Z,rfl,afj.low hu.1 X,afk.low hu.2 V⟩
end
theorem kO.aha{f:FuncId}{H:Mem}(J:v.closed=true)(I:H.length=m.length)(hc:∀(b:Nat) s,H[b]? =some s->m[b]? =some s\/∃o es U,s=.cells o es U/\AV.afp m.length U=true)(h:kO P f args m v (H++new)):kO P f args m v H:=by
 refine⟨h.1,fun base μ w Vs hG hH hV=>(h.2 base μ w Vs hG hH hV).mono ?_⟩;rintro e w' ⟨V,v',m',μ',rfl,q1,q2,q3,rfl,rfl⟩;have X:∀{b:Nat}{s:afl},H[b]? =some s->(H++new)[b]? =some s:=fun {b s} Z=>gU Z _
 have K:∀{b:Nat},eJ H b->eJ (H++new) b:=fun ⟨s,S,F⟩=>⟨s,X S,F⟩
 refine⟨V,_,H,μ',rfl,afj.closed J q1,⟨q2.afr,fun b s Z=>?_,fun b D C Z B =>q2.sep b D C (K Z) (X B)⟩,
  ⟨by rw[I];exact L9 _,q3.agree,q3.os,q3.tape,q3.output,q3.size,q3.frame,fun b Z=>q3.owner b (K Z),q3.drawn⟩,rfl,rfl⟩
 rw[I];rcases hc b s Z with S | ⟨o,es,U,rfl,u⟩
 .exact(hH.slot b s S).cut (q2.slot b s (X Z))
 .have:=q2.slot _ _ (X Z)
  simp only[afx] at this |-;obtain⟨M,e,Y,W,k2,k3,k4,k5⟩:=this;refine⟨M,e,Y,W,k2,k3,fun j v G=>?_,k5⟩;obtain⟨V',L,r'⟩:=k4 j v G;exact⟨V',L,afj.low (yj u j v G) r'⟩
end Go.Eng
