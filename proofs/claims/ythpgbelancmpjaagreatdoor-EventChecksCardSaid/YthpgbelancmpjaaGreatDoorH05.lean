/- See H38. -/
import Derived.Test.YthpgbelancmpjaaGreatDoorH04
import Derived.Maps.RangeRun
set_option linter.all false
namespace Go.Eng
theorem YU:iZ []=[]:=rfl
theorem rX(n:Int)(l:List Int):iZ (n::l)=.int .i64 n::iZ l:=rfl
theorem Uo(l:List Int):(iZ l).length=l.length:=by simp[iZ]
theorem CT(l r:List Int):iZ (l++r)=iZ l++iZ r:=by simp[iZ]
theorem Xj(l:List Int)(i:Nat):(iZ l)[i]? =(l[i]?).map fun n=>.int .i64 n:=by simp[iZ]
theorem Rg(l:List Int)(i:Nat)(h:i<(iZ l).length):(iZ l)[i]=.int .i64 (l[i]'(by simpa [iZ] using h)):=by simp[iZ]
theorem XP(l:List Int)(i:Nat):(iZ l).take i=iZ (l.take i):=by simp[iZ]
theorem XO(l:List Int)(i:Nat):(iZ l).drop i=iZ (l.drop i):=by simp[iZ]
theorem YT(l:List Int):(iZ l).all AV.adM=true:=by simp[iZ,AV.adM]
theorem Hs(m:Nat)(l:List Int):AV.afN m (iZ l)=[]:=by
 induction l with
 |nil=>rfl
 |cons x l ih=>simp[rX,AV.afN,AV.refs,ih]
theorem DB(ρ:Nat->Option Nat)(l:List Int):AV.afR ρ (iZ l)=iZ l:=by
 induction l with
 |nil=>rfl
 |cons x l ih=>simp[rX,AV.afR,AV.ren,ih]
theorem Mi(m:Nat)(l:List Int):AV.afB m (iZ l)=true:=by
 induction l with
 |nil=>rfl
 |cons x l ih=>simp[rX,AV.afB,AV.under,ih]
theorem FF(ok:Nat->Bool)(l:List Int):AV.afD ok (iZ l)=true:=by
 induction l with
 |nil=>rfl
 |cons x l ih=>simp[rX,AV.afD,AV.aft,ih]
theorem L4(m:Nat)(o:Bool)(e:Nat)(l:List Int):afz.refs m (.cells o e (iZ l))=[]:=by simp[afz.refs,Hs]
theorem Oc(ρ:Nat->Option Nat)(o:Bool)(e:Nat)(l:List Int):afz.ren ρ (.cells o e (iZ l))=.cells o e (iZ l):=by simp[afz.ren,DB]
theorem EN(ok:Nat->Bool)(o:Bool)(e:Nat)(l:List Int):afz.aft ok (.cells o e (iZ l))=true:=by simp[afz.aft,FF]
theorem OQ(l:List Int)(i:Nat)(n:Int)(h:i<l.length):(iZ l).take i++.int .i64 n::(iZ l).drop (i+1)=iZ (l.set i n):=by rw[XP,XO,<-rX,<-CT,List.set_eq_take_append_cons_drop,if_pos h]
theorem Up(l:Nat):jH [.int .i64 0] l=iZ (List.replicate l 0):=by
 induction l with
 |zero=>rfl
 |succ l ih=>rw[jH,ih,List.replicate_succ,rX];rfl
theorem ZE(l:List Nat):iN .i64 l=iZ (l.map fun n:Nat=>(n:Int)):=by simp[iN,iZ]
attribute [simp] YU Uo Xj Rg Hs DB Mi FF L4 Oc EN YT
def zt:List AV->Option (List Int)
 | []=>some []
 |.int .i64 n::l=>match zt l with
  |some r=>some (n::r)
  |none=>none
 |_::_=>none
theorem Uu(l:List Int):zt (iZ l)=some l:=by
 induction l with
 |nil=>rfl
 |cons x l ih=>rw[rX,zt,ih]
theorem CU:∀{l:List AV} {r:List Int},zt l=some r->l=iZ r
 | [],r,h=>by cases h;rfl
 |v::l,r,h=>by
  cases v<;>first | (unfold zt at h;cases h;done) | skip
  rename_i Z n;cases Z <;>first | (unfold zt at h;cases h;done) | skip
  unfold zt at h;split at h
  .rename_i V X
   cases h;rw[rX,CU X]
  .cases h
def Zu(M:Mem)(x:AV)(A:List Int):Prop:=∃b o Z,x=.slice b 0 A.length none/\M[b]? =some (.cells o 1 Z)/\Z.take A.length=iZ A
def zG(M:Mem):AV->Option (List Int)
 |.slice b 0 n none=>match M[b]? with
  |some (.cells _ 1 cs)=>if n<=cs.length then zt (cs.take n) else none
  |_=>none
 |_=>none
theorem Om{M:Mem}{x:AV}{A:List Int}(h:zG M x=some A):Zu M x A:=by
 unfold zG at h;split at h
 .rename_i b n
  split at h
  .rename_i o X V
   split at h
   .rename_i S
    have Z:=CU h;have U:n=A.length:=by have:=congrArg List.length Z;simp at this;omega
    subst U;exact⟨b,o,X,rfl,V,Z⟩
   .cases h
  .cases h
 .cases h
variable{b:Nat}{cs:List AV}
theorem DI{M:Mem}{n:Nat}{ow:Bool}{A:List Int}(h:M[b]? =some (.cells ow 1 cs))(H:n<=cs.length)(I:cs.take n=iZ A):zG M (.slice b 0 n none)=some A:=by simp only[zG,h];rw[if_pos H,I,Uu]
theorem agb.aid{ks:List Nat}{M:Mem}{o:Bool}{A:List Int}(h:M[b]? =some (.cells o 1 cs))(H:cs.take A.length=iZ A):agb ks M b (.cells false 1 (iZ A)):=by
 refine⟨Mi _ _,o,cs,h,fun j v Z=>?_⟩;have X:j<A.length:=by have:=gL Z;simpa using this
 have:cs[j]? =(iZ A)[j]? :=by rw[<-H,V2 X]
 rw[this,Z];rw[Xj] at Z;simp only[Pi] at Z;obtain⟨n,_,rfl⟩:=Z;simp[AV.ren]
section
variable {P:Program}{f:FuncId}{A B:List Int}{M:Mem}{x y:AV}
theorem bz.ahK{rest:List AV}{v:AV}{new:Mem}(hr:AV.afA rest=true)(H:new.all (fun s=>s.own||match s with | .y9=>true | _=>false)=true)(h:bz P f (.slice 0 0 A.length none::rest) [.cells false 1 (iZ A)] v (.cells false 1 (iZ A)::new))(hx:Zu M x A):
  ∃b,x=.slice b 0 A.length none/\bz P f (x::rest) M (v.ren (back [b] M.length)) (M++new.map (afz.ren (back [b] M.length))):=by
 obtain⟨b,o,cs,rfl,X,V⟩:=hx;refine⟨b,rfl,?_⟩;have U:=gL X;have:=bz.frame (M:=M) [b] (m:=[.cells false 1 (iZ A)]) rfl (by simpa using U) (by simp only[AV.afB,AV.under,bx hr];rfl) (fun i s Z=>by
  cases i with
  |zero=>simp at Z;subst Z;exact .aid X V
  |succ i=>simp at Z) H h
 simpa [AV.afR,AV.ren,back,aS hr] using this
end
end Go.Eng
namespace Go.Eng
def jr(H:List Nat)(j:Nat):Bool:=(List.range j).all fun i=>bef H i j
def cV(H:Bool)(I:List Nat)(j:Nat)(r:Rec):Bool:=
 decide (r.nx.length=r.mem.length)&&r.v.aft (fun b=>decide (b<r.nx.length))&&
  (if H then jr I j&&r.wr.all (fun b=>dj r.tm b&&(match r.nx[b]? with | some s=>s.aft (fun b=>decide (b<r.nx.length)) | none=>true)) else r.wr.isEmpty)
def cO(H:List Nat):Nat->List Rec->Bool
 |_,[]=>true
 |j,[r]=>cV true H j r
 |j,r::r2::rest=>cV false H j r&&cO H (j+1) (r2::rest)
def cX(T:TypeId->Option TyI)(O:afu)(N m0:Nat)(ops:Array Oper)(H:List Nat)(s:XS):Option XS:=
 match mx T O N ops H 0 ops.toList s.env s.mem [] with
 |none=>none
 |some (R,env,mem)=>
  if cO H 0 R then some ⟨env,mem,s.afS||R.any fun r=>r.wr.any fun b=>decide (b<m0)⟩ else none
def mw(T:TypeId->Option TyI)(O:afu)(N m0:Nat)(ops:Array Oper)(s:XS):Option XS:=aN T O N m0 ops s
theorem gT:∀{j0:Nat} {R:List Rec} {f:Nat×Rec},f∈aP j0 R->j0<=f.1/\f.1<j0+R.length
 |_,[],f,h=>by simp[aP] at h
 |j0,r::R,f,h=>by
  simp only[aP,List.mem_cons] at h;rcases h with rfl | h
  .simp
  .have:=gT h
   simp only[List.length_cons];omega
structure agJ (bs:List Nat)(n:Nat)(f:Nat×Rec):Prop where
 len:f.2.nx.length=f.2.mem.length
 refs:f.2.v.aft (fun b=>decide (b<f.2.nx.length))=true
 wr:f.2.wr=[]\/(f.1+1=n/\(∀i,i<f.1->bef bs i f.1=true)/\f.2.wr.all (fun b=>dj f.2.tm b&&(match f.2.nx[b]? with | some s=>s.aft (fun b=>decide (b<f.2.nx.length)) | none=>true))=true)
theorem xa{H:List Nat}:∀{j0:Nat} {R:List Rec},cO H j0 R=true->∀f∈aP j0 R,agJ H (j0+R.length) f
 |_,[],_,f,hf=>by simp[aP] at hf
 |j0,[r],h,f,hf=>by simp only[aP,lM] at hf;subst hf;simp only[cO,cV,Ar,Cs,if_true] at h;obtain⟨⟨Z,X⟩,h3,V⟩:=h;exact⟨Z,X,.inr ⟨rfl,fun i U=>List.all_eq_true.1 h3 i (List.mem_range.2 U),V⟩⟩
 |j0,r::r2::rest,h,f,hf=>by
  simp only[cO,Ar] at h;rw[aP,List.mem_cons] at hf;rcases hf with rfl | hf
  .have Z:=h.1
   simp only[cV,Ar,Cs,Bool.false_eq_true,if_false,List.isEmpty_iff] at Z;obtain⟨⟨Z,X⟩,h3⟩:=Z;exact⟨Z,X,.inl h3⟩
  .have:=xa h.2 f hf
   have e:j0+1+(r2::rest).length=j0+(r::r2::rest).length:=by simp only[List.length_cons];omega
   rw[e] at this;exact this
variable{bs:List Nat}
theorem N0{n top:Nat}{un:List (Nat×Rec)}(h:∀f∈un,agJ bs n f):iu top un=fun b=>decide (b<top):=by
 funext b;unfold iu;have:(un.all fun f=> !decide (f.2.mem.length<=b/\b<f.2.nx.length))=true:=List.all_eq_true.2 fun f Z=>by have:=(h f Z).len;simp;omega
 rw[this,Bool.and_true]
theorem EE{R:List Rec}(h:cO bs 0 R=true){f:Nat×Rec}(hf:f∈aP 0 R):gO bs (aP 0 R) f.1 f.2=true:=by
 have K:=xa h;have X:=K f hf;have F:=gT hf;unfold gO;have U:∀g∈(aP 0 R).filter (fun g=>decide (g.1<f.1)&& !bef bs g.1 f.1),agJ bs (0+R.length) g:=fun g S=>K g ((List.mem_filter.1 S).1)
 simp only[N0 U,Ar];have G:f.2.nx.drop f.2.mem.length=[]:=M6 (by rw[X.len];exact Es _);refine⟨⟨⟨⟨?_,X.refs⟩,?_⟩,by rw[G];rfl⟩,?_⟩
 .rcases X.wr with Z | ⟨_,_,Z⟩
  .rw[Z];rfl
  .refine List.all_eq_true.2 fun b O=>?_
   have:=List.all_eq_true.1 Z b O;simp only[Ar] at this;exact this.1
 .rcases X.wr with Z | ⟨_,_,Z⟩
  .rw[Z];rfl
  .refine List.all_eq_true.2 fun b O=>?_
   have:=List.all_eq_true.1 Z b O;simp only[Ar] at this;exact this.2
 .refine List.all_eq_true.2 fun g S=>?_
  have Q:=U g S;have V:=List.mem_filter.1 S;simp only[Ar,Cs,Bool.not_eq_true'] at V;have N:g.2.wr=[]:=by
   rcases Q.wr with Z | ⟨Z,_,_⟩
   .exact Z
   .have:=gT ((List.mem_filter.1 S).1)
    omega
  have M:f.2.wr=[]:=by
   rcases X.wr with Z | ⟨_,Z,_⟩
   .exact Z
   .rw[Z g.1 V.2.1] at V
    exact absurd V.2.2 (by simp)
  rw[N,M,Q.len,Nat.sub_self,List.take_zero];rfl
variable{ops:Array Oper}
theorem aY{T:TypeId->Option TyI}{O:afu}{N m0:Nat}(H:eW ops.toList=bs)(s:XS):
  aN T O N m0 ops s=match cX T O N m0 ops bs s with
   |some s' =>some s'
   |none=>mw T O N m0 ops s:=by
 cases h:cX T O N m0 ops bs s with
 |none=>rfl
 |some s' =>
  simp only;unfold cX at h;unfold aN;simp only;rw[H];split at h
  .cases h
  .rename_i R env mem Z
   split at h
   .rename_i X
    cases h;rw[Z];simp only;rw[if_pos (List.all_eq_true.2 fun f V=>EE X V)]
   .cases h
def cU:Code->List (Array Oper)
 |.region _ ops true=>[ops]
 |.seq a b=>cU a++cU b
 |.cond _ a b=>cU a++cU b
 |.block _ b=>cU b
 |.loop b=>cU b
 |.rangeFunc _ _ a b=>cU a++cU b
 |_=>[]
def bn(f:Func):List (Array Oper):=match f.body with
 |some c=>cU c
 |none=>[]
variable{f:Func}{l:List Nat}
theorem wR(h:bn f=[ops])(H:(bn f).map (fun o=>eW o.toList)=[l]):eW ops.toList=l:=by rw[h] at H;simpa using H
theorem gF{j:Nat}(h:bn f=[ops])(H:(bn f).map (fun o=>eW o.toList)=[l])(I:jr l j=true):eW ops.toList=l/\jr l j=true:=⟨wR h H,I⟩
theorem Lm{o H :Array Oper}{l' :List Nat}(h:bn f=[o,H])(I:(bn f).map (fun o=>eW o.toList)=[l,l']):eW o.toList=l/\eW H.toList=l' :=by rw[h] at I;simpa using I
theorem cR{os:List (Array Oper)}{ls:List (List Nat)}(h:bn f=os)(H:(bn f).map (fun o=>eW o.toList)=ls):os.map (fun o=>eW o.toList)=ls:=by rw[<-h];exact H
end Go.Eng
namespace Go.Eng
open Go.ChangeMaps (setBlock)
variable{w' :World}
section
variable {P:Program}{T:TypeId->Option TyI}{μ:Nat->Place}{mem:Mem}{base:Nat}{w:World}
theorem zB(H:afJ base μ mem w){r:Nat}{m s seen c}(hr:w.heap[r]? =some (.mapIter m s seen c)){b:Nat}{s' :afz}(I:mem[b]? =some s')(hs:s' ≠ .y9):(μ b).blk≠r:=by
 intro e;have:=H.slot b s' I;cases s' with
 |y9=>exact hs rfl
 |cells own es cs=>simp only[afM] at this;obtain⟨_,_,_,Z,_⟩:=this;rw[e,hr] at Z;cases Z
 |map es=>simp only[afM] at this;obtain⟨_,_,Z,_⟩:=this;rw[e,hr] at Z;cases Z
 |af6 es=>simp only[afM] at this;obtain⟨_,_,Z,_⟩:=this;rw[e,hr] at Z;cases Z
 |loop r=>simp only[afM] at this;obtain⟨_,Z,_⟩:=this;rw[e,hr] at Z;cases Z
theorem afJ.ahL{r:Nat}{m s seen c}{o:Obj}(H:afJ base μ mem w)(hr:w.heap[r]? =some (.mapIter m s seen c)):afJ base μ mem (setBlock w r o):=by
 refine⟨by simpa [setBlock] using H.afF,fun b Z X=>?_,H.sep⟩;by_cases V:Z =.y9
 .subst V;trivial
 .refine(H.slot b Z X).mono (Es _) (fun _ _=>rfl) fun _=>?_
  exact P3 (Ne.symm (zB H hr X V))
theorem Step.ahL{m0:Nat}{μ' :Nat->Place}{H :Mem}{r:Nat}{o:Obj}(h:Step m0 μ mem w μ' H w')(hr:w.heap.size<=r):Step m0 μ mem w μ' H (setBlock w' r o):=h.shut hr
theorem MOk.ahL{h0 r:Nat}{H:List Deferred}{m s seen c}{o:Obj}(h:MOk P base h0 w H)(hr:w.heap[r]? =some (.mapIter m s seen c))(I:base<=r):MOk P base h0 (setBlock w r o) H:=by
 refine⟨⟨h.agH.below,?_⟩,h.afF,by simpa [setBlock] using h.le,fun d X=>?_,h.nodup⟩
 .have:=h.agH.tab
  unfold Lib.TabIs at this |-;rw[<-this];refine Pf fun k S=>P3 ?_
  have:=h.agH.below;omega
 .obtain⟨q,e,V,Z⟩:=h.each d X
  refine⟨q,e,V,?_⟩;have U:r≠q:=by rintro rfl;rw[hr] at Z;cases Z
  show(w.heap.setIfInBounds r o)[q]? =_
  rw[P3 U,Z]
theorem N5(hT:dS P T){N:Nat}{ops:Array Oper}{Q:Exit->Act->World->Prop}{rest:List Oper}:∀{l:List Oper}{H I :St}{μ:Nat->Place} {w:World} {a:Act} {m0:Nat}{μ0:Nat->Place} {mem0:Mem} {w0:World} {h0:Nat} {J:Option Nat},
  nq P T N ops l H I ->afJ base μ H.mem w->af2 μ H.mem.length H.env a.tmps->a.tmps.size=N->MOk P base h0 w a.defers->m0<=H.mem.length->Step m0 μ0 mem0 w0 μ H.mem w->
  (∀a' w' μ',afJ base μ' I.mem w' ->af2 μ' I.mem.length I.env a'.tmps->a'.tmps.size=N->MOk P base h0 w' a'.defers->m0<=I.mem.length->Step m0 μ0 mem0 w0 μ' I.mem w' ->wpListIn (Fr J) 0 P ops Q rest a' w')->
  wpListIn (Fr J) 0 P ops Q (l++rest) a w
 | [],H,I,μ,w,a,m0,μ0,mem0,w0,h0,J,h,hH,hR,hN,hdf,hm,hS,hQ=>by simp only[nq] at h;subst h;exact hQ a w μ hH hR hN hdf hm hS
 |o::os,H,I,μ,w,a,m0,μ0,mem0,w0,h0,J,h,hH,hR,hN,hdf,hm,hS,hQ=>by
  obtain⟨b,R,X,O,M⟩:=h;rw[List.cons_append];refine wpListIn_step fun K U=>?_
  rw[qs hR R];cases b with
  |false=>
   simp only[Bool.false_eq_true,if_false];refine⟨fun _ _=>trivial,?_⟩;refine U _ _ (N5 hT (O rfl) hH (hR.agm hN X (by simp[afx,afy,undef])) (by rw[fF];exact hN) (by rw[fW];exact hdf) hm hS hQ)
  |true=>
   simp only[if_true];obtain⟨v,S,Z,G⟩:=M rfl;refine su hT hdf.agH hH hR hN X Z fun V w' μ' q1 q2 q3 q4=>U _ _ ?_
   exact N5 hT G q2 q3 (by rw[fF];exact hN) (by rw[fW];exact hdf.step hH q4) (Y2 hm q4.len) (hS.trans (q4.mono hm)) hQ
theorem AP(a:Act)(d:Nat)(V:Value)(h:d<a.tmps.size):(a.put (some d) V).eval (.tmp d)=V:=by simp[Act.put,Act.eval,h]
variable {tp:Bool}{N m0:Nat}{Q:Exit->St->Prop}
theorem yP{F:Option Nat}{ops:Array Oper}{Q:Exit->Act->World->Prop}{o:Oper}{rest:List Oper}{a:Act}{w:World}{V:Value}(hg:o.guard=none)(H:∀c,o.op≠ .defer c)(I:(execOp a.eval o).run P w=.ok (.value V) w')(h:wpListIn (Fr F) 0 P ops Q rest (a.put o.dst V) w'):wpListIn (Fr F) 0 P ops Q (o::rest) a w:=by
 refine wpListIn_plain hg fun K Z=>⟨fun _ _=>trivial,?_⟩
 rw[Oper.semAt_eq _ _ _ H,I];exact Z _ _ h
theorem KX(hT:dS P T){idB out nx idS idA:Nat}{abr aci abT:Array Oper}{pre aa3:List Oper}{oR oN oX oE:Oper}{Y:Code}{J H more W:Nat}{tR tk te:TypeId}{iR:TyI}{mOp:Operand}(hB:abr.toList=pre++[oR])(r1:oR.op=.range tR mOp)(r2:oR.dst=some J)(r3:oR.guard=none)(hTR:T tR=some iR)(hdR:iR.desc=.map tk te)(hS:aci.toList=[oN,oX])(n1:oN.op=.next (.tmp J) false)(n2:oN.dst=some H)(n3:oN.guard=none)(x1:oX.op=.extract (.tmp H) 0)(x2:oX.dst=some more)(x3:oX.guard=none)(hA:abT.toList=oE::aa3)(e1:oE.op=.entry (.tmp J))(e2:oE.dst=some W)(e3:oE.guard=none)(P':J<N/\H<N/\more<N/\W<N)(G':H≠J/\more≠J){st st1:St}{b:Nat}{es:List (AV×AV)}(aas:nq P T N abr pre st st1)(hmo:get st1.env mOp=.map b)(hb:st1.mem[b]? =some (.af6 es))(I:List Nat->St->Prop)(h0:I [] ⟨(J,.ptr st1.mem.length 0)::st1.env,st1.mem++[.y9]⟩)(hI:∀seen s,I seen s->aa s.env J=.ptr st1.mem.length 0/\s.mem[st1.mem.length]? =some .y9/\s.mem[b]? =some (.af6 es))(ac7:∀seen s,I seen s->(∀j,j<es.length->j∈seen)->Q .normal ⟨(more,.bool false)::(H,.tuple [.bool false])::s.env,s.mem⟩)(abk:∀seen s j k v,I seen s->es[j]? =some (k,v)->j∉seen->∃s3,nq P T N abT aa3 ⟨(W,.tuple [k,v])::(more,.bool true)::(H,.tuple [.bool true,k,v])::s.env,s.mem⟩ s3/\
   AWP P tp N (st1.mem.length+1) Y s3 fun e s4=>(e=.normal\/e=.exit nx)/\∃s5,agr (st1.mem.length+1) s4 s5/\I (seen++[j]) s5):
  AWP P tp N m0 (.seq (.region idB abr false) (.block out (.loop (.seq (.region idS aci false) (.seq (.cond (.tmp more) .skip (.exit out)) (.block nx (.seq (.region idA abT false) Y))))))) st Q:=by
 obtain⟨b1,b2,b3,b4⟩:=P';intro ro h0' base μ w a hro hH hR hN hdf hm;refine wpIn_seq (wpIn_region_list ?_);rw[hB];refine N5 hT aas hH hR hN hdf hm (.refl hm) fun a1 w1 μ1 c1 c2 c3 c4 c5 c6=>?_
 have R:=bY c2 mOp;rw[hmo] at R;simp only[afx] at R;obtain⟨hbl,R⟩:=R;have hsl:=c1.slot b _ hb;simp only[afM] at hsl;obtain⟨Z,F',k1,⟨hck,M⟩,k3,k4⟩:=hsl;subst hck;have hd:=(hT tR iR hTR).desc;rw[hdR] at hd;have m:=run_range_map (P:=P) w1 tR tk te (μ1 b).blk Z Z.size hd k1;refine yP r3 (by rw[r1];intro c e;cases e) (V:=.pointer (some ⟨w1.heap.size,0,none⟩)) (w' :=w1.alloc (.mapIter (some (μ1 b).blk) Z.size #[] Z.size)) (by simp only[execOp,r1,R];simp[m]) (wpListIn_nil ?_);rw[r2];show Code.wpIn (Fr ro) 0 P _ _ _ _
 refine wpIn_block ?_;obtain⟨p1,p2⟩:=c1.push (.mapIter (some (μ1 b).blk) Z.size #[] Z.size) .y9 ⟨w1.heap.size,0,0,0⟩ rfl trivial;have hrw:w.heap.size<=w1.heap.size:=c6.size;have hrb:base<=w1.heap.size:=c1.afF;obtain⟨X,hmb⟩:=xE ((μ1 b).blk);rw[<-hmb] at k1 p1 p2 |-;have aer:X<w1.heap.size:=(J1.1 k1).1;obtain⟨r,hr⟩:=xE w1.heap.size;have aav:∀x∈Z.toList,x.born<Z.size:=by
  intro x C;obtain⟨j,hj⟩:=QXJ C;have U :Z[j]? =some x:=by simpa using hj
  rw[M j x U];exact(J1.1 U).1
 have hnd:(Z.toList.map (·.born)).Nodup:=by
  have e:Z.toList.map (·.born)=List.range Z.size:=by
   refine List.ext_getElem? fun i=>?_
   rw[Y1,Array.getElem?_toList];cases hi:Z[i]? with
   |none=>
    have:=Array.getElem?_eq_none_iff.1 hi;simp[this]
   |some x=>
    have:=(J1.1 hi).1;simp[M i x hi,this]
  rw[e];exact List.nodup_range
 refine zM (σ:=Array Nat) (fun seen K w' =>∃UV μ',afJ base μ' UV.mem w' /\af2 μ' UV.mem.length UV.env K.tmps/\K.tmps.size=N/\MOk P base h0' w' K.defers/\st1.mem.length<UV.mem.length/\
   Step m0 μ st.mem w μ' UV.mem w' /\μ' st1.mem.length=⟨r,0,0,0⟩/\(μ' b).blk=X/\w'.heap[r]? =some (.mapIter (some X) Z.size seen Z.size)/\w'.heap[X]? =some (.map Z Z.size)/\I seen.toList UV)
  (fun seen=>(leftOf Z seen).size) ?_ (s:= #[]) ⟨_,_,p1,?_,?_,?_,?_,c6.trans (p2.mono c5),?_,?_,?_,?_,h0⟩
 .rintro seen K w' ⟨UV,μ',d1,d2,d3,d4,d5,d6,d7,d8,d9,d10,d11⟩
  obtain⟨i1,i2,i3⟩:=hI _ _ d11;have B:K.eval (.tmp J)=.pointer (some ⟨r,0,none⟩):=by have:=d2 J;rw[i1] at this;simp only[afx,d7] at this;exact this.2
  have hm' :m0<=UV.mem.length:=d6.len;refine wpIn_seq (wpIn_region_list ?_);rw[hS];rcases run_next_at (P:=P) w' oN.type r X Z.size Z.size seen Z Z.size d9 d10 aav (Es _) with⟨l0,m⟩ | ⟨E,hE,w2,O,m⟩
  .refine yP n3 (by rw[n1];intro c e;cases e) (V:=.tuple #[.bool false]) (w' :=w') (by simp only[execOp,n1,B];simp[m]) ?_
   rw[n2];refine yP x3 (by rw[x1];intro c e;cases e) (V:=.bool false) (w' :=w') (by simp only[execOp,x1,AP K H _ (by omega)];simp[Instr.extract]) (wpListIn_nil ?_);rw[x2];show Code.wpIn (Fr ro) 0 P _ _ _ _
   refine wpIn_seq (wpIn_cond_false (AP _ _ _ (by rw[fF];omega)) (wpIn_exit ?_));simp only[Exit.then,Exit.inBlock,if_true];refine⟨⟨(more,.bool false)::(H,.tuple [.bool false])::UV.env,UV.mem⟩,μ',d1,?_,by rw[fF,fF];exact d3,by rw[fW,fW];exact d4,hm',d6,ac7 _ _ d11 fun j hj=>?_⟩
   .exact af2.put (af2.put d2 (by omega) (by simp[afx,afy])) (by rw[fF];omega) (by simp[afx])
   .have A':j<Z.size:=by omega
    have:=all_seen Z seen l0 Z[j] (by simp);rw[M j _ (by simp[A'])] at this;simpa using this
  .obtain⟨hem,y⟩:=mem_left hE
   obtain⟨j,hj⟩:=QXJ hem;have U :Z[j]? =some E:=by simpa using hj
   have hbj:=M j E U;have hjl:j<es.length:=by have:=(J1.1 U).1;omega
   have adR :=d1.slot b _ i3;simp only[afM] at adR;obtain⟨aan,aak,g1,_,_,g4⟩:=adR;rw[d8,d10] at g1;cases g1;obtain⟨E',hE',hk,hv⟩:=g4 j es[j] (by simp[hjl]);rw[U] at hE';cases hE';have hH2:afJ base μ' UV.mem w2:=by rcases O with rfl | rfl<;>first | exact d1 | exact d1.drew
   have hS2:Step m0 μ st.mem w μ' UV.mem w2:=by rcases O with rfl | rfl<;>first | exact d6 | exact d6.trans ((Step.drew (Es _)).mono hm')
   have hM2:MOk P base h0' w2 K.defers:=by rcases O with rfl | rfl<;>first | exact d4 | exact d4.step d1 (Step.drew (Es _))
   have u:w2.heap[r]? =some (.mapIter (some X) Z.size seen Z.size):=by rcases O with rfl | rfl<;>exact d9
   have aes:w2.heap[X]? =some (.map Z Z.size):=by rcases O with rfl | rfl<;>exact d10
   have G:=hH2.ahL (o:=.mapIter (some X) Z.size (seen.push E.born) Z.size) u;have hS3:=hS2.ahL (r:=r) (o:=.mapIter (some X) Z.size (seen.push E.born) Z.size) (by omega);have hM3:=hM2.ahL (o:=.mapIter (some X) Z.size (seen.push E.born) Z.size) u (by omega);have hrl:r<w2.heap.size:=(J1.1 u).1;have F:(setBlock w2 r (.mapIter (some X) Z.size (seen.push E.born) Z.size)).heap[r]? =some (.mapIter (some X) Z.size (seen.push E.born) Z.size):=by simp[setBlock,hrl]
   have D:(setBlock w2 r (.mapIter (some X) Z.size (seen.push E.born) Z.size)).heap[X]? =some (.map Z Z.size):=by rw[<-aes];exact P3 (by omega)
   obtain⟨w3,hw3⟩:=xE (setBlock w2 r (.mapIter (some X) Z.size (seen.push E.born) Z.size));rw[<-hw3] at G hS3 hM3 F D m;refine yP n3 (by rw[n1];intro c e;cases e) (V:=.tuple #[.bool true,E.key,E.val]) (w' :=w3) (by simp only[execOp,n1,B];simp[m]) ?_;rw[n2];refine yP x3 (by rw[x1];intro c e;cases e) (V:=.bool true) (w' :=w3) (by simp only[execOp,x1,AP K H _ (by omega)];simp[Instr.extract]) (wpListIn_nil ?_);rw[x2];show Code.wpIn (Fr ro) 0 P _ _ _ _
   refine wpIn_seq (wpIn_cond_true (AP _ _ _ (by rw[fF];omega)) (wpIn_skip ?_));show Code.wpIn (Fr ro) 0 P _ _ _ _
   refine wpIn_block (wpIn_seq (wpIn_region_list ?_));rw[hA];have hev:((K.put (some H) (.tuple #[.bool true,E.key,E.val])).put (some more) (.bool true)).eval (.tmp J)=.pointer (some ⟨r,0,none⟩):=by rw[<-B];simp[Act.put,Act.eval,P3 G'.1,P3 G'.2]
   have hen:=run_entry_at (P:=P) w3 r X Z.size seen Z Z.size E F D hem hnd;refine yP e3 (by rw[e1];intro c e;cases e) (V:=.tuple #[E.key,E.val]) (w' :=w3) (by simp only[execOp,e1,hev];simp[hen]) ?_;rw[e2];have hkv:es[j]? =some (es[j].1,es[j].2):=by simp[hjl]
   have hnj:j∉seen.toList:=by
    intro aaW;rw[hbj] at y;have:seen.contains j=true:=by simpa using aaW
    rw[this] at y;cases y
   obtain⟨s3,B',adx⟩:=abk _ _ j _ _ d11 hkv hnj;have hT1:=af2.put d2 (d:=H) (by omega) (V:=.tuple #[.bool true,E.key,E.val]) (v:=.tuple [.bool true,es[j].1,es[j].2]) (by simp only[afx];exact⟨_,rfl,bW.2 ⟨by simp[afx],bW.2 ⟨hk,bW.2 ⟨hv,by simp[afy]⟩⟩⟩⟩);have hT2:=af2.put hT1 (d:=more) (by rw[fF];omega) (V:=.bool true) (v:=.bool true) (by simp[afx]);have hT3:=af2.put hT2 (d:=W) (by rw[fF,fF];omega) (V:=.tuple #[E.key,E.val]) (v:=.tuple [es[j].1,es[j].2]) (by simp only[afx];exact⟨_,rfl,bW.2 ⟨hk,bW.2 ⟨hv,by simp[afy]⟩⟩⟩);have C':st1.mem.length+1<=UV.mem.length:=by omega
   refine xk (m0:=st1.mem.length+1) (μ0:=μ') (mem0:=UV.mem) (w0:=w3) hT B' G hT3 (by rw[fF,fF,fF];exact d3) (by rw[fW,fW,fW];exact hM3) C' (.refl C') fun a4 w4 μ4 f1 f2 f3 f4 f5 f6=>?_
   show Code.wpIn (Fr ro) 0 P _ _ _ _
   refine wpIn_mono (adx ro h0' base μ4 w4 a4 hro f1 f2 f3 f4 f5) ?_;rintro e a5 w5 ⟨s4,μ5,y1,y2,y3,y4,y5,y6,hee,s5,hwk,hI5⟩;obtain⟨μ6,z1,z2,z3,z4⟩:=hwk base μ5 w5 a5.tmps y1 y2 y5;have S:=(f6.trans y6).trans z4;have hbb:b<st1.mem.length:=gL hb;have fin:∃s',(∃UV μ',afJ base μ' UV.mem w5/\af2 μ' UV.mem.length UV.env a5.tmps/\a5.tmps.size=N/\MOk P base h0' w5 a5.defers/\st1.mem.length<UV.mem.length/\
     Step m0 μ st.mem w μ' UV.mem w5/\μ' st1.mem.length=⟨r,0,0,0⟩/\(μ' b).blk=X/\w5.heap[r]? =some (.mapIter (some X) Z.size s' Z.size)/\w5.heap[X]? =some (.map Z Z.size)/\I s'.toList UV)/\
     (leftOf Z s').size<(leftOf Z seen).size:=by
    refine⟨seen.push E.born,⟨s5,μ6,z1,z2,y3,y4,z3,hS3.trans (S.mono (by have:=c5;omega)),?_,?_,?_,?_,?_⟩,left_shrinks Z seen E hE⟩
    .rw[S.agree _ (by omega),d7]
    .rw[S.agree _ (by omega),d8]
    .rw[S.frame r (by rw[hw3];simpa [setBlock] using hrl) fun x C=>by obtain⟨sx,q1,q2⟩:=C;exact zB G F q1 (afz.af7 q2)]
     exact F
    .rw[S.frame X (J1.1 D).1 fun x C=>?_]
     .exact D
     .rw[<-d8]
      refine G.sep x b _ C i3 (by simp) ?_;rintro rfl;obtain⟨sx,q1,q2⟩:=C;rw[i3] at q1;cases q1;cases q2
    .rw[Array.toList_push,hbj];exact hI5
   rcases hee with rfl | rfl
   .exact fin
   .simp only[Exit.inBlock,if_true];exact fin
 .refine af2.put (c2.mono (by simp) fun x C=>xz C) (by omega) ?_
  simp only[afx,Nm,List.length_singleton,fq];exact⟨by omega,trivial⟩
 .rw[fF];exact c3
 .rw[fW];exact c4.step c1 p2
 .simp
 .rw[fq,hr]
 .have hbb:b<st1.mem.length:=gL hb
  rw[xz hbb];exact hmb.symm
 .rw[hr];exact heap_alloc_new w1 _
 .rw[ij w1 _ aer];exact k1
end
end Go.Eng
namespace Go.Eng
theorem Dx{m:Nat}:∀{env:Env},(env.all fun e=>(e.2.refs m).isEmpty)=true->∀t,(aa env t).refs m=[]
 | [],_,t=>by simp[aa,AV.refs]
 |(k,v)::r,h,t=>by
  simp only[QQX,Ar,List.isEmpty_iff] at h;simp only[aa];split
  .exact h.1
  .exact Dx h.2 t
variable{s:XS}
section
variable {P:Program}{T:TypeId->Option TyI}{O:afu}{tp:Bool}{N m0 K:Nat}{lv:Code->List Nat}{Q:Exit->St->Prop}
section
variable (hm:P.follows .mixedOrders=true)(hT:dS P T)(hO:afs P O)
include hm hT hO
theorem wO{c:Code}{s' :XS}{e:Exit}(hs:dm c=true)(h:aO T lv O K N m0 tp c s=some (e,s'))(hq:Q e ⟨s'.env,s'.mem⟩):AWP P tp N m0 c ⟨s.env,s.mem⟩ Q:=
 (dN hm hT hO hs h).1 Q hq
theorem NC{idB out nx idS idA:Nat}{W aci abT:Array Oper}{aa3:List Oper}{oR oN oX oE:Oper}{I:Code}{J H more Y:Nat}{tR tk te:TypeId}{iR:TyI}{mOp:Operand}(hB:W.toList=W.toList.dropLast++[oR])(r1:oR.op=.range tR mOp)(r2:oR.dst=some J)(r3:oR.guard=none)(hTR:T tR=some iR)(hdR:iR.desc=.map tk te)(hS:aci.toList=[oN,oX])(n1:oN.op=.next (.tmp J) false)(n2:oN.dst=some H)(n3:oN.guard=none)(x1:oX.op=.extract (.tmp H) 0)(x2:oX.dst=some more)(x3:oX.guard=none)(hA:abT.toList=oE::aa3)(e1:oE.op=.entry (.tmp J))(e2:oE.dst=some Y)(e3:oE.guard=none)(P':J<N/\H<N/\more<N/\Y<N)(G':H≠J/\more≠J)(hst:dm I=true){s1:XS}{b:Nat}{es:List (AV×AV)}(aas:cr T O N m0 W W.toList.dropLast s=some s1)(hmo:get s1.env mOp=.map b)(hb:s1.mem[b]? =some (.af6 es))(lw wr:List Nat)(V:List Nat->Nat->AV)(M:List Nat->Mem)(Inv:List Nat->Prop)(hwr:wr=Y::more::H::(aa3.filterMap (·.dst)++ae I))(hit:J∉wr)(aa4:(((J,AV.ptr s1.mem.length 0)::s1.env).all fun e=>(e.2.refs (s1.mem.length+1)).isEmpty)=true)(hM:∀seen,Inv seen->(M seen).length=s1.mem.length+1/\(M seen)[s1.mem.length]? =some .y9/\(M seen)[b]? =some (.af6 es)/\∀x∈M seen,x.refs (s1.mem.length+1)=[])(hV:∀seen t,Inv seen->t∈lw->(V seen t).refs (s1.mem.length+1)=[])(h0:Inv []/\M []=s1.mem++[.y9]/\∀t∈lw,aa ((J,AV.ptr s1.mem.length 0)::s1.env) t=V [] t)(ac7:∀seen env,Inv seen->agc wr ((J,AV.ptr s1.mem.length 0)::s1.env) env->(∀t∈lw,aa env t=V seen t)->(∀j,j<es.length->j∈seen)->Q .normal ⟨(more,.bool false)::(H,.tuple [.bool false])::env,M seen⟩)(abk:∀seen env j k v,Inv seen->agc wr ((J,AV.ptr s1.mem.length 0)::s1.env) env->(∀t∈lw,aa env t=V seen t)->es[j]? =some (k,v)->j∉seen->∃U e X,cr T O N (s1.mem.length+1) abT aa3 ⟨(Y,.tuple [k,v])::(more,.bool true)::(H,.tuple [.bool true,k,v])::env,M seen,false⟩=some U/\
   aO T lv O K N (s1.mem.length+1) tp I U=some (e,X)/\(e=.normal\/e=.exit nx)/\Inv (seen++[j])/\(∀t∈lw,aa X.env t=V (seen++[j]) t)/\X.mem.take (s1.mem.length+1)=M (seen++[j])):
  AWP P tp N m0 (.seq (.region idB W false) (.block out (.loop (.seq (.region idS aci false) (.seq (.cond (.tmp more) .skip (.exit out)) (.block nx (.seq (.region idA abT false) I))))))) ⟨s.env,s.mem⟩ Q:=by
 have R:=Dx aa4;refine KX (st1:=⟨s1.env,s1.mem⟩) hT hB r1 r2 r3 hTR hdR hS n1 n2 n3 x1 x2 x3 hA e1 e2 e3 P' G' (kR hO aas).1 hmo hb
  (fun seen S=>Inv seen/\agc wr ((J,AV.ptr s1.mem.length 0)::s1.env) S.env/\(∀t∈lw,aa S.env t=V seen t)/\S.mem=M seen) ⟨h0.1,.refl _ _,h0.2.2,h0.2.1.symm⟩ ?_ ?_ ?_
 .rintro seen S ⟨i1,i2,i3,i4⟩
  obtain⟨D,C,B,_⟩:=hM seen i1;refine⟨?_,by rw[i4];exact C,by rw[i4];exact B⟩;rw[i2 J hit];simp[aa]
 .rintro seen ⟨env,mem⟩ ⟨i1,i2,i3,i4⟩ I'
  have:=ac7 seen env i1 i2 i3 I';simp only at i4 |-;rw[i4];exact this
 .rintro seen ⟨env,mem⟩ j k v ⟨i1,i2,i3,i4⟩ hj hns
  simp only at i2 i3 i4;subst i4;obtain⟨U,e,X,y,u,m,G,k5,o⟩:=abk seen env j k v i1 i2 i3 hj hns;refine⟨⟨U.env,U.mem⟩,(kR hO y).1,?_⟩;refine AWP.assume fun C' _=>?_
  refine wO hm hT hO hst u ⟨m,?_⟩;obtain⟨D,C,B,j4⟩:=hM _ G;have aaI :s1.mem.length+1<=X.mem.length:=by have h1:=congrArg List.length o;rw[M0,D] at h1;omega
  have F:agc wr ((J,AV.ptr s1.mem.length 0)::s1.env) X.env:=by
   have q1:=(qm y).mono (wr' :=wr) (by intro t Z;rw[hwr];simp[Z]);have q2:=(fT hO u).mono (wr' :=wr) (by intro t Z;rw[hwr];simp[Z]);intro t Z;rw[q2 t Z,q1 t Z,<-i2 t Z];have:t≠Y/\t≠more/\t≠H:=by rw[hwr] at Z;simp only[List.mem_cons,not_or] at Z;exact⟨Z.1,Z.2.1,Z.2.2.1⟩
   simp[aa,Ne.symm this.1,Ne.symm this.2.1,Ne.symm this.2.2]
  refine⟨_,agr.afH [] (by simp[EI]),G,?_,?_,?_⟩
  .intro t Z
   simp only[iW];rw[F t Z,AV.afP (R t)]
  .intro t Z
   simp only[iW];rw[k5 t Z,AV.afP (hV _ t G Z)]
  .simp only[afH,agp,List.map_nil,List.append_nil,o]
   conv=>rhs;rw[<-List.map_id (M (seen++[j]))]
   exact List.map_congr_left fun x hx=>afz.afP (j4 x hx)
end
end
end Go.Eng
namespace Go.Eng
abbrev Sd:=(Int×Int)×Int
def sdE(s:Sd):AV×AV:=(.agg [.int .i64 s.1.1,.int .i64 s.1.2],.int .i64 s.2)
def nxE(p:Int×Int):AV×AV:=(.int .i64 p.1,.int .i64 p.2)
def qJ:List (Int×Int)->Int->Option Int
 | [],_=>none
 |p::l,a=>if a=p.1 then some p.2 else qJ l a
def Rm:List Sd->Int×Int->Option Int
 | [],_=>none
 |s::l,a=>if a.1=s.1.1/\a.2=s.1.2 then some s.2 else Rm l a
def bAt(ks:List Sd)(j:Nat):Option (Int×Int):=match ks[j]? with
 |some s=>if (Rm ks (s.1.2,s.1.1)).isSome then none else some s.1
 |none=>none
def tJ(ks:List Sd):List (Int×Int):=(List.range ks.length).filterMap (bAt ks)
def AX(f:Int):List (Int×Int)->Int
 | []=>f
 |p::l=>AX (if f<0\/p.1<f then p.1 else f) l
theorem NZ(f:Int):∀(l m:List (Int×Int)),AX f (l++m)=AX (AX f l) m:=by
 intro l;induction l generalizing f with
 |nil=>intro m;rfl
 |cons p l ih=>intro m;exact ih _ m
theorem Di:∀(l:List (Int×Int)) (f:Int),(∀p∈l,0<=p.1)->(0<=f\/l≠[])->0<=AX f l/\(AX f l=f\/∃p∈l,AX f l=p.1)/\(0<=f->AX f l<=f)/\∀p∈l,AX f l<=p.1
 | [],f,_,h=>by have:0<=f:=h.resolve_right (by simp);exact⟨this,.inl rfl,fun _=>Int.le_refl _,by simp⟩
 |p::l,f,hp,_=>by
  have V:=hp p (by simp);have U:=Di l (if f<0\/p.1<f then p.1 else f) (fun q Z=>hp q (by simp[Z])) (.inl (by split<;>omega));obtain⟨S,R,X,Q⟩:=U;have O:(0:Int)<=(if f<0\/p.1<f then p.1 else f):=by split<;>omega
  have X:=X O;simp only[AX];refine⟨S,?_,fun N=>?_,fun q Z=>?_⟩
  .rcases R with h | ⟨q,Z,h⟩
   .rw[h]
    split
    .exact .inr ⟨p,by simp,rfl⟩
    .exact .inl rfl
   .exact .inr ⟨q,by simp[Z],h⟩
  .refine Int.le_trans X ?_
   split<;>omega
  .rcases List.mem_cons.1 Z with rfl | Z
   .refine Int.le_trans X ?_
    split<;>omega
   .exact Q q Z
theorem UH{l m:List (Int×Int)}(h:l.Perm m)(H:∀p∈l,0<=p.1):AX (-1) l=AX (-1) m:=by
 by_cases Z:l=[]
 .subst Z
  rw[List.nil_perm.1 h]
 .have X:m≠[]:=by rintro rfl;exact Z (List.perm_nil.1 h)
  have V:∀p∈m,0<=p.1:=fun p R=>H p (h.mem_iff.2 R)
  obtain⟨F,Q,_,O⟩:=Di l (-1) H (.inr Z);obtain⟨D,N,_,M⟩:=Di m (-1) V (.inr X);obtain⟨p,U,K⟩:=Q.resolve_left (by omega);obtain⟨q,S,G⟩:=N.resolve_left (by omega);have C:=M p (h.mem_iff.1 U);have B:=O q (h.mem_iff.2 S);omega
theorem UF{l:List (Int×Int)}{a b:Int}(h:qJ l a=some b):(a,b)∈l:=by
 induction l with
 |nil=>cases h
 |cons p l ih=>
  rw[qJ] at h;split at h
  next e=>cases h;subst e;simp
  .simp[ih h]
theorem Fu{l:List (Int×Int)}{a:Int}(h:∀p∈l,p.1≠a):qJ l a=none:=by
 induction l with
 |nil=>rfl
 |cons p l ih=>
  rw[qJ,if_neg (fun e=>h p (by simp) e.symm)];exact ih fun q Z=>h q (by simp[Z])
theorem zu{l:List (Int×Int)}{a b:Int}(H:∀p∈l,∀q∈l,p.1=q.1->p=q)(h:(a,b)∈l):qJ l a=some b:=by
 induction l with
 |nil=>cases h
 |cons p l ih=>
  rw[qJ];split
  .rename_i e
   have:=H p (by simp) (a,b) h e.symm;rw[this]
  .rename_i e
   rcases List.mem_cons.1 h with rfl | h
   .exact absurd rfl e
   .exact ih (fun p Z q X=>H p (by simp[Z]) q (by simp[X])) h
theorem Rl{l m:List (Int×Int)}(h:l.Perm m)(H:∀p∈l,∀q∈l,p.1=q.1->p=q)(a:Int):qJ l a=qJ m a:=by
 have Z :∀p∈m,∀q∈m,p.1=q.1->p=q:=fun p X q V=>H p (h.mem_iff.2 X) q (h.mem_iff.2 V)
 cases hb:qJ m a with
 |some b=>exact zu H (h.mem_iff.2 (UF hb))
 |none=>
  refine Fu fun p X e=>?_
  have:=zu Z (a:=a) (b:=p.2) (by rw[<-e];exact h.mem_iff.1 X);rw[hb] at this;cases this
def Xy(ks:List Sd):Prop:=∀i j p q,bAt ks i=some p->bAt ks j=some q->p.1=q.1->i=j
def dx(ks:List Sd)(seen:List Nat):List (Int×Int):=seen.filterMap (bAt ks)
variable{j:Nat}{ks:List Sd}{p:Int×Int}
theorem TT(h:bAt ks j=some p):j<ks.length:=by
 unfold bAt at h;split at h
 next s Z=>exact(gL Z)
 .cases h
variable{seen:List Nat}
theorem Ml(H:seen.Nodup)(I:∀j∈seen,j<ks.length)(J:∀j,j<ks.length->j∈seen):(dx ks seen).Perm (tJ ks):=by
 refine List.Perm.filterMap _ ?_;refine(List.perm_ext_iff_of_nodup H List.nodup_range).2 fun j=>?_
 simp only[List.mem_range];exact⟨I j,J j⟩
theorem HG(H:Xy ks)(I:j∉seen)(J:bAt ks j=some p):qJ (dx ks seen) p.1=none:=by
 refine Fu fun q X e=>?_
 obtain⟨i,V,Z⟩:=List.mem_filterMap.1 X;have:=H i j q p Z J e;subst this;exact I V
theorem HH(H:Xy ks):∀p∈dx ks seen,∀q∈dx ks seen,p.1=q.1->p=q:=by intro p V q U e;obtain⟨i,_,X⟩:=List.mem_filterMap.1 V;obtain⟨j,_,Z⟩:=List.mem_filterMap.1 U;have:=H i j p q X Z e;subst this;rw[X] at Z;cases Z;rfl
def xC(B:List (Int×Int))(first:Int):Nat->Int->List Int->Option (List Int)
 |0,_,out=>some out
 |n+1,a,out=>match qJ B a with
  |none=>none
  |some b=>if a=first/\out≠[] then none else xC B first n b (out++[a])
def CI(B:List (Int×Int)):Option (List Int):=xC B (AX (-1) B) B.length (AX (-1) B) []
def vv(ks:List Sd):Bool:=
 let B:=tJ ks
 decide (B≠[])&&decide ((B.map (·.1)).Nodup)&&B.all (fun p=>decide (0<=p.1))&&decide (ks.length<=1000000)
theorem TV{i:Nat}{q:Int×Int}(J:((tJ ks).map (·.1)).Nodup)(H:bAt ks i=some p)(I:bAt ks j=some q)(e:p.1=q.1):i=j:=by
 have R:∀(l:List Nat),l.Nodup->((l.filterMap (bAt ks)).map (·.1)).Nodup->i∈l->j∈l->i=j:=by
  intro l;induction l with
  |nil=>intro _ _ h;cases h
  |cons a l ih=>
   intro Q Z X V;have U :=(List.nodup_cons.1 Q).2;rw[List.filterMap_cons] at Z;cases ha:bAt ks a with
   |none=>
    rw[ha] at Z;have O:i≠a:=by rintro rfl;rw[H] at ha;cases ha
    have N:j≠a:=by rintro rfl;rw[I] at ha;cases ha
    exact ih U Z ((List.mem_cons.1 X).resolve_left O) ((List.mem_cons.1 V).resolve_left N)
   |some r=>
    rw[ha] at Z;simp only[List.map_cons,List.nodup_cons] at Z;have S:∀k s,k∈l->bAt ks k=some s->s.1≠r.1:=by intro k s M K h;exact Z.1 (QQd.2 ⟨s,List.mem_filterMap.2 ⟨k,M,K⟩,h⟩)
    rcases List.mem_cons.1 X with X | X<;>rcases List.mem_cons.1 V with V | V
    .rw[X,V]
    .rw[<-X,H] at ha;cases ha;exact absurd e.symm (S j q V I)
    .rw[<-V,I] at ha;cases ha;exact absurd e (S i p X H)
    .exact ih U Z.2 X V
 exact R _ List.nodup_range J (List.mem_range.2 (TT H)) (List.mem_range.2 (TT I))
theorem LO(h:vv ks=true):tJ ks≠[]/\Xy ks/\(∀p∈tJ ks,0<=p.1)/\ks.length<=1000000:=by simp only[vv,Ar,Cs,List.all_eq_true] at h;obtain⟨⟨⟨Z,X⟩,h3⟩,V⟩:=h;exact⟨Z,fun i j p q U S e=>TV X U S e,h3,V⟩
theorem RQ(h:∀p∈tJ ks,0<=p.1):∀p∈dx ks seen,0<=p.1:=by intro p X;obtain⟨i,_,Z⟩:=List.mem_filterMap.1 X;exact h p (List.mem_filterMap.2 ⟨i,List.mem_range.2 (TT Z),Z⟩)
theorem zL{B:List (Int×Int)}{first:Int}:∀{n:Nat} {a:Int} {H I:List Int},xC B first n a H=some I->I.length=H.length+n
 |0,a,H,I,h=>by simp only[xC,Mp] at h;subst h;rfl
 |n+1,a,H,I,h=>by
  rw[xC] at h;split at h
  .cases h
  .split at h
   .cases h
   .have:=zL h
    simp at this;omega
def Wq(H:List Nat)(n j:Nat):Bool:=jr H j&&(List.range n).all fun k=>decide (k<=j)||bef H j k
def cF(r:Rec):Bool:=decide (r.nx.length=r.mem.length)&&r.wr.isEmpty
def OB(H:List Nat)(n j:Nat)(r:Rec):Bool:=
 r.v.aft (fun b=>decide (b<r.nx.length))&&
  (cF r||(Wq H n j&&r.wr.all (fun b=>dj r.tm b&&(match r.nx[b]? with | some s=>s.aft (fun b=>decide (b<r.nx.length)) | none=>true))&&
   (r.nx.drop r.mem.length).all fun s=>(s.own||match s with | .y9=>true | _=>false)&&s.aft (fun b=>decide (b<r.nx.length))))
def CD(H:List Nat)(n:Nat):Nat->List Rec->Bool
 |_,[]=>true
 |j,r::rest=>OB H n j r&&CD H n (j+1) rest
def xp(T:TypeId->Option TyI)(O:afu)(N m0:Nat)(ops:Array Oper)(H:List Nat)(s:XS):Option XS:=
 match mx T O N ops H 0 ops.toList s.env s.mem [] with
 |none=>none
 |some (R,env,mem)=>
  if CD H R.length 0 R then some ⟨env,mem,s.afS||R.any fun r=>r.wr.any fun b=>decide (b<m0)⟩ else none
structure ah1 (bs:List Nat)(n:Nat)(f:Nat×Rec):Prop where
 refs:f.2.v.aft (fun b=>decide (b<f.2.nx.length))=true
 or:(f.2.nx.length=f.2.mem.length/\f.2.wr=[])\/((∀i,i<f.1->bef bs i f.1=true)/\(∀k,f.1<k->k<n->bef bs f.1 k=true)/\
  f.2.wr.all (fun b=>dj f.2.tm b&&(match f.2.nx[b]? with | some s=>s.aft (fun b=>decide (b<f.2.nx.length)) | none=>true))=true/\
  ((f.2.nx.drop f.2.mem.length).all fun s=>(s.own||match s with | .y9=>true | _=>false)&&s.aft (fun b=>decide (b<f.2.nx.length)))=true)
theorem CE{H:List Nat}{n:Nat}:∀{j0:Nat} {R:List Rec},CD H n j0 R=true->∀f∈aP j0 R,ah1 H n f
 |_,[],_,f,hf=>by simp[aP] at hf
 |j0,r::rest,h,f,hf=>by
  simp only[CD,Ar] at h;rw[aP,List.mem_cons] at hf;rcases hf with rfl | hf
  .have X:=h.1
   simp only[OB,cF,Wq,Ar,QQj,Cs,List.isEmpty_iff] at X;obtain⟨X,Z⟩:=X;refine⟨X,?_⟩;rcases Z with Z | ⟨⟨⟨Z,h3⟩,U⟩,S⟩
   .exact .inl Z
   .refine .inr ⟨fun i Q=>List.all_eq_true.1 Z i (List.mem_range.2 Q),fun k O V=>?_,U,S⟩
    have:=List.all_eq_true.1 h3 k (List.mem_range.2 V);simp only[QQj,Cs] at this;rcases this with h6 | h6
    .omega
    .exact h6
  .exact CE h.2 f hf
variable{R:List Rec}
theorem Lc{H:List Nat}(h:CD H R.length 0 R=true){f:Nat×Rec}(hf:f∈aP 0 R):gO H (aP 0 R) f.1 f.2=true:=by
 have M:=CE h;have X:=M f hf;have C:=gT hf;unfold gO;have K:∀g∈(aP 0 R).filter (fun g=>decide (g.1<f.1)&& !bef H g.1 f.1),g.2.nx.length=g.2.mem.length/\g.2.wr=[]:=by
  intro g V;have Z:=List.mem_filter.1 V;simp only[Ar,Cs,Bool.not_eq_true'] at Z;rcases (M g Z.1).or with U | ⟨_,U,_⟩
  .exact U
  .have:=U f.1 Z.2.1 (by omega)
   rw[this] at Z;exact absurd Z.2.2 (by simp)
 have Q:∀S,iu S ((aP 0 R).filter fun g=>decide (g.1<f.1)&& !bef H g.1 f.1)=fun b=>decide (b<S):=by
  intro S;funext b;unfold iu;have:(((aP 0 R).filter fun g=>decide (g.1<f.1)&& !bef H g.1 f.1).all fun f=> !decide (f.2.mem.length<=b/\b<f.2.nx.length))=true:=List.all_eq_true.2 fun g V=>by have:=(K g V).1;simp;omega
  rw[this,Bool.and_true]
 simp only[Q,Ar];rcases X.or with⟨U,O⟩ | ⟨U,_,h3,G⟩
 .have F:f.2.nx.drop f.2.mem.length=[]:=M6 (by rw[U];exact Es _)
  refine⟨⟨⟨⟨by rw[O];rfl,X.refs⟩,by rw[O];rfl⟩,by rw[F];rfl⟩,?_⟩;refine List.all_eq_true.2 fun g V=>?_
  obtain⟨g1,D⟩:=K g V;rw[D,O,g1,Nat.sub_self,List.take_zero];rfl
 .refine⟨⟨⟨⟨?_,X.refs⟩,?_⟩,G⟩,?_⟩
  .refine List.all_eq_true.2 fun b N=>?_
   have:=List.all_eq_true.1 h3 b N;simp only[Ar] at this;exact this.1
  .refine List.all_eq_true.2 fun b N=>?_
   have:=List.all_eq_true.1 h3 b N;simp only[Ar] at this;exact this.2
  .refine List.all_eq_true.2 fun g V=>?_
   have Z:=List.mem_filter.1 V;simp only[Ar,Cs,Bool.not_eq_true'] at Z;rw[U g.1 Z.2.1] at Z;exact absurd Z.2.2 (by simp)
variable{N m0:Nat}{O:afu}
theorem DE{T:TypeId->Option TyI}{ops:Array Oper}{H:List Nat}(I:eW ops.toList=H)(s:XS):
  aN T O N m0 ops s=match xp T O N m0 ops H s with
   |some s' =>some s'
   |none=>mw T O N m0 ops s:=by
 cases h:xp T O N m0 ops H s with
 |none=>rfl
 |some s' =>
  simp only;unfold xp at h;unfold aN;simp only;rw[I];split at h
  .cases h
  .rename_i R env mem Z
   split at h
   .rename_i X
    cases h;rw[Z];simp only;rw[if_pos (List.all_eq_true.2 fun f V=>Lc X V)]
   .cases h
def KV(H:List Nat)(n j:Nat):Bool:=(List.range n).all fun k=>decide (k<=j)||bef H j k
def OY(H:List Nat)(n j:Nat)(r:Rec):Bool:=
 r.v.aft (fun b=>decide (b<r.nx.length))&&
  (cF r||(KV H n j&&(r.wr.isEmpty||(jr H j&&r.wr.all (fun b=>dj r.tm b&&(match r.nx[b]? with | some s=>s.aft (fun b=>decide (b<r.nx.length)) | none=>true))))&&
   (r.nx.drop r.mem.length).all fun s=>(s.own||match s with | .y9=>true | _=>false)&&s.aft (fun b=>decide (b<r.nx.length))))
def Dc(H:List Nat)(n:Nat):Nat->List Rec->Bool
 |_,[]=>true
 |j,r::rest=>OY H n j r&&Dc H n (j+1) rest
def xq(T:TypeId->Option TyI)(O:afu)(N m0:Nat)(ops:Array Oper)(H:List Nat)(s:XS):Option XS:=
 match mx T O N ops H 0 ops.toList s.env s.mem [] with
 |none=>none
 |some (R,env,mem)=>
  if Dc H R.length 0 R then some ⟨env,mem,s.afS||R.any fun r=>r.wr.any fun b=>decide (b<m0)⟩ else none
structure ah2 (bs:List Nat)(n:Nat)(f:Nat×Rec):Prop where
 refs:f.2.v.aft (fun b=>decide (b<f.2.nx.length))=true
 or:(f.2.nx.length=f.2.mem.length/\f.2.wr=[])\/((f.2.wr=[]\/∀i,i<f.1->bef bs i f.1=true)/\(∀k,f.1<k->k<n->bef bs f.1 k=true)/\
  f.2.wr.all (fun b=>dj f.2.tm b&&(match f.2.nx[b]? with | some s=>s.aft (fun b=>decide (b<f.2.nx.length)) | none=>true))=true/\
  ((f.2.nx.drop f.2.mem.length).all fun s=>(s.own||match s with | .y9=>true | _=>false)&&s.aft (fun b=>decide (b<f.2.nx.length)))=true)
theorem Dd{H:List Nat}{n:Nat}:∀{j0:Nat} {R:List Rec},Dc H n j0 R=true->∀f∈aP j0 R,ah2 H n f
 |_,[],_,f,hf=>by simp[aP] at hf
 |j0,r::rest,h,f,hf=>by
  simp only[Dc,Ar] at h;rw[aP,List.mem_cons] at hf;rcases hf with rfl | hf
  .have X:=h.1
   simp only[OY,cF,KV,Ar,QQj,Cs,List.isEmpty_iff] at X;obtain⟨X,V⟩:=X;refine⟨X,?_⟩;rcases V with V | ⟨⟨h3,Z⟩,S⟩
   .exact .inl V
   .refine .inr ⟨?_,fun k M U=>?_,?_,S⟩
    .rcases Z with Z | ⟨Z,_⟩
     .exact .inl Z
     .exact .inr fun i Q=>List.all_eq_true.1 Z i (List.mem_range.2 Q)
    .have:=List.all_eq_true.1 h3 k (List.mem_range.2 U)
     simp only[QQj,Cs] at this;rcases this with h6 | h6
     .omega
     .exact h6
    .rcases Z with Z | ⟨_,Z⟩
     .rw[Z];rfl
     .exact Z
  .exact Dd h.2 f hf
theorem Ld{H:List Nat}(h:Dc H R.length 0 R=true){f:Nat×Rec}(hf:f∈aP 0 R):gO H (aP 0 R) f.1 f.2=true:=by
 have D:=Dd h;have U:=D f hf;have y:=gT hf;unfold gO;have Q:∀g∈(aP 0 R).filter (fun g=>decide (g.1<f.1)&& !bef H g.1 f.1),g.2.nx.length=g.2.mem.length/\g.2.wr=[]:=by
  intro g V;have Z:=List.mem_filter.1 V;simp only[Ar,Cs,Bool.not_eq_true'] at Z;rcases (D g Z.1).or with X | ⟨_,X,_⟩
  .exact X
  .have:=X f.1 Z.2.1 (by omega)
   rw[this] at Z;exact absurd Z.2.2 (by simp)
 have M:∀S,iu S ((aP 0 R).filter fun g=>decide (g.1<f.1)&& !bef H g.1 f.1)=fun b=>decide (b<S):=by
  intro S;funext b;unfold iu;have:(((aP 0 R).filter fun g=>decide (g.1<f.1)&& !bef H g.1 f.1).all fun f=> !decide (f.2.mem.length<=b/\b<f.2.nx.length))=true:=List.all_eq_true.2 fun g V=>by have:=(Q g V).1;simp;omega
  rw[this,Bool.and_true]
 simp only[M,Ar];rcases U.or with⟨X,K⟩ | ⟨X,_,h3,C⟩
 .have B:f.2.nx.drop f.2.mem.length=[]:=M6 (by rw[X];exact Es _)
  refine⟨⟨⟨⟨by rw[K];rfl,U.refs⟩,by rw[K];rfl⟩,by rw[B];rfl⟩,?_⟩;refine List.all_eq_true.2 fun g V=>?_
  obtain⟨g1,G⟩:=Q g V;rw[G,K,g1,Nat.sub_self,List.take_zero];rfl
 .refine⟨⟨⟨⟨?_,U.refs⟩,?_⟩,C⟩,?_⟩
  .refine List.all_eq_true.2 fun b F=>?_
   have:=List.all_eq_true.1 h3 b F;simp only[Ar] at this;exact this.1
  .refine List.all_eq_true.2 fun b F=>?_
   have:=List.all_eq_true.1 h3 b F;simp only[Ar] at this;exact this.2
  .refine List.all_eq_true.2 fun g V=>?_
   obtain⟨g1,G⟩:=Q g V;rcases X with X | X
   .rw[G,X,g1,Nat.sub_self,List.take_zero]
    rfl
   .have Z:=List.mem_filter.1 V
    simp only[Ar,Cs,Bool.not_eq_true'] at Z;rw[X g.1 Z.2.1] at Z;exact absurd Z.2.2 (by simp)
theorem DF{T:TypeId->Option TyI}{ops:Array Oper}{H:List Nat}(I:eW ops.toList=H)(s:XS):
  aN T O N m0 ops s=match xq T O N m0 ops H s with
   |some s' =>some s'
   |none=>mw T O N m0 ops s:=by
 cases h:xq T O N m0 ops H s with
 |none=>rfl
 |some s' =>
  simp only;unfold xq at h;unfold aN;simp only;rw[I];split at h
  .cases h
  .rename_i R env mem Z
   split at h
   .rename_i X
    cases h;rw[Z];simp only;rw[if_pos (List.all_eq_true.2 fun f V=>Ld X V)]
   .cases h
mutual
theorem afT{p q:Nat->Bool}:∀(v:AV),v.aft p=true->v.aft q=true->v.aft (fun b=>p b&&q b)=true
 |.ptr _ _,h1,h2=>by simp only[AV.aft] at h1 h2 |-;rw[h1,h2];rfl
 |.slice _ _ _ _,h1,h2=>by simp only[AV.aft] at h1 h2 |-;rw[h1,h2];rfl
 |.map _,h1,h2=>by simp only[AV.aft] at h1 h2 |-;rw[h1,h2];rfl
 |.yield _,h1,h2=>by simp only[AV.aft] at h1 h2 |-;rw[h1,h2];rfl
 |.func _ Z,h1,h2=>by simp only[AV.aft] at h1 h2 |-;exact mq Z h1 h2
 |.iface _ v,h1,h2=>by simp only[AV.aft] at h1 h2 |-;exact afT v h1 h2
 |.agg Z,h1,h2=>by simp only[AV.aft] at h1 h2 |-;exact mq Z h1 h2
 |.tuple Z,h1,h2=>by simp only[AV.aft] at h1 h2 |-;exact mq Z h1 h2
 |.undef,_,_=>rfl
 |.bool _,_,_=>rfl
 |.int _ _,_,_=>rfl
 |.str _,_,_=>rfl
 |.afL,_,_=>rfl
 |.kO,_,_=>rfl
 |.afV,_,_=>rfl
 |.nilFunc,_,_=>rfl
 |.nilIface,_,_=>rfl
theorem mq{p q:Nat->Bool}:∀(cs:List AV),AV.afD p cs=true->AV.afD q cs=true->AV.afD (fun b=>p b&&q b) cs=true
 | [],_,_=>rfl
 |v::vs,h1,h2=>by simp only[AV.afD,Ar] at h1 h2 |-;exact⟨afT v h1.1 h2.1,mq vs h1.2 h2.2⟩
end
mutual
theorem afK:∀(v:AV),v.aft (fun _=>true)=true
 |.ptr _ _=>rfl
 |.slice _ _ _ _=>rfl
 |.map _=>rfl
 |.yield _=>rfl
 |.func _ Z=>by simp only[AV.aft];exact kQ Z
 |.iface _ v=>by simp only[AV.aft];exact afK v
 |.agg Z=>by simp only[AV.aft];exact kQ Z
 |.tuple Z=>by simp only[AV.aft];exact kQ Z
 |.undef=>rfl
 |.bool _=>rfl
 |.int _ _=>rfl
 |.str _=>rfl
 |.afL=>rfl
 |.kO=>rfl
 |.afV=>rfl
 |.nilFunc=>rfl
 |.nilIface=>rfl
theorem kQ:∀(cs:List AV),AV.afD (fun _=>true) cs=true
 | []=>rfl
 |v::vs=>by simp only[AV.afD,Ar];exact⟨afK v,kQ vs⟩
end
theorem afQ{top:Nat}{v:AV}(h:v.aft (fun b=>decide (b<top))=true):∀{un:List (Nat×Rec)},(∀g∈un,v.aft (fun b=> !decide (g.2.mem.length<=b/\b<g.2.nx.length))=true)->v.aft (iu top un)=true
 | [],_=>by
  have:iu top []=fun b=>decide (b<top):=by funext b;simp[iu]
  rw[this];exact h
 |g::un,hg=>by
  have Z:=afQ h (un:=un) (fun x X=>hg x (List.mem_cons_of_mem _ X));have V:=afT v Z (hg g (List.mem_cons_self ..));have:iu top (g::un)=fun b=>iu top un b&& !decide (g.2.mem.length<=b/\b<g.2.nx.length):=by funext b;simp only[iu,QQX];cases decide (b<top)<;>cases (un.all fun f=> !decide (f.2.mem.length<=b/\b<f.2.nx.length))<;>simp
  rw[this];exact V
def qI:afz->Bool
 |.y9=>true
 |_=>false
def Y9(H I:Nat)(r:Rec):Bool:=
 cF r&&r.v.aft (fun b=> !decide (H<=b/\b<I))&&((r.tm.drop H).take (I-H)).all qI
structure aie (bs:List Nat)(R:List (Nat×Rec))(f:Nat×Rec):Prop where
 refs:f.2.v.aft (fun b=>decide (b<f.2.nx.length))=true
 or:(f.2.nx.length=f.2.mem.length/\f.2.wr=[])\/((f.2.wr=[]\/∀i,i<f.1->bef bs i f.1=true)/\(∀g∈R,f.1<g.1->bef bs f.1 g.1=true\/(f.2.wr=[]/\Y9 f.2.mem.length f.2.nx.length g.2=true))/\
  f.2.wr.all (fun b=>dj f.2.tm b&&(match f.2.nx[b]? with | some s=>s.aft (fun b=>decide (b<f.2.nx.length)) | none=>true))=true/\
  ((f.2.nx.drop f.2.mem.length).all fun s=>(s.own||match s with | .y9=>true | _=>false)&&s.aft (fun b=>decide (b<f.2.nx.length)))=true)
theorem Dg(f:Nat->Bool)(new:Mem):∀(i:Nat) (M:Mem),bb [] i M (bB f i M++new)=M++new
 |_,[]=>rfl
 |i,s::M=>by simp[bB,bb,Dg f new (i+1) M]
theorem zw(new:Mem):∀(i:Nat) (M:Mem),bb [] i M (M++new)=M++new
 |_,[]=>rfl
 |i,s::M=>by simp[bb,zw new (i+1) M]
theorem zy(f:Nat->Bool)(s:afz):∀(i:Nat) (M:Mem) (k:Nat),bb [i+k] i M ((bB f i M).set k s)=M.set k s
 |_,[],_=>rfl
 |i,x::M,0=>by
  simp only[bB,List.set_cons_zero,bb,Nat.add_zero];have h:∀(j:Nat) (M:Mem),i<j->bb [i] j M (bB f j M)=M:=by
   intro j M Z;induction M generalizing j with
   |nil=>rfl
   |cons y M ih=>simp[bB,bb,ih (j+1) (by omega),show¬j=i by omega]
  simp[h (i+1) M (by omega)]
 |i,x::M,k+1=>by have:=zy f s (i+1) M k;rw[show i+1+k=i+(k+1) by omega] at this;simp[bB,bb,this,show¬i=i+(k+1) by omega]
theorem sj(f:Nat->Bool)(s:afz)(M:Mem)(k:Nat):bb [k] 0 M ((bB f 0 M).set k s)=M.set k s:=by
 have:=zy f s 0 M k
 rwa [QQY] at this
theorem FB(f:Nat->Bool):∀(i:Nat) (M:Mem),(bB f i M).length=M.length
 |_,[]=>rfl
 |i,x::M=>by simp[bB,FB f (i+1) M]
theorem Fz(f:Nat->Bool)(M:Mem)(H n:Nat)(h:∀b,H<=b->b<H+n->f b=false):(((bB f 0 M).drop H).take n).all qI=true:=by
 rw[List.all_eq_true];intro s X;obtain⟨i,Z⟩:=QXJ X;rw[List.getElem?_take] at Z;split at Z
 .rename_i V
  rw[QQJ,mg] at Z;cases hM:M[H+i]? with
  |none=>rw[hM] at Z;simp at Z
  |some x=>
   rw[hM] at Z;simp only[Option.map_some,QQY,Mp] at Z;rw[h (H+i) (by omega) (by omega)] at Z;simp at Z;subst Z;rfl
 .cases Z
theorem NY(M:Mem)(H n:Nat):(((bB (fun _=>false) 0 M).drop H).take n).all qI=true:=Fz _ M H n fun _ _ _=>rfl
theorem XJ(M X:Mem)(k:Nat):(M++X).drop (M.length+k)=X.drop k:=by rw[List.drop_append];simp
theorem Ww(M X:Mem):(M++X).drop M.length=X:=by simp
theorem xd(i:Nat)(s s' :afz)(r r' :Mem):bb [] i (s::r) (s' ::r')=s::bb [] (i+1) r r' :=by simp[bb]
theorem Dh:∀(i:Nat) (N X Y:Mem),bb [] i (N++X) (N++Y)=N++bb [] (i+N.length) X Y
 |i,[],X,Y=>by simp
 |i,s::N,X,Y=>by simp only[List.cons_append,xd,Dh (i+1) N X Y,List.length_cons];rw[show i+1+N.length=i+(N.length+1) by omega]
theorem afz.afT{p q:Nat->Bool}:∀(s:afz),s.aft p=true->s.aft q=true->s.aft (fun b=>p b&&q b)=true
 |.y9,_,_=>rfl
 |.cells _ _ cs,h,h' =>mq cs h h'
 |.map es,h,h' =>by simp only[afz.aft,List.all_eq_true,Ar] at h h' |-;exact fun e Z=>⟨Go.Eng.afT _ (h e Z).1 (h' e Z).1,Go.Eng.afT _ (h e Z).2 (h' e Z).2⟩
 |.af6 es,h,h' =>by simp only[afz.aft,List.all_eq_true,Ar] at h h' |-;exact fun e Z=>⟨Go.Eng.afT _ (h e Z).1 (h' e Z).1,Go.Eng.afT _ (h e Z).2 (h' e Z).2⟩
 |.loop r,h,h' =>by simp only[afz.aft,List.all_eq_true] at h h' |-;exact fun e Z=>Go.Eng.afT _ (h e Z) (h' e Z)
theorem afz.afQ{top:Nat}{s:afz}(h:s.aft (fun b=>decide (b<top))=true):∀{un:List (Nat×Rec)},(∀g∈un,s.aft (fun b=> !decide (g.2.mem.length<=b/\b<g.2.nx.length))=true)->s.aft (iu top un)=true
 | [],_=>by
  have:iu top []=fun b=>decide (b<top):=by funext b;simp[iu]
  rw[this];exact h
 |g::un,hg=>by
  have Z:=afz.afQ h (un:=un) (fun x X=>hg x (List.mem_cons_of_mem _ X));have V:=afz.afT s Z (hg g (List.mem_cons_self ..));have:iu top (g::un)=fun b=>iu top un b&& !decide (g.2.mem.length<=b/\b<g.2.nx.length):=by funext b;simp only[iu,QQX];cases decide (b<top)<;>cases (un.all fun f=> !decide (f.2.mem.length<=b/\b<f.2.nx.length))<;>simp
  rw[this];exact V
theorem ji{g:Rec}(h:g.nx.length=g.mem.length):(fun b=> !decide (g.mem.length<=b/\b<g.nx.length))=fun _=>true:=by
 funext b;rw[h];have:¬(g.mem.length<=b/\b<g.mem.length):=by omega
 simp[this]
theorem afz.afK:∀(s:afz),s.aft (fun _=>true)=true
 |.y9=>rfl
 |.cells _ _ cs=>kQ cs
 |.map es=>by simp only[afz.aft,List.all_eq_true,Ar];exact fun e _=>⟨Go.Eng.afK _,Go.Eng.afK _⟩
 |.af6 es=>by simp only[afz.aft,List.all_eq_true,Ar];exact fun e _=>⟨Go.Eng.afK _,Go.Eng.afK _⟩
 |.loop r=>by simp only[afz.aft,List.all_eq_true];exact fun e _=>Go.Eng.afK _
def bL(H I:Nat)(r:Rec):Bool:=
 r.wr.isEmpty&&r.v.aft (fun b=> !decide (H<=b/\b<I))&&((r.nx.drop r.mem.length).all fun s=>s.aft (fun b=> !decide (H<=b/\b<I)))&&((r.tm.drop H).take (I-H)).all qI
def dy(H:List Nat)(i:Nat)(r:Rec):Nat->List Rec->Bool
 |_,[]=>true
 |j,s::rest=>(bef H i j||(r.wr.isEmpty&&bL r.mem.length r.nx.length s))&&dy H i r (j+1) rest
def eI(H:List Nat)(j:Nat)(r:Rec):List (Nat×Rec)->Bool
 | []=>true
 |g::l=>(bef H g.1 j||(cF g.2&&r.wr.all fun b=> !dj g.2.tm b))&&eI H j r l
def gi(H:List Nat):Nat->List (Nat×Rec)->List Rec->Bool
 |_,_,[]=>true
 |j,acc,r::rest=>r.v.aft (fun b=>decide (b<r.nx.length))&&(cF r||(dy H j r (j+1) rest&&(r.wr.isEmpty||(eI H j r acc&&r.wr.all (fun b=>dj r.tm b&&(match r.nx[b]? with | some s=>s.aft (fun b=>decide (b<r.nx.length)) | none=>true))))&&
   (r.nx.drop r.mem.length).all fun s=>(s.own||match s with | .y9=>true | _=>false)&&s.aft (fun b=>decide (b<r.nx.length))))&&gi H (j+1) ((j,r)::acc) rest
def bU(T:TypeId->Option TyI)(O:afu)(N m0:Nat)(ops:Array Oper)(H:List Nat)(s:XS):Option XS:=
 match mx T O N ops H 0 ops.toList s.env s.mem [] with
 |none=>none
 |some (R,env,mem)=>
  if gi H 0 [] R then some ⟨env,mem,s.afS||R.any fun r=>r.wr.any fun b=>decide (b<m0)⟩ else none
theorem CP{H:List Nat}{i:Nat}{r:Rec}:∀{j0:Nat} {R:List Rec},dy H i r j0 R=true->∀g∈aP j0 R,bef H i g.1=true\/(r.wr=[]/\bL r.mem.length r.nx.length g.2=true)
 |_,[],_,g,hg=>by simp[aP] at hg
 |j0,s::rest,h,g,hg=>by
  simp only[dy,Ar,QQj,List.isEmpty_iff] at h;rw[aP,List.mem_cons] at hg;rcases hg with rfl | hg
  .exact h.1
  .exact CP h.2 g hg
theorem yq{H:List Nat}{j:Nat}{r:Rec}:∀{acc:List (Nat×Rec)},eI H j r acc=true->∀g∈acc,bef H g.1 j=true\/((g.2.nx.length=g.2.mem.length/\g.2.wr=[])/\(r.wr.all fun b=> !dj g.2.tm b)=true)
 | [],_,g,hg=>by cases hg
 |a::l,h,g,hg=>by
  simp only[eI,cF,Ar,QQj,Cs,List.isEmpty_iff] at h;rcases List.mem_cons.1 hg with rfl | hg
  .exact h.1
  .exact yq h.2 g hg
structure ahM (bs:List Nat)(R:List (Nat×Rec))(f:Nat×Rec):Prop where
 refs:f.2.v.aft (fun b=>decide (b<f.2.nx.length))=true
 or:(f.2.nx.length=f.2.mem.length/\f.2.wr=[])\/((f.2.wr=[]\/∀g∈R,g.1<f.1->bef bs g.1 f.1=true\/((g.2.nx.length=g.2.mem.length/\g.2.wr=[])/\(f.2.wr.all fun b=> !dj g.2.tm b)=true))/\(∀g∈R,f.1<g.1->bef bs f.1 g.1=true\/(f.2.wr=[]/\bL f.2.mem.length f.2.nx.length g.2=true))/\
  f.2.wr.all (fun b=>dj f.2.tm b&&(match f.2.nx[b]? with | some s=>s.aft (fun b=>decide (b<f.2.nx.length)) | none=>true))=true/\
  ((f.2.nx.drop f.2.mem.length).all fun s=>(s.own||match s with | .y9=>true | _=>false)&&s.aft (fun b=>decide (b<f.2.nx.length)))=true)
theorem zo{H:List Nat}{R0:List (Nat×Rec)}:∀{j0:Nat} {acc:List (Nat×Rec)} {R:List Rec},(∀g∈R0,g.1<j0\/g∈aP j0 R)->(∀g∈R0,g.1<j0->g∈acc)->gi H j0 acc R=true->∀f∈aP j0 R,ahM H R0 f
 |_,_,[],_,_,_,f,hf=>by simp[aP] at hf
 |j0,acc,r::rest,hR,abt,h,f,hf=>by
  simp only[gi,Ar] at h;obtain⟨⟨M,U⟩,K⟩:=h;have V :∀g∈R0,g.1<j0+1\/g∈aP (j0+1) rest:=by
   intro g X;rcases hR g X with h3 | h3
   .exact .inl (by omega)
   .rw[aP,List.mem_cons] at h3
    rcases h3 with rfl | h3
    .exact .inl (by simp)
    .exact .inr h3
  have Q :∀g∈R0,g.1<j0+1->g∈(j0,r)::acc:=by
   intro g X S;rcases hR g X with h3 | h3
   .exact List.mem_cons_of_mem _ (abt g X h3)
   .rw[aP,List.mem_cons] at h3
    rcases h3 with rfl | h3
    .exact List.mem_cons_self ..
    .have:=(gT h3).1;omega
  rw[aP,List.mem_cons] at hf;rcases hf with rfl | hf
  .refine⟨M,?_⟩
   simp only[cF,Ar,QQj,Cs,List.isEmpty_iff] at U;rcases U with U | ⟨⟨h3,Z⟩,G⟩
   .exact .inl U
   .refine .inr ⟨?_,fun g X S=>?_,?_,G⟩
    .rcases Z with Z | ⟨Z,_⟩
     .exact .inl Z
     .exact .inr fun g X S=>yq Z g (abt g X S)
    .rcases V g X with h6 | h6
     .simp only at S;omega
     .exact CP h3 g h6
    .rcases Z with Z | ⟨_,Z⟩
     .rw[Z];rfl
     .exact Z
  .exact zo V Q K f hf
theorem G7{H:List Nat}(h:gi H 0 [] R=true){f:Nat×Rec}(hf:f∈aP 0 R):gO H (aP 0 R) f.1 f.2=true:=by
 have y:=zo (R0:=aP 0 R) (fun g X=>.inr X) (fun g _ o=>absurd o (Nat.not_lt_zero _)) h;have S:=y f hf;unfold gO;have Q:∀g∈(aP 0 R).filter (fun g=>decide (g.1<f.1)&& !bef H g.1 f.1),(g.2.nx.length=g.2.mem.length/\g.2.wr=[])\/(g.2.wr=[]/\bL g.2.mem.length g.2.nx.length f.2=true):=by
  intro g X;have Z:=List.mem_filter.1 X;simp only[Ar,Cs,Bool.not_eq_true'] at Z;rcases (y g Z.1).or with U | ⟨_,U,_⟩
  .exact .inl U
  .rcases U f hf Z.2.1 with G | G
   .rw[G] at Z;exact absurd Z.2.2 (by simp)
   .exact .inr G
 have F:∀g∈(aP 0 R).filter (fun g=>decide (g.1<f.1)&& !bef H g.1 f.1),g.2.wr=[]/\(f.2.wr.all fun b=> !dj g.2.tm b)=true/\(f.2.wr=[]\/g.2.nx.length=g.2.mem.length):=by
  intro g X;have Z:=List.mem_filter.1 X;simp only[Ar,Cs,Bool.not_eq_true'] at Z;rcases Q g X with⟨g1,V⟩ | ⟨g1,V⟩
  .refine⟨V,?_,.inr g1⟩
   rcases S.or with U | ⟨U,_⟩
   .rw[U.2];rfl
   .rcases U with U | U
    .rw[U];rfl
    .rcases U g Z.1 Z.2.1 with h3 | h3
     .rw[h3] at Z;exact absurd Z.2.2 (by simp)
     .exact h3.2
  .simp only[bL,Ar,List.isEmpty_iff] at V
   refine⟨g1,?_,.inl V.1.1.1⟩;rw[V.1.1.1];rfl
 have m:f.2.v.aft (iu f.2.nx.length ((aP 0 R).filter fun g=>decide (g.1<f.1)&& !bef H g.1 f.1))=true:=afQ S.refs fun g X=>by
  rcases Q g X with⟨g1,_⟩ | ⟨_,V⟩
  .rw[ji g1];exact afK _
  .simp only[bL,Ar] at V
   exact V.1.1.2
 have C:(((aP 0 R).filter fun g=>decide (g.1<f.1)&& !bef H g.1 f.1).all fun g=>g.2.wr.all (fun b=> !dj f.2.tm b)&&f.2.wr.all (fun b=> !dj g.2.tm b)&&
   ((f.2.tm.drop g.2.mem.length).take (g.2.nx.length-g.2.mem.length)).all fun s=>match s with | .y9=>true | _=>false)=true:=List.all_eq_true.2 fun g X=>by
  obtain⟨w1,w2,_⟩:=F g X;rw[w1,w2];simp only[List.all_nil,Bool.true_and];rcases Q g X with⟨g1,_⟩ | ⟨_,V⟩
  .rw[g1,Nat.sub_self,List.take_zero];rfl
  .simp only[bL,Ar] at V
   refine List.all_eq_true.2 fun s K=>?_
   have:=List.all_eq_true.1 V.2 s K;cases s<;>simp_all[qI]
 have B:((f.2.nx.drop f.2.mem.length).all fun s=>(s.own||match s with | .y9=>true | _=>false)&&s.aft (iu f.2.nx.length ((aP 0 R).filter fun g=>decide (g.1<f.1)&& !bef H g.1 f.1)))=true:=by
  refine List.all_eq_true.2 fun s K=>?_
  rcases S.or with⟨U,_⟩ | ⟨_,_,_,Y⟩
  .rw[M6 (by rw[U];exact Es _)] at K;cases K
  .have M:=List.all_eq_true.1 Y s K
   simp only[Ar] at M |-;refine⟨M.1,afz.afQ M.2 fun g X=>?_⟩;rcases Q g X with⟨g1,_⟩ | ⟨_,V⟩
   .rw[ji g1];exact afz.afK _
   .simp only[bL,Ar] at V
    exact List.all_eq_true.1 V.1.2 s K
 have u:f.2.wr.all (fun b=>dj f.2.tm b)=true/\(f.2.wr.all fun b=>match f.2.nx[b]? with | some s=>s.aft (iu f.2.nx.length ((aP 0 R).filter fun g=>decide (g.1<f.1)&& !bef H g.1 f.1)) | none=>true)=true:=by
  rcases S.or with⟨_,G⟩ | ⟨_,_,h3,_⟩
  .rw[G];exact⟨rfl,rfl⟩
  .constructor
   .refine List.all_eq_true.2 fun b D=>?_
    have:=List.all_eq_true.1 h3 b D;simp only[Ar] at this;exact this.1
   .refine List.all_eq_true.2 fun b D=>?_
    have:=List.all_eq_true.1 h3 b D;simp only[Ar] at this;cases hn:f.2.nx[b]? with
    |none=>rfl
    |some s=>
     simp only[hn] at this |-;refine afz.afQ this.2 fun g X=>?_
     rcases (F g X).2.2 with M | M
     .rw[M] at D;cases D
     .rw[ji M];exact afz.afK _
 simp only[Ar];exact⟨⟨⟨⟨u.1,m⟩,u.2⟩,B⟩,C⟩
theorem aK{T:TypeId->Option TyI}{ops:Array Oper}{H:List Nat}(I:eW ops.toList=H)(s:XS):
  aN T O N m0 ops s=match bU T O N m0 ops H s with
   |some s' =>some s'
   |none=>mw T O N m0 ops s:=by
 cases h:bU T O N m0 ops H s with
 |none=>rfl
 |some s' =>
  simp only;unfold bU at h;unfold aN;simp only;rw[I];split at h
  .cases h
  .rename_i R env mem Z
   split at h
   .rename_i X
    cases h;rw[Z];simp only;rw[if_pos (List.all_eq_true.2 fun f V=>G7 X V)]
   .cases h
mutual
theorem AV.agn{k n:Nat}(H:k<=n):∀{v:AV},v.under k=true->v.refs n=[]
 |.undef,_=>rfl
 |.bool _,_=>rfl
 |.int _ _,_=>rfl
 |.str _,_=>rfl
 |.ptr b o,h=>by simp only[AV.under,Cs] at h;simp only[AV.refs];rw[if_pos (by omega)]
 |.afL,_=>rfl
 |.slice b o l c,h=>by simp only[AV.under,Cs] at h;simp only[AV.refs];rw[if_pos (by omega)]
 |.kO,_=>rfl
 |.map b,h=>by simp only[AV.under,Cs] at h;simp only[AV.refs];rw[if_pos (by omega)]
 |.yield b,h=>by simp only[AV.under,Cs] at h;simp only[AV.refs];rw[if_pos (by omega)]
 |.afV,_=>rfl
 |.func f Z,h=>by simp only[AV.under] at h;simp only[AV.refs];exact AV.afX H h
 |.nilFunc,_=>rfl
 |.iface t v,h=>by simp only[AV.under] at h;simp only[AV.refs];exact AV.agn H h
 |.nilIface,_=>rfl
 |.agg Z,h=>by simp only[AV.under] at h;simp only[AV.refs];exact AV.afX H h
 |.tuple Z,h=>by simp only[AV.under] at h;simp only[AV.refs];exact AV.afX H h
theorem AV.afX{k n:Nat}(H:k<=n):∀{vs:List AV},AV.afB k vs=true->AV.afN n vs=[]
 | [],_=>rfl
 |v::vs,h=>by simp only[AV.afB,Ar] at h;simp only[AV.afN,AV.agn H h.1,AV.afX H h.2,List.append_nil]
end
mutual
theorem AV.age{k:Nat}{f:Nat->Bool}(hf:∀b,b<k->f b=true):∀{v:AV},v.under k=true->v.aft f=true
 |.undef,_=>rfl
 |.bool _,_=>rfl
 |.int _ _,_=>rfl
 |.str _,_=>rfl
 |.ptr b o,h=>by simp only[AV.under,Cs] at h;simp only[AV.aft];exact hf b h
 |.afL,_=>rfl
 |.slice b o l c,h=>by simp only[AV.under,Cs] at h;simp only[AV.aft];exact hf b h
 |.kO,_=>rfl
 |.map b,h=>by simp only[AV.under,Cs] at h;simp only[AV.aft];exact hf b h
 |.yield b,h=>by simp only[AV.under,Cs] at h;simp only[AV.aft];exact hf b h
 |.afV,_=>rfl
 |.func f Z,h=>by simp only[AV.under] at h;simp only[AV.aft];exact AV.afU hf h
 |.nilFunc,_=>rfl
 |.iface t v,h=>by simp only[AV.under] at h;simp only[AV.aft];exact AV.age hf h
 |.nilIface,_=>rfl
 |.agg Z,h=>by simp only[AV.under] at h;simp only[AV.aft];exact AV.afU hf h
 |.tuple Z,h=>by simp only[AV.under] at h;simp only[AV.aft];exact AV.afU hf h
theorem AV.afU{k:Nat}{f:Nat->Bool}(hf:∀b,b<k->f b=true):∀{vs:List AV},AV.afB k vs=true->AV.afD f vs=true
 | [],_=>rfl
 |v::vs,h=>by simp only[AV.afB,Ar] at h;simp only[AV.afD,AV.age hf h.1,AV.afU hf h.2,Bool.and_self]
end
mutual
theorem yN{k n:Nat}(H:k<=n):∀{v:AV},v.under k=true->v.under n=true
 |.undef,_=>rfl
 |.bool _,_=>rfl
 |.int _ _,_=>rfl
 |.str _,_=>rfl
 |.ptr b o,h=>by simp only[AV.under,Cs] at h |-;omega
 |.afL,_=>rfl
 |.slice b o l c,h=>by simp only[AV.under,Cs] at h |-;omega
 |.kO,_=>rfl
 |.map b,h=>by simp only[AV.under,Cs] at h |-;omega
 |.yield b,h=>by simp only[AV.under,Cs] at h |-;omega
 |.afV,_=>rfl
 |.func f Z,h=>by simp only[AV.under] at h |-;exact qq H h
 |.nilFunc,_=>rfl
 |.iface t v,h=>by simp only[AV.under] at h |-;exact yN H h
 |.nilIface,_=>rfl
 |.agg Z,h=>by simp only[AV.under] at h |-;exact qq H h
 |.tuple Z,h=>by simp only[AV.under] at h |-;exact qq H h
theorem qq{k n:Nat}(H:k<=n):∀{vs:List AV},AV.afB k vs=true->AV.afB n vs=true
 | [],_=>rfl
 |v::vs,h=>by simp only[AV.afB,Ar] at h |-;exact⟨yN H h.1,qq H h.2⟩
end
variable{k:Nat}
theorem gd{vs:List AV}(h:AV.afB k vs=true):(∀n,k<=n->AV.afN n vs=[])/\(∀n,k<=n->AV.afD (fun b=>decide (b<n)) vs=true):=
 ⟨fun n Z=>AV.afX Z h,fun n Z=>AV.afU (fun b X=>by simp only[Cs];omega) h⟩
variable{v:AV}
theorem fK(h:v.under k=true):(∀n,k<=n->v.refs n=[])/\(∀n,k<=n->v.aft (fun b=>decide (b<n))=true):=
 ⟨fun n Z=>AV.agn Z h,fun n Z=>AV.age (fun b X=>by simp only[Cs];omega) h⟩
mutual
theorem afx.cut{μ μ' :Nat->Place}{n n' :Nat}:∀{v V V'},afx μ n v V->afx μ' n' v V' ->afx μ' n v V'
 |.undef,V,V',_,_=>by simp[afx]
 |.bool b,V,V',_,h=>by simpa [afx] using h
 |.int k i,V,V',_,h=>by simpa [afx] using h
 |.str s,V,V',_,h=>by simpa [afx] using h
 |.ptr b o,V,V',h,Z =>by simp only[afx] at h Z |-;exact⟨h.1,Z.2⟩
 |.afL,V,V',_,h=>by simpa [afx] using h
 |.slice b o l c,V,V',h,Z =>by simp only[afx] at h Z |-;exact⟨h.1,Z.2⟩
 |.kO,V,V',_,h=>by simpa [afx] using h
 |.map b,V,V',h,Z =>by simp only[afx] at h Z |-;exact⟨h.1,Z.2⟩
 |.yield b,V,V',h,Z =>by simp only[afx] at h Z |-;exact⟨h.1,Z.2⟩
 |.afV,V,V',_,h=>by simpa [afx] using h
 |.func f S,V,V',h,Z =>by simp only[afx] at h Z |-;obtain⟨Q,rfl,h⟩:=h;obtain⟨X,rfl,Z⟩:=Z;exact⟨X,rfl,afy.cut h Z⟩
 |.nilFunc,V,V',_,h=>by simpa [afx] using h
 |.iface t v,V,V',h,Z =>by simp only[afx] at h Z |-;obtain⟨U,rfl,h⟩:=h;obtain⟨M,rfl,Z⟩:=Z;exact⟨M,rfl,afx.cut h Z⟩
 |.nilIface,V,V',_,h=>by simpa [afx] using h
 |.agg S,V,V',h,Z =>by simp only[afx] at h Z |-;obtain⟨Q,rfl,h⟩:=h;obtain⟨X,rfl,Z⟩:=Z;exact⟨X,rfl,afy.cut h Z⟩
 |.tuple S,V,V',h,Z =>by simp only[afx] at h Z |-;obtain⟨Q,rfl,h⟩:=h;obtain⟨X,rfl,Z⟩:=Z;exact⟨X,rfl,afy.cut h Z⟩
theorem afy.cut{μ μ' :Nat->Place}{n n' :Nat}:∀{vs Us Us'},afy μ n vs Us->afy μ' n' vs Us' ->afy μ' n vs Us'
 | [],Us,Us',_,h=>by simpa [afy] using h
 |v::vs,Us,Us',h,h' =>by simp only[afy] at h h' |-;obtain⟨U,K,rfl,S,Q⟩:=h;obtain⟨M,Z,rfl,X,V⟩:=h';exact⟨M,Z,rfl,afx.cut S X,afy.cut Q V⟩
end
theorem afM.cut{μ μ' :Nat->Place}{n n' H:Nat}{w w' :World}{p I :Place}{s:afz}(h:afM μ n H w p s)(h' :afM μ' n' H w' I s):afM μ' n H w' I s:=by
 cases s with
 |y9=>trivial
 |cells own es cs=>
  simp only[afM] at h h' |-;obtain⟨_,_,_,_,_,_,M,_⟩:=h;obtain⟨F,e,u,X,U,K,G,o⟩:=h';refine⟨F,e,u,X,U,K,fun j v Z=>?_,o⟩;obtain⟨V,_,r⟩:=M j v Z;obtain⟨m,D,S⟩:=G j v Z;exact⟨m,D,afx.cut r S⟩
 |map es=>
  simp only[afM] at h h' |-;obtain⟨_,_,_,_,_,M⟩:=h;obtain⟨C,B,X,U,K,G⟩:=h';refine⟨C,B,X,U,K,fun j e Z=>?_⟩;obtain⟨E,_,r⟩:=M j e Z;obtain⟨y,Q,S⟩:=G j e Z;exact⟨y,Q,afx.cut r.1 S.1,afx.cut r.2 S.2⟩
 |af6 es=>
  simp only[afM] at h h' |-;obtain⟨_,_,_,_,_,M⟩:=h;obtain⟨C,B,X,U,K,G⟩:=h';refine⟨C,B,X,U,K,fun j e Z=>?_⟩;obtain⟨E,_,r⟩:=M j e Z;obtain⟨y,Q,S⟩:=G j e Z;exact⟨y,Q,afx.cut r.1 S.1,afx.cut r.2 S.2⟩
 |loop r=>
  simp only[afM] at h h' |-;obtain⟨L,_,_,g⟩:=h;obtain⟨Y,X,U,k⟩:=h';exact⟨Y,X,U,k.st,k.agx,k.ps,k.assign,k.body,k.size,fun t=>afx.cut (g.tmps t) (k.tmps t)⟩
variable{P:Program}{args:List AV}{m new:Mem}
theorem bz.forget{f:FuncId}(H:v.closed=true)(h:bz P f args m v (m++new)):bz P f args m v m:=by
 refine⟨h.1,fun base μ w Vs hG hH hV=>(h.2 base μ w Vs hG hH hV).mono ?_⟩;rintro e w' ⟨V,v',m',μ',rfl,q1,q2,q3,rfl,rfl⟩;have X:∀{b:Nat}{s:afz},m[b]? =some s->(m++new)[b]? =some s:=fun {b s} Z=>gU Z _
 have U:∀{b:Nat},eH m b->eH (m++new) b:=fun ⟨s,Q,M⟩=>⟨s,X Q,M⟩
 exact⟨V,_,m,μ',rfl,afx.closed H q1,⟨q2.afF,fun b s Z=>(hH.slot b s Z).cut (q2.slot b s (X Z)),fun b K G Z S =>q2.sep b K G (U Z) (X S)⟩,
  ⟨Es _,q3.agree,q3.os,q3.tape,q3.output,q3.size,q3.frame,fun b Z=>q3.owner b (U Z),q3.drawn⟩,rfl,rfl⟩
mutual
theorem afx.low{μ:Nat->Place}{n n' :Nat}:∀{v V},v.under n=true->afx μ n' v V->afx μ n v V
 |.undef,V,_,_=>by simp[afx]
 |.bool b,V,_,h=>by simpa [afx] using h
 |.int k i,V,_,h=>by simpa [afx] using h
 |.str s,V,_,h=>by simpa [afx] using h
 |.ptr b o,V,hu,h=>by simp only[AV.under,Cs] at hu;simp only[afx] at h |-;exact⟨hu,h.2⟩
 |.afL,V,_,h=>by simpa [afx] using h
 |.slice b o l c,V,hu,h=>by simp only[AV.under,Cs] at hu;simp only[afx] at h |-;exact⟨hu,h.2⟩
 |.kO,V,_,h=>by simpa [afx] using h
 |.map b,V,hu,h=>by simp only[AV.under,Cs] at hu;simp only[afx] at h |-;exact⟨hu,h.2⟩
 |.yield b,V,hu,h=>by simp only[AV.under,Cs] at hu;simp only[afx] at h |-;exact⟨hu,h.2⟩
 |.afV,V,_,h=>by simpa [afx] using h
 |.func f X,V,hu,h=>by simp only[AV.under] at hu;simp only[afx] at h |-;obtain⟨Z,rfl,h⟩:=h;exact⟨Z,rfl,afy.low hu h⟩
 |.nilFunc,V,_,h=>by simpa [afx] using h
 |.iface t v,V,hu,h=>by simp only[AV.under] at hu;simp only[afx] at h |-;obtain⟨U,rfl,h⟩:=h;exact⟨U,rfl,afx.low hu h⟩
 |.nilIface,V,_,h=>by simpa [afx] using h
 |.agg X,V,hu,h=>by simp only[AV.under] at hu;simp only[afx] at h |-;obtain⟨Z,rfl,h⟩:=h;exact⟨Z,rfl,afy.low hu h⟩
 |.tuple X,V,hu,h=>by simp only[AV.under] at hu;simp only[afx] at h |-;obtain⟨Z,rfl,h⟩:=h;exact⟨Z,rfl,afy.low hu h⟩
theorem afy.low{μ:Nat->Place}{n n' :Nat}:∀{vs Us},AV.afB n vs=true->afy μ n' vs Us->afy μ n vs Us
 | [],Us,_,h=>by simpa [afy] using h
 |v::vs,Us,hu,h=>by simp only[AV.afB,Ar] at hu;simp only[afy] at h |-;obtain⟨U,Z,rfl,X,V⟩:=h;exact⟨U,Z,rfl,afx.low hu.1 X,afy.low hu.2 V⟩
end
theorem bz.aho{f:FuncId}{H:Mem}(J:v.closed=true)(I:H.length=m.length)(hc:∀(b:Nat) s,H[b]? =some s->m[b]? =some s\/∃o es S,s=.cells o es S/\AV.afB m.length S=true)(h:bz P f args m v (H++new)):bz P f args m v H:=by
 refine⟨h.1,fun base μ w Vs hG hH hV=>(h.2 base μ w Vs hG hH hV).mono ?_⟩;rintro e w' ⟨V,v',m',μ',rfl,q1,q2,q3,rfl,rfl⟩;have Z:∀{b:Nat}{s:afz},H[b]? =some s->(H++new)[b]? =some s:=fun {b s} X=>gU X _
 have U:∀{b:Nat},eH H b->eH (H++new) b:=fun ⟨s,Q,D⟩=>⟨s,Z Q,D⟩
 refine⟨V,_,H,μ',rfl,afx.closed J q1,⟨q2.afF,fun b s X=>?_,fun b C B X M =>q2.sep b C B (U X) (Z M)⟩,
  ⟨by rw[I];exact Es _,q3.agree,q3.os,q3.tape,q3.output,q3.size,q3.frame,fun b X=>q3.owner b (U X),q3.drawn⟩,rfl,rfl⟩
 rw[I];rcases hc b s X with Q | ⟨o,es,S,rfl,y⟩
 .exact(hH.slot b s Q).cut (q2.slot b s (Z X))
 .have:=q2.slot _ _ (Z X)
  simp only[afM] at this |-;obtain⟨K,e,u,Y,W,k3,k4,k5⟩:=this;refine⟨K,e,u,Y,W,k3,fun j v F=>?_,k5⟩;obtain⟨V',G,r'⟩:=k4 j v F;exact⟨V',G,afx.low (yO y j v F) r'⟩
end Go.Eng
