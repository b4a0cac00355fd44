/- See I36. -/
import Derived.Test.YtgafjliihahjgaaGreatDoorI04
import Derived.Maps.RangeRun
set_option linter.all false
namespace Go.Eng
theorem Zn:iZ []=[]:=rfl
theorem HX(n:Int)(l:List Int):iZ (n::l)=.int .i64 n::iZ l:=rfl
theorem UU(l:List Int):(iZ l).length=l.length:=by simp[iZ]
theorem Zm(l:List Int)(i:Nat):(iZ l)[i]? =(l[i]?).map fun n=>.int .i64 n:=by simp[iZ]
theorem Sw(l:List Int)(i:Nat)(h:i<(iZ l).length):(iZ l)[i]=.int .i64 (l[i]'(by simpa [iZ] using h)):=by simp[iZ]
theorem Zl(l:List Int):(iZ l).all AV.af2=true:=by simp[iZ,AV.af2]
theorem H9(m:Nat)(l:List Int):AV.ago m (iZ l)=[]:=by
 induction l with
 |nil=>rfl
 |cons x l ih=>simp[HX,AV.ago,AV.refs,ih]
theorem DU(ρ:Nat->Option Nat)(l:List Int):AV.agd ρ (iZ l)=iZ l:=by
 induction l with
 |nil=>rfl
 |cons x l ih=>simp[HX,AV.agd,AV.ren,ih]
theorem VR(m:Nat)(l:List Int):AV.agn m (iZ l)=true:=by
 induction l with
 |nil=>rfl
 |cons x l ih=>simp[HX,AV.agn,AV.under,ih]
theorem Ge(ok:Nat->Bool)(l:List Int):AV.af7 ok (iZ l)=true:=by
 induction l with
 |nil=>rfl
 |cons x l ih=>simp[HX,AV.af7,AV.afF,ih]
theorem Nb(m:Nat)(o:Bool)(e:Nat)(l:List Int):af6.refs m (.cells o e (iZ l))=[]:=by simp[af6.refs,H9]
theorem Px(ρ:Nat->Option Nat)(o:Bool)(e:Nat)(l:List Int):af6.ren ρ (.cells o e (iZ l))=.cells o e (iZ l):=by simp[af6.ren,DU]
theorem E9(ok:Nat->Bool)(o:Bool)(e:Nat)(l:List Int):af6.afF ok (.cells o e (iZ l))=true:=by simp[af6.afF,Ge]
attribute [simp] Zn UU Zm Sw H9 DU VR Ge Nb Px E9 Zl
section
variable {P:Program}{f:FuncId}{A B:List Int}{M:Mem}{x y:AV}
end
def be(y:List Nat)(j:Nat):Bool:=(List.range j).all fun i=>bef y i j
def bp(y:Bool)(H:List Nat)(j:Nat)(r:Rec):Bool:=
 decide (r.nx.length=r.mem.length)&&r.v.afF (fun b=>decide (b<r.nx.length))&&
  (if y then be H j&&r.wr.all (fun b=>eP r.tm b&&(match r.nx[b]? with | some s=>s.afF (fun b=>decide (b<r.nx.length)) | none=>true)) else r.wr.isEmpty)
def bj(y:List Nat):Nat->List Rec->Bool
 |_,[]=>true
 |j,[r]=>bp true y j r
 |j,r::r2::rest=>bp false y j r&&bj y (j+1) (r2::rest)
def bt(T:TypeId->Option TyI)(O:af3)(N m0:Nat)(ops:Array Oper)(y:List Nat)(s:XS):Option XS:=
 match mV T O N ops y 0 ops.toList s.env s.mem [] with
 |none=>none
 |some (R,env,mem)=>
  if bj y 0 R then some ⟨env,mem,s.agp||R.any fun r=>r.wr.any fun b=>decide (b<m0)⟩ else none
def mT(T:TypeId->Option TyI)(O:af3)(N m0:Nat)(ops:Array Oper)(s:XS):Option XS:=aJ T O N m0 ops s
theorem jQ:∀{j0:Nat} {R:List Rec} {f:Nat×Rec},f∈aM j0 R->j0<=f.1/\f.1<j0+R.length
 |_,[],f,h=>by simp[aM] at h
 |j0,r::R,f,h=>by
  simp only[aM,List.mem_cons] at h;rcases h with rfl | h
  .simp
  .have:=jQ h
   simp only[List.length_cons];omega
structure ahg (bs:List Nat)(n:Nat)(f:Nat×Rec):Prop where
 len:f.2.nx.length=f.2.mem.length
 refs:f.2.v.afF (fun b=>decide (b<f.2.nx.length))=true
 wr:f.2.wr=[]\/(f.1+1=n/\(∀i,i<f.1->bef bs i f.1=true)/\f.2.wr.all (fun b=>eP f.2.tm b&&(match f.2.nx[b]? with | some s=>s.afF (fun b=>decide (b<f.2.nx.length)) | none=>true))=true)
theorem xK{y:List Nat}:∀{j0:Nat} {R:List Rec},bj y j0 R=true->∀f∈aM j0 R,ahg y (j0+R.length) f
 |_,[],_,f,hf=>by simp[aM] at hf
 |j0,[r],h,f,hf=>by simp only[aM,lM] at hf;subst hf;simp only[bj,bp,Es,L0,if_true] at h;obtain⟨⟨Z,X⟩,h3,W⟩:=h;exact⟨Z,X,.inr ⟨rfl,fun i V=>List.all_eq_true.1 h3 i (List.mem_range.2 V),W⟩⟩
 |j0,r::r2::rest,h,f,hf=>by
  simp only[bj,Es] at h;rw[aM,List.mem_cons] at hf;rcases hf with rfl | hf
  .have Z:=h.1
   simp only[bp,Es,L0,Bool.false_eq_true,if_false,List.isEmpty_iff] at Z;obtain⟨⟨Z,X⟩,h3⟩:=Z;exact⟨Z,X,.inl h3⟩
  .have:=xK h.2 f hf
   have e:j0+1+(r2::rest).length=j0+(r::r2::rest).length:=by simp only[List.length_cons];omega
   rw[e] at this;exact this
variable{bs:List Nat}
theorem Pm{n top:Nat}{un:List (Nat×Rec)}(h:∀f∈un,ahg bs n f):jd top un=fun b=>decide (b<top):=by
 funext b;unfold jd;have:(un.all fun f=> !decide (f.2.mem.length<=b/\b<f.2.nx.length))=true:=List.all_eq_true.2 fun f Z=>by have:=(h f Z).len;simp;omega
 rw[this,Bool.and_true]
theorem EX{R:List Rec}(h:bj bs 0 R=true){f:Nat×Rec}(hf:f∈aM 0 R):iw bs (aM 0 R) f.1 f.2=true:=by
 have G:=xK h;have X:=G f hf;have D:=jQ hf;unfold iw;have V:∀g∈(aM 0 R).filter (fun g=>decide (g.1<f.1)&& !bef bs g.1 f.1),ahg bs (0+R.length) g:=fun g S=>G g ((List.mem_filter.1 S).1)
 simp only[Pm V,Es];have F:f.2.nx.drop f.2.mem.length=[]:=Mp (by rw[X.len];exact L9 _);refine⟨⟨⟨⟨?_,X.refs⟩,?_⟩,by rw[F];rfl⟩,?_⟩
 .rcases X.wr with Z | ⟨_,_,Z⟩
  .rw[Z];rfl
  .refine List.all_eq_true.2 fun b M=>?_
   have:=List.all_eq_true.1 Z b M;simp only[Es] at this;exact this.1
 .rcases X.wr with Z | ⟨_,_,Z⟩
  .rw[Z];rfl
  .refine List.all_eq_true.2 fun b M=>?_
   have:=List.all_eq_true.1 Z b M;simp only[Es] at this;exact this.2
 .refine List.all_eq_true.2 fun g S=>?_
  have O:=V g S;have W:=List.mem_filter.1 S;simp only[Es,L0,Bool.not_eq_true'] at W;have K:g.2.wr=[]:=by
   rcases O.wr with Z | ⟨Z,_,_⟩
   .exact Z
   .have:=jQ ((List.mem_filter.1 S).1)
    omega
  have J:f.2.wr=[]:=by
   rcases X.wr with Z | ⟨_,Z,_⟩
   .exact Z
   .rw[Z g.1 W.2.1] at W
    exact absurd W.2.2 (by simp)
  rw[K,J,O.len,Nat.sub_self,List.take_zero];rfl
variable{ops:Array Oper}
theorem ak{T:TypeId->Option TyI}{O:af3}{N m0:Nat}(y:fN ops.toList=bs)(s:XS):
  aJ T O N m0 ops s=match bt T O N m0 ops bs s with
   |some s' =>some s'
   |none=>mT T O N m0 ops s:=by
 cases h:bt T O N m0 ops bs s with
 |none=>rfl
 |some s' =>
  simp only;unfold bt at h;unfold aJ;simp only;rw[y];split at h
  .cases h
  .rename_i R env mem Z
   split at h
   .rename_i X
    cases h;rw[Z];simp only;rw[if_pos (List.all_eq_true.2 fun f W=>EX X W)]
   .cases h
def cj:Code->List (Array Oper)
 |.region _ ops true=>[ops]
 |.seq a b=>cj a++cj b
 |.cond _ a b=>cj a++cj b
 |.block _ b=>cj b
 |.loop b=>cj b
 |.rangeFunc _ _ a b=>cj a++cj b
 |_=>[]
def aN(f:Func):List (Array Oper):=match f.body with
 |some c=>cj c
 |none=>[]
variable{f:Func}{l:List Nat}
theorem jm(h:aN f=[ops])(y:(aN f).map (fun o=>fN o.toList)=[l]):fN ops.toList=l:=by rw[h] at y;simpa using y
theorem jO{j:Nat}(h:aN f=[ops])(y:(aN f).map (fun o=>fN o.toList)=[l])(H:be l j=true):fN ops.toList=l/\be l j=true:=⟨jm h y,H⟩
theorem Ms{o o' :Array Oper}{l' :List Nat}(h:aN f=[o,o'])(y:(aN f).map (fun o=>fN o.toList)=[l,l']):fN o.toList=l/\fN o'.toList=l' :=by rw[h] at y;simpa using y
theorem bP{os:List (Array Oper)}{ls:List (List Nat)}(h:aN f=os)(y:(aN f).map (fun o=>fN o.toList)=ls):os.map (fun o=>fN o.toList)=ls:=by rw[<-h];exact y
end Go.Eng
namespace Go.Eng
open Go.ChangeMaps (setBlock)
variable{w' :World}
section
variable {P:Program}{T:TypeId->Option TyI}{μ:Nat->Place}{mem:Mem}{base:Nat}{w:World}
theorem zZ(y:agh base μ mem w){r:Nat}{m s seen c}(hr:w.heap[r]? =some (.mapIter m s seen c)){b:Nat}{s' :af6}(H:mem[b]? =some s')(hs:s' ≠ .HS):(μ b).blk≠r:=by
 intro e;have:=y.slot b s' H;cases s' with
 |HS=>exact hs rfl
 |cells own es cs=>simp only[agj] at this;obtain⟨_,_,_,Z,_⟩:=this;rw[e,hr] at Z;cases Z
 |map es=>simp only[agj] at this;obtain⟨_,_,Z,_⟩:=this;rw[e,hr] at Z;cases Z
 |agC es=>simp only[agj] at this;obtain⟨_,_,Z,_⟩:=this;rw[e,hr] at Z;cases Z
 |loop r=>simp only[agj] at this;obtain⟨_,Z,_⟩:=this;rw[e,hr] at Z;cases Z
theorem agh.aiq{r:Nat}{m s seen c}{o:Obj}(y:agh base μ mem w)(hr:w.heap[r]? =some (.mapIter m s seen c)):agh base μ mem (setBlock w r o):=by
 refine⟨by simpa [setBlock] using y.agb,fun b Z X=>?_,y.sep⟩;by_cases W:Z =.HS
 .subst W;trivial
 .refine(y.slot b Z X).mono (L9 _) (fun _ _=>rfl) fun _=>?_
  exact X2 (Ne.symm (zZ y hr X W))
theorem Step.aiq{m0:Nat}{μ' :Nat->Place}{y :Mem}{r:Nat}{o:Obj}(h:Step m0 μ mem w μ' y w')(hr:w.heap.size<=r):Step m0 μ mem w μ' y (setBlock w' r o):=h.shut hr
theorem MOk.aiq{h0 r:Nat}{ds:List Deferred}{m s seen c}{o:Obj}(h:MOk P base h0 w ds)(hr:w.heap[r]? =some (.mapIter m s seen c))(y:base<=r):MOk P base h0 (setBlock w r o) ds:=by
 refine⟨⟨h.ahe.below,?_⟩,h.agb,by simpa [setBlock] using h.le,fun d X=>?_,h.nodup⟩
 .have:=h.ahe.tab
  unfold Lib.TabIs at this |-;rw[<-this];refine QH fun k S=>X2 ?_
  have:=h.ahe.below;omega
 .obtain⟨q,e,W,Z⟩:=h.each d X
  refine⟨q,e,W,?_⟩;have V:r≠q:=by rintro rfl;rw[hr] at Z;cases Z
  show(w.heap.setIfInBounds r o)[q]? =_
  rw[X2 V,Z]
theorem Po(hT:dW P T){N:Nat}{ops:Array Oper}{Q:Exit->Act->World->Prop}{rest:List Oper}:∀{l:List Oper}{y H :St}{μ:Nat->Place} {w:World} {a:Act} {m0:Nat}{μ0:Nat->Place} {mem0:Mem} {w0:World} {h0:Nat} {I:Option Nat},
  nY P T N ops l y H ->agh base μ y.mem w->agy μ y.mem.length y.env a.tmps->a.tmps.size=N->MOk P base h0 w a.defers->m0<=y.mem.length->Step m0 μ0 mem0 w0 μ y.mem w->
  (∀a' w' μ',agh base μ' H.mem w' ->agy μ' H.mem.length H.env a'.tmps->a'.tmps.size=N->MOk P base h0 w' a'.defers->m0<=H.mem.length->Step m0 μ0 mem0 w0 μ' H.mem w' ->wpListIn (Fr I) 0 P ops Q rest a' w')->
  wpListIn (Fr I) 0 P ops Q (l++rest) a w
 | [],y,H,μ,w,a,m0,μ0,mem0,w0,h0,I,h,hH,hR,hN,hdf,hm,hS,hQ=>by simp only[nY] at h;subst h;exact hQ a w μ hH hR hN hdf hm hS
 |o::os,y,H,μ,w,a,m0,μ0,mem0,w0,h0,I,h,hH,hR,hN,hdf,hm,hS,hQ=>by
  obtain⟨b,M,W,J,G⟩:=h;rw[List.cons_append];refine wpListIn_step fun K S=>?_
  rw[qu hR M];cases b with
  |false=>
   simp only[Bool.false_eq_true,if_false];refine⟨fun _ _=>trivial,?_⟩;refine S _ _ (Po hT (J rfl) hH (hR.agW hN W (by simp[af4,af5,undef])) (by rw[gh];exact hN) (by rw[gy];exact hdf) hm hS hQ)
  |true=>
   simp only[if_true];obtain⟨v,O,Z,X⟩:=G rfl;refine sZ hT hdf.ahe hH hR hN W Z fun V w' μ' q1 q2 q3 q4=>S _ _ ?_
   exact Po hT X q2 q3 (by rw[gh];exact hN) (by rw[gy];exact hdf.step hH q4) (QQJ hm q4.len) (hS.trans (q4.mono hm)) hQ
theorem Bq(a:Act)(d:Nat)(V:Value)(h:d<a.tmps.size):(a.put (some d) V).eval (.tmp d)=V:=by simp[Act.put,Act.eval,h]
variable {tp:Bool}{N m0:Nat}{Q:Exit->St->Prop}
theorem zp{F:Option Nat}{ops:Array Oper}{Q:Exit->Act->World->Prop}{o:Oper}{rest:List Oper}{a:Act}{w:World}{V:Value}(hg:o.guard=none)(y:∀c,o.op≠ .defer c)(H:(execOp a.eval o).run P w=.ok (.value V) w')(h:wpListIn (Fr F) 0 P ops Q rest (a.put o.dst V) w'):wpListIn (Fr F) 0 P ops Q (o::rest) a w:=by
 refine wpListIn_plain hg fun K Z=>⟨fun _ _=>trivial,?_⟩
 rw[Oper.semAt_eq _ _ _ y,H];exact Z _ _ h
theorem Mc(hT:dW P T){idB out nx idS idA:Nat}{abu aco abW:Array Oper}{pre aa4:List Oper}{oR oN oX oE:Oper}{Y:Code}{H y more R:Nat}{tR tk te:TypeId}{iR:TyI}{mOp:Operand}(hB:abu.toList=pre++[oR])(r1:oR.op=.range tR mOp)(r2:oR.dst=some H)(r3:oR.guard=none)(hTR:T tR=some iR)(hdR:iR.desc=.map tk te)(hS:aco.toList=[oN,oX])(n1:oN.op=.next (.tmp H) false)(n2:oN.dst=some y)(n3:oN.guard=none)(x1:oX.op=.extract (.tmp y) 0)(x2:oX.dst=some more)(x3:oX.guard=none)(hA:abW.toList=oE::aa4)(e1:oE.op=.entry (.tmp H))(e2:oE.dst=some R)(e3:oE.guard=none)(hbd:H<N/\y<N/\more<N/\R<N)(IR:y≠H/\more≠H){st st1:St}{b:Nat}{es:List (AV×AV)}(aaD:nY P T N abu pre st st1)(hmo:get st1.env mOp=.map b)(hb:st1.mem[b]? =some (.agC es))(I:List Nat->St->Prop)(h0:I [] ⟨(H,.ptr st1.mem.length 0)::st1.env,st1.mem++[.HS]⟩)(hI:∀seen s,I seen s->ad s.env H=.ptr st1.mem.length 0/\s.mem[st1.mem.length]? =some .HS/\s.mem[b]? =some (.agC es))(adh:∀seen s,I seen s->(∀j,j<es.length->j∈seen)->Q .normal ⟨(more,.bool false)::(y,.tuple [.bool false])::s.env,s.mem⟩)(abi:∀seen s j k v,I seen s->es[j]? =some (k,v)->j∉seen->∃s3,nY P T N abW aa4 ⟨(R,.tuple [k,v])::(more,.bool true)::(y,.tuple [.bool true,k,v])::s.env,s.mem⟩ s3/\
   AWP P tp N (st1.mem.length+1) Y s3 fun e s4=>(e=.normal\/e=.exit nx)/\∃s5,agY (st1.mem.length+1) s4 s5/\I (seen++[j]) s5):
  AWP P tp N m0 (.seq (.region idB abu false) (.block out (.loop (.seq (.region idS aco false) (.seq (.cond (.tmp more) .skip (.exit out)) (.block nx (.seq (.region idA abW false) Y))))))) st Q:=by
 obtain⟨b1,b2,b3,b4⟩:=hbd;intro ro h0' base μ w a hro hH hR hN hdf hm;refine wpIn_seq (wpIn_region_list ?_);rw[hB];refine Po hT aaD hH hR hN hdf hm (.refl hm) fun a1 w1 μ1 c1 c2 c3 c4 c5 c6=>?_
 have M:=bk c2 mOp;rw[hmo] at M;simp only[af4] at M;obtain⟨hbl,M⟩:=M;have m:=c1.slot b _ hb;simp only[agj] at m;obtain⟨Z,G',k1,⟨hck,J⟩,k3,k4⟩:=m;subst hck;have hd:=(hT tR iR hTR).desc;rw[hdR] at hd;have W:=run_range_map (P:=P) w1 tR tk te (μ1 b).blk Z Z.size hd k1;refine zp r3 (by rw[r1];intro c e;cases e) (V:=.pointer (some ⟨w1.heap.size,0,none⟩)) (w' :=w1.alloc (.mapIter (some (μ1 b).blk) Z.size #[] Z.size)) (by simp only[execOp,r1,M];simp[W]) (wpListIn_nil ?_);rw[r2];show Code.wpIn (Fr ro) 0 P _ _ _ _
 refine wpIn_block ?_;obtain⟨p1,p2⟩:=c1.push (.mapIter (some (μ1 b).blk) Z.size #[] Z.size) .HS ⟨w1.heap.size,0,0,0⟩ rfl trivial;have hrw:w.heap.size<=w1.heap.size:=c6.size;have hrb:base<=w1.heap.size:=c1.agb;obtain⟨X,hmb⟩:=xE ((μ1 b).blk);rw[<-hmb] at k1 p1 p2 |-;have aeE:X<w1.heap.size:=(Ns.1 k1).1;obtain⟨r,hr⟩:=xE w1.heap.size;have aaE:∀x∈Z.toList,x.born<Z.size:=by
  intro x B;obtain⟨j,hj⟩:=QQg B;have O :Z[j]? =some x:=by simpa using hj
  rw[J j x O];exact(Ns.1 O).1
 have hnd:(Z.toList.map (·.born)).Nodup:=by
  have e:Z.toList.map (·.born)=List.range Z.size:=by
   refine List.ext_getElem? fun i=>?_
   rw[QQX,Array.getElem?_toList];cases hi:Z[i]? with
   |none=>
    have:=Array.getElem?_eq_none_iff.1 hi;simp[this]
   |some x=>
    have:=(Ns.1 hi).1;simp[J i x hi,this]
  rw[e];exact List.nodup_range
 refine Ag (σ:=Array Nat) (fun seen G w' =>∃P' μ',agh base μ' P'.mem w' /\agy μ' P'.mem.length P'.env G.tmps/\G.tmps.size=N/\MOk P base h0' w' G.defers/\st1.mem.length<P'.mem.length/\
   Step m0 μ st.mem w μ' P'.mem w' /\μ' st1.mem.length=⟨r,0,0,0⟩/\(μ' b).blk=X/\w'.heap[r]? =some (.mapIter (some X) Z.size seen Z.size)/\w'.heap[X]? =some (.map Z Z.size)/\I seen.toList P')
  (fun seen=>(leftOf Z seen).size) ?_ (s:= #[]) ⟨_,_,p1,?_,?_,?_,?_,c6.trans (p2.mono c5),?_,?_,?_,?_,h0⟩
 .rintro seen G w' ⟨P',μ',d1,d2,d3,d4,d5,d6,d7,d8,d9,d10,d11⟩
  obtain⟨i1,i2,i3⟩:=hI _ _ d11;have A:G.eval (.tmp H)=.pointer (some ⟨r,0,none⟩):=by have:=d2 H;rw[i1] at this;simp only[af4,d7] at this;exact this.2
  have hm' :m0<=P'.mem.length:=d6.len;refine wpIn_seq (wpIn_region_list ?_);rw[hS];rcases run_next_at (P:=P) w' oN.type r X Z.size Z.size seen Z Z.size d9 d10 aaE (L9 _) with⟨l0,W⟩ | ⟨E,hE,w2,K,W⟩
  .refine zp n3 (by rw[n1];intro c e;cases e) (V:=.tuple #[.bool false]) (w' :=w') (by simp only[execOp,n1,A];simp[W]) ?_
   rw[n2];refine zp x3 (by rw[x1];intro c e;cases e) (V:=.bool false) (w' :=w') (by simp only[execOp,x1,Bq G y _ (by omega)];simp[Instr.extract]) (wpListIn_nil ?_);rw[x2];show Code.wpIn (Fr ro) 0 P _ _ _ _
   refine wpIn_seq (wpIn_cond_false (Bq _ _ _ (by rw[gh];omega)) (wpIn_exit ?_));simp only[Exit.then,Exit.inBlock,if_true];refine⟨⟨(more,.bool false)::(y,.tuple [.bool false])::P'.env,P'.mem⟩,μ',d1,?_,by rw[gh,gh];exact d3,by rw[gy,gy];exact d4,hm',d6,adh _ _ d11 fun j hj=>?_⟩
   .exact agy.put (agy.put d2 (by omega) (by simp[af4,af5])) (by rw[gh];omega) (by simp[af4])
   .have B':j<Z.size:=by omega
    have:=all_seen Z seen l0 Z[j] (by simp);rw[J j _ (by simp[B'])] at this;simpa using this
  .obtain⟨hem,z⟩:=mem_left hE
   obtain⟨j,hj⟩:=QQg hem;have O :Z[j]? =some E:=by simpa using hj
   have hbj:=J j E O;have hjl:j<es.length:=by have:=(Ns.1 O).1;omega
   have ad4 :=d1.slot b _ i3;simp only[agj] at ad4;obtain⟨aas,aaq,g1,_,_,g4⟩:=ad4;rw[d8,d10] at g1;cases g1;obtain⟨E',hE',hk,hv⟩:=g4 j es[j] (by simp[hjl]);rw[O] at hE';cases hE';have hH2:agh base μ' P'.mem w2:=by rcases K with rfl | rfl<;>first | exact d1 | exact d1.drew
   have hS2:Step m0 μ st.mem w μ' P'.mem w2:=by rcases K with rfl | rfl<;>first | exact d6 | exact d6.trans ((Step.drew (L9 _)).mono hm')
   have hM2:MOk P base h0' w2 G.defers:=by rcases K with rfl | rfl<;>first | exact d4 | exact d4.step d1 (Step.drew (L9 _))
   have u:w2.heap[r]? =some (.mapIter (some X) Z.size seen Z.size):=by rcases K with rfl | rfl<;>exact d9
   have aeF:w2.heap[X]? =some (.map Z Z.size):=by rcases K with rfl | rfl<;>exact d10
   have F:=hH2.aiq (o:=.mapIter (some X) Z.size (seen.push E.born) Z.size) u;have hS3:=hS2.aiq (r:=r) (o:=.mapIter (some X) Z.size (seen.push E.born) Z.size) (by omega);have hM3:=hM2.aiq (o:=.mapIter (some X) Z.size (seen.push E.born) Z.size) u (by omega);have hrl:r<w2.heap.size:=(Ns.1 u).1;have D:(setBlock w2 r (.mapIter (some X) Z.size (seen.push E.born) Z.size)).heap[r]? =some (.mapIter (some X) Z.size (seen.push E.born) Z.size):=by simp[setBlock,hrl]
   have C:(setBlock w2 r (.mapIter (some X) Z.size (seen.push E.born) Z.size)).heap[X]? =some (.map Z Z.size):=by rw[<-aeF];exact X2 (by omega)
   obtain⟨w3,hw3⟩:=xE (setBlock w2 r (.mapIter (some X) Z.size (seen.push E.born) Z.size));rw[<-hw3] at F hS3 hM3 D C W;refine zp n3 (by rw[n1];intro c e;cases e) (V:=.tuple #[.bool true,E.key,E.val]) (w' :=w3) (by simp only[execOp,n1,A];simp[W]) ?_;rw[n2];refine zp x3 (by rw[x1];intro c e;cases e) (V:=.bool true) (w' :=w3) (by simp only[execOp,x1,Bq G y _ (by omega)];simp[Instr.extract]) (wpListIn_nil ?_);rw[x2];show Code.wpIn (Fr ro) 0 P _ _ _ _
   refine wpIn_seq (wpIn_cond_true (Bq _ _ _ (by rw[gh];omega)) (wpIn_skip ?_));show Code.wpIn (Fr ro) 0 P _ _ _ _
   refine wpIn_block (wpIn_seq (wpIn_region_list ?_));rw[hA];have hev:((G.put (some y) (.tuple #[.bool true,E.key,E.val])).put (some more) (.bool true)).eval (.tmp H)=.pointer (some ⟨r,0,none⟩):=by rw[<-A];simp[Act.put,Act.eval,X2 IR.1,X2 IR.2]
   have hen:=run_entry_at (P:=P) w3 r X Z.size seen Z Z.size E D C hem hnd;refine zp e3 (by rw[e1];intro c e;cases e) (V:=.tuple #[E.key,E.val]) (w' :=w3) (by simp only[execOp,e1,hev];simp[hen]) ?_;rw[e2];have hkv:es[j]? =some (es[j].1,es[j].2):=by simp[hjl]
   have hnj:j∉seen.toList:=by
    intro aaL;rw[hbj] at z;have:seen.contains j=true:=by simpa using aaL
    rw[this] at z;cases z
   obtain⟨s3,A',adJ⟩:=abi _ _ j _ _ d11 hkv hnj;have hT1:=agy.put d2 (d:=y) (by omega) (V:=.tuple #[.bool true,E.key,E.val]) (v:=.tuple [.bool true,es[j].1,es[j].2]) (by simp only[af4];exact⟨_,rfl,br.2 ⟨by simp[af4],br.2 ⟨hk,br.2 ⟨hv,by simp[af5]⟩⟩⟩⟩);have hT2:=agy.put hT1 (d:=more) (by rw[gh];omega) (V:=.bool true) (v:=.bool true) (by simp[af4]);have hT3:=agy.put hT2 (d:=R) (by rw[gh,gh];omega) (V:=.tuple #[E.key,E.val]) (v:=.tuple [es[j].1,es[j].2]) (by simp only[af4];exact⟨_,rfl,br.2 ⟨hk,br.2 ⟨hv,by simp[af5]⟩⟩⟩);have Do:st1.mem.length+1<=P'.mem.length:=by omega
   refine xW (m0:=st1.mem.length+1) (μ0:=μ') (mem0:=P'.mem) (w0:=w3) hT A' F hT3 (by rw[gh,gh,gh];exact d3) (by rw[gy,gy,gy];exact hM3) Do (.refl Do) fun a4 w4 μ4 f1 f2 f3 f4 f5 f6=>?_
   show Code.wpIn (Fr ro) 0 P _ _ _ _
   refine wpIn_mono (adJ ro h0' base μ4 w4 a4 hro f1 f2 f3 f4 f5) ?_;rintro e a5 w5 ⟨s4,μ5,y1,y2,y3,y4,y5,y6,hee,s5,hwk,hI5⟩;obtain⟨μ6,z1,z2,z3,z4⟩:=hwk base μ5 w5 a5.tmps y1 y2 y5;have S:=(f6.trans y6).trans z4;have hbb:b<st1.mem.length:=gL hb;have fin:∃s',(∃P' μ',agh base μ' P'.mem w5/\agy μ' P'.mem.length P'.env a5.tmps/\a5.tmps.size=N/\MOk P base h0' w5 a5.defers/\st1.mem.length<P'.mem.length/\
     Step m0 μ st.mem w μ' P'.mem w5/\μ' st1.mem.length=⟨r,0,0,0⟩/\(μ' b).blk=X/\w5.heap[r]? =some (.mapIter (some X) Z.size s' Z.size)/\w5.heap[X]? =some (.map Z Z.size)/\I s'.toList P')/\
     (leftOf Z s').size<(leftOf Z seen).size:=by
    refine⟨seen.push E.born,⟨s5,μ6,z1,z2,y3,y4,z3,hS3.trans (S.mono (by have:=c5;omega)),?_,?_,?_,?_,?_⟩,left_shrinks Z seen E hE⟩
    .rw[S.agree _ (by omega),d7]
    .rw[S.agree _ (by omega),d8]
    .rw[S.frame r (by rw[hw3];simpa [setBlock] using hrl) fun x B=>by obtain⟨sx,q1,q2⟩:=B;exact zZ F D q1 (af6.agE q2)]
     exact D
    .rw[S.frame X (Ns.1 C).1 fun x B=>?_]
     .exact C
     .rw[<-d8]
      refine F.sep x b _ B i3 (by simp) ?_;rintro rfl;obtain⟨sx,q1,q2⟩:=B;rw[i3] at q1;cases q1;cases q2
    .rw[Array.toList_push,hbj];exact hI5
   rcases hee with rfl | rfl
   .exact fin
   .simp only[Exit.inBlock,if_true];exact fin
 .refine agy.put (c2.mono (by simp) fun x B=>yg B) (by omega) ?_
  simp only[af4,Nm,List.length_singleton,fT];exact⟨by omega,trivial⟩
 .rw[gh];exact c3
 .rw[gy];exact c4.step c1 p2
 .simp
 .rw[fT,hr]
 .have hbb:b<st1.mem.length:=gL hb
  rw[yg hbb];exact hmb.symm
 .rw[hr];exact heap_alloc_new w1 _
 .rw[iQ w1 _ aeE];exact k1
end
end Go.Eng
namespace Go.Eng
theorem DR{m:Nat}:∀{env:Env},(env.all fun e=>(e.2.refs m).isEmpty)=true->∀t,(ad env t).refs m=[]
 | [],_,t=>by simp[ad,AV.refs]
 |(k,v)::r,h,t=>by
  simp only[QQK,Es,List.isEmpty_iff] at h;simp only[ad];split
  .exact h.1
  .exact DR h.2 t
variable{s:XS}
section
variable {P:Program}{T:TypeId->Option TyI}{O:af3}{tp:Bool}{N m0 K:Nat}{lv:Code->List Nat}{Q:Exit->St->Prop}
section
variable (hm:P.follows .mixedOrders=true)(hT:dW P T)(hO:adM P O)
include hm hT hO
theorem xv{c:Code}{s' :XS}{e:Exit}(hs:cQ c=true)(h:aT T lv O K N m0 tp c s=some (e,s'))(hq:Q e ⟨s'.env,s'.mem⟩):AWP P tp N m0 c ⟨s.env,s.mem⟩ Q:=
 (dO hm hT hO hs h).1 Q hq
theorem OO{idB out nx idS idA:Nat}{R aco abW:Array Oper}{aa4:List Oper}{oR oN oX oE:Oper}{H:Code}{I y more Y:Nat}{tR tk te:TypeId}{iR:TyI}{mOp:Operand}(hB:R.toList=R.toList.dropLast++[oR])(r1:oR.op=.range tR mOp)(r2:oR.dst=some I)(r3:oR.guard=none)(hTR:T tR=some iR)(hdR:iR.desc=.map tk te)(hS:aco.toList=[oN,oX])(n1:oN.op=.next (.tmp I) false)(n2:oN.dst=some y)(n3:oN.guard=none)(x1:oX.op=.extract (.tmp y) 0)(x2:oX.dst=some more)(x3:oX.guard=none)(hA:abW.toList=oE::aa4)(e1:oE.op=.entry (.tmp I))(e2:oE.dst=some Y)(e3:oE.guard=none)(hbd:I<N/\y<N/\more<N/\Y<N)(IR:y≠I/\more≠I)(hst:cQ H=true){s1:XS}{b:Nat}{es:List (AV×AV)}(aaD:fH T O N m0 R R.toList.dropLast s=some s1)(hmo:get s1.env mOp=.map b)(hb:s1.mem[b]? =some (.agC es))(lw wr:List Nat)(V:List Nat->Nat->AV)(M:List Nat->Mem)(Inv:List Nat->Prop)(hwr:wr=Y::more::y::(aa4.filterMap (·.dst)++ab H))(hit:I∉wr)(ab3:(((I,AV.ptr s1.mem.length 0)::s1.env).all fun e=>(e.2.refs (s1.mem.length+1)).isEmpty)=true)(hM:∀seen,Inv seen->(M seen).length=s1.mem.length+1/\(M seen)[s1.mem.length]? =some .HS/\(M seen)[b]? =some (.agC es)/\∀x∈M seen,x.refs (s1.mem.length+1)=[])(hV:∀seen t,Inv seen->t∈lw->(V seen t).refs (s1.mem.length+1)=[])(h0:Inv []/\M []=s1.mem++[.HS]/\∀t∈lw,ad ((I,AV.ptr s1.mem.length 0)::s1.env) t=V [] t)(adh:∀seen env,Inv seen->agJ wr ((I,AV.ptr s1.mem.length 0)::s1.env) env->(∀t∈lw,ad env t=V seen t)->(∀j,j<es.length->j∈seen)->Q .normal ⟨(more,.bool false)::(y,.tuple [.bool false])::env,M seen⟩)(abi:∀seen env j k v,Inv seen->agJ wr ((I,AV.ptr s1.mem.length 0)::s1.env) env->(∀t∈lw,ad env t=V seen t)->es[j]? =some (k,v)->j∉seen->∃W e X,fH T O N (s1.mem.length+1) abW aa4 ⟨(Y,.tuple [k,v])::(more,.bool true)::(y,.tuple [.bool true,k,v])::env,M seen,false⟩=some W/\
   aT T lv O K N (s1.mem.length+1) tp H W=some (e,X)/\(e=.normal\/e=.exit nx)/\Inv (seen++[j])/\(∀t∈lw,ad X.env t=V (seen++[j]) t)/\X.mem.take (s1.mem.length+1)=M (seen++[j])):
  AWP P tp N m0 (.seq (.region idB R false) (.block out (.loop (.seq (.region idS aco false) (.seq (.cond (.tmp more) .skip (.exit out)) (.block nx (.seq (.region idA abW false) H))))))) ⟨s.env,s.mem⟩ Q:=by
 have J:=DR ab3;refine Mc (st1:=⟨s1.env,s1.mem⟩) hT hB r1 r2 r3 hTR hdR hS n1 n2 n3 x1 x2 x3 hA e1 e2 e3 hbd IR (lK hO aaD).1 hmo hb
  (fun seen S=>Inv seen/\agJ wr ((I,AV.ptr s1.mem.length 0)::s1.env) S.env/\(∀t∈lw,ad S.env t=V seen t)/\S.mem=M seen) ⟨h0.1,.refl _ _,h0.2.2,h0.2.1.symm⟩ ?_ ?_ ?_
 .rintro seen S ⟨i1,i2,i3,i4⟩
  obtain⟨D,C,B,_⟩:=hM seen i1;refine⟨?_,by rw[i4];exact C,by rw[i4];exact B⟩;rw[i2 I hit];simp[ad]
 .rintro seen ⟨env,mem⟩ ⟨i1,i2,i3,i4⟩ I'
  have:=adh seen env i1 i2 i3 I';simp only at i4 |-;rw[i4];exact this
 .rintro seen ⟨env,mem⟩ j k v ⟨i1,i2,i3,i4⟩ hj hns
  simp only at i2 i3 i4;subst i4;obtain⟨W,e,X,A,z,m,G,k5,u⟩:=abi seen env j k v i1 i2 i3 hj hns;refine⟨⟨W.env,W.mem⟩,(lK hO A).1,?_⟩;refine AWP.assume fun Do _=>?_
  refine xv hm hT hO hst z ⟨m,?_⟩;obtain⟨D,C,B,j4⟩:=hM _ G;have abb :s1.mem.length+1<=X.mem.length:=by have h1:=congrArg List.length u;rw[P3,D] at h1;omega
  have F:agJ wr ((I,AV.ptr s1.mem.length 0)::s1.env) X.env:=by
   have q1:=(qo A).mono (wr' :=wr) (by intro t Z;rw[hwr];simp[Z]);have q2:=(gx hO z).mono (wr' :=wr) (by intro t Z;rw[hwr];simp[Z]);intro t Z;rw[q2 t Z,q1 t Z,<-i2 t Z];have:t≠Y/\t≠more/\t≠y:=by rw[hwr] at Z;simp only[List.mem_cons,not_or] at Z;exact⟨Z.1,Z.2.1,Z.2.2.1⟩
   simp[ad,Ne.symm this.1,Ne.symm this.2.1,Ne.symm this.2.2]
  refine⟨_,agY.age [] (by simp[E5]),G,?_,?_,?_⟩
  .intro t Z
   simp only[jH];rw[F t Z,AV.agm (J t)]
  .intro t Z
   simp only[jH];rw[k5 t Z,AV.agm (hV _ t G Z)]
  .simp only[age,agR,List.map_nil,List.append_nil,u]
   conv=>rhs;rw[<-List.map_id (M (seen++[j]))]
   exact List.map_congr_left fun x hx=>af6.agm (j4 x hx)
end
end
end Go.Eng
namespace Go.Eng
abbrev Sd:=(Int×Int)×Int
def sdE(s:Sd):AV×AV:=(.agg [.int .i64 s.1.1,.int .i64 s.1.2],.int .i64 s.2)
def nxE(p:Int×Int):AV×AV:=(.int .i64 p.1,.int .i64 p.2)
def qT:List (Int×Int)->Int->Option Int
 | [],_=>none
 |p::l,a=>if a=p.1 then some p.2 else qT l a
def SG:List Sd->Int×Int->Option Int
 | [],_=>none
 |s::l,a=>if a.1=s.1.1/\a.2=s.1.2 then some s.2 else SG l a
def bAt(ks:List Sd)(j:Nat):Option (Int×Int):=match ks[j]? with
 |some s=>if (SG ks (s.1.2,s.1.1)).isSome then none else some s.1
 |none=>none
def ur(ks:List Sd):List (Int×Int):=(List.range ks.length).filterMap (bAt ks)
def Bu(f:Int):List (Int×Int)->Int
 | []=>f
 |p::l=>Bu (if f<0\/p.1<f then p.1 else f) l
theorem Pj(f:Int):∀(l m:List (Int×Int)),Bu f (l++m)=Bu (Bu f l) m:=by
 intro l;induction l generalizing f with
 |nil=>intro m;rfl
 |cons p l ih=>intro m;exact ih _ m
theorem DG:∀(l:List (Int×Int)) (f:Int),(∀p∈l,0<=p.1)->(0<=f\/l≠[])->0<=Bu f l/\(Bu f l=f\/∃p∈l,Bu f l=p.1)/\(0<=f->Bu f l<=f)/\∀p∈l,Bu f l<=p.1
 | [],f,_,h=>by have:0<=f:=h.resolve_right (by simp);exact⟨this,.inl rfl,fun _=>Int.le_refl _,by simp⟩
 |p::l,f,hp,_=>by
  have X:=hp p (by simp);have W:=DG l (if f<0\/p.1<f then p.1 else f) (fun q hq=>hp q (by simp[hq])) (.inl (by split<;>omega));obtain⟨V,S,Z,O⟩:=W;have M:(0:Int)<=(if f<0\/p.1<f then p.1 else f):=by split<;>omega
  have Z:=Z M;simp only[Bu];refine⟨V,?_,fun K=>?_,fun q hq=>?_⟩
  .rcases S with h | ⟨q,hq,h⟩
   .rw[h]
    split
    .exact .inr ⟨p,by simp,rfl⟩
    .exact .inl rfl
   .exact .inr ⟨q,by simp[hq],h⟩
  .refine Int.le_trans Z ?_
   split<;>omega
  .rcases List.mem_cons.1 hq with rfl | hq
   .refine Int.le_trans Z ?_
    split<;>omega
   .exact O q hq
theorem Ve{l m:List (Int×Int)}(h:l.Perm m)(y:∀p∈l,0<=p.1):Bu (-1) l=Bu (-1) m:=by
 by_cases Z:l=[]
 .subst Z
  rw[List.nil_perm.1 h]
 .have X:m≠[]:=by rintro rfl;exact Z (List.perm_nil.1 h)
  have W:∀p∈m,0<=p.1:=fun p hq=>y p (h.mem_iff.2 hq)
  obtain⟨D,O,_,M⟩:=DG l (-1) y (.inr Z);obtain⟨C,K,_,J⟩:=DG m (-1) W (.inr X);obtain⟨p,V,G⟩:=O.resolve_left (by omega);obtain⟨q,S,F⟩:=K.resolve_left (by omega);have B:=J p (h.mem_iff.1 V);have A:=M q (h.mem_iff.2 S);omega
variable{a b:Int}
theorem Vd{l:List (Int×Int)}(h:qT l a=some b):(a,b)∈l:=by
 induction l with
 |nil=>cases h
 |cons p l ih=>
  rw[qT] at h;split at h
  next e=>cases h;subst e;simp
  .simp[ih h]
theorem F1{l:List (Int×Int)}(h:∀p∈l,p.1≠a):qT l a=none:=by
 induction l with
 |nil=>rfl
 |cons p l ih=>
  rw[qT,if_neg (fun e=>h p (by simp) e.symm)];exact ih fun q hq=>h q (by simp[hq])
theorem zO{l:List (Int×Int)}(y:∀p∈l,∀q∈l,p.1=q.1->p=q)(h:(a,b)∈l):qT l a=some b:=by
 induction l with
 |nil=>cases h
 |cons p l ih=>
  rw[qT];split
  .rename_i e
   have:=y p (by simp) (a,b) h e.symm;rw[this]
  .rename_i e
   rcases List.mem_cons.1 h with rfl | h
   .exact absurd rfl e
   .exact ih (fun p Z q hq=>y p (by simp[Z]) q (by simp[hq])) h
theorem SF{l m:List (Int×Int)}(h:l.Perm m)(y:∀p∈l,∀q∈l,p.1=q.1->p=q)(a:Int):qT l a=qT m a:=by
 have Z :∀p∈m,∀q∈m,p.1=q.1->p=q:=fun p X q hq=>y p (h.mem_iff.2 X) q (h.mem_iff.2 hq)
 cases hb:qT m a with
 |some b=>exact zO y (h.mem_iff.2 (Vd hb))
 |none=>
  refine F1 fun p X e=>?_
  have:=zO Z (a:=a) (b:=p.2) (by rw[<-e];exact h.mem_iff.1 X);rw[hb] at this;cases this
def X9(ks:List Sd):Prop:=∀i j p q,bAt ks i=some p->bAt ks j=some q->p.1=q.1->i=j
def dq(ks:List Sd)(seen:List Nat):List (Int×Int):=seen.filterMap (bAt ks)
variable{j:Nat}{ks:List Sd}{p:Int×Int}
theorem Uk(h:bAt ks j=some p):j<ks.length:=by
 unfold bAt at h;split at h
 next s Z=>exact(gL Z)
 .cases h
variable{seen:List Nat}
theorem Nu(y:seen.Nodup)(H:∀j∈seen,j<ks.length)(I:∀j,j<ks.length->j∈seen):(dq ks seen).Perm (ur ks):=by
 refine List.Perm.filterMap _ ?_;refine(List.perm_ext_iff_of_nodup y List.nodup_range).2 fun j=>?_
 simp only[List.mem_range];exact⟨H j,I j⟩
theorem Il(y:X9 ks)(H:j∉seen)(I:bAt ks j=some p):qT (dq ks seen) p.1=none:=by
 refine F1 fun q hq e=>?_
 obtain⟨i,X,Z⟩:=List.mem_filterMap.1 hq;have:=y i j q p Z I e;subst this;exact H X
theorem Im(y:X9 ks):∀p∈dq ks seen,∀q∈dq ks seen,p.1=q.1->p=q:=by intro p W q hq e;obtain⟨i,_,X⟩:=List.mem_filterMap.1 W;obtain⟨j,_,Z⟩:=List.mem_filterMap.1 hq;have:=y i j p q X Z e;subst this;rw[X] at Z;cases Z;rfl
def yj(B:List (Int×Int))(first:Int):Nat->Int->List Int->Option (List Int)
 |0,_,out=>some out
 |n+1,a,out=>match qT B a with
  |none=>none
  |some b=>if a=first/\out≠[] then none else yj B first n b (out++[a])
def C5(B:List (Int×Int)):Option (List Int):=yj B (Bu (-1) B) B.length (Bu (-1) B) []
def wB(ks:List Sd):Bool:=
 let B:=ur ks
 decide (B≠[])&&decide ((B.map (·.1)).Nodup)&&B.all (fun p=>decide (0<=p.1))&&decide (ks.length<=1000000)
theorem Um{i:Nat}{q:Int×Int}(I:((ur ks).map (·.1)).Nodup)(y:bAt ks i=some p)(H:bAt ks j=some q)(e:p.1=q.1):i=j:=by
 have O:∀(l:List Nat),l.Nodup->((l.filterMap (bAt ks)).map (·.1)).Nodup->i∈l->j∈l->i=j:=by
  intro l;induction l with
  |nil=>intro _ _ h;cases h
  |cons a l ih=>
   intro M Z X W;have V :=(List.nodup_cons.1 M).2;rw[List.filterMap_cons] at Z;cases ha:bAt ks a with
   |none=>
    rw[ha] at Z;have K:i≠a:=by rintro rfl;rw[y] at ha;cases ha
    have J:j≠a:=by rintro rfl;rw[H] at ha;cases ha
    exact ih V Z ((List.mem_cons.1 X).resolve_left K) ((List.mem_cons.1 W).resolve_left J)
   |some r=>
    rw[ha] at Z;simp only[List.map_cons,List.nodup_cons] at Z;have S:∀k s,k∈l->bAt ks k=some s->s.1≠r.1:=by intro k s G F h;exact Z.1 (QQj.2 ⟨s,List.mem_filterMap.2 ⟨k,G,F⟩,h⟩)
    rcases List.mem_cons.1 X with X | X<;>rcases List.mem_cons.1 W with W | W
    .rw[X,W]
    .rw[<-X,y] at ha;cases ha;exact absurd e.symm (S j q W H)
    .rw[<-W,H] at ha;cases ha;exact absurd e (S i p X y)
    .exact ih V Z.2 X W
 exact O _ List.nodup_range I (List.mem_range.2 (Uk y)) (List.mem_range.2 (Uk H))
theorem MX(h:wB ks=true):ur ks≠[]/\X9 ks/\(∀p∈ur ks,0<=p.1)/\ks.length<=1000000:=by simp only[wB,Es,L0,List.all_eq_true] at h;obtain⟨⟨⟨Z,X⟩,h3⟩,W⟩:=h;exact⟨Z,fun i j p q V S e=>Um X V S e,h3,W⟩
theorem Tg(h:∀p∈ur ks,0<=p.1):∀p∈dq ks seen,0<=p.1:=by intro p X;obtain⟨i,_,Z⟩:=List.mem_filterMap.1 X;exact h p (List.mem_filterMap.2 ⟨i,List.mem_range.2 (Uk Z),Z⟩)
theorem Af{B:List (Int×Int)}{first:Int}:∀{n:Nat} {a:Int} {y H:List Int},yj B first n a y=some H->H.length=y.length+n
 |0,a,y,H,h=>by simp only[yj,N3] at h;subst h;rfl
 |n+1,a,y,H,h=>by
  rw[yj] at h;split at h
  .cases h
  .split at h
   .cases h
   .have:=Af h
    simp at this;omega
def OP(y:List Nat)(n j:Nat):Bool:=be y j&&(List.range n).all fun k=>decide (k<=j)||bef y j k
def dm(r:Rec):Bool:=decide (r.nx.length=r.mem.length)&&r.wr.isEmpty
def CY(y:List Nat)(n j:Nat)(r:Rec):Bool:=
 r.v.afF (fun b=>decide (b<r.nx.length))&&
  (dm r||(OP y n j&&r.wr.all (fun b=>eP r.tm b&&(match r.nx[b]? with | some s=>s.afF (fun b=>decide (b<r.nx.length)) | none=>true))&&
   (r.nx.drop r.mem.length).all fun s=>(s.own||match s with | .HS=>true | _=>false)&&s.afF (fun b=>decide (b<r.nx.length))))
def uM(y:List Nat)(n:Nat):Nat->List Rec->Bool
 |_,[]=>true
 |j,r::rest=>CY y n j r&&uM y n (j+1) rest
def nU(T:TypeId->Option TyI)(O:af3)(N m0:Nat)(ops:Array Oper)(y:List Nat)(s:XS):Option XS:=
 match mV T O N ops y 0 ops.toList s.env s.mem [] with
 |none=>none
 |some (R,env,mem)=>
  if uM y R.length 0 R then some ⟨env,mem,s.agp||R.any fun r=>r.wr.any fun b=>decide (b<m0)⟩ else none
structure aiE (bs:List Nat)(n:Nat)(f:Nat×Rec):Prop where
 refs:f.2.v.afF (fun b=>decide (b<f.2.nx.length))=true
 or:(f.2.nx.length=f.2.mem.length/\f.2.wr=[])\/((∀i,i<f.1->bef bs i f.1=true)/\(∀k,f.1<k->k<n->bef bs f.1 k=true)/\
  f.2.wr.all (fun b=>eP f.2.tm b&&(match f.2.nx[b]? with | some s=>s.afF (fun b=>decide (b<f.2.nx.length)) | none=>true))=true/\
  ((f.2.nx.drop f.2.mem.length).all fun s=>(s.own||match s with | .HS=>true | _=>false)&&s.afF (fun b=>decide (b<f.2.nx.length)))=true)
theorem CX{y:List Nat}{n:Nat}:∀{j0:Nat} {R:List Rec},uM y n j0 R=true->∀f∈aM j0 R,aiE y n f
 |_,[],_,f,hf=>by simp[aM] at hf
 |j0,r::rest,h,f,hf=>by
  simp only[uM,Es] at h;rw[aM,List.mem_cons] at hf;rcases hf with rfl | hf
  .have X:=h.1
   simp only[CY,dm,OP,Es,QQk,L0,List.isEmpty_iff] at X;obtain⟨X,Z⟩:=X;refine⟨X,?_⟩;rcases Z with Z | ⟨⟨⟨Z,h3⟩,V⟩,S⟩
   .exact .inl Z
   .refine .inr ⟨fun i O=>List.all_eq_true.1 Z i (List.mem_range.2 O),fun k M W=>?_,V,S⟩
    have:=List.all_eq_true.1 h3 k (List.mem_range.2 W);simp only[QQk,L0] at this;rcases this with h6 | h6
    .omega
    .exact h6
  .exact CX h.2 f hf
variable{R:List Rec}
theorem Mi{y:List Nat}(h:uM y R.length 0 R=true){f:Nat×Rec}(hf:f∈aM 0 R):iw y (aM 0 R) f.1 f.2=true:=by
 have J:=CX h;have X:=J f hf;have B:=jQ hf;unfold iw;have hq:∀g∈(aM 0 R).filter (fun g=>decide (g.1<f.1)&& !bef y g.1 f.1),g.2.nx.length=g.2.mem.length/\g.2.wr=[]:=by
  intro g W;have Z:=List.mem_filter.1 W;simp only[Es,L0,Bool.not_eq_true'] at Z;rcases (J g Z.1).or with V | ⟨_,V,_⟩
  .exact V
  .have:=V f.1 Z.2.1 (by omega)
   rw[this] at Z;exact absurd Z.2.2 (by simp)
 have O:∀S,jd S ((aM 0 R).filter fun g=>decide (g.1<f.1)&& !bef y g.1 f.1)=fun b=>decide (b<S):=by
  intro S;funext b;unfold jd;have:(((aM 0 R).filter fun g=>decide (g.1<f.1)&& !bef y g.1 f.1).all fun f=> !decide (f.2.mem.length<=b/\b<f.2.nx.length))=true:=List.all_eq_true.2 fun g W=>by have:=(hq g W).1;simp;omega
  rw[this,Bool.and_true]
 simp only[O,Es];rcases X.or with⟨V,M⟩ | ⟨V,_,h3,G⟩
 .have F:f.2.nx.drop f.2.mem.length=[]:=Mp (by rw[V];exact L9 _)
  refine⟨⟨⟨⟨by rw[M];rfl,X.refs⟩,by rw[M];rfl⟩,by rw[F];rfl⟩,?_⟩;refine List.all_eq_true.2 fun g W=>?_
  obtain⟨D,C⟩:=hq g W;rw[C,M,D,Nat.sub_self,List.take_zero];rfl
 .refine⟨⟨⟨⟨?_,X.refs⟩,?_⟩,G⟩,?_⟩
  .refine List.all_eq_true.2 fun b K=>?_
   have:=List.all_eq_true.1 h3 b K;simp only[Es] at this;exact this.1
  .refine List.all_eq_true.2 fun b K=>?_
   have:=List.all_eq_true.1 h3 b K;simp only[Es] at this;exact this.2
  .refine List.all_eq_true.2 fun g W=>?_
   have Z:=List.mem_filter.1 W;simp only[Es,L0,Bool.not_eq_true'] at Z;rw[V g.1 Z.2.1] at Z;exact absurd Z.2.2 (by simp)
variable{N m0:Nat}{O:af3}
theorem mU{T:TypeId->Option TyI}{ops:Array Oper}{y:List Nat}(H:fN ops.toList=y)(s:XS):
  aJ T O N m0 ops s=match nU T O N m0 ops y s with
   |some s' =>some s'
   |none=>mT T O N m0 ops s:=by
 cases h:nU T O N m0 ops y s with
 |none=>rfl
 |some s' =>
  simp only;unfold nU at h;unfold aJ;simp only;rw[H];split at h
  .cases h
  .rename_i R env mem Z
   split at h
   .rename_i X
    cases h;rw[Z];simp only;rw[if_pos (List.all_eq_true.2 fun f W=>Mi X W)]
   .cases h
def su(y:List Nat)(n j:Nat):Bool:=(List.range n).all fun k=>decide (k<=j)||bef y j k
def zP(y:List Nat)(n j:Nat)(r:Rec):Bool:=
 r.v.afF (fun b=>decide (b<r.nx.length))&&
  (dm r||(su y n j&&(r.wr.isEmpty||(be y j&&r.wr.all (fun b=>eP r.tm b&&(match r.nx[b]? with | some s=>s.afF (fun b=>decide (b<r.nx.length)) | none=>true))))&&
   (r.nx.drop r.mem.length).all fun s=>(s.own||match s with | .HS=>true | _=>false)&&s.afF (fun b=>decide (b<r.nx.length))))
def sT(y:List Nat)(n:Nat):Nat->List Rec->Bool
 |_,[]=>true
 |j,r::rest=>zP y n j r&&sT y n (j+1) rest
def mc(T:TypeId->Option TyI)(O:af3)(N m0:Nat)(ops:Array Oper)(y:List Nat)(s:XS):Option XS:=
 match mV T O N ops y 0 ops.toList s.env s.mem [] with
 |none=>none
 |some (R,env,mem)=>
  if sT y R.length 0 R then some ⟨env,mem,s.agp||R.any fun r=>r.wr.any fun b=>decide (b<m0)⟩ else none
structure aiF (bs:List Nat)(n:Nat)(f:Nat×Rec):Prop where
 refs:f.2.v.afF (fun b=>decide (b<f.2.nx.length))=true
 or:(f.2.nx.length=f.2.mem.length/\f.2.wr=[])\/((f.2.wr=[]\/∀i,i<f.1->bef bs i f.1=true)/\(∀k,f.1<k->k<n->bef bs f.1 k=true)/\
  f.2.wr.all (fun b=>eP f.2.tm b&&(match f.2.nx[b]? with | some s=>s.afF (fun b=>decide (b<f.2.nx.length)) | none=>true))=true/\
  ((f.2.nx.drop f.2.mem.length).all fun s=>(s.own||match s with | .HS=>true | _=>false)&&s.afF (fun b=>decide (b<f.2.nx.length)))=true)
theorem Dz{y:List Nat}{n:Nat}:∀{j0:Nat} {R:List Rec},sT y n j0 R=true->∀f∈aM j0 R,aiF y n f
 |_,[],_,f,hf=>by simp[aM] at hf
 |j0,r::rest,h,f,hf=>by
  simp only[sT,Es] at h;rw[aM,List.mem_cons] at hf;rcases hf with rfl | hf
  .have X:=h.1
   simp only[zP,dm,su,Es,QQk,L0,List.isEmpty_iff] at X;obtain⟨X,W⟩:=X;refine⟨X,?_⟩;rcases W with W | ⟨⟨h3,Z⟩,S⟩
   .exact .inl W
   .refine .inr ⟨?_,fun k K V=>?_,?_,S⟩
    .rcases Z with Z | ⟨Z,_⟩
     .exact .inl Z
     .exact .inr fun i M=>List.all_eq_true.1 Z i (List.mem_range.2 M)
    .have:=List.all_eq_true.1 h3 k (List.mem_range.2 V)
     simp only[QQk,L0] at this;rcases this with h6 | h6
     .omega
     .exact h6
    .rcases Z with Z | ⟨_,Z⟩
     .rw[Z];rfl
     .exact Z
  .exact Dz h.2 f hf
theorem Mj{y:List Nat}(h:sT y R.length 0 R=true){f:Nat×Rec}(hf:f∈aM 0 R):iw y (aM 0 R) f.1 f.2=true:=by
 have D:=Dz h;have V:=D f hf;have A:=jQ hf;unfold iw;have hq:∀g∈(aM 0 R).filter (fun g=>decide (g.1<f.1)&& !bef y g.1 f.1),g.2.nx.length=g.2.mem.length/\g.2.wr=[]:=by
  intro g W;have Z:=List.mem_filter.1 W;simp only[Es,L0,Bool.not_eq_true'] at Z;rcases (D g Z.1).or with X | ⟨_,X,_⟩
  .exact X
  .have:=X f.1 Z.2.1 (by omega)
   rw[this] at Z;exact absurd Z.2.2 (by simp)
 have M:∀S,jd S ((aM 0 R).filter fun g=>decide (g.1<f.1)&& !bef y g.1 f.1)=fun b=>decide (b<S):=by
  intro S;funext b;unfold jd;have:(((aM 0 R).filter fun g=>decide (g.1<f.1)&& !bef y g.1 f.1).all fun f=> !decide (f.2.mem.length<=b/\b<f.2.nx.length))=true:=List.all_eq_true.2 fun g W=>by have:=(hq g W).1;simp;omega
  rw[this,Bool.and_true]
 simp only[M,Es];rcases V.or with⟨X,K⟩ | ⟨X,_,h3,C⟩
 .have B:f.2.nx.drop f.2.mem.length=[]:=Mp (by rw[X];exact L9 _)
  refine⟨⟨⟨⟨by rw[K];rfl,V.refs⟩,by rw[K];rfl⟩,by rw[B];rfl⟩,?_⟩;refine List.all_eq_true.2 fun g W=>?_
  obtain⟨J,G⟩:=hq g W;rw[G,K,J,Nat.sub_self,List.take_zero];rfl
 .refine⟨⟨⟨⟨?_,V.refs⟩,?_⟩,C⟩,?_⟩
  .refine List.all_eq_true.2 fun b F=>?_
   have:=List.all_eq_true.1 h3 b F;simp only[Es] at this;exact this.1
  .refine List.all_eq_true.2 fun b F=>?_
   have:=List.all_eq_true.1 h3 b F;simp only[Es] at this;exact this.2
  .refine List.all_eq_true.2 fun g W=>?_
   obtain⟨J,G⟩:=hq g W;rcases X with X | X
   .rw[G,X,J,Nat.sub_self,List.take_zero]
    rfl
   .have Z:=List.mem_filter.1 W
    simp only[Es,L0,Bool.not_eq_true'] at Z;rw[X g.1 Z.2.1] at Z;exact absurd Z.2.2 (by simp)
theorem kK{T:TypeId->Option TyI}{ops:Array Oper}{y:List Nat}(H:fN ops.toList=y)(s:XS):
  aJ T O N m0 ops s=match mc T O N m0 ops y s with
   |some s' =>some s'
   |none=>mT T O N m0 ops s:=by
 cases h:mc T O N m0 ops y s with
 |none=>rfl
 |some s' =>
  simp only;unfold mc at h;unfold aJ;simp only;rw[H];split at h
  .cases h
  .rename_i R env mem Z
   split at h
   .rename_i X
    cases h;rw[Z];simp only;rw[if_pos (List.all_eq_true.2 fun f W=>Mj X W)]
   .cases h
mutual
theorem agq{p q:Nat->Bool}:∀(v:AV),v.afF p=true->v.afF q=true->v.afF (fun b=>p b&&q b)=true
 |.ptr _ _,h1,h2=>by simp only[AV.afF] at h1 h2 |-;rw[h1,h2];rfl
 |.slice _ _ _ _,h1,h2=>by simp only[AV.afF] at h1 h2 |-;rw[h1,h2];rfl
 |.map _,h1,h2=>by simp only[AV.afF] at h1 h2 |-;rw[h1,h2];rfl
 |.yield _,h1,h2=>by simp only[AV.afF] at h1 h2 |-;rw[h1,h2];rfl
 |.func _ Z,h1,h2=>by simp only[AV.afF] at h1 h2 |-;exact mQ Z h1 h2
 |.iface _ v,h1,h2=>by simp only[AV.afF] at h1 h2 |-;exact agq v h1 h2
 |.agg Z,h1,h2=>by simp only[AV.afF] at h1 h2 |-;exact mQ Z h1 h2
 |.tuple Z,h1,h2=>by simp only[AV.afF] at h1 h2 |-;exact mQ Z h1 h2
 |.undef,_,_=>rfl
 |.bool _,_,_=>rfl
 |.int _ _,_,_=>rfl
 |.str _,_,_=>rfl
 |.agk,_,_=>rfl
 |.y9,_,_=>rfl
 |.agu,_,_=>rfl
 |.nilFunc,_,_=>rfl
 |.nilIface,_,_=>rfl
theorem mQ{p q:Nat->Bool}:∀(cs:List AV),AV.af7 p cs=true->AV.af7 q cs=true->AV.af7 (fun b=>p b&&q b) cs=true
 | [],_,_=>rfl
 |v::vs,h1,h2=>by simp only[AV.af7,Es] at h1 h2 |-;exact⟨agq v h1.1 h2.1,mQ vs h1.2 h2.2⟩
end
mutual
theorem agl:∀(v:AV),v.afF (fun _=>true)=true
 |.ptr _ _=>rfl
 |.slice _ _ _ _=>rfl
 |.map _=>rfl
 |.yield _=>rfl
 |.func _ Z=>by simp only[AV.afF];exact lJ Z
 |.iface _ v=>by simp only[AV.afF];exact agl v
 |.agg Z=>by simp only[AV.afF];exact lJ Z
 |.tuple Z=>by simp only[AV.afF];exact lJ Z
 |.undef=>rfl
 |.bool _=>rfl
 |.int _ _=>rfl
 |.str _=>rfl
 |.agk=>rfl
 |.y9=>rfl
 |.agu=>rfl
 |.nilFunc=>rfl
 |.nilIface=>rfl
theorem lJ:∀(cs:List AV),AV.af7 (fun _=>true) cs=true
 | []=>rfl
 |v::vs=>by simp only[AV.af7,Es];exact⟨agl v,lJ vs⟩
end
theorem ags{top:Nat}{v:AV}(h:v.afF (fun b=>decide (b<top))=true):∀{un:List (Nat×Rec)},(∀g∈un,v.afF (fun b=> !decide (g.2.mem.length<=b/\b<g.2.nx.length))=true)->v.afF (jd top un)=true
 | [],_=>by
  have:jd top []=fun b=>decide (b<top):=by funext b;simp[jd]
  rw[this];exact h
 |g::un,hg=>by
  have Z:=ags h (un:=un) (fun x X=>hg x (List.mem_cons_of_mem _ X));have W:=agq v Z (hg g (List.mem_cons_self ..));have:jd top (g::un)=fun b=>jd top un b&& !decide (g.2.mem.length<=b/\b<g.2.nx.length):=by funext b;simp only[jd,QQK];cases decide (b<top)<;>cases (un.all fun f=> !decide (f.2.mem.length<=b/\b<f.2.nx.length))<;>simp
  rw[this];exact W
def qS:af6->Bool
 |.HS=>true
 |_=>false
def nV(y H:Nat)(r:Rec):Bool:=
 dm r&&r.v.afF (fun b=> !decide (y<=b/\b<H))&&((r.tm.drop y).take (H-y)).all qS
def D2(y:List Nat)(i:Nat)(r:Rec):Nat->List Rec->Bool
 |_,[]=>true
 |j,s::rest=>(bef y i j||(r.wr.isEmpty&&nV r.mem.length r.nx.length s))&&D2 y i r (j+1) rest
def qM(y:List Nat):Nat->List Rec->Bool
 |_,[]=>true
 |j,r::rest=>r.v.afF (fun b=>decide (b<r.nx.length))&&(dm r||(D2 y j r (j+1) rest&&(r.wr.isEmpty||(be y j&&r.wr.all (fun b=>eP r.tm b&&(match r.nx[b]? with | some s=>s.afF (fun b=>decide (b<r.nx.length)) | none=>true))))&&
   (r.nx.drop r.mem.length).all fun s=>(s.own||match s with | .HS=>true | _=>false)&&s.afF (fun b=>decide (b<r.nx.length))))&&qM y (j+1) rest
def kX(T:TypeId->Option TyI)(O:af3)(N m0:Nat)(ops:Array Oper)(y:List Nat)(s:XS):Option XS:=
 match mV T O N ops y 0 ops.toList s.env s.mem [] with
 |none=>none
 |some (R,env,mem)=>
  if qM y 0 R then some ⟨env,mem,s.agp||R.any fun r=>r.wr.any fun b=>decide (b<m0)⟩ else none
theorem Gl{y:List Nat}{i:Nat}{r:Rec}:∀{j0:Nat} {R:List Rec},D2 y i r j0 R=true->∀g∈aM j0 R,bef y i g.1=true\/(r.wr=[]/\nV r.mem.length r.nx.length g.2=true)
 |_,[],_,g,hg=>by simp[aM] at hg
 |j0,s::rest,h,g,hg=>by
  simp only[D2,Es,QQk,List.isEmpty_iff] at h;rw[aM,List.mem_cons] at hg;rcases hg with rfl | hg
  .exact h.1
  .exact Gl h.2 g hg
structure aiG (bs:List Nat)(R:List (Nat×Rec))(f:Nat×Rec):Prop where
 refs:f.2.v.afF (fun b=>decide (b<f.2.nx.length))=true
 or:(f.2.nx.length=f.2.mem.length/\f.2.wr=[])\/((f.2.wr=[]\/∀i,i<f.1->bef bs i f.1=true)/\(∀g∈R,f.1<g.1->bef bs f.1 g.1=true\/(f.2.wr=[]/\nV f.2.mem.length f.2.nx.length g.2=true))/\
  f.2.wr.all (fun b=>eP f.2.tm b&&(match f.2.nx[b]? with | some s=>s.afF (fun b=>decide (b<f.2.nx.length)) | none=>true))=true/\
  ((f.2.nx.drop f.2.mem.length).all fun s=>(s.own||match s with | .HS=>true | _=>false)&&s.afF (fun b=>decide (b<f.2.nx.length)))=true)
theorem D0{y:List Nat}{R0:List (Nat×Rec)}:∀{j0:Nat} {R:List Rec},(∀g∈R0,g.1<j0\/g∈aM j0 R)->qM y j0 R=true->∀f∈aM j0 R,aiG y R0 f
 |_,[],_,_,f,hf=>by simp[aM] at hf
 |j0,r::rest,hR,h,f,hf=>by
  simp only[qM,Es] at h;obtain⟨⟨S,W⟩,M⟩:=h;have X :∀g∈R0,g.1<j0+1\/g∈aM (j0+1) rest:=by
   intro g V;rcases hR g V with h3 | h3
   .exact .inl (by omega)
   .rw[aM,List.mem_cons] at h3
    rcases h3 with rfl | h3
    .exact .inl (by simp)
    .exact .inr h3
  rw[aM,List.mem_cons] at hf;rcases hf with rfl | hf
  .refine⟨S,?_⟩
   simp only[dm,Es,QQk,L0,List.isEmpty_iff] at W;rcases W with W | ⟨⟨h3,Z⟩,K⟩
   .exact .inl W
   .refine .inr ⟨?_,fun g V J=>?_,?_,K⟩
    .rcases Z with Z | ⟨Z,_⟩
     .exact .inl Z
     .exact .inr fun i G=>List.all_eq_true.1 Z i (List.mem_range.2 G)
    .rcases X g V with h6 | h6
     .simp only at J;omega
     .exact Gl h3 g h6
    .rcases Z with Z | ⟨_,Z⟩
     .rw[Z];rfl
     .exact Z
  .exact D0 X M f hf
theorem Mk{y:List Nat}(h:qM y 0 R=true){f:Nat×Rec}(hf:f∈aM 0 R):iw y (aM 0 R) f.1 f.2=true:=by
 have B:=D0 (R0:=aM 0 R) (fun g X=>.inr X) h;have K:=B f hf;unfold iw;have J:∀g∈(aM 0 R).filter (fun g=>decide (g.1<f.1)&& !bef y g.1 f.1),(g.2.nx.length=g.2.mem.length/\g.2.wr=[])\/(g.2.wr=[]/\nV g.2.mem.length g.2.nx.length f.2=true):=by
  intro g X;have Z:=List.mem_filter.1 X;simp only[Es,L0,Bool.not_eq_true'] at Z;rcases (B g Z.1).or with V | ⟨_,V,_⟩
  .exact .inl V
  .rcases V f hf Z.2.1 with M | M
   .rw[M] at Z;exact absurd Z.2.2 (by simp)
   .exact .inr M
 simp only[Es];by_cases G:f.2.nx.length=f.2.mem.length/\f.2.wr=[]
 .obtain⟨V,M⟩:=G
  have A:f.2.nx.drop f.2.mem.length=[]:=Mp (by rw[V];exact L9 _);refine⟨⟨⟨⟨by rw[M];rfl,ags K.refs fun g X=>?_⟩,by rw[M];rfl⟩,by rw[A];rfl⟩,?_⟩
  .rcases J g X with⟨S,W⟩ | ⟨S,W⟩
   .have e:(fun b=> !decide (g.2.mem.length<=b/\b<g.2.nx.length))=fun _=>true:=by
     funext b;rw[S];have:¬(g.2.mem.length<=b/\b<g.2.mem.length):=by omega
     simp[this]
    rw[e];exact agl _
   .simp only[nV,Es] at W
    exact W.1.2
  .refine List.all_eq_true.2 fun g X=>?_
   rcases J g X with⟨S,W⟩ | ⟨S,W⟩
   .rw[W,M,S,Nat.sub_self,List.take_zero]
    rfl
   .simp only[nV,Es] at W
    rw[S,M];simp only[List.all_nil,Bool.true_and];refine List.all_eq_true.2 fun s z=>?_
    have:=List.all_eq_true.1 W.2 s z;cases s<;>simp_all[qS]
 .rcases K.or with hq | ⟨V,_,h3,u⟩
  .exact absurd hq G
  .have hq:∀g∈(aM 0 R).filter (fun g=>decide (g.1<f.1)&& !bef y g.1 f.1),g.2.nx.length=g.2.mem.length/\g.2.wr=[]:=by
    intro g X;rcases J g X with h5 | ⟨S,W⟩
    .exact h5
    .simp only[nV,dm,Es,L0,List.isEmpty_iff] at W
     exact absurd W.1.1 G
   have D:∀F,jd F ((aM 0 R).filter fun g=>decide (g.1<f.1)&& !bef y g.1 f.1)=fun b=>decide (b<F):=by
    intro F;funext b;unfold jd;have:(((aM 0 R).filter fun g=>decide (g.1<f.1)&& !bef y g.1 f.1).all fun f=> !decide (f.2.mem.length<=b/\b<f.2.nx.length))=true:=List.all_eq_true.2 fun g X=>by have:=(hq g X).1;simp;omega
    rw[this,Bool.and_true]
   simp only[D];refine⟨⟨⟨⟨?_,K.refs⟩,?_⟩,u⟩,?_⟩
   .refine List.all_eq_true.2 fun b C=>?_
    have:=List.all_eq_true.1 h3 b C;simp only[Es] at this;exact this.1
   .refine List.all_eq_true.2 fun b C=>?_
    have:=List.all_eq_true.1 h3 b C;simp only[Es] at this;exact this.2
   .refine List.all_eq_true.2 fun g X=>?_
    obtain⟨S,W⟩:=hq g X;rcases V with V | V
    .rw[W,V,S,Nat.sub_self,List.take_zero]
     rfl
    .have Z:=List.mem_filter.1 X
     simp only[Es,L0,Bool.not_eq_true'] at Z;rw[V g.1 Z.2.1] at Z;exact absurd Z.2.2 (by simp)
theorem cV{T:TypeId->Option TyI}{ops:Array Oper}{y:List Nat}(H:fN ops.toList=y)(s:XS):
  aJ T O N m0 ops s=match kX T O N m0 ops y s with
   |some s' =>some s'
   |none=>mT T O N m0 ops s:=by
 cases h:kX T O N m0 ops y s with
 |none=>rfl
 |some s' =>
  simp only;unfold kX at h;unfold aJ;simp only;rw[H];split at h
  .cases h
  .rename_i R env mem Z
   split at h
   .rename_i X
    cases h;rw[Z];simp only;rw[if_pos (List.all_eq_true.2 fun f W=>Mk X W)]
   .cases h
theorem DD(f:Nat->Bool)(new:Mem):∀(i:Nat) (M:Mem),bm [] i M (bJ f i M++new)=M++new
 |_,[]=>rfl
 |i,s::M=>by simp[bJ,bm,DD f new (i+1) M]
theorem zR(new:Mem):∀(i:Nat) (M:Mem),bm [] i M (M++new)=M++new
 |_,[]=>rfl
 |i,s::M=>by simp[bm,zR new (i+1) M]
theorem zU(f:Nat->Bool)(s:af6):∀(i:Nat) (M:Mem) (k:Nat),bm [i+k] i M ((bJ f i M).set k s)=M.set k s
 |_,[],_=>rfl
 |i,x::M,0=>by
  simp only[bJ,List.set_cons_zero,bm,Nat.add_zero];have h:∀(j:Nat) (M:Mem),i<j->bm [i] j M (bJ f j M)=M:=by
   intro j M Z;induction M generalizing j with
   |nil=>rfl
   |cons y M ih=>simp[bJ,bm,ih (j+1) (by omega),show¬j=i by omega]
  simp[h (i+1) M (by omega)]
 |i,x::M,k+1=>by have:=zU f s (i+1) M k;rw[show i+1+k=i+(k+1) by omega] at this;simp[bJ,bm,this,show¬i=i+(k+1) by omega]
theorem MP(f:Nat->Bool)(s:af6)(M:Mem)(k:Nat):bm [k] 0 M ((bJ f 0 M).set k s)=M.set k s:=by
 have:=zU f s 0 M k
 rwa [QQZ] at this
theorem Ga(f:Nat->Bool):∀(i:Nat) (M:Mem),(bJ f i M).length=M.length
 |_,[]=>rfl
 |i,x::M=>by simp[bJ,Ga f (i+1) M]
theorem F8(f:Nat->Bool)(M:Mem)(y n:Nat)(h:∀b,y<=b->b<y+n->f b=false):(((bJ f 0 M).drop y).take n).all qS=true:=by
 rw[List.all_eq_true];intro s X;obtain⟨i,Z⟩:=QQg X;rw[List.getElem?_take] at Z;split at Z
 .rename_i W
  rw[QQc,wm] at Z;cases hM:M[y+i]? with
  |none=>rw[hM] at Z;simp at Z
  |some x=>
   rw[hM] at Z;simp only[Option.map_some,QQZ,N3] at Z;rw[h (y+i) (by omega) (by omega)] at Z;simp at Z;subst Z;rfl
 .cases Z
theorem Pg(M:Mem)(y n:Nat):(((bJ (fun _=>false) 0 M).drop y).take n).all qS=true:=F8 _ M y n fun _ _ _=>rfl
theorem Yp(M X:Mem)(k:Nat):(M++X).drop (M.length+k)=X.drop k:=by rw[List.drop_append];simp
theorem WW(M X:Mem):(M++X).drop M.length=X:=by simp
theorem xQ(i:Nat)(s s' :af6)(r r' :Mem):bm [] i (s::r) (s' ::r')=s::bm [] (i+1) r r' :=by simp[bm]
theorem DE:∀(i:Nat) (N X Y:Mem),bm [] i (N++X) (N++Y)=N++bm [] (i+N.length) X Y
 |i,[],X,Y=>by simp
 |i,s::N,X,Y=>by simp only[List.cons_append,xQ,DE (i+1) N X Y,List.length_cons];rw[show i+1+N.length=i+(N.length+1) by omega]
theorem af6.agq{p q:Nat->Bool}:∀(s:af6),s.afF p=true->s.afF q=true->s.afF (fun b=>p b&&q b)=true
 |.HS,_,_=>rfl
 |.cells _ _ cs,h,h' =>mQ cs h h'
 |.map es,h,h' =>by simp only[af6.afF,List.all_eq_true,Es] at h h' |-;exact fun e he=>⟨Go.Eng.agq _ (h e he).1 (h' e he).1,Go.Eng.agq _ (h e he).2 (h' e he).2⟩
 |.agC es,h,h' =>by simp only[af6.afF,List.all_eq_true,Es] at h h' |-;exact fun e he=>⟨Go.Eng.agq _ (h e he).1 (h' e he).1,Go.Eng.agq _ (h e he).2 (h' e he).2⟩
 |.loop r,h,h' =>by simp only[af6.afF,List.all_eq_true] at h h' |-;exact fun e he=>Go.Eng.agq _ (h e he) (h' e he)
theorem af6.ags{top:Nat}{s:af6}(h:s.afF (fun b=>decide (b<top))=true):∀{un:List (Nat×Rec)},(∀g∈un,s.afF (fun b=> !decide (g.2.mem.length<=b/\b<g.2.nx.length))=true)->s.afF (jd top un)=true
 | [],_=>by
  have:jd top []=fun b=>decide (b<top):=by funext b;simp[jd]
  rw[this];exact h
 |g::un,hg=>by
  have Z:=af6.ags h (un:=un) (fun x X=>hg x (List.mem_cons_of_mem _ X));have W:=af6.agq s Z (hg g (List.mem_cons_self ..));have:jd top (g::un)=fun b=>jd top un b&& !decide (g.2.mem.length<=b/\b<g.2.nx.length):=by funext b;simp only[jd,QQK];cases decide (b<top)<;>cases (un.all fun f=> !decide (f.2.mem.length<=b/\b<f.2.nx.length))<;>simp
  rw[this];exact W
theorem tz{g:Rec}(h:g.nx.length=g.mem.length):(fun b=> !decide (g.mem.length<=b/\b<g.nx.length))=fun _=>true:=by
 funext b;rw[h];have:¬(g.mem.length<=b/\b<g.mem.length):=by omega
 simp[this]
theorem af6.agl:∀(s:af6),s.afF (fun _=>true)=true
 |.HS=>rfl
 |.cells _ _ cs=>lJ cs
 |.map es=>by simp only[af6.afF,List.all_eq_true,Es];exact fun e _=>⟨Go.Eng.agl _,Go.Eng.agl _⟩
 |.agC es=>by simp only[af6.afF,List.all_eq_true,Es];exact fun e _=>⟨Go.Eng.agl _,Go.Eng.agl _⟩
 |.loop r=>by simp only[af6.afF,List.all_eq_true];exact fun e _=>Go.Eng.agl _
def fA(y H:Nat)(r:Rec):Bool:=
 r.wr.isEmpty&&r.v.afF (fun b=> !decide (y<=b/\b<H))&&((r.nx.drop r.mem.length).all fun s=>s.afF (fun b=> !decide (y<=b/\b<H)))&&((r.tm.drop y).take (H-y)).all qS
def jn(y:List Nat)(i:Nat)(r:Rec):Nat->List Rec->Bool
 |_,[]=>true
 |j,s::rest=>(bef y i j||(r.wr.isEmpty&&fA r.mem.length r.nx.length s))&&jn y i r (j+1) rest
def od(y:List Nat)(j:Nat)(r:Rec):List (Nat×Rec)->Bool
 | []=>true
 |g::l=>(bef y g.1 j||(dm g.2&&r.wr.all fun b=> !eP g.2.tm b))&&od y j r l
def lO(y:List Nat):Nat->List (Nat×Rec)->List Rec->Bool
 |_,_,[]=>true
 |j,acc,r::rest=>r.v.afF (fun b=>decide (b<r.nx.length))&&(dm r||(jn y j r (j+1) rest&&(r.wr.isEmpty||(od y j r acc&&r.wr.all (fun b=>eP r.tm b&&(match r.nx[b]? with | some s=>s.afF (fun b=>decide (b<r.nx.length)) | none=>true))))&&
   (r.nx.drop r.mem.length).all fun s=>(s.own||match s with | .HS=>true | _=>false)&&s.afF (fun b=>decide (b<r.nx.length))))&&lO y (j+1) ((j,r)::acc) rest
def fC(T:TypeId->Option TyI)(O:af3)(N m0:Nat)(ops:Array Oper)(y:List Nat)(s:XS):Option XS:=
 match mV T O N ops y 0 ops.toList s.env s.mem [] with
 |none=>none
 |some (R,env,mem)=>
  if lO y 0 [] R then some ⟨env,mem,s.agp||R.any fun r=>r.wr.any fun b=>decide (b<m0)⟩ else none
theorem Dh{y:List Nat}{i:Nat}{r:Rec}:∀{j0:Nat} {R:List Rec},jn y i r j0 R=true->∀g∈aM j0 R,bef y i g.1=true\/(r.wr=[]/\fA r.mem.length r.nx.length g.2=true)
 |_,[],_,g,hg=>by simp[aM] at hg
 |j0,s::rest,h,g,hg=>by
  simp only[jn,Es,QQk,List.isEmpty_iff] at h;rw[aM,List.mem_cons] at hg;rcases hg with rfl | hg
  .exact h.1
  .exact Dh h.2 g hg
theorem FI{y:List Nat}{j:Nat}{r:Rec}:∀{acc:List (Nat×Rec)},od y j r acc=true->∀g∈acc,bef y g.1 j=true\/((g.2.nx.length=g.2.mem.length/\g.2.wr=[])/\(r.wr.all fun b=> !eP g.2.tm b)=true)
 | [],_,g,hg=>by cases hg
 |a::l,h,g,hg=>by
  simp only[od,dm,Es,QQk,L0,List.isEmpty_iff] at h;rcases List.mem_cons.1 hg with rfl | hg
  .exact h.1
  .exact FI h.2 g hg
structure air (bs:List Nat)(R:List (Nat×Rec))(f:Nat×Rec):Prop where
 refs:f.2.v.afF (fun b=>decide (b<f.2.nx.length))=true
 or:(f.2.nx.length=f.2.mem.length/\f.2.wr=[])\/((f.2.wr=[]\/∀g∈R,g.1<f.1->bef bs g.1 f.1=true\/((g.2.nx.length=g.2.mem.length/\g.2.wr=[])/\(f.2.wr.all fun b=> !eP g.2.tm b)=true))/\(∀g∈R,f.1<g.1->bef bs f.1 g.1=true\/(f.2.wr=[]/\fA f.2.mem.length f.2.nx.length g.2=true))/\
  f.2.wr.all (fun b=>eP f.2.tm b&&(match f.2.nx[b]? with | some s=>s.afF (fun b=>decide (b<f.2.nx.length)) | none=>true))=true/\
  ((f.2.nx.drop f.2.mem.length).all fun s=>(s.own||match s with | .HS=>true | _=>false)&&s.afF (fun b=>decide (b<f.2.nx.length)))=true)
theorem zK{y:List Nat}{R0:List (Nat×Rec)}:∀{j0:Nat} {acc:List (Nat×Rec)} {R:List Rec},(∀g∈R0,g.1<j0\/g∈aM j0 R)->(∀g∈R0,g.1<j0->g∈acc)->lO y j0 acc R=true->∀f∈aM j0 R,air y R0 f
 |_,_,[],_,_,_,f,hf=>by simp[aM] at hf
 |j0,acc,r::rest,hR,ab',h,f,hf=>by
  simp only[lO,Es] at h;obtain⟨⟨K,V⟩,J⟩:=h;have W :∀g∈R0,g.1<j0+1\/g∈aM (j0+1) rest:=by
   intro g X;rcases hR g X with h3 | h3
   .exact .inl (by omega)
   .rw[aM,List.mem_cons] at h3
    rcases h3 with rfl | h3
    .exact .inl (by simp)
    .exact .inr h3
  have M :∀g∈R0,g.1<j0+1->g∈(j0,r)::acc:=by
   intro g X S;rcases hR g X with h3 | h3
   .exact List.mem_cons_of_mem _ (ab' g X h3)
   .rw[aM,List.mem_cons] at h3
    rcases h3 with rfl | h3
    .exact List.mem_cons_self ..
    .have:=(jQ h3).1;omega
  rw[aM,List.mem_cons] at hf;rcases hf with rfl | hf
  .refine⟨K,?_⟩
   simp only[dm,Es,QQk,L0,List.isEmpty_iff] at V;rcases V with V | ⟨⟨h3,Z⟩,G⟩
   .exact .inl V
   .refine .inr ⟨?_,fun g X S=>?_,?_,G⟩
    .rcases Z with Z | ⟨Z,_⟩
     .exact .inl Z
     .exact .inr fun g X S=>FI Z g (ab' g X S)
    .rcases W g X with h6 | h6
     .simp only at S;omega
     .exact Dh h3 g h6
    .rcases Z with Z | ⟨_,Z⟩
     .rw[Z];rfl
     .exact Z
  .exact zK W M J f hf
theorem HL{y:List Nat}(h:lO y 0 [] R=true){f:Nat×Rec}(hf:f∈aM 0 R):iw y (aM 0 R) f.1 f.2=true:=by
 have z:=zK (R0:=aM 0 R) (fun g X=>.inr X) (fun g _ m=>absurd m (Nat.not_lt_zero _)) h;have S:=z f hf;unfold iw;have M:∀g∈(aM 0 R).filter (fun g=>decide (g.1<f.1)&& !bef y g.1 f.1),(g.2.nx.length=g.2.mem.length/\g.2.wr=[])\/(g.2.wr=[]/\fA g.2.mem.length g.2.nx.length f.2=true):=by
  intro g X;have Z:=List.mem_filter.1 X;simp only[Es,L0,Bool.not_eq_true'] at Z;rcases (z g Z.1).or with V | ⟨_,V,_⟩
  .exact .inl V
  .rcases V f hf Z.2.1 with F | F
   .rw[F] at Z;exact absurd Z.2.2 (by simp)
   .exact .inr F
 have D:∀g∈(aM 0 R).filter (fun g=>decide (g.1<f.1)&& !bef y g.1 f.1),g.2.wr=[]/\(f.2.wr.all fun b=> !eP g.2.tm b)=true/\(f.2.wr=[]\/g.2.nx.length=g.2.mem.length):=by
  intro g X;have Z:=List.mem_filter.1 X;simp only[Es,L0,Bool.not_eq_true'] at Z;rcases M g X with⟨K,W⟩ | ⟨K,W⟩
  .refine⟨W,?_,.inr K⟩
   rcases S.or with V | ⟨V,_⟩
   .rw[V.2];rfl
   .rcases V with V | V
    .rw[V];rfl
    .rcases V g Z.1 Z.2.1 with h3 | h3
     .rw[h3] at Z;exact absurd Z.2.2 (by simp)
     .exact h3.2
  .simp only[fA,Es,List.isEmpty_iff] at W
   refine⟨K,?_,.inl W.1.1.1⟩;rw[W.1.1.1];rfl
 have Y:f.2.v.afF (jd f.2.nx.length ((aM 0 R).filter fun g=>decide (g.1<f.1)&& !bef y g.1 f.1))=true:=ags S.refs fun g X=>by
  rcases M g X with⟨K,_⟩ | ⟨_,W⟩
  .rw[tz K];exact agl _
  .simp only[fA,Es] at W
   exact W.1.1.2
 have B:(((aM 0 R).filter fun g=>decide (g.1<f.1)&& !bef y g.1 f.1).all fun g=>g.2.wr.all (fun b=> !eP f.2.tm b)&&f.2.wr.all (fun b=> !eP g.2.tm b)&&
   ((f.2.tm.drop g.2.mem.length).take (g.2.nx.length-g.2.mem.length)).all fun s=>match s with | .HS=>true | _=>false)=true:=List.all_eq_true.2 fun g X=>by
  obtain⟨w1,w2,_⟩:=D g X;rw[w1,w2];simp only[List.all_nil,Bool.true_and];rcases M g X with⟨K,_⟩ | ⟨_,W⟩
  .rw[K,Nat.sub_self,List.take_zero];rfl
  .simp only[fA,Es] at W
   refine List.all_eq_true.2 fun s G=>?_
   have:=List.all_eq_true.1 W.2 s G;cases s<;>simp_all[qS]
 have A:((f.2.nx.drop f.2.mem.length).all fun s=>(s.own||match s with | .HS=>true | _=>false)&&s.afF (jd f.2.nx.length ((aM 0 R).filter fun g=>decide (g.1<f.1)&& !bef y g.1 f.1)))=true:=by
  refine List.all_eq_true.2 fun s G=>?_
  rcases S.or with⟨V,_⟩ | ⟨_,_,_,Q⟩
  .rw[Mp (by rw[V];exact L9 _)] at G;cases G
  .have J:=List.all_eq_true.1 Q s G
   simp only[Es] at J |-;refine⟨J.1,af6.ags J.2 fun g X=>?_⟩;rcases M g X with⟨K,_⟩ | ⟨_,W⟩
   .rw[tz K];exact af6.agl _
   .simp only[fA,Es] at W
    exact List.all_eq_true.1 W.1.2 s G
 have u:f.2.wr.all (fun b=>eP f.2.tm b)=true/\(f.2.wr.all fun b=>match f.2.nx[b]? with | some s=>s.afF (jd f.2.nx.length ((aM 0 R).filter fun g=>decide (g.1<f.1)&& !bef y g.1 f.1)) | none=>true)=true:=by
  rcases S.or with⟨_,F⟩ | ⟨_,_,h3,_⟩
  .rw[F];exact⟨rfl,rfl⟩
  .constructor
   .refine List.all_eq_true.2 fun b C=>?_
    have:=List.all_eq_true.1 h3 b C;simp only[Es] at this;exact this.1
   .refine List.all_eq_true.2 fun b C=>?_
    have:=List.all_eq_true.1 h3 b C;simp only[Es] at this;cases hn:f.2.nx[b]? with
    |none=>rfl
    |some s=>
     simp only[hn] at this |-;refine af6.ags this.2 fun g X=>?_
     rcases (D g X).2.2 with J | J
     .rw[J] at C;cases C
     .rw[tz J];exact af6.agl _
 simp only[Es];exact⟨⟨⟨⟨u.1,Y⟩,u.2⟩,A⟩,B⟩
theorem bN{T:TypeId->Option TyI}{ops:Array Oper}{y:List Nat}(H:fN ops.toList=y)(s:XS):
  aJ T O N m0 ops s=match fC T O N m0 ops y s with
   |some s' =>some s'
   |none=>mT T O N m0 ops s:=by
 cases h:fC T O N m0 ops y s with
 |none=>rfl
 |some s' =>
  simp only;unfold fC at h;unfold aJ;simp only;rw[H];split at h
  .cases h
  .rename_i R env mem Z
   split at h
   .rename_i X
    cases h;rw[Z];simp only;rw[if_pos (List.all_eq_true.2 fun f W=>HL X W)]
   .cases h
end Go.Eng
namespace Go.Eng
mutual
theorem af4.cut{μ μ' :Nat->Place}{n y :Nat}:∀{v V V'},af4 μ n v V->af4 μ' y v V' ->af4 μ' n v V'
 |.undef,V,V',_,_=>by simp[af4]
 |.bool b,V,V',_,h=>by simpa [af4] using h
 |.int k i,V,V',_,h=>by simpa [af4] using h
 |.str s,V,V',_,h=>by simpa [af4] using h
 |.ptr b o,V,V',h,Z =>by simp only[af4] at h Z |-;exact⟨h.1,Z.2⟩
 |.agk,V,V',_,h=>by simpa [af4] using h
 |.slice b o l c,V,V',h,Z =>by simp only[af4] at h Z |-;exact⟨h.1,Z.2⟩
 |.y9,V,V',_,h=>by simpa [af4] using h
 |.map b,V,V',h,Z =>by simp only[af4] at h Z |-;exact⟨h.1,Z.2⟩
 |.yield b,V,V',h,Z =>by simp only[af4] at h Z |-;exact⟨h.1,Z.2⟩
 |.agu,V,V',_,h=>by simpa [af4] using h
 |.func f W,V,V',h,Z =>by simp only[af4] at h Z |-;obtain⟨S,rfl,h⟩:=h;obtain⟨X,rfl,Z⟩:=Z;exact⟨X,rfl,af5.cut h Z⟩
 |.nilFunc,V,V',_,h=>by simpa [af4] using h
 |.iface t v,V,V',h,Z =>by simp only[af4] at h Z |-;obtain⟨U,rfl,h⟩:=h;obtain⟨O,rfl,Z⟩:=Z;exact⟨O,rfl,af4.cut h Z⟩
 |.nilIface,V,V',_,h=>by simpa [af4] using h
 |.agg W,V,V',h,Z =>by simp only[af4] at h Z |-;obtain⟨S,rfl,h⟩:=h;obtain⟨X,rfl,Z⟩:=Z;exact⟨X,rfl,af5.cut h Z⟩
 |.tuple W,V,V',h,Z =>by simp only[af4] at h Z |-;obtain⟨S,rfl,h⟩:=h;obtain⟨X,rfl,Z⟩:=Z;exact⟨X,rfl,af5.cut h Z⟩
theorem af5.cut{μ μ' :Nat->Place}{n y :Nat}:∀{vs Us Us'},af5 μ n vs Us->af5 μ' y vs Us' ->af5 μ' n vs Us'
 | [],Us,Us',_,h=>by simpa [af5] using h
 |v::vs,Us,Us',h,h' =>by simp only[af5] at h h' |-;obtain⟨U,M,rfl,V,S⟩:=h;obtain⟨O,Z,rfl,X,W⟩:=h';exact⟨O,Z,rfl,af4.cut V X,af5.cut S W⟩
end
theorem agj.cut{μ μ' :Nat->Place}{n I y:Nat}{w w' :World}{p H :Place}{s:af6}(h:agj μ n y w p s)(h' :agj μ' I y w' H s):agj μ' n y w' H s:=by
 cases s with
 |HS=>trivial
 |cells own es cs=>
  simp only[agj] at h h' |-;obtain⟨_,_,_,_,_,_,M,_⟩:=h;obtain⟨G,e,A,X,W,K,J,z⟩:=h';refine⟨G,e,A,X,W,K,fun j v Z=>?_,z⟩;obtain⟨V,_,r⟩:=M j v Z;obtain⟨u,F,S⟩:=J j v Z;exact⟨u,F,af4.cut r S⟩
 |map es=>
  simp only[agj] at h h' |-;obtain⟨_,_,_,_,_,M⟩:=h;obtain⟨D,C,X,W,K,J⟩:=h';refine⟨D,C,X,W,K,fun j e Z=>?_⟩;obtain⟨E,_,r⟩:=M j e Z;obtain⟨B,O,S⟩:=J j e Z;exact⟨B,O,af4.cut r.1 S.1,af4.cut r.2 S.2⟩
 |agC es=>
  simp only[agj] at h h' |-;obtain⟨_,_,_,_,_,M⟩:=h;obtain⟨D,C,X,W,K,J⟩:=h';refine⟨D,C,X,W,K,fun j e Z=>?_⟩;obtain⟨E,_,r⟩:=M j e Z;obtain⟨B,O,S⟩:=J j e Z;exact⟨B,O,af4.cut r.1 S.1,af4.cut r.2 S.2⟩
 |loop r=>
  simp only[agj] at h h' |-;obtain⟨L,_,_,g⟩:=h;obtain⟨m,X,W,k⟩:=h';exact⟨m,X,W,k.st,k.agI,k.ps,k.assign,k.body,k.size,fun t=>af4.cut (g.tmps t) (k.tmps t)⟩
theorem kO.forget{P:Program}{f:FuncId}{args:List AV}{m new:Mem}{v:AV}(y:v.closed=true)(h:kO P f args m v (m++new)):kO P f args m v m:=by
 refine⟨h.1,fun base μ w Vs hG hH hV=>(h.2 base μ w Vs hG hH hV).mono ?_⟩;rintro e w' ⟨V,v',m',μ',rfl,q1,q2,q3,rfl,rfl⟩;have X:∀{b:Nat}{s:af6},m[b]? =some s->(m++new)[b]? =some s:=fun {b s} Z=>gU Z _
 have W:∀{b:Nat},fJ m b->fJ (m++new) b:=fun ⟨s,S,O⟩=>⟨s,X S,O⟩
 exact⟨V,_,m,μ',rfl,af4.closed y q1,⟨q2.agb,fun b s Z=>(hH.slot b s Z).cut (q2.slot b s (X Z)),fun b M K Z J =>q2.sep b M K (W Z) (X J)⟩,
  ⟨L9 _,q3.agree,q3.os,q3.tape,q3.output,q3.size,q3.frame,fun b Z=>q3.owner b (W Z),q3.drawn⟩,rfl,rfl⟩
end Go.Eng
