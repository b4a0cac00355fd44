/- See F54. -/
import Derived.Test.YtgafjliihahjgaaGreatDoorF04
import Derived.Maps.RangeRun
set_option linter.all false
namespace Go.Eng
theorem Y4:iZ []=[]:=rfl
theorem GR(n:Int)(l:List Int):iZ (n::l)=.int .i64 n::iZ l:=rfl
theorem Ut(l:List Int):(iZ l).length=l.length:=by simp[iZ]
theorem Y3(l:List Int)(i:Nat):(iZ l)[i]? =(l[i]?).map fun n=>.int .i64 n:=by simp[iZ]
theorem RN(l:List Int)(i:Nat)(h:i<(iZ l).length):(iZ l)[i]=.int .i64 (l[i]'(by simpa [iZ] using h)):=by simp[iZ]
theorem Y0(l:List Int):(iZ l).all AV.aeS=true:=by simp[iZ,AV.aeS]
theorem Hd(m:Nat)(l:List Int):AV.afc m (iZ l)=[]:=by
 induction l with
 |nil=>rfl
 |cons x l ih=>simp[GR,AV.afc,AV.refs,ih]
theorem CE(ρ:Nat→Option Nat)(l:List Int):AV.ae3 ρ (iZ l)=iZ l:=by
 induction l with
 |nil=>rfl
 |cons x l ih=>simp[GR,AV.ae3,AV.ren,ih]
theorem Vr(m:Nat)(l:List Int):AV.afa m (iZ l)=true:=by
 induction l with
 |nil=>rfl
 |cons x l ih=>simp[GR,AV.afa,AV.under,ih]
theorem EI(ok:Nat→Bool)(l:List Int):AV.aeW ok (iZ l)=true:=by
 induction l with
 |nil=>rfl
 |cons x l ih=>simp[GR,AV.aeW,AV.aeR,ih]
theorem Mw(m:Nat)(o:Bool)(e:Nat)(l:List Int):aeY.refs m (.cells o e (iZ l))=[]:=by simp[aeY.refs,Hd]
theorem O8(ρ:Nat→Option Nat)(o:Bool)(e:Nat)(l:List Int):aeY.ren ρ (.cells o e (iZ l))=.cells o e (iZ l):=by simp[aeY.ren,CE]
theorem DN(ok:Nat→Bool)(o:Bool)(e:Nat)(l:List Int):aeY.aeR ok (.cells o e (iZ l))=true:=by simp[aeY.aeR,EI]
attribute [simp] Y4 Ut Y3 RN Hd CE Vr EI Mw O8 DN Y0
section
variable {P:Program}{f:FuncId}{A B:List Int}{M:Mem}{x y:AV}
end
def ba(A:List Nat)(j:Nat):Bool:=(List.range j).all fun i=>bef A i j
def aP(A:Bool)(G:List Nat)(j:Nat)(r:Rec):Bool:=
 decide (r.nx.length=r.mem.length)&&r.v.aeR (fun b=>decide (b<r.nx.length))&&
  (if A then ba G j&&r.wr.all (fun b=>eK r.tm b&&(match r.nx[b]? with | some s=>s.aeR (fun b=>decide (b<r.nx.length)) | none=>true)) else r.wr.isEmpty)
def aO(A:List Nat):Nat→List Rec→Bool
 |_,[]=>true
 |j,[r]=>aP true A j r
 |j,r::r2::rest=>aP false A j r&&aO A (j+1) (r2::rest)
def aS(T:TypeId→Option TyI)(O:aeT)(N m0:Nat)(ops:Array Oper)(A:List Nat)(s:XS):Option XS:=
 match lh T O N ops A 0 ops.toList s.env s.mem [] with
 |none=>none
 |some (R,env,mem)=>
  if aO A 0 R then some ⟨env,mem,s.ae9||R.any fun r=>r.wr.any fun b=>decide (b<m0)⟩ else none
def lg(T:TypeId→Option TyI)(O:aeT)(N m0:Nat)(ops:Array Oper)(s:XS):Option XS:=aB T O N m0 ops s
theorem iL:∀{A:Nat}{R:List Rec}{f:Nat×Rec},f∈aJ A R→A≤f.1∧f.1<A+R.length
 |_,[],f,h=>by simp[aJ] at h
 |A,r::R,f,h=>by
  simp only[aJ,List.mem_cons] at h;rcases h with rfl | h
  ·simp
  ·have:=iL h
   simp only[List.length_cons];omega
structure af9 (bs:List Nat)(n:Nat)(f:Nat×Rec):Prop where
 len:f.2.nx.length=f.2.mem.length
 refs:f.2.v.aeR (fun b=>decide (b<f.2.nx.length))=true
 wr:f.2.wr=[]∨(f.1+1=n∧(∀i,i<f.1→bef bs i f.1=true)∧f.2.wr.all (fun b=>eK f.2.tm b&&(match f.2.nx[b]? with | some s=>s.aeR (fun b=>decide (b<f.2.nx.length)) | none=>true))=true)
theorem vV{G:List Nat}:∀{A:Nat}{R:List Rec},aO G A R=true→∀f∈aJ A R,af9 G (A+R.length) f
 |_,[],_,f,hf=>by simp[aJ] at hf
 |A,[r],h,f,hf=>by simp only[aJ,lM] at hf;subst hf;simp only[aO,aP,Bool.and_eq_true,decide_eq_true_eq,if_true] at h;obtain⟨⟨Z,X⟩,h3,W⟩:=h;exact⟨Z,X,.inr ⟨rfl,fun i V=>List.all_eq_true.1 h3 i (List.mem_range.2 V),W⟩⟩
 |A,r::r2::rest,h,f,hf=>by
  simp only[aO,Bool.and_eq_true] at h;rw[aJ,List.mem_cons] at hf;rcases hf with rfl | hf
  ·have Z:=h.1
   simp only[aP,Bool.and_eq_true,decide_eq_true_eq,Bool.false_eq_true,if_false,List.isEmpty_iff] at Z;obtain⟨⟨Z,X⟩,h3⟩:=Z;exact⟨Z,X,.inl h3⟩
  ·have:=vV h.2 f hf
   have e:A+1+(r2::rest).length=A+(r::r2::rest).length:=by simp only[List.length_cons];omega
   rw[e] at this;exact this
variable{bs:List Nat}
theorem OZ{n A:Nat}{un:List (Nat×Rec)}(h:∀f∈un,af9 bs n f):ig A un=fun b=>decide (b<A):=by
 funext b;unfold ig;have:(un.all fun f=> !decide (f.2.mem.length≤b∧b<f.2.nx.length))=true:=List.all_eq_true.2 fun f Z=>by have:=(h f Z).len;simp;omega
 rw[this,Bool.and_true]
theorem DC{R:List Rec}(h:aO bs 0 R=true){f:Nat×Rec}(A:f∈aJ 0 R):gu bs (aJ 0 R) f.1 f.2=true:=by
 have F:=vV h;have X:=F f A;have C:=iL A;unfold gu;have V:∀g∈(aJ 0 R).filter (fun g=>decide (g.1<f.1)&& !bef bs g.1 f.1),af9 bs (0+R.length) g:=fun g S=>F g ((List.mem_filter.1 S).1)
 simp only[OZ V,Bool.and_eq_true];have D:f.2.nx.drop f.2.mem.length=[]:=List.drop_of_length_le (by rw[X.len];exact Nat.le_refl _);refine⟨⟨⟨⟨?_,X.refs⟩,?_⟩,by rw[D];rfl⟩,?_⟩
 ·rcases X.wr with Z | ⟨_,_,Z⟩
  ·rw[Z];rfl
  ·refine List.all_eq_true.2 fun b M=>?_
   have:=List.all_eq_true.1 Z b M;simp only[Bool.and_eq_true] at this;exact this.1
 ·rcases X.wr with Z | ⟨_,_,Z⟩
  ·rw[Z];rfl
  ·refine List.all_eq_true.2 fun b M=>?_
   have:=List.all_eq_true.1 Z b M;simp only[Bool.and_eq_true] at this;exact this.2
 ·refine List.all_eq_true.2 fun g S=>?_
  have O:=V g S;have W:=List.mem_filter.1 S;simp only[Bool.and_eq_true,decide_eq_true_eq,Bool.not_eq_true'] at W;have K:g.2.wr=[]:=by
   rcases O.wr with Z | ⟨Z,_,_⟩
   ·exact Z
   ·have:=iL ((List.mem_filter.1 S).1)
    omega
  have J:f.2.wr=[]:=by
   rcases X.wr with Z | ⟨_,Z,_⟩
   ·exact Z
   ·rw[Z g.1 W.2.1] at W
    exact absurd W.2.2 (by simp)
  rw[K,J,O.len,Nat.sub_self,List.take_zero];rfl
variable{ops:Array Oper}
theorem ag{T:TypeId→Option TyI}{O:aeT}{N m0:Nat}(A:dB ops.toList=bs)(s:XS):
  aB T O N m0 ops s=match aS T O N m0 ops bs s with
   |some s' =>some s'
   |none=>lg T O N m0 ops s:=by
 cases h:aS T O N m0 ops bs s with
 |none=>rfl
 |some s' =>
  simp only;unfold aS at h;unfold aB;simp only;rw[A];split at h
  ·cases h
  ·rename_i R env mem Z
   split at h
   ·rename_i X
    cases h;rw[Z];simp only;rw[if_pos (List.all_eq_true.2 fun f W=>DC X W)]
   ·cases h
def bn:Code→List (Array Oper)
 |.region _ ops true=>[ops]
 |.seq a b=>bn a++bn b
 |.cond _ a b=>bn a++bn b
 |.block _ b=>bn b
 |.loop b=>bn b
 |.rangeFunc _ _ a b=>bn a++bn b
 |_=>[]
def aC(f:Func):List (Array Oper):=match f.body with
 |some c=>bn c
 |none=>[]
variable{f:Func}{l:List Nat}
theorem iY(h:aC f=[ops])(A:(aC f).map (fun o=>dB o.toList)=[l]):dB ops.toList=l:=by rw[h] at A;simpa using A
theorem dj{j:Nat}(h:aC f=[ops])(A:(aC f).map (fun o=>dB o.toList)=[l])(G:ba l j=true):dB ops.toList=l∧ba l j=true:=⟨iY h A,G⟩
theorem BW{o o' :Array Oper}{l' :List Nat}(h:aC f=[o,o'])(A:(aC f).map (fun o=>dB o.toList)=[l,l']):dB o.toList=l∧dB o'.toList=l' :=by rw[h] at A;simpa using A
theorem be{os:List (Array Oper)}{ls:List (List Nat)}(h:aC f=os)(A:(aC f).map (fun o=>dB o.toList)=ls):os.map (fun o=>dB o.toList)=ls:=by rw[←h];exact A
end Go.Eng
namespace Go.Eng
open Go.ChangeMaps (setBlock)
variable{w' :World}
section
variable {P:Program}{T:TypeId→Option TyI}{μ:Nat→Place}{mem:Mem}{base:Nat}{w:World}
theorem yJ(G:ae5 base μ mem w){r:Nat}{m s seen c}(A:w.heap[r]? =some (.mapIter m s seen c)){b:Nat}{s' :aeY}(H:mem[b]? =some s')(hs:s' ≠ .aeP):(μ b).blk≠r:=by
 intro e;have:=G.slot b s' H;cases s' with
 |aeP=>exact hs rfl
 |cells own es cs=>simp only[ae7] at this;obtain⟨_,_,_,Z,_⟩:=this;rw[e,A] at Z;cases Z
 |map es=>simp only[ae7] at this;obtain⟨_,_,Z,_⟩:=this;rw[e,A] at Z;cases Z
 |afr es=>simp only[ae7] at this;obtain⟨_,_,Z,_⟩:=this;rw[e,A] at Z;cases Z
 |loop r=>simp only[ae7] at this;obtain⟨_,Z,_⟩:=this;rw[e,A] at Z;cases Z
theorem ae5.ag9{r:Nat}{m s seen c}{o:Obj}(A:ae5 base μ mem w)(G:w.heap[r]? =some (.mapIter m s seen c)):ae5 base μ mem (setBlock w r o):=by
 refine⟨by simpa [setBlock] using A.ae1,fun b Z X=>?_,A.sep⟩;by_cases W:Z =.aeP
 ·subst W;trivial
 ·refine(A.slot b Z X).mono (Nat.le_refl _) (fun _ _=>rfl) fun _=>?_
  exact Array.getElem?_setIfInBounds_ne (Ne.symm (yJ A G X W))
theorem Step.ag9{m0:Nat}{μ' :Nat→Place}{A :Mem}{r:Nat}{o:Obj}(h:Step m0 μ mem w μ' A w')(G:w.heap.size≤r):Step m0 μ mem w μ' A (setBlock w' r o):=h.shut G
theorem MOk.ag9{h0 r:Nat}{ds:List Deferred}{m s seen c}{o:Obj}(h:MOk P base h0 w ds)(A:w.heap[r]? =some (.mapIter m s seen c))(G:base≤r):MOk P base h0 (setBlock w r o) ds:=by
 refine⟨⟨h.af7.below,?_⟩,h.ae1,by simpa [setBlock] using h.le,fun d X=>?_,h.nodup⟩
 ·have:=h.af7.tab
  unfold Lib.TabIs at this ⊢;rw[←this];refine Qe fun k S=>Array.getElem?_setIfInBounds_ne ?_
  have:=h.af7.below;omega
 ·obtain⟨q,e,W,Z⟩:=h.each d X
  refine⟨q,e,W,?_⟩;have V:r≠q:=by rintro rfl;rw[A] at Z;cases Z
  show(w.heap.setIfInBounds r o)[q]? =_
  rw[Array.getElem?_setIfInBounds_ne V,Z]
theorem O4(hT:cW P T){N:Nat}{ops:Array Oper}{Q:Exit→Act→World→Prop}{rest:List Oper}:∀{l:List Oper}{A G :St}{μ:Nat→Place}{w:World}{a:Act}{m0:Nat}{μ0:Nat→Place}{mem0:Mem}{w0:World}{h0:Nat}{H:Option Nat},
  mN P T N ops l A G →ae5 base μ A.mem w→afo μ A.mem.length A.env a.tmps→a.tmps.size=N→MOk P base h0 w a.defers→m0≤A.mem.length→Step m0 μ0 mem0 w0 μ A.mem w→
  (∀a' w' μ',ae5 base μ' G.mem w' →afo μ' G.mem.length G.env a'.tmps→a'.tmps.size=N→MOk P base h0 w' a'.defers→m0≤G.mem.length→Step m0 μ0 mem0 w0 μ' G.mem w' →wpListIn (Fr H) 0 P ops Q rest a' w')→
  wpListIn (Fr H) 0 P ops Q (l++rest) a w
 | [],A,G,μ,w,a,m0,μ0,mem0,w0,h0,H,h,hH,hR,hN,hdf,hm,hS,hQ=>by simp only[mN] at h;subst h;exact hQ a w μ hH hR hN hdf hm hS
 |o::os,A,G,μ,w,a,m0,μ0,mem0,w0,h0,H,h,hH,hR,hN,hdf,hm,hS,hQ=>by
  obtain⟨b,O,X,M,J⟩:=h;rw[List.cons_append];refine wpListIn_step fun K W=>?_
  rw[oZ hR O];cases b with
  |false=>
   simp only[Bool.false_eq_true,if_false];refine⟨fun _ _=>trivial,?_⟩;refine W _ _ (O4 hT (M rfl) hH (hR.afO hN X (by simp[aeU,aeV,undef])) (by rw[fD];exact hN) (by rw[fQ];exact hdf) hm hS hQ)
  |true=>
   simp only[if_true];obtain⟨v,S,Z,F⟩:=J rfl;refine rA hT hdf.af7 hH hR hN X Z fun V w' μ' q1 q2 q3 q4=>W _ _ ?_
   exact O4 hT F q2 q3 (by rw[fD];exact hN) (by rw[fQ];exact hdf.step hH q4) (Nat.le_trans hm q4.len) (hS.trans (q4.mono hm)) hQ
theorem Ah(a:Act)(d:Nat)(V:Value)(h:d<a.tmps.size):(a.put (some d) V).eval (.tmp d)=V:=by simp[Act.put,Act.eval,h]
variable {tp:Bool}{N m0:Nat}{Q:Exit→St→Prop}
theorem xT{F:Option Nat}{ops:Array Oper}{Q:Exit→Act→World→Prop}{o:Oper}{rest:List Oper}{a:Act}{w:World}{V:Value}(G:o.guard=none)(A:∀c,o.op≠ .defer c)(H:(execOp a.eval o).run P w=.ok (.value V) w')(h:wpListIn (Fr F) 0 P ops Q rest (a.put o.dst V) w'):wpListIn (Fr F) 0 P ops Q (o::rest) a w:=by
 refine wpListIn_plain G fun K Z=>⟨fun _ _=>trivial,?_⟩
 rw[Oper.semAt_eq _ _ _ A,H];exact Z _ _ h
theorem Lr(hT:cW P T){idB out nx idS idA:Nat}{Y abM abj:Array Oper}{pre aaJ:List Oper}{oR oN oX oE:Oper}{R:Code}{G A more H:Nat}{tR tk te:TypeId}{iR:TyI}{mOp:Operand}(hB:Y.toList=pre++[oR])(r1:oR.op=.range tR mOp)(r2:oR.dst=some G)(r3:oR.guard=none)(hTR:T tR=some iR)(hdR:iR.desc=.map tk te)(hS:abM.toList=[oN,oX])(n1:oN.op=.next (.tmp G) false)(n2:oN.dst=some A)(n3:oN.guard=none)(x1:oX.op=.extract (.tmp A) 0)(x2:oX.dst=some more)(x3:oX.guard=none)(hA:abj.toList=oE::aaJ)(e1:oE.op=.entry (.tmp G))(e2:oE.dst=some H)(e3:oE.guard=none)(hbd:G<N∧A<N∧more<N∧H<N)(S':A≠G∧more≠G){st st1:St}{b:Nat}{es:List (AV×AV)}(aat:mN P T N Y pre st st1)(hmo:get st1.env mOp=.map b)(hb:st1.mem[b]? =some (.afr es))(I:List Nat→St→Prop)(h0:I [] ⟨(G,.ptr st1.mem.length 0)::st1.env,st1.mem++[.aeP]⟩)(hI:∀seen s,I seen s→ad s.env G=.ptr st1.mem.length 0∧s.mem[st1.mem.length]? =some .aeP∧s.mem[b]? =some (.afr es))(acv:∀seen s,I seen s→(∀j,j<es.length→j∈seen)→Q .normal ⟨(more,.bool false)::(A,.tuple [.bool false])::s.env,s.mem⟩)(aaS:∀seen s j k v,I seen s→es[j]? =some (k,v)→j∉seen→∃s3,mN P T N abj aaJ ⟨(H,.tuple [k,v])::(more,.bool true)::(A,.tuple [.bool true,k,v])::s.env,s.mem⟩ s3∧
   AWP P tp N (st1.mem.length+1) R s3 fun e s4=>(e=.normal∨e=.exit nx)∧∃s5,afP (st1.mem.length+1) s4 s5∧I (seen++[j]) s5):
  AWP P tp N m0 (.seq (.region idB Y false) (.block out (.loop (.seq (.region idS abM false) (.seq (.cond (.tmp more) .skip (.exit out)) (.block nx (.seq (.region idA abj false) R))))))) st Q:=by
 obtain⟨b1,b2,b3,b4⟩:=hbd;intro ro h0' base μ w a hro hH hR hN hdf hm;refine wpIn_seq (wpIn_region_list ?_);rw[hB];refine O4 hT aat hH hR hN hdf hm (.refl hm) fun a1 w1 μ1 c1 c2 c3 c4 c5 c6=>?_
 have O:=aZ c2 mOp;rw[hmo] at O;simp only[aeU] at O;obtain⟨hbl,O⟩:=O;have hsl:=c1.slot b _ hb;simp only[ae7] at hsl;obtain⟨Z,IR,k1,⟨hck,K⟩,k3,k4⟩:=hsl;subst hck;have hd:=(hT tR iR hTR).desc;rw[hdR] at hd;have X':=run_range_map (P:=P) w1 tR tk te (μ1 b).blk Z Z.size hd k1;refine xT r3 (by rw[r1];intro c e;cases e) (V:=.pointer (some ⟨w1.heap.size,0,none⟩)) (w' :=w1.alloc (.mapIter (some (μ1 b).blk) Z.size #[] Z.size)) (by simp only[execOp,r1,O];simp[X']) (wpListIn_nil ?_);rw[r2];show Code.wpIn (Fr ro) 0 P _ _ _ _
 refine wpIn_block ?_;obtain⟨p1,p2⟩:=c1.push (.mapIter (some (μ1 b).blk) Z.size #[] Z.size) .aeP ⟨w1.heap.size,0,0,0⟩ rfl trivial;have hrw:w.heap.size≤w1.heap.size:=c6.size;have hrb:base≤w1.heap.size:=c1.ae1;obtain⟨X,hmb⟩:=xE ((μ1 b).blk);rw[←hmb] at k1 p1 p2 ⊢;have adP:X<w1.heap.size:=(Array.getElem?_eq_some_iff.1 k1).1;obtain⟨r,hr⟩:=xE w1.heap.size;have aam:∀x∈Z.toList,x.born<Z.size:=by
  intro x B;obtain⟨j,hj⟩:=List.getElem?_of_mem B;have W :Z[j]? =some x:=by simpa using hj
  rw[K j x W];exact(Array.getElem?_eq_some_iff.1 W).1
 have hnd:(Z.toList.map (·.born)).Nodup:=by
  have e:Z.toList.map (·.born)=List.range Z.size:=by
   refine List.ext_getElem? fun i=>?_
   rw[List.getElem?_map,Array.getElem?_toList];cases hi:Z[i]? with
   |none=>
    have:=Array.getElem?_eq_none_iff.1 hi;simp[this]
   |some x=>
    have:=(Array.getElem?_eq_some_iff.1 hi).1;simp[K i x hi,this]
  rw[e];exact List.nodup_range
 refine yV (σ:=Array Nat) (fun seen J w' =>∃P' μ',ae5 base μ' P'.mem w' ∧afo μ' P'.mem.length P'.env J.tmps∧J.tmps.size=N∧MOk P base h0' w' J.defers∧st1.mem.length<P'.mem.length∧
   Step m0 μ st.mem w μ' P'.mem w' ∧μ' st1.mem.length=⟨r,0,0,0⟩∧(μ' b).blk=X∧w'.heap[r]? =some (.mapIter (some X) Z.size seen Z.size)∧w'.heap[X]? =some (.map Z Z.size)∧I seen.toList P')
  (fun seen=>(leftOf Z seen).size) ?_ (s:= #[]) ⟨_,_,p1,?_,?_,?_,?_,c6.trans (p2.mono c5),?_,?_,?_,?_,h0⟩
 ·rintro seen J w' ⟨P',μ',d1,d2,d3,d4,d5,d6,d7,d8,d9,d10,d11⟩
  obtain⟨i1,i2,i3⟩:=hI _ _ d11;have z:J.eval (.tmp G)=.pointer (some ⟨r,0,none⟩):=by have:=d2 G;rw[i1] at this;simp only[aeU,d7] at this;exact this.2
  have hm' :m0≤P'.mem.length:=d6.len;refine wpIn_seq (wpIn_region_list ?_);rw[hS];rcases run_next_at (P:=P) w' oN.type r X Z.size Z.size seen Z Z.size d9 d10 aam (Nat.le_refl _) with⟨l0,X'⟩ | ⟨E,hE,w2,M,X'⟩
  ·refine xT n3 (by rw[n1];intro c e;cases e) (V:=.tuple #[.bool false]) (w' :=w') (by simp only[execOp,n1,z];simp[X']) ?_
   rw[n2];refine xT x3 (by rw[x1];intro c e;cases e) (V:=.bool false) (w' :=w') (by simp only[execOp,x1,Ah J A _ (by omega)];simp[Instr.extract]) (wpListIn_nil ?_);rw[x2];show Code.wpIn (Fr ro) 0 P _ _ _ _
   refine wpIn_seq (wpIn_cond_false (Ah _ _ _ (by rw[fD];omega)) (wpIn_exit ?_));simp only[Exit.then,Exit.inBlock,if_true];refine⟨⟨(more,.bool false)::(A,.tuple [.bool false])::P'.env,P'.mem⟩,μ',d1,?_,by rw[fD,fD];exact d3,by rw[fQ,fQ];exact d4,hm',d6,acv _ _ d11 fun j hj=>?_⟩
   ·exact afo.put (afo.put d2 (by omega) (by simp[aeU,aeV])) (by rw[fD];omega) (by simp[aeU])
   ·have FS:j<Z.size:=by omega
    have:=all_seen Z seen l0 Z[j] (by simp);rw[K j _ (by simp[FS])] at this;simpa using this
  ·obtain⟨hem,u⟩:=mem_left hE
   obtain⟨j,hj⟩:=List.getElem?_of_mem hem;have W :Z[j]? =some E:=by simpa using hj
   have hbj:=K j E W;have hjl:j<es.length:=by have:=(Array.getElem?_eq_some_iff.1 W).1;omega
   have adb :=d1.slot b _ i3;simp only[ae7] at adb;obtain⟨aac,aaa,g1,_,_,g4⟩:=adb;rw[d8,d10] at g1;cases g1;obtain⟨E',hE',hk,hv⟩:=g4 j es[j] (by simp[hjl]);rw[W] at hE';cases hE';have hH2:ae5 base μ' P'.mem w2:=by rcases M with rfl | rfl<;>first | exact d1 | exact d1.drew
   have hS2:Step m0 μ st.mem w μ' P'.mem w2:=by rcases M with rfl | rfl<;>first | exact d6 | exact d6.trans ((Step.drew (Nat.le_refl _)).mono hm')
   have hM2:MOk P base h0' w2 J.defers:=by rcases M with rfl | rfl<;>first | exact d4 | exact d4.step d1 (Step.drew (Nat.le_refl _))
   have m:w2.heap[r]? =some (.mapIter (some X) Z.size seen Z.size):=by rcases M with rfl | rfl<;>exact d9
   have adQ:w2.heap[X]? =some (.map Z Z.size):=by rcases M with rfl | rfl<;>exact d10
   have F:=hH2.ag9 (o:=.mapIter (some X) Z.size (seen.push E.born) Z.size) m;have hS3:=hS2.ag9 (r:=r) (o:=.mapIter (some X) Z.size (seen.push E.born) Z.size) (by omega);have hM3:=hM2.ag9 (o:=.mapIter (some X) Z.size (seen.push E.born) Z.size) m (by omega);have hrl:r<w2.heap.size:=(Array.getElem?_eq_some_iff.1 m).1;have D:(setBlock w2 r (.mapIter (some X) Z.size (seen.push E.born) Z.size)).heap[r]? =some (.mapIter (some X) Z.size (seen.push E.born) Z.size):=by simp[setBlock,hrl]
   have C:(setBlock w2 r (.mapIter (some X) Z.size (seen.push E.born) Z.size)).heap[X]? =some (.map Z Z.size):=by rw[←adQ];exact Array.getElem?_setIfInBounds_ne (by omega)
   obtain⟨w3,hw3⟩:=xE (setBlock w2 r (.mapIter (some X) Z.size (seen.push E.born) Z.size));rw[←hw3] at F hS3 hM3 D C X';refine xT n3 (by rw[n1];intro c e;cases e) (V:=.tuple #[.bool true,E.key,E.val]) (w' :=w3) (by simp only[execOp,n1,z];simp[X']) ?_;rw[n2];refine xT x3 (by rw[x1];intro c e;cases e) (V:=.bool true) (w' :=w3) (by simp only[execOp,x1,Ah J A _ (by omega)];simp[Instr.extract]) (wpListIn_nil ?_);rw[x2];show Code.wpIn (Fr ro) 0 P _ _ _ _
   refine wpIn_seq (wpIn_cond_true (Ah _ _ _ (by rw[fD];omega)) (wpIn_skip ?_));show Code.wpIn (Fr ro) 0 P _ _ _ _
   refine wpIn_block (wpIn_seq (wpIn_region_list ?_));rw[hA];have hev:((J.put (some A) (.tuple #[.bool true,E.key,E.val])).put (some more) (.bool true)).eval (.tmp G)=.pointer (some ⟨r,0,none⟩):=by rw[←z];simp[Act.put,Act.eval,Array.getElem?_setIfInBounds_ne S'.1,Array.getElem?_setIfInBounds_ne S'.2]
   have hen:=run_entry_at (P:=P) w3 r X Z.size seen Z Z.size E D C hem hnd;refine xT e3 (by rw[e1];intro c e;cases e) (V:=.tuple #[E.key,E.val]) (w' :=w3) (by simp only[execOp,e1,hev];simp[hen]) ?_;rw[e2];have hkv:es[j]? =some (es[j].1,es[j].2):=by simp[hjl]
   have hnj:j∉seen.toList:=by
    intro aas;rw[hbj] at u;have:seen.contains j=true:=by simpa using aas
    rw[this] at u;cases u
   obtain⟨s3,Do,acU⟩:=aaS _ _ j _ _ d11 hkv hnj;have hT1:=afo.put d2 (d:=A) (by omega) (V:=.tuple #[.bool true,E.key,E.val]) (v:=.tuple [.bool true,es[j].1,es[j].2]) (by simp only[aeU];exact⟨_,rfl,br.2 ⟨by simp[aeU],br.2 ⟨hk,br.2 ⟨hv,by simp[aeV]⟩⟩⟩⟩);have hT2:=afo.put hT1 (d:=more) (by rw[fD];omega) (V:=.bool true) (v:=.bool true) (by simp[aeU]);have hT3:=afo.put hT2 (d:=H) (by rw[fD,fD];omega) (V:=.tuple #[E.key,E.val]) (v:=.tuple [es[j].1,es[j].2]) (by simp only[aeU];exact⟨_,rfl,br.2 ⟨hk,br.2 ⟨hv,by simp[aeV]⟩⟩⟩);have H':st1.mem.length+1≤P'.mem.length:=by omega
   refine wk (m0:=st1.mem.length+1) (μ0:=μ') (mem0:=P'.mem) (w0:=w3) hT Do F hT3 (by rw[fD,fD,fD];exact d3) (by rw[fQ,fQ,fQ];exact hM3) H' (.refl H') fun a4 w4 μ4 f1 f2 f3 f4 f5 f6=>?_
   show Code.wpIn (Fr ro) 0 P _ _ _ _
   refine wpIn_mono (acU ro h0' base μ4 w4 a4 hro f1 f2 f3 f4 f5) ?_;rintro e a5 w5 ⟨s4,μ5,y1,y2,y3,y4,y5,y6,hee,s5,hwk,hI5⟩;obtain⟨μ6,z1,z2,z3,z4⟩:=hwk base μ5 w5 a5.tmps y1 y2 y5;have S:=(f6.trans y6).trans z4;have hbb:b<st1.mem.length:=gL hb;have fin:∃s',(∃P' μ',ae5 base μ' P'.mem w5∧afo μ' P'.mem.length P'.env a5.tmps∧a5.tmps.size=N∧MOk P base h0' w5 a5.defers∧st1.mem.length<P'.mem.length∧
     Step m0 μ st.mem w μ' P'.mem w5∧μ' st1.mem.length=⟨r,0,0,0⟩∧(μ' b).blk=X∧w5.heap[r]? =some (.mapIter (some X) Z.size s' Z.size)∧w5.heap[X]? =some (.map Z Z.size)∧I s'.toList P')∧
     (leftOf Z s').size<(leftOf Z seen).size:=by
    refine⟨seen.push E.born,⟨s5,μ6,z1,z2,y3,y4,z3,hS3.trans (S.mono (by have:=c5;omega)),?_,?_,?_,?_,?_⟩,left_shrinks Z seen E hE⟩
    ·rw[S.agree _ (by omega),d7]
    ·rw[S.agree _ (by omega),d8]
    ·rw[S.frame r (by rw[hw3];simpa [setBlock] using hrl) fun x B=>by obtain⟨sx,q1,q2⟩:=B;exact yJ F D q1 (aeY.aft q2)]
     exact D
    ·rw[S.frame X (Array.getElem?_eq_some_iff.1 C).1 fun x B=>?_]
     ·exact C
     ·rw[←d8]
      refine F.sep x b _ B i3 (by simp) ?_;rintro rfl;obtain⟨sx,q1,q2⟩:=B;rw[i3] at q1;cases q1;cases q2
    ·rw[Array.toList_push,hbj];exact hI5
   rcases hee with rfl | rfl
   ·exact fin
   ·simp only[Exit.inBlock,if_true];exact fin
 ·refine afo.put (c2.mono (by simp) fun x B=>wE B) (by omega) ?_
  simp only[aeU,List.length_append,List.length_singleton,eX];exact⟨by omega,trivial⟩
 ·rw[fD];exact c3
 ·rw[fQ];exact c4.step c1 p2
 ·simp
 ·rw[eX,hr]
 ·have hbb:b<st1.mem.length:=gL hb
  rw[wE hbb];exact hmb.symm
 ·rw[hr];exact heap_alloc_new w1 _
 ·rw[gR w1 _ adP];exact k1
end
end Go.Eng
namespace Go.Eng
theorem CC{m:Nat}:∀{env:Env},(env.all fun e=>(e.2.refs m).isEmpty)=true→∀t,(ad env t).refs m=[]
 | [],_,t=>by simp[ad,AV.refs]
 |(k,v)::r,h,t=>by
  simp only[List.all_cons,Bool.and_eq_true,List.isEmpty_iff] at h;simp only[ad];split
  ·exact h.1
  ·exact CC h.2 t
variable{s:XS}
section
variable {P:Program}{T:TypeId→Option TyI}{O:aeT}{tp:Bool}{N m0 K:Nat}{lv:Code→List Nat}{Q:Exit→St→Prop}
section
variable (hm:P.follows .mixedOrders=true)(hT:cW P T)(hO:HS P O)
include hm hT hO
theorem vM{c:Code}{s' :XS}{e:Exit}(hs:dK c=true)(h:aM T lv O K N m0 tp c s=some (e,s'))(hq:Q e ⟨s'.env,s'.mem⟩):AWP P tp N m0 c ⟨s.env,s.mem⟩ Q:=
 (dw hm hT hO hs h).1 Q hq
theorem Ou{idB out nx idS idA:Nat}{I abM Y:Array Oper}{aaJ:List Oper}{oR oN oX oE:Oper}{G:Code}{H A more R:Nat}{tR tk te:TypeId}{iR:TyI}{mOp:Operand}(hB:I.toList=I.toList.dropLast++[oR])(r1:oR.op=.range tR mOp)(r2:oR.dst=some H)(r3:oR.guard=none)(hTR:T tR=some iR)(hdR:iR.desc=.map tk te)(hS:abM.toList=[oN,oX])(n1:oN.op=.next (.tmp H) false)(n2:oN.dst=some A)(n3:oN.guard=none)(x1:oX.op=.extract (.tmp A) 0)(x2:oX.dst=some more)(x3:oX.guard=none)(hA:Y.toList=oE::aaJ)(e1:oE.op=.entry (.tmp H))(e2:oE.dst=some R)(e3:oE.guard=none)(hbd:H<N∧A<N∧more<N∧R<N)(S':A≠H∧more≠H)(hst:dK G=true){s1:XS}{b:Nat}{es:List (AV×AV)}(aat:fa T O N m0 I I.toList.dropLast s=some s1)(hmo:get s1.env mOp=.map b)(hb:s1.mem[b]? =some (.afr es))(lw wr:List Nat)(V:List Nat→Nat→AV)(M:List Nat→Mem)(Inv:List Nat→Prop)(hwr:wr=R::more::A::(aaJ.filterMap (·.dst)++ab G))(hit:H∉wr)(acV:(((H,AV.ptr s1.mem.length 0)::s1.env).all fun e=>(e.2.refs (s1.mem.length+1)).isEmpty)=true)(hM:∀seen,Inv seen→(M seen).length=s1.mem.length+1∧(M seen)[s1.mem.length]? =some .aeP∧(M seen)[b]? =some (.afr es)∧∀x∈M seen,x.refs (s1.mem.length+1)=[])(hV:∀seen t,Inv seen→t∈lw→(V seen t).refs (s1.mem.length+1)=[])(h0:Inv []∧M []=s1.mem++[.aeP]∧∀t∈lw,ad ((H,AV.ptr s1.mem.length 0)::s1.env) t=V [] t)(acv:∀seen env,Inv seen→afx wr ((H,AV.ptr s1.mem.length 0)::s1.env) env→(∀t∈lw,ad env t=V seen t)→(∀j,j<es.length→j∈seen)→Q .normal ⟨(more,.bool false)::(A,.tuple [.bool false])::env,M seen⟩)(aaS:∀seen env j k v,Inv seen→afx wr ((H,AV.ptr s1.mem.length 0)::s1.env) env→(∀t∈lw,ad env t=V seen t)→es[j]? =some (k,v)→j∉seen→∃W e X,fa T O N (s1.mem.length+1) Y aaJ ⟨(R,.tuple [k,v])::(more,.bool true)::(A,.tuple [.bool true,k,v])::env,M seen,false⟩=some W∧
   aM T lv O K N (s1.mem.length+1) tp G W=some (e,X)∧(e=.normal∨e=.exit nx)∧Inv (seen++[j])∧(∀t∈lw,ad X.env t=V (seen++[j]) t)∧X.mem.take (s1.mem.length+1)=M (seen++[j])):
  AWP P tp N m0 (.seq (.region idB I false) (.block out (.loop (.seq (.region idS abM false) (.seq (.cond (.tmp more) .skip (.exit out)) (.block nx (.seq (.region idA Y false) G))))))) ⟨s.env,s.mem⟩ Q:=by
 have J:=CC acV;refine Lr (st1:=⟨s1.env,s1.mem⟩) hT hB r1 r2 r3 hTR hdR hS n1 n2 n3 x1 x2 x3 hA e1 e2 e3 hbd S' (jP hO aat).1 hmo hb
  (fun seen S=>Inv seen∧afx wr ((H,AV.ptr s1.mem.length 0)::s1.env) S.env∧(∀t∈lw,ad S.env t=V seen t)∧S.mem=M seen) ⟨h0.1,.refl _ _,h0.2.2,h0.2.1.symm⟩ ?_ ?_ ?_
 ·rintro seen S ⟨i1,i2,i3,i4⟩
  obtain⟨C,B,z,_⟩:=hM seen i1;refine⟨?_,by rw[i4];exact B,by rw[i4];exact z⟩;rw[i2 H hit];simp[ad]
 ·rintro seen ⟨env,mem⟩ ⟨i1,i2,i3,i4⟩ PP
  have:=acv seen env i1 i2 i3 PP;simp only at i4 ⊢;rw[i4];exact this
 ·rintro seen ⟨env,mem⟩ j k v ⟨i1,i2,i3,i4⟩ hj hns
  simp only at i2 i3 i4;subst i4;obtain⟨W,e,X,u,m,k3,F,k5,k6⟩:=aaS seen env j k v i1 i2 i3 hj hns;refine⟨⟨W.env,W.mem⟩,(jP hO u).1,?_⟩;refine AWP.assume fun H' _=>?_
  refine vM hm hT hO hst m ⟨k3,?_⟩;obtain⟨C,B,z,j4⟩:=hM _ F;have aeC :s1.mem.length+1≤X.mem.length:=by have h1:=congrArg List.length k6;rw[List.length_take,C] at h1;omega
  have D:afx wr ((H,AV.ptr s1.mem.length 0)::s1.env) X.env:=by
   have q1:=(oW u).mono (wr' :=wr) (by intro t Z;rw[hwr];simp[Z]);have q2:=(fP hO m).mono (wr' :=wr) (by intro t Z;rw[hwr];simp[Z]);intro t Z;rw[q2 t Z,q1 t Z,←i2 t Z];have:t≠R∧t≠more∧t≠A:=by rw[hwr] at Z;simp only[List.mem_cons,not_or] at Z;exact⟨Z.1,Z.2.1,Z.2.2.1⟩
   simp[ad,Ne.symm this.1,Ne.symm this.2.1,Ne.symm this.2.2]
  refine⟨_,afP.ae4 [] (by simp[L3]),F,?_,?_,?_⟩
  ·intro t Z
   simp only[iG];rw[D t Z,AV.afh (J t)]
  ·intro t Z
   simp only[iG];rw[k5 t Z,AV.afh (hV _ t F Z)]
  ·simp only[ae4,afI,List.map_nil,List.append_nil,k6]
   conv=>rhs;rw[←List.map_id (M (seen++[j]))]
   exact List.map_congr_left fun x hx=>aeY.afh (j4 x hx)
end
end
end Go.Eng
namespace Go.Eng
abbrev Sd:=(Int×Int)×Int
def sdE(s:Sd):AV×AV:=(.agg [.int .i64 s.1.1,.int .i64 s.1.2],.int .i64 s.2)
def nxE(p:Int×Int):AV×AV:=(.int .i64 p.1,.int .i64 p.2)
def pE:List (Int×Int)→Int→Option Int
 | [],_=>none
 |p::l,a=>if a=p.1 then some p.2 else pE l a
def RW:List Sd→Int×Int→Option Int
 | [],_=>none
 |s::l,a=>if a.1=s.1.1∧a.2=s.1.2 then some s.2 else RW l a
def bAt(ks:List Sd)(j:Nat):Option (Int×Int):=match ks[j]? with
 |some s=>if (RW ks (s.1.2,s.1.1)).isSome then none else some s.1
 |none=>none
def sM(ks:List Sd):List (Int×Int):=(List.range ks.length).filterMap (bAt ks)
def Am(f:Int):List (Int×Int)→Int
 | []=>f
 |p::l=>Am (if f<0∨p.1<f then p.1 else f) l
theorem OW(f:Int):∀(l m:List (Int×Int)),Am f (l++m)=Am (Am f l) m:=by
 intro l;induction l generalizing f with
 |nil=>intro m;rfl
 |cons p l ih=>intro m;exact ih _ m
theorem Co:∀(l:List (Int×Int))(f:Int),(∀p∈l,0≤p.1)→(0≤f∨l≠[])→0≤Am f l∧(Am f l=f∨∃p∈l,Am f l=p.1)∧(0≤f→Am f l≤f)∧∀p∈l,Am f l≤p.1
 | [],f,_,h=>by have:0≤f:=h.resolve_right (by simp);exact⟨this,.inl rfl,fun _=>Int.le_refl _,by simp⟩
 |p::l,f,hp,_=>by
  have X:=hp p (by simp);have W:=Co l (if f<0∨p.1<f then p.1 else f) (fun q hq=>hp q (by simp[hq])) (.inl (by split<;>omega));obtain⟨V,S,Z,O⟩:=W;have M:(0:Int)≤(if f<0∨p.1<f then p.1 else f):=by split<;>omega
  have Z:=Z M;simp only[Am];refine⟨V,?_,fun K=>?_,fun q hq=>?_⟩
  ·rcases S with h | ⟨q,hq,h⟩
   ·rw[h]
    split
    ·exact .inr ⟨p,by simp,rfl⟩
    ·exact .inl rfl
   ·exact .inr ⟨q,by simp[hq],h⟩
  ·refine Int.le_trans Z ?_
   split<;>omega
  ·rcases List.mem_cons.1 hq with rfl | hq
   ·refine Int.le_trans Z ?_
    split<;>omega
   ·exact O q hq
theorem UJ{l m:List (Int×Int)}(h:l.Perm m)(A:∀p∈l,0≤p.1):Am (-1) l=Am (-1) m:=by
 by_cases Z:l=[]
 ·subst Z
  rw[List.nil_perm.1 h]
 ·have X:m≠[]:=by rintro rfl;exact Z (List.perm_nil.1 h)
  have W:∀p∈m,0≤p.1:=fun p hq=>A p (h.mem_iff.2 hq)
  obtain⟨C,O,_,M⟩:=Co l (-1) A (.inr Z);obtain⟨B,K,_,J⟩:=Co m (-1) W (.inr X);obtain⟨p,V,F⟩:=O.resolve_left (by omega);obtain⟨q,S,D⟩:=K.resolve_left (by omega);have z:=J p (h.mem_iff.1 V);have u:=M q (h.mem_iff.2 S);omega
variable{a b:Int}
theorem UI{l:List (Int×Int)}(h:pE l a=some b):(a,b)∈l:=by
 induction l with
 |nil=>cases h
 |cons p l ih=>
  rw[pE] at h;split at h
  next e=>cases h;subst e;simp
  ·simp[ih h]
theorem EA{l:List (Int×Int)}(h:∀p∈l,p.1≠a):pE l a=none:=by
 induction l with
 |nil=>rfl
 |cons p l ih=>
  rw[pE,if_neg (fun e=>h p (by simp) e.symm)];exact ih fun q hq=>h q (by simp[hq])
theorem yB{l:List (Int×Int)}(A:∀p∈l,∀q∈l,p.1=q.1→p=q)(h:(a,b)∈l):pE l a=some b:=by
 induction l with
 |nil=>cases h
 |cons p l ih=>
  rw[pE];split
  ·rename_i e
   have:=A p (by simp) (a,b) h e.symm;rw[this]
  ·rename_i e
   rcases List.mem_cons.1 h with rfl | h
   ·exact absurd rfl e
   ·exact ih (fun p Z q hq=>A p (by simp[Z]) q (by simp[hq])) h
theorem RV{l m:List (Int×Int)}(h:l.Perm m)(A:∀p∈l,∀q∈l,p.1=q.1→p=q)(a:Int):pE l a=pE m a:=by
 have Z :∀p∈m,∀q∈m,p.1=q.1→p=q:=fun p X q hq=>A p (h.mem_iff.2 X) q (h.mem_iff.2 hq)
 cases hb:pE m a with
 |some b=>exact yB A (h.mem_iff.2 (UI hb))
 |none=>
  refine EA fun p X e=>?_
  have:=yB Z (a:=a) (b:=p.2) (by rw[←e];exact h.mem_iff.1 X);rw[hb] at this;cases this
def XI(ks:List Sd):Prop:=∀i j p q,bAt ks i=some p→bAt ks j=some q→p.1=q.1→i=j
def cT(ks:List Sd)(seen:List Nat):List (Int×Int):=seen.filterMap (bAt ks)
variable{j:Nat}{ks:List Sd}{p:Int×Int}
theorem TZ(h:bAt ks j=some p):j<ks.length:=by
 unfold bAt at h;split at h
 next s Z=>exact(gL Z)
 ·cases h
variable{seen:List Nat}
theorem MM(A:seen.Nodup)(G:∀j∈seen,j<ks.length)(H:∀j,j<ks.length→j∈seen):(cT ks seen).Perm (sM ks):=by
 refine List.Perm.filterMap _ ?_;refine(List.perm_ext_iff_of_nodup A List.nodup_range).2 fun j=>?_
 simp only[List.mem_range];exact⟨G j,H j⟩
theorem Hn(A:XI ks)(G:j∉seen)(H:bAt ks j=some p):pE (cT ks seen) p.1=none:=by
 refine EA fun q hq e=>?_
 obtain⟨i,X,Z⟩:=List.mem_filterMap.1 hq;have:=A i j q p Z H e;subst this;exact G X
theorem Ho(A:XI ks):∀p∈cT ks seen,∀q∈cT ks seen,p.1=q.1→p=q:=by intro p W q hq e;obtain⟨i,_,X⟩:=List.mem_filterMap.1 W;obtain⟨j,_,Z⟩:=List.mem_filterMap.1 hq;have:=A i j p q X Z e;subst this;rw[X] at Z;cases Z;rfl
def wG(B:List (Int×Int))(first:Int):Nat→Int→List Int→Option (List Int)
 |0,_,out=>some out
 |n+1,a,out=>match pE B a with
  |none=>none
  |some b=>if a=first∧out≠[] then none else wG B first n b (out++[a])
def BR(B:List (Int×Int)):Option (List Int):=wG B (Am (-1) B) B.length (Am (-1) B) []
def uN(ks:List Sd):Bool:=
 let B:=sM ks
 decide (B≠[])&&decide ((B.map (·.1)).Nodup)&&B.all (fun p=>decide (0≤p.1))&&decide (ks.length≤1000000)
theorem T1{i:Nat}{q:Int×Int}(H:((sM ks).map (·.1)).Nodup)(A:bAt ks i=some p)(G:bAt ks j=some q)(e:p.1=q.1):i=j:=by
 have O:∀(l:List Nat),l.Nodup→((l.filterMap (bAt ks)).map (·.1)).Nodup→i∈l→j∈l→i=j:=by
  intro l;induction l with
  |nil=>intro _ _ h;cases h
  |cons a l ih=>
   intro M Z X W;have V :=(List.nodup_cons.1 M).2;rw[List.filterMap_cons] at Z;cases ha:bAt ks a with
   |none=>
    rw[ha] at Z;have K:i≠a:=by rintro rfl;rw[A] at ha;cases ha
    have J:j≠a:=by rintro rfl;rw[G] at ha;cases ha
    exact ih V Z ((List.mem_cons.1 X).resolve_left K) ((List.mem_cons.1 W).resolve_left J)
   |some r=>
    rw[ha] at Z;simp only[List.map_cons,List.nodup_cons] at Z;have S:∀k s,k∈l→bAt ks k=some s→s.1≠r.1:=by intro k s F D h;exact Z.1 (List.mem_map.2 ⟨s,List.mem_filterMap.2 ⟨k,F,D⟩,h⟩)
    rcases List.mem_cons.1 X with X | X<;>rcases List.mem_cons.1 W with W | W
    ·rw[X,W]
    ·rw[←X,A] at ha;cases ha;exact absurd e.symm (S j q W G)
    ·rw[←W,G] at ha;cases ha;exact absurd e (S i p X A)
    ·exact ih V Z.2 X W
 exact O _ List.nodup_range H (List.mem_range.2 (TZ A)) (List.mem_range.2 (TZ G))
theorem Mh(h:uN ks=true):sM ks≠[]∧XI ks∧(∀p∈sM ks,0≤p.1)∧ks.length≤1000000:=by simp only[uN,Bool.and_eq_true,decide_eq_true_eq,List.all_eq_true] at h;obtain⟨⟨⟨Z,X⟩,h3⟩,W⟩:=h;exact⟨Z,fun i j p q V S e=>T1 X V S e,h3,W⟩
theorem Sk(h:∀p∈sM ks,0≤p.1):∀p∈cT ks seen,0≤p.1:=by intro p X;obtain⟨i,_,Z⟩:=List.mem_filterMap.1 X;exact h p (List.mem_filterMap.2 ⟨i,List.mem_range.2 (TZ Z),Z⟩)
theorem yU{B:List (Int×Int)}{first:Int}:∀{n:Nat}{a:Int}{A G:List Int},wG B first n a A=some G→G.length=A.length+n
 |0,a,A,G,h=>by simp only[wG,Option.some.injEq] at h;subst h;rfl
 |n+1,a,A,G,h=>by
  rw[wG] at h;split at h
  ·cases h
  ·split at h
   ·cases h
   ·have:=yU h
    simp at this;omega
def Ls(A:List Nat)(n j:Nat):Bool:=ba A j&&(List.range n).all fun k=>decide (k≤j)||bef A j k
def bR(r:Rec):Bool:=decide (r.nx.length=r.mem.length)&&r.wr.isEmpty
def yo(A:List Nat)(n j:Nat)(r:Rec):Bool:=
 r.v.aeR (fun b=>decide (b<r.nx.length))&&
  (bR r||(Ls A n j&&r.wr.all (fun b=>eK r.tm b&&(match r.nx[b]? with | some s=>s.aeR (fun b=>decide (b<r.nx.length)) | none=>true))&&
   (r.nx.drop r.mem.length).all fun s=>(s.own||match s with | .aeP=>true | _=>false)&&s.aeR (fun b=>decide (b<r.nx.length))))
def qR(A:List Nat)(n:Nat):Nat→List Rec→Bool
 |_,[]=>true
 |j,r::rest=>yo A n j r&&qR A n (j+1) rest
def kx(T:TypeId→Option TyI)(O:aeT)(N m0:Nat)(ops:Array Oper)(A:List Nat)(s:XS):Option XS:=
 match lh T O N ops A 0 ops.toList s.env s.mem [] with
 |none=>none
 |some (R,env,mem)=>
  if qR A R.length 0 R then some ⟨env,mem,s.ae9||R.any fun r=>r.wr.any fun b=>decide (b<m0)⟩ else none
structure ahq (bs:List Nat)(n:Nat)(f:Nat×Rec):Prop where
 refs:f.2.v.aeR (fun b=>decide (b<f.2.nx.length))=true
 or:(f.2.nx.length=f.2.mem.length∧f.2.wr=[])∨((∀i,i<f.1→bef bs i f.1=true)∧(∀k,f.1<k→k<n→bef bs f.1 k=true)∧
  f.2.wr.all (fun b=>eK f.2.tm b&&(match f.2.nx[b]? with | some s=>s.aeR (fun b=>decide (b<f.2.nx.length)) | none=>true))=true∧
  ((f.2.nx.drop f.2.mem.length).all fun s=>(s.own||match s with | .aeP=>true | _=>false)&&s.aeR (fun b=>decide (b<f.2.nx.length)))=true)
theorem BL{G:List Nat}{n:Nat}:∀{A:Nat}{R:List Rec},qR G n A R=true→∀f∈aJ A R,ahq G n f
 |_,[],_,f,hf=>by simp[aJ] at hf
 |A,r::rest,h,f,hf=>by
  simp only[qR,Bool.and_eq_true] at h;rw[aJ,List.mem_cons] at hf;rcases hf with rfl | hf
  ·have X:=h.1
   simp only[yo,bR,Ls,Bool.and_eq_true,Bool.or_eq_true,decide_eq_true_eq,List.isEmpty_iff] at X;obtain⟨X,Z⟩:=X;refine⟨X,?_⟩;rcases Z with Z | ⟨⟨⟨Z,h3⟩,V⟩,S⟩
   ·exact .inl Z
   ·refine .inr ⟨fun i O=>List.all_eq_true.1 Z i (List.mem_range.2 O),fun k M W=>?_,V,S⟩
    have:=List.all_eq_true.1 h3 k (List.mem_range.2 W);simp only[Bool.or_eq_true,decide_eq_true_eq] at this;rcases this with h6 | h6
    ·omega
    ·exact h6
  ·exact BL h.2 f hf
variable{R:List Rec}
theorem Lw{A:List Nat}(h:qR A R.length 0 R=true){f:Nat×Rec}(G:f∈aJ 0 R):gu A (aJ 0 R) f.1 f.2=true:=by
 have J:=BL h;have X:=J f G;have z:=iL G;unfold gu;have hq:∀g∈(aJ 0 R).filter (fun g=>decide (g.1<f.1)&& !bef A g.1 f.1),g.2.nx.length=g.2.mem.length∧g.2.wr=[]:=by
  intro g W;have Z:=List.mem_filter.1 W;simp only[Bool.and_eq_true,decide_eq_true_eq,Bool.not_eq_true'] at Z;rcases (J g Z.1).or with V | ⟨_,V,_⟩
  ·exact V
  ·have:=V f.1 Z.2.1 (by omega)
   rw[this] at Z;exact absurd Z.2.2 (by simp)
 have O:∀S,ig S ((aJ 0 R).filter fun g=>decide (g.1<f.1)&& !bef A g.1 f.1)=fun b=>decide (b<S):=by
  intro S;funext b;unfold ig;have:(((aJ 0 R).filter fun g=>decide (g.1<f.1)&& !bef A g.1 f.1).all fun f=> !decide (f.2.mem.length≤b∧b<f.2.nx.length))=true:=List.all_eq_true.2 fun g W=>by have:=(hq g W).1;simp;omega
  rw[this,Bool.and_true]
 simp only[O,Bool.and_eq_true];rcases X.or with⟨V,M⟩ | ⟨V,_,h3,F⟩
 ·have D:f.2.nx.drop f.2.mem.length=[]:=List.drop_of_length_le (by rw[V];exact Nat.le_refl _)
  refine⟨⟨⟨⟨by rw[M];rfl,X.refs⟩,by rw[M];rfl⟩,by rw[D];rfl⟩,?_⟩;refine List.all_eq_true.2 fun g W=>?_
  obtain⟨C,B⟩:=hq g W;rw[B,M,C,Nat.sub_self,List.take_zero];rfl
 ·refine⟨⟨⟨⟨?_,X.refs⟩,?_⟩,F⟩,?_⟩
  ·refine List.all_eq_true.2 fun b K=>?_
   have:=List.all_eq_true.1 h3 b K;simp only[Bool.and_eq_true] at this;exact this.1
  ·refine List.all_eq_true.2 fun b K=>?_
   have:=List.all_eq_true.1 h3 b K;simp only[Bool.and_eq_true] at this;exact this.2
  ·refine List.all_eq_true.2 fun g W=>?_
   have Z:=List.mem_filter.1 W;simp only[Bool.and_eq_true,decide_eq_true_eq,Bool.not_eq_true'] at Z;rw[V g.1 Z.2.1] at Z;exact absurd Z.2.2 (by simp)
variable{N m0:Nat}{O:aeT}
theorem ju{T:TypeId→Option TyI}{ops:Array Oper}{A:List Nat}(G:dB ops.toList=A)(s:XS):
  aB T O N m0 ops s=match kx T O N m0 ops A s with
   |some s' =>some s'
   |none=>lg T O N m0 ops s:=by
 cases h:kx T O N m0 ops A s with
 |none=>rfl
 |some s' =>
  simp only;unfold kx at h;unfold aB;simp only;rw[G];split at h
  ·cases h
  ·rename_i R env mem Z
   split at h
   ·rename_i X
    cases h;rw[Z];simp only;rw[if_pos (List.all_eq_true.2 fun f W=>Lw X W)]
   ·cases h
def qQ(A:List Nat)(n j:Nat):Bool:=(List.range n).all fun k=>decide (k≤j)||bef A j k
def yD(A:List Nat)(n j:Nat)(r:Rec):Bool:=
 r.v.aeR (fun b=>decide (b<r.nx.length))&&
  (bR r||(qQ A n j&&(r.wr.isEmpty||(ba A j&&r.wr.all (fun b=>eK r.tm b&&(match r.nx[b]? with | some s=>s.aeR (fun b=>decide (b<r.nx.length)) | none=>true))))&&
   (r.nx.drop r.mem.length).all fun s=>(s.own||match s with | .aeP=>true | _=>false)&&s.aeR (fun b=>decide (b<r.nx.length))))
def rn(A:List Nat)(n:Nat):Nat→List Rec→Bool
 |_,[]=>true
 |j,r::rest=>yD A n j r&&rn A n (j+1) rest
def ky(T:TypeId→Option TyI)(O:aeT)(N m0:Nat)(ops:Array Oper)(A:List Nat)(s:XS):Option XS:=
 match lh T O N ops A 0 ops.toList s.env s.mem [] with
 |none=>none
 |some (R,env,mem)=>
  if rn A R.length 0 R then some ⟨env,mem,s.ae9||R.any fun r=>r.wr.any fun b=>decide (b<m0)⟩ else none
structure ahr (bs:List Nat)(n:Nat)(f:Nat×Rec):Prop where
 refs:f.2.v.aeR (fun b=>decide (b<f.2.nx.length))=true
 or:(f.2.nx.length=f.2.mem.length∧f.2.wr=[])∨((f.2.wr=[]∨∀i,i<f.1→bef bs i f.1=true)∧(∀k,f.1<k→k<n→bef bs f.1 k=true)∧
  f.2.wr.all (fun b=>eK f.2.tm b&&(match f.2.nx[b]? with | some s=>s.aeR (fun b=>decide (b<f.2.nx.length)) | none=>true))=true∧
  ((f.2.nx.drop f.2.mem.length).all fun s=>(s.own||match s with | .aeP=>true | _=>false)&&s.aeR (fun b=>decide (b<f.2.nx.length)))=true)
theorem Ch{G:List Nat}{n:Nat}:∀{A:Nat}{R:List Rec},rn G n A R=true→∀f∈aJ A R,ahr G n f
 |_,[],_,f,hf=>by simp[aJ] at hf
 |A,r::rest,h,f,hf=>by
  simp only[rn,Bool.and_eq_true] at h;rw[aJ,List.mem_cons] at hf;rcases hf with rfl | hf
  ·have X:=h.1
   simp only[yD,bR,qQ,Bool.and_eq_true,Bool.or_eq_true,decide_eq_true_eq,List.isEmpty_iff] at X;obtain⟨X,W⟩:=X;refine⟨X,?_⟩;rcases W with W | ⟨⟨h3,Z⟩,S⟩
   ·exact .inl W
   ·refine .inr ⟨?_,fun k K V=>?_,?_,S⟩
    ·rcases Z with Z | ⟨Z,_⟩
     ·exact .inl Z
     ·exact .inr fun i M=>List.all_eq_true.1 Z i (List.mem_range.2 M)
    ·have:=List.all_eq_true.1 h3 k (List.mem_range.2 V)
     simp only[Bool.or_eq_true,decide_eq_true_eq] at this;rcases this with h6 | h6
     ·omega
     ·exact h6
    ·rcases Z with Z | ⟨_,Z⟩
     ·rw[Z];rfl
     ·exact Z
  ·exact Ch h.2 f hf
theorem Lx{A:List Nat}(h:rn A R.length 0 R=true){f:Nat×Rec}(G:f∈aJ 0 R):gu A (aJ 0 R) f.1 f.2=true:=by
 have C:=Ch h;have V:=C f G;have u:=iL G;unfold gu;have hq:∀g∈(aJ 0 R).filter (fun g=>decide (g.1<f.1)&& !bef A g.1 f.1),g.2.nx.length=g.2.mem.length∧g.2.wr=[]:=by
  intro g W;have Z:=List.mem_filter.1 W;simp only[Bool.and_eq_true,decide_eq_true_eq,Bool.not_eq_true'] at Z;rcases (C g Z.1).or with X | ⟨_,X,_⟩
  ·exact X
  ·have:=X f.1 Z.2.1 (by omega)
   rw[this] at Z;exact absurd Z.2.2 (by simp)
 have M:∀S,ig S ((aJ 0 R).filter fun g=>decide (g.1<f.1)&& !bef A g.1 f.1)=fun b=>decide (b<S):=by
  intro S;funext b;unfold ig;have:(((aJ 0 R).filter fun g=>decide (g.1<f.1)&& !bef A g.1 f.1).all fun f=> !decide (f.2.mem.length≤b∧b<f.2.nx.length))=true:=List.all_eq_true.2 fun g W=>by have:=(hq g W).1;simp;omega
  rw[this,Bool.and_true]
 simp only[M,Bool.and_eq_true];rcases V.or with⟨X,K⟩ | ⟨X,_,h3,B⟩
 ·have z:f.2.nx.drop f.2.mem.length=[]:=List.drop_of_length_le (by rw[X];exact Nat.le_refl _)
  refine⟨⟨⟨⟨by rw[K];rfl,V.refs⟩,by rw[K];rfl⟩,by rw[z];rfl⟩,?_⟩;refine List.all_eq_true.2 fun g W=>?_
  obtain⟨J,F⟩:=hq g W;rw[F,K,J,Nat.sub_self,List.take_zero];rfl
 ·refine⟨⟨⟨⟨?_,V.refs⟩,?_⟩,B⟩,?_⟩
  ·refine List.all_eq_true.2 fun b D=>?_
   have:=List.all_eq_true.1 h3 b D;simp only[Bool.and_eq_true] at this;exact this.1
  ·refine List.all_eq_true.2 fun b D=>?_
   have:=List.all_eq_true.1 h3 b D;simp only[Bool.and_eq_true] at this;exact this.2
  ·refine List.all_eq_true.2 fun g W=>?_
   obtain⟨J,F⟩:=hq g W;rcases X with X | X
   ·rw[F,X,J,Nat.sub_self,List.take_zero]
    rfl
   ·have Z:=List.mem_filter.1 W
    simp only[Bool.and_eq_true,decide_eq_true_eq,Bool.not_eq_true'] at Z;rw[X g.1 Z.2.1] at Z;exact absurd Z.2.2 (by simp)
theorem jv{T:TypeId→Option TyI}{ops:Array Oper}{A:List Nat}(G:dB ops.toList=A)(s:XS):
  aB T O N m0 ops s=match ky T O N m0 ops A s with
   |some s' =>some s'
   |none=>lg T O N m0 ops s:=by
 cases h:ky T O N m0 ops A s with
 |none=>rfl
 |some s' =>
  simp only;unfold ky at h;unfold aB;simp only;rw[G];split at h
  ·cases h
  ·rename_i R env mem Z
   split at h
   ·rename_i X
    cases h;rw[Z];simp only;rw[if_pos (List.all_eq_true.2 fun f W=>Lx X W)]
   ·cases h
mutual
theorem aff{p q:Nat→Bool}:∀(v:AV),v.aeR p=true→v.aeR q=true→v.aeR (fun b=>p b&&q b)=true
 |.ptr _ _,h1,h2=>by simp only[AV.aeR] at h1 h2 ⊢;rw[h1,h2];rfl
 |.slice _ _ _ _,h1,h2=>by simp only[AV.aeR] at h1 h2 ⊢;rw[h1,h2];rfl
 |.map _,h1,h2=>by simp only[AV.aeR] at h1 h2 ⊢;rw[h1,h2];rfl
 |.yield _,h1,h2=>by simp only[AV.aeR] at h1 h2 ⊢;rw[h1,h2];rfl
 |.func _ Z,h1,h2=>by simp only[AV.aeR] at h1 h2 ⊢;exact kZ Z h1 h2
 |.iface _ v,h1,h2=>by simp only[AV.aeR] at h1 h2 ⊢;exact aff v h1 h2
 |.agg Z,h1,h2=>by simp only[AV.aeR] at h1 h2 ⊢;exact kZ Z h1 h2
 |.tuple Z,h1,h2=>by simp only[AV.aeR] at h1 h2 ⊢;exact kZ Z h1 h2
 |.undef,_,_=>rfl
 |.bool _,_,_=>rfl
 |.int _ _,_,_=>rfl
 |.str _,_,_=>rfl
 |.afd,_,_=>rfl
 |.y9,_,_=>rfl
 |.afl,_,_=>rfl
 |.nilFunc,_,_=>rfl
 |.nilIface,_,_=>rfl
theorem kZ{p q:Nat→Bool}:∀(cs:List AV),AV.aeW p cs=true→AV.aeW q cs=true→AV.aeW (fun b=>p b&&q b) cs=true
 | [],_,_=>rfl
 |v::vs,h1,h2=>by simp only[AV.aeW,Bool.and_eq_true] at h1 h2 ⊢;exact⟨aff v h1.1 h2.1,kZ vs h1.2 h2.2⟩
end
mutual
theorem ae8:∀(v:AV),v.aeR (fun _=>true)=true
 |.ptr _ _=>rfl
 |.slice _ _ _ _=>rfl
 |.map _=>rfl
 |.yield _=>rfl
 |.func _ Z=>by simp only[AV.aeR];exact jO Z
 |.iface _ v=>by simp only[AV.aeR];exact ae8 v
 |.agg Z=>by simp only[AV.aeR];exact jO Z
 |.tuple Z=>by simp only[AV.aeR];exact jO Z
 |.undef=>rfl
 |.bool _=>rfl
 |.int _ _=>rfl
 |.str _=>rfl
 |.afd=>rfl
 |.y9=>rfl
 |.afl=>rfl
 |.nilFunc=>rfl
 |.nilIface=>rfl
theorem jO:∀(cs:List AV),AV.aeW (fun _=>true) cs=true
 | []=>rfl
 |v::vs=>by simp only[AV.aeW,Bool.and_eq_true];exact⟨ae8 v,jO vs⟩
end
theorem afi{A:Nat}{v:AV}(h:v.aeR (fun b=>decide (b<A))=true):∀{un:List (Nat×Rec)},(∀g∈un,v.aeR (fun b=> !decide (g.2.mem.length≤b∧b<g.2.nx.length))=true)→v.aeR (ig A un)=true
 | [],_=>by
  have:ig A []=fun b=>decide (b<A):=by funext b;simp[ig]
  rw[this];exact h
 |g::un,hg=>by
  have Z:=afi h (un:=un) (fun x X=>hg x (List.mem_cons_of_mem _ X));have W:=aff v Z (hg g (List.mem_cons_self ..));have:ig A (g::un)=fun b=>ig A un b&& !decide (g.2.mem.length≤b∧b<g.2.nx.length):=by funext b;simp only[ig,List.all_cons];cases decide (b<A)<;>cases (un.all fun f=> !decide (f.2.mem.length≤b∧b<f.2.nx.length))<;>simp
  rw[this];exact W
def oM:aeY→Bool
 |.aeP=>true
 |_=>false
def mK(A G:Nat)(r:Rec):Bool:=
 bR r&&r.v.aeR (fun b=> !decide (A≤b∧b<G))&&((r.tm.drop A).take (G-A)).all oM
def CL(A:List Nat)(i:Nat)(r:Rec):Nat→List Rec→Bool
 |_,[]=>true
 |j,s::rest=>(bef A i j||(r.wr.isEmpty&&mK r.mem.length r.nx.length s))&&CL A i r (j+1) rest
def pr(A:List Nat):Nat→List Rec→Bool
 |_,[]=>true
 |j,r::rest=>r.v.aeR (fun b=>decide (b<r.nx.length))&&(bR r||(CL A j r (j+1) rest&&(r.wr.isEmpty||(ba A j&&r.wr.all (fun b=>eK r.tm b&&(match r.nx[b]? with | some s=>s.aeR (fun b=>decide (b<r.nx.length)) | none=>true))))&&
   (r.nx.drop r.mem.length).all fun s=>(s.own||match s with | .aeP=>true | _=>false)&&s.aeR (fun b=>decide (b<r.nx.length))))&&pr A (j+1) rest
def jD(T:TypeId→Option TyI)(O:aeT)(N m0:Nat)(ops:Array Oper)(A:List Nat)(s:XS):Option XS:=
 match lh T O N ops A 0 ops.toList s.env s.mem [] with
 |none=>none
 |some (R,env,mem)=>
  if pr A 0 R then some ⟨env,mem,s.ae9||R.any fun r=>r.wr.any fun b=>decide (b<m0)⟩ else none
theorem ER{G:List Nat}{i:Nat}{r:Rec}:∀{A:Nat}{R:List Rec},CL G i r A R=true→∀g∈aJ A R,bef G i g.1=true∨(r.wr=[]∧mK r.mem.length r.nx.length g.2=true)
 |_,[],_,g,hg=>by simp[aJ] at hg
 |A,s::rest,h,g,hg=>by
  simp only[CL,Bool.and_eq_true,Bool.or_eq_true,List.isEmpty_iff] at h;rw[aJ,List.mem_cons] at hg;rcases hg with rfl | hg
  ·exact h.1
  ·exact ER h.2 g hg
structure ahs (bs:List Nat)(R:List (Nat×Rec))(f:Nat×Rec):Prop where
 refs:f.2.v.aeR (fun b=>decide (b<f.2.nx.length))=true
 or:(f.2.nx.length=f.2.mem.length∧f.2.wr=[])∨((f.2.wr=[]∨∀i,i<f.1→bef bs i f.1=true)∧(∀g∈R,f.1<g.1→bef bs f.1 g.1=true∨(f.2.wr=[]∧mK f.2.mem.length f.2.nx.length g.2=true))∧
  f.2.wr.all (fun b=>eK f.2.tm b&&(match f.2.nx[b]? with | some s=>s.aeR (fun b=>decide (b<f.2.nx.length)) | none=>true))=true∧
  ((f.2.nx.drop f.2.mem.length).all fun s=>(s.own||match s with | .aeP=>true | _=>false)&&s.aeR (fun b=>decide (b<f.2.nx.length)))=true)
theorem CJ{G:List Nat}{R0:List (Nat×Rec)}:∀{A:Nat}{R:List Rec},(∀g∈R0,g.1<A∨g∈aJ A R)→pr G A R=true→∀f∈aJ A R,ahs G R0 f
 |_,[],_,_,f,hf=>by simp[aJ] at hf
 |A,r::rest,hR,h,f,hf=>by
  simp only[pr,Bool.and_eq_true] at h;obtain⟨⟨S,W⟩,M⟩:=h;have X :∀g∈R0,g.1<A+1∨g∈aJ (A+1) rest:=by
   intro g V;rcases hR g V with h3 | h3
   ·exact .inl (by omega)
   ·rw[aJ,List.mem_cons] at h3
    rcases h3 with rfl | h3
    ·exact .inl (by simp)
    ·exact .inr h3
  rw[aJ,List.mem_cons] at hf;rcases hf with rfl | hf
  ·refine⟨S,?_⟩
   simp only[bR,Bool.and_eq_true,Bool.or_eq_true,decide_eq_true_eq,List.isEmpty_iff] at W;rcases W with W | ⟨⟨h3,Z⟩,K⟩
   ·exact .inl W
   ·refine .inr ⟨?_,fun g V J=>?_,?_,K⟩
    ·rcases Z with Z | ⟨Z,_⟩
     ·exact .inl Z
     ·exact .inr fun i F=>List.all_eq_true.1 Z i (List.mem_range.2 F)
    ·rcases X g V with h6 | h6
     ·simp only at J;omega
     ·exact ER h3 g h6
    ·rcases Z with Z | ⟨_,Z⟩
     ·rw[Z];rfl
     ·exact Z
  ·exact CJ X M f hf
theorem Ly{A:List Nat}(h:pr A 0 R=true){f:Nat×Rec}(G:f∈aJ 0 R):gu A (aJ 0 R) f.1 f.2=true:=by
 have z:=CJ (R0:=aJ 0 R) (fun g X=>.inr X) h;have K:=z f G;unfold gu;have J:∀g∈(aJ 0 R).filter (fun g=>decide (g.1<f.1)&& !bef A g.1 f.1),(g.2.nx.length=g.2.mem.length∧g.2.wr=[])∨(g.2.wr=[]∧mK g.2.mem.length g.2.nx.length f.2=true):=by
  intro g X;have Z:=List.mem_filter.1 X;simp only[Bool.and_eq_true,decide_eq_true_eq,Bool.not_eq_true'] at Z;rcases (z g Z.1).or with V | ⟨_,V,_⟩
  ·exact .inl V
  ·rcases V f G Z.2.1 with M | M
   ·rw[M] at Z;exact absurd Z.2.2 (by simp)
   ·exact .inr M
 simp only[Bool.and_eq_true];by_cases F:f.2.nx.length=f.2.mem.length∧f.2.wr=[]
 ·obtain⟨V,M⟩:=F
  have u:f.2.nx.drop f.2.mem.length=[]:=List.drop_of_length_le (by rw[V];exact Nat.le_refl _);refine⟨⟨⟨⟨by rw[M];rfl,afi K.refs fun g X=>?_⟩,by rw[M];rfl⟩,by rw[u];rfl⟩,?_⟩
  ·rcases J g X with⟨S,W⟩ | ⟨S,W⟩
   ·have e:(fun b=> !decide (g.2.mem.length≤b∧b<g.2.nx.length))=fun _=>true:=by
     funext b;rw[S];have:¬(g.2.mem.length≤b∧b<g.2.mem.length):=by omega
     simp[this]
    rw[e];exact ae8 _
   ·simp only[mK,Bool.and_eq_true] at W
    exact W.1.2
  ·refine List.all_eq_true.2 fun g X=>?_
   rcases J g X with⟨S,W⟩ | ⟨S,W⟩
   ·rw[W,M,S,Nat.sub_self,List.take_zero]
    rfl
   ·simp only[mK,Bool.and_eq_true] at W
    rw[S,M];simp only[List.all_nil,Bool.true_and];refine List.all_eq_true.2 fun s m=>?_
    have:=List.all_eq_true.1 W.2 s m;cases s<;>simp_all[oM]
 ·rcases K.or with hq | ⟨V,_,h3,Y⟩
  ·exact absurd hq F
  ·have hq:∀g∈(aJ 0 R).filter (fun g=>decide (g.1<f.1)&& !bef A g.1 f.1),g.2.nx.length=g.2.mem.length∧g.2.wr=[]:=by
    intro g X;rcases J g X with h5 | ⟨S,W⟩
    ·exact h5
    ·simp only[mK,bR,Bool.and_eq_true,decide_eq_true_eq,List.isEmpty_iff] at W
     exact absurd W.1.1 F
   have C:∀D,ig D ((aJ 0 R).filter fun g=>decide (g.1<f.1)&& !bef A g.1 f.1)=fun b=>decide (b<D):=by
    intro D;funext b;unfold ig;have:(((aJ 0 R).filter fun g=>decide (g.1<f.1)&& !bef A g.1 f.1).all fun f=> !decide (f.2.mem.length≤b∧b<f.2.nx.length))=true:=List.all_eq_true.2 fun g X=>by have:=(hq g X).1;simp;omega
    rw[this,Bool.and_true]
   simp only[C];refine⟨⟨⟨⟨?_,K.refs⟩,?_⟩,Y⟩,?_⟩
   ·refine List.all_eq_true.2 fun b B=>?_
    have:=List.all_eq_true.1 h3 b B;simp only[Bool.and_eq_true] at this;exact this.1
   ·refine List.all_eq_true.2 fun b B=>?_
    have:=List.all_eq_true.1 h3 b B;simp only[Bool.and_eq_true] at this;exact this.2
   ·refine List.all_eq_true.2 fun g X=>?_
    obtain⟨S,W⟩:=hq g X;rcases V with V | V
    ·rw[W,V,S,Nat.sub_self,List.take_zero]
     rfl
    ·have Z:=List.mem_filter.1 X
     simp only[Bool.and_eq_true,decide_eq_true_eq,Bool.not_eq_true'] at Z;rw[V g.1 Z.2.1] at Z;exact absurd Z.2.2 (by simp)
theorem cK{T:TypeId→Option TyI}{ops:Array Oper}{A:List Nat}(G:dB ops.toList=A)(s:XS):
  aB T O N m0 ops s=match jD T O N m0 ops A s with
   |some s' =>some s'
   |none=>lg T O N m0 ops s:=by
 cases h:jD T O N m0 ops A s with
 |none=>rfl
 |some s' =>
  simp only;unfold jD at h;unfold aB;simp only;rw[G];split at h
  ·cases h
  ·rename_i R env mem Z
   split at h
   ·rename_i X
    cases h;rw[Z];simp only;rw[if_pos (List.all_eq_true.2 fun f W=>Ly X W)]
   ·cases h
theorem Cm(f:Nat→Bool)(new:Mem):∀(i:Nat)(M:Mem),aW [] i M (bl f i M++new)=M++new
 |_,[]=>rfl
 |i,s::M=>by simp[bl,aW,Cm f new (i+1) M]
theorem yE(new:Mem):∀(i:Nat)(M:Mem),aW [] i M (M++new)=M++new
 |_,[]=>rfl
 |i,s::M=>by simp[aW,yE new (i+1) M]
theorem yG(f:Nat→Bool)(s:aeY):∀(i:Nat)(M:Mem)(k:Nat),aW [i+k] i M ((bl f i M).set k s)=M.set k s
 |_,[],_=>rfl
 |i,x::M,0=>by
  simp only[bl,List.set_cons_zero,aW,Nat.add_zero];have h:∀(j:Nat) (M:Mem),i<j→aW [i] j M (bl f j M)=M:=by
   intro j M Z;induction M generalizing j with
   |nil=>rfl
   |cons y M ih=>simp[bl,aW,ih (j+1) (by omega),show¬j=i by omega]
  simp[h (i+1) M (by omega)]
 |i,x::M,k+1=>by have:=yG f s (i+1) M k;rw[show i+1+k=i+(k+1) by omega] at this;simp[bl,aW,this,show¬i=i+(k+1) by omega]
theorem L8(f:Nat→Bool)(s:aeY)(M:Mem)(k:Nat):aW [k] 0 M ((bl f 0 M).set k s)=M.set k s:=by
 have:=yG f s 0 M k
 rwa [Nat.zero_add] at this
theorem EE(f:Nat→Bool):∀(i:Nat)(M:Mem),(bl f i M).length=M.length
 |_,[]=>rfl
 |i,x::M=>by simp[bl,EE f (i+1) M]
theorem EC(f:Nat→Bool)(M:Mem)(A n:Nat)(h:∀b,A≤b→b<A+n→f b=false):(((bl f 0 M).drop A).take n).all oM=true:=by
 rw[List.all_eq_true];intro s X;obtain⟨i,Z⟩:=List.getElem?_of_mem X;rw[List.getElem?_take] at Z;split at Z
 ·rename_i W
  rw[List.getElem?_drop,uK] at Z;cases hM:M[A+i]? with
  |none=>rw[hM] at Z;simp at Z
  |some x=>
   rw[hM] at Z;simp only[Option.map_some,Nat.zero_add,Option.some.injEq] at Z;rw[h (A+i) (by omega) (by omega)] at Z;simp at Z;subst Z;rfl
 ·cases Z
theorem OU(M:Mem)(A n:Nat):(((bl (fun _=>false) 0 M).drop A).take n).all oM=true:=EC _ M A n fun _ _ _=>rfl
theorem X5(M X:Mem)(k:Nat):(M++X).drop (M.length+k)=X.drop k:=by rw[List.drop_append];simp
theorem WD(M X:Mem):(M++X).drop M.length=X:=by simp
theorem vY(i:Nat)(s s' :aeY)(r r' :Mem):aW [] i (s::r) (s' ::r')=s::aW [] (i+1) r r' :=by simp[aW]
theorem Cn:∀(i:Nat)(N X Y:Mem),aW [] i (N++X) (N++Y)=N++aW [] (i+N.length) X Y
 |i,[],X,Y=>by simp
 |i,s::N,X,Y=>by simp only[List.cons_append,vY,Cn (i+1) N X Y,List.length_cons];rw[show i+1+N.length=i+(N.length+1) by omega]
theorem aeY.aff{p q:Nat→Bool}:∀(s:aeY),s.aeR p=true→s.aeR q=true→s.aeR (fun b=>p b&&q b)=true
 |.aeP,_,_=>rfl
 |.cells _ _ cs,h,h' =>kZ cs h h'
 |.map es,h,h' =>by simp only[aeY.aeR,List.all_eq_true,Bool.and_eq_true] at h h' ⊢;exact fun e he=>⟨Go.Eng.aff _ (h e he).1 (h' e he).1,Go.Eng.aff _ (h e he).2 (h' e he).2⟩
 |.afr es,h,h' =>by simp only[aeY.aeR,List.all_eq_true,Bool.and_eq_true] at h h' ⊢;exact fun e he=>⟨Go.Eng.aff _ (h e he).1 (h' e he).1,Go.Eng.aff _ (h e he).2 (h' e he).2⟩
 |.loop r,h,h' =>by simp only[aeY.aeR,List.all_eq_true] at h h' ⊢;exact fun e he=>Go.Eng.aff _ (h e he) (h' e he)
theorem aeY.afi{A:Nat}{s:aeY}(h:s.aeR (fun b=>decide (b<A))=true):∀{un:List (Nat×Rec)},(∀g∈un,s.aeR (fun b=> !decide (g.2.mem.length≤b∧b<g.2.nx.length))=true)→s.aeR (ig A un)=true
 | [],_=>by
  have:ig A []=fun b=>decide (b<A):=by funext b;simp[ig]
  rw[this];exact h
 |g::un,hg=>by
  have Z:=aeY.afi h (un:=un) (fun x X=>hg x (List.mem_cons_of_mem _ X));have W:=aeY.aff s Z (hg g (List.mem_cons_self ..));have:ig A (g::un)=fun b=>ig A un b&& !decide (g.2.mem.length≤b∧b<g.2.nx.length):=by funext b;simp only[ig,List.all_cons];cases decide (b<A)<;>cases (un.all fun f=> !decide (f.2.mem.length≤b∧b<f.2.nx.length))<;>simp
  rw[this];exact W
theorem rJ{g:Rec}(h:g.nx.length=g.mem.length):(fun b=> !decide (g.mem.length≤b∧b<g.nx.length))=fun _=>true:=by
 funext b;rw[h];have:¬(g.mem.length≤b∧b<g.mem.length):=by omega
 simp[this]
theorem aeY.ae8:∀(s:aeY),s.aeR (fun _=>true)=true
 |.aeP=>rfl
 |.cells _ _ cs=>jO cs
 |.map es=>by simp only[aeY.aeR,List.all_eq_true,Bool.and_eq_true];exact fun e _=>⟨Go.Eng.ae8 _,Go.Eng.ae8 _⟩
 |.afr es=>by simp only[aeY.aeR,List.all_eq_true,Bool.and_eq_true];exact fun e _=>⟨Go.Eng.ae8 _,Go.Eng.ae8 _⟩
 |.loop r=>by simp only[aeY.aeR,List.all_eq_true];exact fun e _=>Go.Eng.ae8 _
def cj(A G:Nat)(r:Rec):Bool:=
 r.wr.isEmpty&&r.v.aeR (fun b=> !decide (A≤b∧b<G))&&((r.nx.drop r.mem.length).all fun s=>s.aeR (fun b=> !decide (A≤b∧b<G)))&&((r.tm.drop A).take (G-A)).all oM
def dH(A:List Nat)(i:Nat)(r:Rec):Nat→List Rec→Bool
 |_,[]=>true
 |j,s::rest=>(bef A i j||(r.wr.isEmpty&&cj r.mem.length r.nx.length s))&&dH A i r (j+1) rest
def gd(A:List Nat)(j:Nat)(r:Rec):List (Nat×Rec)→Bool
 | []=>true
 |g::l=>(bef A g.1 j||(bR g.2&&r.wr.all fun b=> !eK g.2.tm b))&&gd A j r l
def ib(A:List Nat):Nat→List (Nat×Rec)→List Rec→Bool
 |_,_,[]=>true
 |j,acc,r::rest=>r.v.aeR (fun b=>decide (b<r.nx.length))&&(bR r||(dH A j r (j+1) rest&&(r.wr.isEmpty||(gd A j r acc&&r.wr.all (fun b=>eK r.tm b&&(match r.nx[b]? with | some s=>s.aeR (fun b=>decide (b<r.nx.length)) | none=>true))))&&
   (r.nx.drop r.mem.length).all fun s=>(s.own||match s with | .aeP=>true | _=>false)&&s.aeR (fun b=>decide (b<r.nx.length))))&&ib A (j+1) ((j,r)::acc) rest
def bX(T:TypeId→Option TyI)(O:aeT)(N m0:Nat)(ops:Array Oper)(A:List Nat)(s:XS):Option XS:=
 match lh T O N ops A 0 ops.toList s.env s.mem [] with
 |none=>none
 |some (R,env,mem)=>
  if ib A 0 [] R then some ⟨env,mem,s.ae9||R.any fun r=>r.wr.any fun b=>decide (b<m0)⟩ else none
theorem B4{G:List Nat}{i:Nat}{r:Rec}:∀{A:Nat}{R:List Rec},dH G i r A R=true→∀g∈aJ A R,bef G i g.1=true∨(r.wr=[]∧cj r.mem.length r.nx.length g.2=true)
 |_,[],_,g,hg=>by simp[aJ] at hg
 |A,s::rest,h,g,hg=>by
  simp only[dH,Bool.and_eq_true,Bool.or_eq_true,List.isEmpty_iff] at h;rw[aJ,List.mem_cons] at hg;rcases hg with rfl | hg
  ·exact h.1
  ·exact B4 h.2 g hg
theorem Ed{A:List Nat}{j:Nat}{r:Rec}:∀{acc:List (Nat×Rec)},gd A j r acc=true→∀g∈acc,bef A g.1 j=true∨((g.2.nx.length=g.2.mem.length∧g.2.wr=[])∧(r.wr.all fun b=> !eK g.2.tm b)=true)
 | [],_,g,hg=>by cases hg
 |a::l,h,g,hg=>by
  simp only[gd,bR,Bool.and_eq_true,Bool.or_eq_true,decide_eq_true_eq,List.isEmpty_iff] at h;rcases List.mem_cons.1 hg with rfl | hg
  ·exact h.1
  ·exact Ed h.2 g hg
structure aha (bs:List Nat)(R:List (Nat×Rec))(f:Nat×Rec):Prop where
 refs:f.2.v.aeR (fun b=>decide (b<f.2.nx.length))=true
 or:(f.2.nx.length=f.2.mem.length∧f.2.wr=[])∨((f.2.wr=[]∨∀g∈R,g.1<f.1→bef bs g.1 f.1=true∨((g.2.nx.length=g.2.mem.length∧g.2.wr=[])∧(f.2.wr.all fun b=> !eK g.2.tm b)=true))∧(∀g∈R,f.1<g.1→bef bs f.1 g.1=true∨(f.2.wr=[]∧cj f.2.mem.length f.2.nx.length g.2=true))∧
  f.2.wr.all (fun b=>eK f.2.tm b&&(match f.2.nx[b]? with | some s=>s.aeR (fun b=>decide (b<f.2.nx.length)) | none=>true))=true∧
  ((f.2.nx.drop f.2.mem.length).all fun s=>(s.own||match s with | .aeP=>true | _=>false)&&s.aeR (fun b=>decide (b<f.2.nx.length)))=true)
theorem yx{G:List Nat}{R0:List (Nat×Rec)}:∀{A:Nat}{acc:List (Nat×Rec)}{R:List Rec},(∀g∈R0,g.1<A∨g∈aJ A R)→(∀g∈R0,g.1<A→g∈acc)→ib G A acc R=true→∀f∈aJ A R,aha G R0 f
 |_,_,[],_,_,_,f,hf=>by simp[aJ] at hf
 |A,acc,r::rest,hR,abv,h,f,hf=>by
  simp only[ib,Bool.and_eq_true] at h;obtain⟨⟨K,V⟩,J⟩:=h;have W :∀g∈R0,g.1<A+1∨g∈aJ (A+1) rest:=by
   intro g X;rcases hR g X with h3 | h3
   ·exact .inl (by omega)
   ·rw[aJ,List.mem_cons] at h3
    rcases h3 with rfl | h3
    ·exact .inl (by simp)
    ·exact .inr h3
  have M :∀g∈R0,g.1<A+1→g∈(A,r)::acc:=by
   intro g X S;rcases hR g X with h3 | h3
   ·exact List.mem_cons_of_mem _ (abv g X h3)
   ·rw[aJ,List.mem_cons] at h3
    rcases h3 with rfl | h3
    ·exact List.mem_cons_self ..
    ·have:=(iL h3).1;omega
  rw[aJ,List.mem_cons] at hf;rcases hf with rfl | hf
  ·refine⟨K,?_⟩
   simp only[bR,Bool.and_eq_true,Bool.or_eq_true,decide_eq_true_eq,List.isEmpty_iff] at V;rcases V with V | ⟨⟨h3,Z⟩,F⟩
   ·exact .inl V
   ·refine .inr ⟨?_,fun g X S=>?_,?_,F⟩
    ·rcases Z with Z | ⟨Z,_⟩
     ·exact .inl Z
     ·exact .inr fun g X S=>Ed Z g (abv g X S)
    ·rcases W g X with h6 | h6
     ·simp only at S;omega
     ·exact B4 h3 g h6
    ·rcases Z with Z | ⟨_,Z⟩
     ·rw[Z];rfl
     ·exact Z
  ·exact yx W M J f hf
theorem GH{A:List Nat}(h:ib A 0 [] R=true){f:Nat×Rec}(G:f∈aJ 0 R):gu A (aJ 0 R) f.1 f.2=true:=by
 have m:=yx (R0:=aJ 0 R) (fun g X=>.inr X) (fun g _ I=>absurd I (Nat.not_lt_zero _)) h;have S:=m f G;unfold gu;have M:∀g∈(aJ 0 R).filter (fun g=>decide (g.1<f.1)&& !bef A g.1 f.1),(g.2.nx.length=g.2.mem.length∧g.2.wr=[])∨(g.2.wr=[]∧cj g.2.mem.length g.2.nx.length f.2=true):=by
  intro g X;have Z:=List.mem_filter.1 X;simp only[Bool.and_eq_true,decide_eq_true_eq,Bool.not_eq_true'] at Z;rcases (m g Z.1).or with V | ⟨_,V,_⟩
  ·exact .inl V
  ·rcases V f G Z.2.1 with D | D
   ·rw[D] at Z;exact absurd Z.2.2 (by simp)
   ·exact .inr D
 have C:∀g∈(aJ 0 R).filter (fun g=>decide (g.1<f.1)&& !bef A g.1 f.1),g.2.wr=[]∧(f.2.wr.all fun b=> !eK g.2.tm b)=true∧(f.2.wr=[]∨g.2.nx.length=g.2.mem.length):=by
  intro g X;have Z:=List.mem_filter.1 X;simp only[Bool.and_eq_true,decide_eq_true_eq,Bool.not_eq_true'] at Z;rcases M g X with⟨K,W⟩ | ⟨K,W⟩
  ·refine⟨W,?_,.inr K⟩
   rcases S.or with V | ⟨V,_⟩
   ·rw[V.2];rfl
   ·rcases V with V | V
    ·rw[V];rfl
    ·rcases V g Z.1 Z.2.1 with h3 | h3
     ·rw[h3] at Z;exact absurd Z.2.2 (by simp)
     ·exact h3.2
  ·simp only[cj,Bool.and_eq_true,List.isEmpty_iff] at W
   refine⟨K,?_,.inl W.1.1.1⟩;rw[W.1.1.1];rfl
 have H:f.2.v.aeR (ig f.2.nx.length ((aJ 0 R).filter fun g=>decide (g.1<f.1)&& !bef A g.1 f.1))=true:=afi S.refs fun g X=>by
  rcases M g X with⟨K,_⟩ | ⟨_,W⟩
  ·rw[rJ K];exact ae8 _
  ·simp only[cj,Bool.and_eq_true] at W
   exact W.1.1.2
 have z:(((aJ 0 R).filter fun g=>decide (g.1<f.1)&& !bef A g.1 f.1).all fun g=>g.2.wr.all (fun b=> !eK f.2.tm b)&&f.2.wr.all (fun b=> !eK g.2.tm b)&&
   ((f.2.tm.drop g.2.mem.length).take (g.2.nx.length-g.2.mem.length)).all fun s=>match s with | .aeP=>true | _=>false)=true:=List.all_eq_true.2 fun g X=>by
  obtain⟨w1,w2,_⟩:=C g X;rw[w1,w2];simp only[List.all_nil,Bool.true_and];rcases M g X with⟨K,_⟩ | ⟨_,W⟩
  ·rw[K,Nat.sub_self,List.take_zero];rfl
  ·simp only[cj,Bool.and_eq_true] at W
   refine List.all_eq_true.2 fun s F=>?_
   have:=List.all_eq_true.1 W.2 s F;cases s<;>simp_all[oM]
 have u:((f.2.nx.drop f.2.mem.length).all fun s=>(s.own||match s with | .aeP=>true | _=>false)&&s.aeR (ig f.2.nx.length ((aJ 0 R).filter fun g=>decide (g.1<f.1)&& !bef A g.1 f.1)))=true:=by
  refine List.all_eq_true.2 fun s F=>?_
  rcases S.or with⟨V,_⟩ | ⟨_,_,_,h4⟩
  ·rw[List.drop_of_length_le (by rw[V];exact Nat.le_refl _)] at F;cases F
  ·have J:=List.all_eq_true.1 h4 s F
   simp only[Bool.and_eq_true] at J ⊢;refine⟨J.1,aeY.afi J.2 fun g X=>?_⟩;rcases M g X with⟨K,_⟩ | ⟨_,W⟩
   ·rw[rJ K];exact aeY.ae8 _
   ·simp only[cj,Bool.and_eq_true] at W
    exact List.all_eq_true.1 W.1.2 s F
 have Y:f.2.wr.all (fun b=>eK f.2.tm b)=true∧(f.2.wr.all fun b=>match f.2.nx[b]? with | some s=>s.aeR (ig f.2.nx.length ((aJ 0 R).filter fun g=>decide (g.1<f.1)&& !bef A g.1 f.1)) | none=>true)=true:=by
  rcases S.or with⟨_,D⟩ | ⟨_,_,h3,_⟩
  ·rw[D];exact⟨rfl,rfl⟩
  ·constructor
   ·refine List.all_eq_true.2 fun b B=>?_
    have:=List.all_eq_true.1 h3 b B;simp only[Bool.and_eq_true] at this;exact this.1
   ·refine List.all_eq_true.2 fun b B=>?_
    have:=List.all_eq_true.1 h3 b B;simp only[Bool.and_eq_true] at this;cases hn:f.2.nx[b]? with
    |none=>rfl
    |some s=>
     simp only[hn] at this ⊢;refine aeY.afi this.2 fun g X=>?_
     rcases (C g X).2.2 with J | J
     ·rw[J] at B;cases B
     ·rw[rJ J];exact aeY.ae8 _
 simp only[Bool.and_eq_true];exact⟨⟨⟨⟨Y.1,H⟩,Y.2⟩,u⟩,z⟩
theorem aF{T:TypeId→Option TyI}{ops:Array Oper}{A:List Nat}(G:dB ops.toList=A)(s:XS):
  aB T O N m0 ops s=match bX T O N m0 ops A s with
   |some s' =>some s'
   |none=>lg T O N m0 ops s:=by
 cases h:bX T O N m0 ops A s with
 |none=>rfl
 |some s' =>
  simp only;unfold bX at h;unfold aB;simp only;rw[G];split at h
  ·cases h
  ·rename_i R env mem Z
   split at h
   ·rename_i X
    cases h;rw[Z];simp only;rw[if_pos (List.all_eq_true.2 fun f W=>GH X W)]
   ·cases h
end Go.Eng
namespace Go.Eng
mutual
theorem aeU.cut{μ μ' :Nat→Place}{n A :Nat}:∀{v V V'},aeU μ n v V→aeU μ' A v V' →aeU μ' n v V'
 |.undef,V,V',_,_=>by simp[aeU]
 |.bool b,V,V',_,h=>by simpa [aeU] using h
 |.int k i,V,V',_,h=>by simpa [aeU] using h
 |.str s,V,V',_,h=>by simpa [aeU] using h
 |.ptr b o,V,V',h,Z =>by simp only[aeU] at h Z ⊢;exact⟨h.1,Z.2⟩
 |.afd,V,V',_,h=>by simpa [aeU] using h
 |.slice b o l c,V,V',h,Z =>by simp only[aeU] at h Z ⊢;exact⟨h.1,Z.2⟩
 |.y9,V,V',_,h=>by simpa [aeU] using h
 |.map b,V,V',h,Z =>by simp only[aeU] at h Z ⊢;exact⟨h.1,Z.2⟩
 |.yield b,V,V',h,Z =>by simp only[aeU] at h Z ⊢;exact⟨h.1,Z.2⟩
 |.afl,V,V',_,h=>by simpa [aeU] using h
 |.func f W,V,V',h,Z =>by simp only[aeU] at h Z ⊢;obtain⟨S,rfl,h⟩:=h;obtain⟨X,rfl,Z⟩:=Z;exact⟨X,rfl,aeV.cut h Z⟩
 |.nilFunc,V,V',_,h=>by simpa [aeU] using h
 |.iface t v,V,V',h,Z =>by simp only[aeU] at h Z ⊢;obtain⟨U,rfl,h⟩:=h;obtain⟨O,rfl,Z⟩:=Z;exact⟨O,rfl,aeU.cut h Z⟩
 |.nilIface,V,V',_,h=>by simpa [aeU] using h
 |.agg W,V,V',h,Z =>by simp only[aeU] at h Z ⊢;obtain⟨S,rfl,h⟩:=h;obtain⟨X,rfl,Z⟩:=Z;exact⟨X,rfl,aeV.cut h Z⟩
 |.tuple W,V,V',h,Z =>by simp only[aeU] at h Z ⊢;obtain⟨S,rfl,h⟩:=h;obtain⟨X,rfl,Z⟩:=Z;exact⟨X,rfl,aeV.cut h Z⟩
theorem aeV.cut{μ μ' :Nat→Place}{n A :Nat}:∀{vs Us Us'},aeV μ n vs Us→aeV μ' A vs Us' →aeV μ' n vs Us'
 | [],Us,Us',_,h=>by simpa [aeV] using h
 |v::vs,Us,Us',h,h' =>by simp only[aeV] at h h' ⊢;obtain⟨U,M,rfl,V,S⟩:=h;obtain⟨O,Z,rfl,X,W⟩:=h';exact⟨O,Z,rfl,aeU.cut V X,aeV.cut S W⟩
end
theorem ae7.cut{μ μ' :Nat→Place}{n I A:Nat}{w w' :World}{p H :Place}{s:aeY}(h:ae7 μ n A w p s)(G :ae7 μ' I A w' H s):ae7 μ' n A w' H s:=by
 cases s with
 |aeP=>trivial
 |cells own es cs=>
  simp only[ae7] at h G ⊢;obtain⟨_,_,_,_,_,_,M,_⟩:=h;obtain⟨F,e,u,X,W,K,J,m⟩:=G;refine⟨F,e,u,X,W,K,fun j v Z=>?_,m⟩;obtain⟨V,_,r⟩:=M j v Z;obtain⟨Y,D,S⟩:=J j v Z;exact⟨Y,D,aeU.cut r S⟩
 |map es=>
  simp only[ae7] at h G ⊢;obtain⟨_,_,_,_,_,M⟩:=h;obtain⟨C,B,X,W,K,J⟩:=G;refine⟨C,B,X,W,K,fun j e Z=>?_⟩;obtain⟨E,_,r⟩:=M j e Z;obtain⟨z,O,S⟩:=J j e Z;exact⟨z,O,aeU.cut r.1 S.1,aeU.cut r.2 S.2⟩
 |afr es=>
  simp only[ae7] at h G ⊢;obtain⟨_,_,_,_,_,M⟩:=h;obtain⟨C,B,X,W,K,J⟩:=G;refine⟨C,B,X,W,K,fun j e Z=>?_⟩;obtain⟨E,_,r⟩:=M j e Z;obtain⟨z,O,S⟩:=J j e Z;exact⟨z,O,aeU.cut r.1 S.1,aeU.cut r.2 S.2⟩
 |loop r=>
  simp only[ae7] at h G ⊢;obtain⟨L,_,_,g⟩:=h;obtain⟨R,X,W,k⟩:=G;exact⟨R,X,W,k.st,k.afy,k.ps,k.assign,k.body,k.size,fun t=>aeU.cut (g.tmps t) (k.tmps t)⟩
theorem kO.forget{P:Program}{f:FuncId}{args:List AV}{m new:Mem}{v:AV}(A:v.closed=true)(h:kO P f args m v (m++new)):kO P f args m v m:=by
 refine⟨h.1,fun base μ w Vs hG hH hV=>(h.2 base μ w Vs hG hH hV).mono ?_⟩;rintro e w' ⟨V,v',m',μ',rfl,q1,q2,q3,rfl,rfl⟩;have X:∀{b:Nat}{s:aeY},m[b]? =some s→(m++new)[b]? =some s:=fun {b s} Z=>gU Z _
 have W:∀{b:Nat},eh m b→eh (m++new) b:=fun ⟨s,S,O⟩=>⟨s,X S,O⟩
 exact⟨V,_,m,μ',rfl,aeU.closed A q1,⟨q2.ae1,fun b s Z=>(hH.slot b s Z).cut (q2.slot b s (X Z)),fun b M K Z J =>q2.sep b M K (W Z) (X J)⟩,
  ⟨Nat.le_refl _,q3.agree,q3.os,q3.tape,q3.output,q3.size,q3.frame,fun b Z=>q3.owner b (W Z),q3.drawn⟩,rfl,rfl⟩
end Go.Eng
