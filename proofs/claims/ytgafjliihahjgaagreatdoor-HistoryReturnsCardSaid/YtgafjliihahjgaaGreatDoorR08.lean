/- See R54. -/
import Derived.Test.YtgafjliihahjgaaGreatDoorR07
import Derived.Maps.RangeRun
set_option linter.all false
namespace Go.Eng
theorem WU:iZ []=[]:=rfl
theorem Fh(n:Int)(l:List Int):iZ (n::l)=.int .i64 n::iZ l:=rfl
theorem Sa(l:List Int):(iZ l).length=l.length:=by simp[iZ]
theorem WT(l:List Int)(i:Nat):(iZ l)[i]? =(l[i]?).map fun n=>.int .i64 n:=by simp[iZ]
theorem PD(l:List Int)(i:Nat)(h:i<(iZ l).length):(iZ l)[i]=.int .i64 (l[i]'(by simpa [iZ] using h)):=by simp[iZ]
theorem WS(l:List Int):(iZ l).all AV.kS=true:=by simp[iZ,AV.kS]
theorem Fw(m:Nat)(l:List Int):AV.aeR m (iZ l)=[]:=by
 induction l with
 |nil=>rfl
 |cons x l ih=>simp[Fh,AV.aeR,AV.refs,ih]
theorem Bs(ρ:Nat→Option Nat)(l:List Int):AV.aeM ρ (iZ l)=iZ l:=by
 induction l with
 |nil=>rfl
 |cons x l ih=>simp[Fh,AV.aeM,AV.ren,ih]
theorem Th(m:Nat)(l:List Int):AV.aeQ m (iZ l)=true:=by
 induction l with
 |nil=>rfl
 |cons x l ih=>simp[Fh,AV.aeQ,AV.under,ih]
theorem Dy(ok:Nat→Bool)(l:List Int):AV.aeB ok (iZ l)=true:=by
 induction l with
 |nil=>rfl
 |cons x l ih=>simp[Fh,AV.aeB,AV.y9,ih]
theorem KC(m:Nat)(o:Bool)(e:Nat)(l:List Int):aeD.refs m (.cells o e (iZ l))=[]:=by simp[aeD.refs,Fw]
theorem MP(ρ:Nat→Option Nat)(o:Bool)(e:Nat)(l:List Int):aeD.ren ρ (.cells o e (iZ l))=.cells o e (iZ l):=by simp[aeD.ren,Bs]
theorem Cz(ok:Nat→Bool)(o:Bool)(e:Nat)(l:List Int):aeD.y9 ok (.cells o e (iZ l))=true:=by simp[aeD.y9,Dy]
attribute [simp] WU Sa WT PD Fw Bs Th Dy KC MP Cz WS
section
variable {P:Program}{f:FuncId}{A B:List Int}{M:Mem}{x y:AV}
end
end Go.Eng
namespace Go.Eng
def aX(bs:List Nat) (j:Nat):Bool:=(List.range j).all fun i=>bef bs i j
def bm(abz:Bool) (bs:List Nat) (j:Nat) (r:Rec):Bool:=
 decide (r.nx.length=r.mem.length)&&r.v.y9 (fun b=>decide (b<r.nx.length))&&
  (if abz then aX bs j&&r.wr.all (fun b=>dI r.tm b&&(match r.nx[b]? with | some s=>s.y9 (fun b=>decide (b<r.nx.length)) | none=>true)) else r.wr.isEmpty)
def bf(bs:List Nat):Nat→List Rec→Bool
 |_,[]=>true
 |j,[r]=>bm true bs j r
 |j,r::r2::rest=>bm false bs j r&&bf bs (j+1) (r2::rest)
def bn(T:TypeId→Option TyI) (O:adM) (N m0:Nat) (ops:Array Oper) (bs:List Nat) (s:XS):Option XS:=
 match lg T O N ops bs 0 ops.toList s.env s.mem [] with
 |none=>none
 |some (R,env,mem)=>
  if bf bs 0 R then some ⟨env,mem,s.aeS||R.any fun r=>r.wr.any fun b=>decide (b<m0)⟩ else none
def kZ(T:TypeId→Option TyI) (O:adM) (N m0:Nat) (ops:Array Oper) (s:XS):Option XS:=aE T O N m0 ops s
theorem iF:∀{j0:Nat}{R:List Rec}{f:Nat×Rec},f∈aJ j0 R→j0≤f.1∧f.1<j0+R.length
 |_,[],f,h=>by simp[aJ] at h
 |j0,r::R,f,h=>by
  simp only[aJ,List.mem_cons] at h;rcases h with rfl | h
  ·simp
  ·have:=iF h
   simp only[List.length_cons];omega
structure afJ (bs:List Nat) (n:Nat) (f:Nat×Rec):Prop where
 len:f.2.nx.length=f.2.mem.length
 refs:f.2.v.y9 (fun b=>decide (b<f.2.nx.length))=true
 wr:f.2.wr=[]∨(f.1+1=n∧(∀i,i<f.1→bef bs i f.1=true)∧f.2.wr.all (fun b=>dI f.2.tm b&&(match f.2.nx[b]? with | some s=>s.y9 (fun b=>decide (b<f.2.nx.length)) | none=>true))=true)
theorem uZ{bs:List Nat}:∀{j0:Nat}{R:List Rec},bf bs j0 R=true→∀f∈aJ j0 R,afJ bs (j0+R.length) f
 |_,[],_,f,hf=>by simp[aJ] at hf
 |j0,[r],h,f,hf=>by simp only[aJ,List.mem_cons,List.not_mem_nil,or_false] at hf;subst hf;simp only[bf,bm,Bool.and_eq_true,decide_eq_true_eq,if_true] at h;obtain⟨⟨h1,h2⟩,h3,h4⟩:=h;exact⟨h1,h2,.inr ⟨rfl,fun i hi=>List.all_eq_true.1 h3 i (List.mem_range.2 hi),h4⟩⟩
 |j0,r::r2::rest,h,f,hf=>by
  simp only[bf,Bool.and_eq_true] at h;rw[aJ,List.mem_cons] at hf;rcases hf with rfl | hf
  ·have h1:=h.1
   simp only[bm,Bool.and_eq_true,decide_eq_true_eq,Bool.false_eq_true,if_false,List.isEmpty_iff] at h1;obtain⟨⟨h1,h2⟩,h3⟩:=h1;exact⟨h1,h2,.inl h3⟩
  ·have:=uZ h.2 f hf
   have e:j0+1+(r2::rest).length=j0+(r::r2::rest).length:=by simp only[List.length_cons];omega
   rw[e] at this;exact this
variable{bs:List Nat}
theorem MF{n YM:Nat}{un:List (Nat×Rec)}(h:∀f∈un,afJ bs n f):gT YM un=fun b=>decide (b<YM):=by
 funext b;unfold gT;have:(un.all fun f=> !decide (f.2.mem.length≤b∧b<f.2.nx.length))=true:=List.all_eq_true.2 fun f hf=>by have:=(h f hf).len;simp;omega
 rw[this,Bool.and_true]
theorem Cp{R:List Rec}(h:bf bs 0 R=true){f:Nat×Rec}(hf:f∈aJ 0 R):gj bs (aJ 0 R) f.1 f.2=true:=by
 have H':=uZ h;have YD:=H' f hf;have hn:=iF hf;unfold gj;have YX:∀g∈(aJ 0 R).filter (fun g=>decide (g.1<f.1)&& !bef bs g.1 f.1),afJ bs (0+R.length) g:=fun g hg=>H' g ((List.mem_filter.1 hg).1)
 simp only[MF YX,Bool.and_eq_true];have hd:f.2.nx.drop f.2.mem.length=[]:=List.drop_of_length_le (by rw[YD.len];exact Nat.le_refl _);refine⟨⟨⟨⟨?_,YD.refs⟩,?_⟩,by rw[hd];rfl⟩,?_⟩
 ·rcases YD.wr with h1 | ⟨_,_,h1⟩
  ·rw[h1];rfl
  ·refine List.all_eq_true.2 fun b hb=>?_
   have:=List.all_eq_true.1 h1 b hb;simp only[Bool.and_eq_true] at this;exact this.1
 ·rcases YD.wr with h1 | ⟨_,_,h1⟩
  ·rw[h1];rfl
  ·refine List.all_eq_true.2 fun b hb=>?_
   have:=List.all_eq_true.1 h1 b hb;simp only[Bool.and_eq_true] at this;exact this.2
 ·refine List.all_eq_true.2 fun g hg=>?_
  have hg1:=YX g hg;have Yg:=List.mem_filter.1 hg;simp only[Bool.and_eq_true,decide_eq_true_eq,Bool.not_eq_true'] at Yg;have hgw:g.2.wr=[]:=by
   rcases hg1.wr with h1 | ⟨h1,_,_⟩
   ·exact h1
   ·have:=iF ((List.mem_filter.1 hg).1)
    omega
  have hfw:f.2.wr=[]:=by
   rcases YD.wr with h1 | ⟨_,h1,_⟩
   ·exact h1
   ·rw[h1 g.1 Yg.2.1] at Yg
    exact absurd Yg.2.2 (by simp)
  rw[hgw,hfw,hg1.len,Nat.sub_self,List.take_zero];rfl
variable{ops:Array Oper}
theorem aj{T:TypeId→Option TyI}{O:adM}{N m0:Nat}(IR:eY ops.toList=bs)(s:XS):
  aE T O N m0 ops s=match bn T O N m0 ops bs s with
   |some s' =>some s'
   |none=>kZ T O N m0 ops s:=by
 cases h:bn T O N m0 ops bs s with
 |none=>rfl
 |some s' =>
  simp only;unfold bn at h;unfold aE;simp only;rw[IR];split at h
  ·cases h
  ·rename_i R env mem hr
   split at h
   ·rename_i hl
    cases h;rw[hr];simp only;rw[if_pos (List.all_eq_true.2 fun f hf=>Cp hl hf)]
   ·cases h
def bF:Code→List (Array Oper)
 |.region _ ops true=>[ops]
 |.seq a b=>bF a++bF b
 |.cond _ a b=>bF a++bF b
 |.block _ b=>bF b
 |.loop b=>bF b
 |.rangeFunc _ _ a b=>bF a++bF b
 |_=>[]
def aG(f:Func):List (Array Oper):=match f.body with
 |some c=>bF c
 |none=>[]
variable{f:Func}{l:List Nat}
theorem dw(h:aG f=[ops])(hm:(aG f).map (fun o=>eY o.toList)=[l]):eY ops.toList=l:=by rw[h] at hm;simpa using hm
theorem JU{o o' :Array Oper}{l' :List Nat}(h:aG f=[o,o'])(hm:(aG f).map (fun o=>eY o.toList)=[l,l']):eY o.toList=l∧eY o'.toList=l' :=by rw[h] at hm;simpa using hm
theorem bj{os:List (Array Oper)}{ls:List (List Nat)}(h:aG f=os)(hm:(aG f).map (fun o=>eY o.toList)=ls):os.map (fun o=>eY o.toList)=ls:=by rw[←h];exact hm
end Go.Eng
namespace Go.Eng
open Go.ChangeMaps (setBlock)
variable{w' :World}
section
variable {P:Program}{T:TypeId→Option TyI}{μ:Nat→Place}{mem:Mem}{base:Nat}{w:World}
theorem xC(hH:aeL base μ mem w){r:Nat}{m s seen c}(hr:w.heap[r]? =some (.mapIter m s seen c)){b:Nat}{s' :aeD}(hb:mem[b]? =some s')(hs:s' ≠ .kO):(μ b).blk≠r:=by
 intro e;have:=hH.slot b s' hb;cases s' with
 |kO=>exact hs rfl
 |cells own es cs=>simp only[aeO] at this;obtain⟨_,_,_,h1,_⟩:=this;rw[e,hr] at h1;cases h1
 |map es=>simp only[aeO] at this;obtain⟨_,_,h1,_⟩:=this;rw[e,hr] at h1;cases h1
 |ae8 es=>simp only[aeO] at this;obtain⟨_,_,h1,_⟩:=this;rw[e,hr] at h1;cases h1
 |loop r=>simp only[aeO] at this;obtain⟨_,h1,_⟩:=this;rw[e,hr] at h1;cases h1
theorem aeL.agW{r:Nat}{m s seen c}{o:Obj}(hH:aeL base μ mem w)(hr:w.heap[r]? =some (.mapIter m s seen c)):aeL base μ mem (setBlock w r o):=by
 refine⟨by simpa [setBlock] using hH.aeI,fun b s' hs=>?_,hH.sep⟩;by_cases h0:s' =.kO
 ·subst h0;trivial
 ·refine(hH.slot b s' hs).mono (Nat.le_refl _) (fun _ _=>rfl) fun _=>?_
  exact Array.getElem?_setIfInBounds_ne (Ne.symm (xC hH hr hs h0))
theorem Step.agW{m0:Nat}{μ' :Nat→Place}{mem' :Mem}{r:Nat}{o:Obj}(h:Step m0 μ mem w μ' mem' w')(hr:w.heap.size≤r):Step m0 μ mem w μ' mem' (setBlock w' r o):=h.shut hr
theorem MOk.agW{h0 r:Nat}{ds:List Deferred}{m s seen c}{o:Obj}(h:MOk P base h0 w ds)(hr:w.heap[r]? =some (.mapIter m s seen c))(hb:base≤r):MOk P base h0 (setBlock w r o) ds:=by
 refine⟨⟨h.afH.below,?_⟩,h.aeI,by simpa [setBlock] using h.le,fun d hd=>?_,h.nodup⟩
 ·have:=h.afH.tab
  unfold Lib.TabIs at this ⊢;rw[←this];refine NR fun k hk=>Array.getElem?_setIfInBounds_ne ?_
  have:=h.afH.below;omega
 ·obtain⟨q,e,h1,h2⟩:=h.each d hd
  refine⟨q,e,h1,?_⟩;have PP:r≠q:=by rintro rfl;rw[hr] at h2;cases h2
  show(w.heap.setIfInBounds r o)[q]? =_
  rw[Array.getElem?_setIfInBounds_ne PP,h2]
theorem MH(hT:cJ P T) {N:Nat}{ops:Array Oper}{Q:Exit→Act→World→Prop}{rest:List Oper}:∀{l:List Oper}{st J' :St}{μ:Nat→Place}{w:World}{a:Act}{m0:Nat}{μ0:Nat→Place}{mem0:Mem}{w0:World}{h0:Nat}{ro:Option Nat},
  mB P T N ops l st J' →aeL base μ st.mem w→ae6 μ st.mem.length st.env a.tmps→a.tmps.size=N→MOk P base h0 w a.defers→m0≤st.mem.length→Step m0 μ0 mem0 w0 μ st.mem w→
  (∀a' w' μ',aeL base μ' J'.mem w' →ae6 μ' J'.mem.length J'.env a'.tmps→a'.tmps.size=N→MOk P base h0 w' a'.defers→m0≤J'.mem.length→Step m0 μ0 mem0 w0 μ' J'.mem w' →wpListIn (Fr ro) 0 P ops Q rest a' w')→
  wpListIn (Fr ro) 0 P ops Q (l++rest) a w
 | [],st,J',μ,w,a,m0,μ0,mem0,w0,h0,ro,h,hH,hR,hN,hdf,hm,hS,hQ=>by simp only[mB] at h;subst h;exact hQ a w μ hH hR hN hdf hm hS
 |o::os,st,J',μ,w,a,m0,μ0,mem0,w0,h0,ro,h,hH,hR,hN,hdf,hm,hS,hQ=>by
  obtain⟨b,hb,hd,hf,ht⟩:=h;rw[List.cons_append];refine wpListIn_step fun K hK=>?_
  rw[oA hR hb];cases b with
  |false=>
   simp only[Bool.false_eq_true,if_false];refine⟨fun _ _=>trivial,?_⟩;refine hK _ _ (MH hT (hf rfl) hH (hR.afp hN hd (by simp[aeA,aeC,undef])) (by rw[ff];exact hN) (by rw[fH];exact hdf) hm hS hQ)
  |true=>
   simp only[if_true];obtain⟨v,mem',aaI,Yi⟩:=ht rfl;refine qD hT hdf.afH hH hR hN hd aaI fun V w' μ' q1 q2 q3 q4=>hK _ _ ?_
   exact MH hT Yi q2 q3 (by rw[ff];exact hN) (by rw[fH];exact hdf.step hH q4) (Nat.le_trans hm q4.len) (hS.trans (q4.mono hm)) hQ
theorem yU(a:Act)(d:Nat)(V:Value)(h:d<a.tmps.size):(a.put (some d) V).eval (.tmp d)=V:=by simp[Act.put,Act.eval,h]
variable {tp:Bool}{N m0:Nat}{Q:Exit→St→Prop}
theorem w7{F:Option Nat}{ops:Array Oper}{Q:Exit→Act→World→Prop}{o:Oper}{rest:List Oper}{a:Act}{w:World}{V:Value}(hg:o.guard=none)(Z0:∀c,o.op≠ .defer c)(Yi:(execOp a.eval o).run P w=.ok (.value V) w')(h:wpListIn (Fr F) 0 P ops Q rest (a.put o.dst V) w'):wpListIn (Fr F) 0 P ops Q (o::rest) a w:=by
 refine wpListIn_plain hg fun K hK=>⟨fun _ _=>trivial,?_⟩
 rw[Oper.semAt_eq _ _ _ Z0,Yi];exact hK _ _ h
theorem JC(hT:cJ P T){idB out nx idS idA:Nat}{Z8 aa8 aaC:Array Oper}{pre ZL:List Oper}{oR oN oX oE:Oper}{code:Code}{it ZM more ZE:Nat}{tR tk te:TypeId}{iR:TyI}{mOp:Operand}(hB:Z8.toList=pre++[oR])(r1:oR.op=.range tR mOp)(r2:oR.dst=some it)(r3:oR.guard=none)(hTR:T tR=some iR)(hdR:iR.desc=.map tk te)(hS:aa8.toList=[oN,oX])(n1:oN.op=.next (.tmp it) false)(n2:oN.dst=some ZM)(n3:oN.guard=none)(x1:oX.op=.extract (.tmp ZM) 0)(x2:oX.dst=some more)(x3:oX.guard=none)(hA:aaC.toList=oE::ZL)(e1:oE.op=.entry (.tmp it))(e2:oE.dst=some ZE)(e3:oE.guard=none)(Ze:it<N∧ZM<N∧more<N∧ZE<N)(PP:ZM≠it∧more≠it){st st1:St}{b:Nat}{es:List (AV×AV)}(Yu:mB P T N Z8 pre st st1)(hmo:get st1.env mOp=.map b)(hb:st1.mem[b]? =some (.ae8 es))(I:List Nat→St→Prop)(h0:I [] ⟨(it,.ptr st1.mem.length 0)::st1.env,st1.mem++[.kO]⟩)(hI:∀seen s,I seen s→ab s.env it=.ptr st1.mem.length 0∧s.mem[st1.mem.length]? =some .kO∧s.mem[b]? =some (.ae8 es))(abP:∀seen s,I seen s→(∀j,j<es.length→j∈seen)→Q .normal ⟨(more,.bool false)::(ZM,.tuple [.bool false])::s.env,s.mem⟩)(aaf:∀seen s j k v,I seen s→es[j]? =some (k,v)→j∉seen→∃s3,mB P T N aaC ZL ⟨(ZE,.tuple [k,v])::(more,.bool true)::(ZM,.tuple [.bool true,k,v])::s.env,s.mem⟩ s3∧
   AWP P tp N (st1.mem.length+1) code s3 fun e s4=>(e=.normal∨e=.exit nx)∧∃s5,afr (st1.mem.length+1) s4 s5∧I (seen++[j]) s5):
  AWP P tp N m0 (.seq (.region idB Z8 false) (.block out (.loop (.seq (.region idS aa8 false) (.seq (.cond (.tmp more) .skip (.exit out)) (.block nx (.seq (.region idA aaC false) code))))))) st Q:=by
 obtain⟨b1,b2,b3,b4⟩:=Ze;intro ro h0' base μ w a hro hH hR hN hdf hm;refine wpIn_seq (wpIn_region_list ?_);rw[hB];refine MH hT Yu hH hR hN hdf hm (.refl hm) fun a1 w1 μ1 c1 c2 c3 c4 c5 c6=>?_
 have hmv:=aW c2 mOp;rw[hmo] at hmv;simp only[aeA] at hmv;obtain⟨hbl,hmv⟩:=hmv;have YT:=c1.slot b _ hb;simp only[aeO] at YT;obtain⟨Do,G',k1,⟨Zf,aar⟩,k3,k4⟩:=YT;subst Zf;have hd:=(hT tR iR hTR).desc;rw[hdR] at hd;have Yi:=run_range_map (P:=P) w1 tR tk te (μ1 b).blk Do Do.size hd k1;refine w7 r3 (by rw[r1];intro c e;cases e) (V:=.pointer (some ⟨w1.heap.size,0,none⟩)) (w' :=w1.alloc (.mapIter (some (μ1 b).blk) Do.size #[] Do.size)) (by simp only[execOp,r1,hmv];simp[Yi]) (wpListIn_nil ?_);rw[r2];show Code.wpIn (Fr ro) 0 P _ _ _ _
 refine wpIn_block ?_;obtain⟨p1,p2⟩:=c1.push (.mapIter (some (μ1 b).blk) Do.size #[] Do.size) .kO ⟨w1.heap.size,0,0,0⟩ rfl trivial;have hrw:w.heap.size≤w1.heap.size:=c6.size;have hrb:base≤w1.heap.size:=c1.aeI;obtain⟨mb,hmb⟩:∃mb,mb=(μ1 b).blk:=⟨_,rfl⟩
 rw[←hmb] at k1 p1 p2 ⊢;have adg:mb<w1.heap.size:=(Array.getElem?_eq_some_iff.1 k1).1;obtain⟨r,hr⟩:∃r,r=w1.heap.size:=⟨_,rfl⟩
 have Yp:∀x∈Do.toList,x.born<Do.size:=by
  intro x hx;obtain⟨j,hj⟩:=List.getElem?_of_mem hx;have hj' :Do[j]? =some x:=by simpa using hj
  rw[aar j x hj'];exact(Array.getElem?_eq_some_iff.1 hj').1
 have Z0:(Do.toList.map (·.born)).Nodup:=by
  have e:Do.toList.map (·.born)=List.range Do.size:=by
   refine List.ext_getElem? fun i=>?_
   rw[List.getElem?_map,Array.getElem?_toList];cases hi:Do[i]? with
   |none=>
    have:=Array.getElem?_eq_none_iff.1 hi;simp[this]
   |some x=>
    have:=(Array.getElem?_eq_some_iff.1 hi).1;simp[aar i x hi,this]
  rw[e];exact List.nodup_range
 refine xN (σ:=Array Nat) (fun seen a' w' =>∃J' μ',aeL base μ' J'.mem w' ∧ae6 μ' J'.mem.length J'.env a'.tmps∧a'.tmps.size=N∧MOk P base h0' w' a'.defers∧st1.mem.length<J'.mem.length∧
   Step m0 μ st.mem w μ' J'.mem w' ∧μ' st1.mem.length=⟨r,0,0,0⟩∧(μ' b).blk=mb∧w'.heap[r]? =some (.mapIter (some mb) Do.size seen Do.size)∧w'.heap[mb]? =some (.map Do Do.size)∧I seen.toList J')
  (fun seen=>(leftOf Do seen).size) ?_ (s:= #[]) ⟨_,_,p1,?_,?_,?_,?_,c6.trans (p2.mono c5),?_,?_,?_,?_,h0⟩
 ·rintro seen a' w' ⟨J',μ',d1,d2,d3,d4,d5,d6,d7,d8,d9,d10,d11⟩
  obtain⟨i1,i2,i3⟩:=hI _ _ d11;have hit:a'.eval (.tmp it)=.pointer (some ⟨r,0,none⟩):=by have:=d2 it;rw[i1] at this;simp only[aeA,d7] at this;exact this.2
  have ZN :m0≤J'.mem.length:=d6.len;refine wpIn_seq (wpIn_region_list ?_);rw[hS];rcases run_next_at (P:=P) w' oN.type r mb Do.size Do.size seen Do Do.size d9 d10 Yp (Nat.le_refl _) with⟨l0,Yi⟩ | ⟨E,hE,w2,hal,Yi⟩
  ·refine w7 n3 (by rw[n1];intro c e;cases e) (V:=.tuple #[.bool false]) (w' :=w') (by simp only[execOp,n1,hit];simp[Yi]) ?_
   rw[n2];refine w7 x3 (by rw[x1];intro c e;cases e) (V:=.bool false) (w' :=w') (by simp only[execOp,x1,yU a' ZM _ (by omega)];simp[Instr.extract]) (wpListIn_nil ?_);rw[x2];show Code.wpIn (Fr ro) 0 P _ _ _ _
   refine wpIn_seq (wpIn_cond_false (yU _ _ _ (by rw[ff];omega)) (wpIn_exit ?_));simp only[Exit.then,Exit.inBlock,if_true];refine⟨⟨(more,.bool false)::(ZM,.tuple [.bool false])::J'.env,J'.mem⟩,μ',d1,?_,by rw[ff,ff];exact d3,by rw[fH,fH];exact d4,ZN,d6,abP _ _ d11 fun j hj=>?_⟩
   ·exact ae6.put (ae6.put d2 (by omega) (by simp[aeA,aeC])) (by rw[ff];omega) (by simp[aeA])
   ·have A':j<Do.size:=by omega
    have:=all_seen Do seen l0 Do[j] (by simp);rw[aar j _ (by simp[A'])] at this;simpa using this
  ·obtain⟨hem,hns⟩:=mem_left hE
   obtain⟨j,hj⟩:=List.getElem?_of_mem hem;have hj' :Do[j]? =some E:=by simpa using hj
   have hbj:=aar j E hj';have Yj:j<es.length:=by have:=(Array.getElem?_eq_some_iff.1 hj').1;omega
   have acD :=d1.slot b _ i3;simp only[aeO] at acD;obtain⟨X0,XX,g1,_,_,g4⟩:=acD;rw[d8,d10] at g1;cases g1;obtain⟨E',Yb,hk,hv⟩:=g4 j es[j] (by simp[Yj]);rw[hj'] at Yb;cases Yb;have hH2:aeL base μ' J'.mem w2:=by rcases hal with rfl | rfl<;>first | exact d1 | exact d1.drew
   have hS2:Step m0 μ st.mem w μ' J'.mem w2:=by rcases hal with rfl | rfl<;>first | exact d6 | exact d6.trans ((Step.drew (Nat.le_refl _)).mono ZN)
   have hM2:MOk P base h0' w2 a'.defers:=by rcases hal with rfl | rfl<;>first | exact d4 | exact d4.step d1 (Step.drew (Nat.le_refl _))
   have abQ:w2.heap[r]? =some (.mapIter (some mb) Do.size seen Do.size):=by rcases hal with rfl | rfl<;>exact d9
   have adh:w2.heap[mb]? =some (.map Do Do.size):=by rcases hal with rfl | rfl<;>exact d10
   have hH3:=hH2.agW (o:=.mapIter (some mb) Do.size (seen.push E.born) Do.size) abQ;have hS3:=hS2.agW (r:=r) (o:=.mapIter (some mb) Do.size (seen.push E.born) Do.size) (by omega);have hM3:=hM2.agW (o:=.mapIter (some mb) Do.size (seen.push E.born) Do.size) abQ (by omega);have hrl:r<w2.heap.size:=(Array.getElem?_eq_some_iff.1 abQ).1;have abA:(setBlock w2 r (.mapIter (some mb) Do.size (seen.push E.born) Do.size)).heap[r]? =some (.mapIter (some mb) Do.size (seen.push E.born) Do.size):=by simp[setBlock,hrl]
   have abB:(setBlock w2 r (.mapIter (some mb) Do.size (seen.push E.born) Do.size)).heap[mb]? =some (.map Do Do.size):=by rw[←adh];exact Array.getElem?_setIfInBounds_ne (by omega)
   obtain⟨w3,hw3⟩:∃w3,w3=setBlock w2 r (.mapIter (some mb) Do.size (seen.push E.born) Do.size):=⟨_,rfl⟩
   rw[←hw3] at hH3 hS3 hM3 abA abB Yi;refine w7 n3 (by rw[n1];intro c e;cases e) (V:=.tuple #[.bool true,E.key,E.val]) (w' :=w3) (by simp only[execOp,n1,hit];simp[Yi]) ?_;rw[n2];refine w7 x3 (by rw[x1];intro c e;cases e) (V:=.bool true) (w' :=w3) (by simp only[execOp,x1,yU a' ZM _ (by omega)];simp[Instr.extract]) (wpListIn_nil ?_);rw[x2];show Code.wpIn (Fr ro) 0 P _ _ _ _
   refine wpIn_seq (wpIn_cond_true (yU _ _ _ (by rw[ff];omega)) (wpIn_skip ?_));show Code.wpIn (Fr ro) 0 P _ _ _ _
   refine wpIn_block (wpIn_seq (wpIn_region_list ?_));rw[hA];have X9:((a'.put (some ZM) (.tuple #[.bool true,E.key,E.val])).put (some more) (.bool true)).eval (.tmp it)=.pointer (some ⟨r,0,none⟩):=by rw[←hit];simp[Act.put,Act.eval,Array.getElem?_setIfInBounds_ne PP.1,Array.getElem?_setIfInBounds_ne PP.2]
   have hen:=run_entry_at (P:=P) w3 r mb Do.size seen Do Do.size E abA abB hem Z0;refine w7 e3 (by rw[e1];intro c e;cases e) (V:=.tuple #[E.key,E.val]) (w' :=w3) (by simp only[execOp,e1,X9];simp[hen]) ?_;rw[e2];have hkv:es[j]? =some (es[j].1,es[j].2):=by simp[Yj]
   have hnj:j∉seen.toList:=by
    intro Yo;rw[hbj] at hns;have:seen.contains j=true:=by simpa using Yo
    rw[this] at hns;cases hns
   obtain⟨s3,FS,ach⟩:=aaf _ _ j _ _ d11 hkv hnj;have hT1:=ae6.put d2 (d:=ZM) (by omega) (V:=.tuple #[.bool true,E.key,E.val]) (v:=.tuple [.bool true,es[j].1,es[j].2]) (by simp only[aeA];exact⟨_,rfl,bo.2 ⟨by simp[aeA],bo.2 ⟨hk,bo.2 ⟨hv,by simp[aeC]⟩⟩⟩⟩);have hT2:=ae6.put hT1 (d:=more) (by rw[ff];omega) (V:=.bool true) (v:=.bool true) (by simp[aeA]);have hT3:=ae6.put hT2 (d:=ZE) (by rw[ff,ff];omega) (V:=.tuple #[E.key,E.val]) (v:=.tuple [es[j].1,es[j].2]) (by simp only[aeA];exact⟨_,rfl,bo.2 ⟨hk,bo.2 ⟨hv,by simp[aeC]⟩⟩⟩);have F':st1.mem.length+1≤J'.mem.length:=by omega
   refine vl (m0:=st1.mem.length+1) (μ0:=μ') (mem0:=J'.mem) (w0:=w3) hT FS hH3 hT3 (by rw[ff,ff,ff];exact d3) (by rw[fH,fH,fH];exact hM3) F' (.refl F') fun a4 w4 μ4 f1 f2 f3 f4 f5 f6=>?_
   show Code.wpIn (Fr ro) 0 P _ _ _ _
   refine wpIn_mono (ach ro h0' base μ4 w4 a4 hro f1 f2 f3 f4 f5) ?_;rintro e a5 w5 ⟨s4,μ5,y1,y2,y3,y4,y5,y6,hee,s5,hwk,hI5⟩;obtain⟨μ6,z1,z2,z3,z4⟩:=hwk base μ5 w5 a5.tmps y1 y2 y5;have S:=(f6.trans y6).trans z4;have YN:b<st1.mem.length:=(gL hb);have Zg:∃s',(∃J' μ',aeL base μ' J'.mem w5∧ae6 μ' J'.mem.length J'.env a5.tmps∧a5.tmps.size=N∧MOk P base h0' w5 a5.defers∧st1.mem.length<J'.mem.length∧
     Step m0 μ st.mem w μ' J'.mem w5∧μ' st1.mem.length=⟨r,0,0,0⟩∧(μ' b).blk=mb∧w5.heap[r]? =some (.mapIter (some mb) Do.size s' Do.size)∧w5.heap[mb]? =some (.map Do Do.size)∧I s'.toList J')∧
     (leftOf Do s').size<(leftOf Do seen).size:=by
    refine⟨seen.push E.born,⟨s5,μ6,z1,z2,y3,y4,z3,hS3.trans (S.mono (by have:=c5;omega)),?_,?_,?_,?_,?_⟩,left_shrinks Do seen E hE⟩
    ·rw[S.agree _ (by omega),d7]
    ·rw[S.agree _ (by omega),d8]
    ·rw[S.frame r (by rw[hw3];simpa [setBlock] using hrl) fun x hx=>by obtain⟨sx,q1,q2⟩:=hx;exact xC hH3 abA q1 (aeD.afa q2)]
     exact abA
    ·rw[S.frame mb (Array.getElem?_eq_some_iff.1 abB).1 fun x hx=>?_]
     ·exact abB
     ·rw[←d8]
      refine hH3.sep x b _ hx i3 (by simp) ?_;rintro rfl;obtain⟨sx,q1,q2⟩:=hx;rw[i3] at q1;cases q1;cases q2
    ·rw[Array.toList_push,hbj];exact hI5
   rcases hee with rfl | rfl
   ·exact Zg
   ·simp only[Exit.inBlock,if_true];exact Zg
 ·refine ae6.put (c2.mono (by simp) fun x hx=>vp hx) (by omega) ?_
  simp only[aeA,List.length_append,List.length_singleton,dW];exact⟨by omega,trivial⟩
 ·rw[ff];exact c3
 ·rw[fH];exact c4.step c1 p2
 ·simp
 ·rw[dW,hr]
 ·have YN:b<st1.mem.length:=(gL hb)
  rw[vp YN];exact hmb.symm
 ·rw[hr];exact heap_alloc_new w1 _
 ·rw[gJ w1 _ adg];exact k1
end
end Go.Eng
namespace Go.Eng
theorem Bq{m:Nat}:∀{env:Env},(env.all fun e=>(e.2.refs m).isEmpty)=true→∀t,(ab env t).refs m=[]
 | [],_,t=>by simp[ab,AV.refs]
 |(k,v)::r,h,t=>by
  simp only[List.all_cons,Bool.and_eq_true,List.isEmpty_iff] at h;simp only[ab];split
  ·exact h.1
  ·exact Bq h.2 t
variable{s:XS}
section
variable {P:Program}{T:TypeId→Option TyI}{O:adM}{tp:Bool}{N m0 K:Nat}{lv:Code→List Nat}{Q:Exit→St→Prop}
section
variable (hm:P.follows .mixedOrders=true)(hT:cJ P T)(hO:kP P O)
include hm hT hO
theorem uN{c:Code}{s' :XS}{e:Exit}(hs:dv c=true)(h:aN T lv O K N m0 tp c s=some (e,s'))(hq:Q e ⟨s'.env,s'.mem⟩):AWP P tp N m0 c ⟨s.env,s.mem⟩ Q:=
 (cX hm hT hO hs h).1 Q hq
theorem L9{idB out nx idS idA:Nat}{Z8 aa8 aaC:Array Oper}{ZL:List Oper}{oR oN oX oE:Oper}{code:Code}{it ZM more ZE:Nat}{tR tk te:TypeId}{iR:TyI}{mOp:Operand}(hB:Z8.toList=Z8.toList.dropLast++[oR])(r1:oR.op=.range tR mOp)(r2:oR.dst=some it)(r3:oR.guard=none)(hTR:T tR=some iR)(hdR:iR.desc=.map tk te)(hS:aa8.toList=[oN,oX])(n1:oN.op=.next (.tmp it) false)(n2:oN.dst=some ZM)(n3:oN.guard=none)(x1:oX.op=.extract (.tmp ZM) 0)(x2:oX.dst=some more)(x3:oX.guard=none)(hA:aaC.toList=oE::ZL)(e1:oE.op=.entry (.tmp it))(e2:oE.dst=some ZE)(e3:oE.guard=none)(Ze:it<N∧ZM<N∧more<N∧ZE<N)(PP:ZM≠it∧more≠it)(XZ:dv code=true){s1:XS}{b:Nat}{es:List (AV×AV)}(Yu:eg T O N m0 Z8 Z8.toList.dropLast s=some s1)(hmo:get s1.env mOp=.map b)(hb:s1.mem[b]? =some (.ae8 es))(lw wr:List Nat)(V:List Nat→Nat→AV)(M:List Nat→Mem)(Inv:List Nat→Prop)(hwr:wr=ZE::more::ZM::(ZL.filterMap (·.dst)++aa code))(hit:it∉wr)(aci:(((it,AV.ptr s1.mem.length 0)::s1.env).all fun e=>(e.2.refs (s1.mem.length+1)).isEmpty)=true)(hM:∀seen,Inv seen→(M seen).length=s1.mem.length+1∧(M seen)[s1.mem.length]? =some .kO∧(M seen)[b]? =some (.ae8 es)∧∀x∈M seen,x.refs (s1.mem.length+1)=[])(hV:∀seen t,Inv seen→t∈lw→(V seen t).refs (s1.mem.length+1)=[])(h0:Inv []∧M []=s1.mem++[.kO]∧∀t∈lw,ab ((it,AV.ptr s1.mem.length 0)::s1.env) t=V [] t)(abP:∀seen env,Inv seen→afd wr ((it,AV.ptr s1.mem.length 0)::s1.env) env→(∀t∈lw,ab env t=V seen t)→(∀j,j<es.length→j∈seen)→Q .normal ⟨(more,.bool false)::(ZM,.tuple [.bool false])::env,M seen⟩)(aaf:∀seen env j k v,Inv seen→afd wr ((it,AV.ptr s1.mem.length 0)::s1.env) env→(∀t∈lw,ab env t=V seen t)→es[j]? =some (k,v)→j∉seen→∃sA e s',eg T O N (s1.mem.length+1) aaC ZL ⟨(ZE,.tuple [k,v])::(more,.bool true)::(ZM,.tuple [.bool true,k,v])::env,M seen,false⟩=some sA∧
   aN T lv O K N (s1.mem.length+1) tp code sA=some (e,s')∧(e=.normal∨e=.exit nx)∧Inv (seen++[j])∧(∀t∈lw,ab s'.env t=V (seen++[j]) t)∧s'.mem.take (s1.mem.length+1)=M (seen++[j])):
  AWP P tp N m0 (.seq (.region idB Z8 false) (.block out (.loop (.seq (.region idS aa8 false) (.seq (.cond (.tmp more) .skip (.exit out)) (.block nx (.seq (.region idA aaC false) code))))))) ⟨s.env,s.mem⟩ Q:=by
 have hrl:=Bq aci;refine JC (st1:=⟨s1.env,s1.mem⟩) hT hB r1 r2 r3 hTR hdR hS n1 n2 n3 x1 x2 x3 hA e1 e2 e3 Ze PP (jL hO Yu).1 hmo hb
  (fun seen st=>Inv seen∧afd wr ((it,AV.ptr s1.mem.length 0)::s1.env) st.env∧(∀t∈lw,ab st.env t=V seen t)∧st.mem=M seen) ⟨h0.1,.refl _ _,h0.2.2,h0.2.1.symm⟩ ?_ ?_ ?_
 ·rintro seen st ⟨i1,i2,i3,i4⟩
  obtain⟨j1,j2,j3,_⟩:=hM seen i1;refine⟨?_,by rw[i4];exact j2,by rw[i4];exact j3⟩;rw[i2 it hit];simp[ab]
 ·rintro seen ⟨env,mem⟩ ⟨i1,i2,i3,i4⟩ H'
  have:=abP seen env i1 i2 i3 H';simp only at i4 ⊢;rw[i4];exact this
 ·rintro seen ⟨env,mem⟩ j k v ⟨i1,i2,i3,i4⟩ hj hns
  simp only at i2 i3 i4;subst i4;obtain⟨sA,e,s',k1,k2,k3,k4,k5,k6⟩:=aaf seen env j k v i1 i2 i3 hj hns;refine⟨⟨sA.env,sA.mem⟩,(jL hO k1).1,?_⟩;refine AWP.assume fun F' _=>?_
  refine uN hm hT hO XZ k2 ⟨k3,?_⟩;obtain⟨j1,j2,j3,j4⟩:=hM _ k4;have aeg :s1.mem.length+1≤s'.mem.length:=by have h1:=congrArg List.length k6;rw[List.length_take,j1] at h1;omega
  have acj:afd wr ((it,AV.ptr s1.mem.length 0)::s1.env) s'.env:=by
   have q1:=(oq k1).mono (wr' :=wr) (by intro t ht;rw[hwr];simp[ht]);have q2:=(fE hO k2).mono (wr' :=wr) (by intro t ht;rw[hwr];simp[ht]);intro t ht;rw[q2 t ht,q1 t ht,←i2 t ht];have:t≠ZE∧t≠more∧t≠ZM:=by rw[hwr] at ht;simp only[List.mem_cons,not_or] at ht;exact⟨ht.1,ht.2.1,ht.2.2.1⟩
   simp[ab,Ne.symm this.1,Ne.symm this.2.1,Ne.symm this.2.2]
  refine⟨_,afr.aeK [] (by simp[Ka]),k4,?_,?_,?_⟩
  ·intro t ht
   simp only[iy];rw[acj t ht,AV.aeW (hrl t)]
  ·intro t ht
   simp only[iy];rw[k5 t ht,AV.aeW (hV _ t k4 ht)]
  ·simp only[aeK,afq,List.map_nil,List.append_nil,k6]
   conv=>rhs;rw[←List.map_id (M (seen++[j]))]
   exact List.map_congr_left fun x hx=>aeD.aeW (j4 x hx)
end
end
end Go.Eng
namespace Go.Eng
abbrev Sd:=(Int×Int)×Int
def sdE(s:Sd):AV×AV:=(.agg [.int .i64 s.1.1,.int .i64 s.1.2],.int .i64 s.2)
def nxE(p:Int×Int):AV×AV:=(.int .i64 p.1,.int .i64 p.2)
def oV:List (Int×Int)→Int→Option Int
 | [],_=>none
 |p::l,a=>if a=p.1 then some p.2 else oV l a
def PM:List Sd→Int×Int→Option Int
 | [],_=>none
 |s::l,a=>if a.1=s.1.1∧a.2=s.1.2 then some s.2 else PM l a
def bAt(ks:List Sd) (j:Nat):Option (Int×Int):=match ks[j]? with
 |some s=>if (PM ks (s.1.2,s.1.1)).isSome then none else some s.1
 |none=>none
def rK(ks:List Sd):List (Int×Int):=(List.range ks.length).filterMap (bAt ks)
def y7(f:Int):List (Int×Int)→Int
 | []=>f
 |p::l=>y7 (if f<0∨p.1<f then p.1 else f) l
theorem MD(f:Int):∀(l m:List (Int×Int)),y7 f (l++m)=y7 (y7 f l) m:=by
 intro l;induction l generalizing f with
 |nil=>intro m;rfl
 |cons p l ih=>intro m;exact ih _ m
theorem Bf:∀(l:List (Int×Int)) (f:Int),(∀p∈l,0≤p.1)→(0≤f∨l≠[])→0≤y7 f l∧(y7 f l=f∨∃p∈l,y7 f l=p.1)∧(0≤f→y7 f l≤f)∧∀p∈l,y7 f l≤p.1
 | [],f,_,h=>by have:0≤f:=h.resolve_right (by simp);exact⟨this,.inl rfl,fun _=>Int.le_refl _,by simp⟩
 |p::l,f,hp,_=>by
  have hp0:=hp p (by simp);have ih:=Bf l (if f<0∨p.1<f then p.1 else f) (fun q hq=>hp q (by simp[hq])) (.inl (by split<;>omega));obtain⟨i1,i2,i3,i4⟩:=ih;have h0:(0:Int)≤(if f<0∨p.1<f then p.1 else f):=by split<;>omega
  have i3:=i3 h0;simp only[y7];refine⟨i1,?_,fun hf=>?_,fun q hq=>?_⟩
  ·rcases i2 with h | ⟨q,hq,h⟩
   ·rw[h]
    split
    ·exact .inr ⟨p,by simp,rfl⟩
    ·exact .inl rfl
   ·exact .inr ⟨q,by simp[hq],h⟩
  ·refine Int.le_trans i3 ?_
   split<;>omega
  ·rcases List.mem_cons.1 hq with rfl | hq
   ·refine Int.le_trans i3 ?_
    split<;>omega
   ·exact i4 q hq
theorem Sy{l m:List (Int×Int)}(h:l.Perm m)(hp:∀p∈l,0≤p.1):y7 (-1) l=y7 (-1) m:=by
 by_cases h0:l=[]
 ·subst h0
  rw[List.nil_perm.1 h]
 ·have Yt:m≠[]:=by rintro rfl;exact h0 (List.perm_nil.1 h)
  have hpm:∀p∈m,0≤p.1:=fun p hq=>hp p (h.mem_iff.2 hq)
  obtain⟨a1,a2,_,a4⟩:=Bf l (-1) hp (.inr h0);obtain⟨b1,b2,_,b4⟩:=Bf m (-1) hpm (.inr Yt);obtain⟨p,hp1,hp2⟩:=a2.resolve_left (by omega);obtain⟨q,hq1,hq2⟩:=b2.resolve_left (by omega);have e1:=b4 p (h.mem_iff.1 hp1);have e2:=a4 q (h.mem_iff.2 hq1);omega
variable{a b:Int}
theorem Sv{l:List (Int×Int)}(h:oV l a=some b):(a,b)∈l:=by
 induction l with
 |nil=>cases h
 |cons p l ih=>
  rw[oV] at h;split at h
  ·rename_i e;cases h;subst e;simp
  ·simp[ih h]
theorem Dq{l:List (Int×Int)}(h:∀p∈l,p.1≠a):oV l a=none:=by
 induction l with
 |nil=>rfl
 |cons p l ih=>
  rw[oV,if_neg (fun e=>h p (by simp) e.symm)];exact ih fun q hq=>h q (by simp[hq])
theorem xu{l:List (Int×Int)}(hn:∀p∈l,∀q∈l,p.1=q.1→p=q)(h:(a,b)∈l):oV l a=some b:=by
 induction l with
 |nil=>cases h
 |cons p l ih=>
  rw[oV];split
  ·rename_i e
   have:=hn p (by simp) (a,b) h e.symm;rw[this]
  ·rename_i e
   rcases List.mem_cons.1 h with rfl | h
   ·exact absurd rfl e
   ·exact ih (fun p hp q hq=>hn p (by simp[hp]) q (by simp[hq])) h
theorem PL{l m:List (Int×Int)}(h:l.Perm m)(hn:∀p∈l,∀q∈l,p.1=q.1→p=q)(a:Int):oV l a=oV m a:=by
 have hn' :∀p∈m,∀q∈m,p.1=q.1→p=q:=fun p hp q hq=>hn p (h.mem_iff.2 hp) q (h.mem_iff.2 hq)
 cases hb:oV m a with
 |some b=>exact xu hn (h.mem_iff.2 (Sv hb))
 |none=>
  refine Dq fun p hp e=>?_
  have:=xu hn' (a:=a) (b:=p.2) (by rw[←e];exact h.mem_iff.1 hp);rw[hb] at this;cases this
def VA(ks:List Sd):Prop:=∀i j p q,bAt ks i=some p→bAt ks j=some q→p.1=q.1→i=j
def cG(ks:List Sd) (seen:List Nat):List (Int×Int):=seen.filterMap (bAt ks)
variable{j:Nat}{ks:List Sd}{p:Int×Int}
theorem RG(h:bAt ks j=some p):j<ks.length:=by
 unfold bAt at h;split at h
 ·rename_i s hs;exact(gL hs)
 ·cases h
variable{seen:List Nat}
theorem KS(hn:seen.Nodup)(A':∀j∈seen,j<ks.length)(H':∀j,j<ks.length→j∈seen):(cG ks seen).Perm (rK ks):=by
 refine List.Perm.filterMap _ ?_;refine(List.perm_ext_iff_of_nodup hn List.nodup_range).2 fun j=>?_
 simp only[List.mem_range];exact⟨A' j,H' j⟩
theorem FH(ha:VA ks)(hj:j∉seen)(hp:bAt ks j=some p):oV (cG ks seen) p.1=none:=by
 refine Dq fun q hq e=>?_
 obtain⟨i,hi,hi2⟩:=List.mem_filterMap.1 hq;have:=ha i j q p hi2 hp e;subst this;exact hj hi
theorem FI(ha:VA ks):∀p∈cG ks seen,∀q∈cG ks seen,p.1=q.1→p=q:=by intro p hp q hq e;obtain⟨i,_,hi⟩:=List.mem_filterMap.1 hp;obtain⟨j,_,hj⟩:=List.mem_filterMap.1 hq;have:=ha i j p q hi hj e;subst this;rw[hi] at hj;cases hj;rfl
def vt(B:List (Int×Int)) (first:Int):Nat→Int→List Int→Option (List Int)
 |0,_,out=>some out
 |n+1,a,out=>match oV B a with
  |none=>none
  |some b=>if a=first∧out≠[] then none else vt B first n b (out++[a])
def AJ(B:List (Int×Int)):Option (List Int):=vt B (y7 (-1) B) B.length (y7 (-1) B) []
def tS(ks:List Sd):Bool:=
 let B:=rK ks
 decide (B≠[])&&decide ((B.map (·.1)).Nodup)&&B.all (fun p=>decide (0≤p.1))&&decide (ks.length≤1000000)
theorem RI{i:Nat}{q:Int×Int}(hn:((rK ks).map (·.1)).Nodup)(hi:bAt ks i=some p)(hj:bAt ks j=some q)(e:p.1=q.1):i=j:=by
 have key:∀(l:List Nat),l.Nodup→((l.filterMap (bAt ks)).map (·.1)).Nodup→i∈l→j∈l→i=j:=by
  intro l;induction l with
  |nil=>intro _ _ h;cases h
  |cons a l ih=>
   intro hl Z0 h1 h2;have hl' :=(List.nodup_cons.1 hl).2;rw[List.filterMap_cons] at Z0;cases ha:bAt ks a with
   |none=>
    rw[ha] at Z0;have n1:i≠a:=by rintro rfl;rw[hi] at ha;cases ha
    have n2:j≠a:=by rintro rfl;rw[hj] at ha;cases ha
    exact ih hl' Z0 ((List.mem_cons.1 h1).resolve_left n1) ((List.mem_cons.1 h2).resolve_left n2)
   |some r=>
    rw[ha] at Z0;simp only[List.map_cons,List.nodup_cons] at Z0;have out:∀k s,k∈l→bAt ks k=some s→s.1≠r.1:=by intro k s hk hs h;exact Z0.1 (List.mem_map.2 ⟨s,List.mem_filterMap.2 ⟨k,hk,hs⟩,h⟩)
    rcases List.mem_cons.1 h1 with h1 | h1<;>rcases List.mem_cons.1 h2 with h2 | h2
    ·rw[h1,h2]
    ·rw[←h1,hi] at ha;cases ha;exact absurd e.symm (out j q h2 hj)
    ·rw[←h2,hj] at ha;cases ha;exact absurd e (out i p h1 hi)
    ·exact ih hl' Z0.2 h1 h2
 exact key _ List.nodup_range hn (List.mem_range.2 (RG hi)) (List.mem_range.2 (RG hj))
theorem Kr(h:tS ks=true):rK ks≠[]∧VA ks∧(∀p∈rK ks,0≤p.1)∧ks.length≤1000000:=by simp only[tS,Bool.and_eq_true,decide_eq_true_eq,List.all_eq_true] at h;obtain⟨⟨⟨h1,h2⟩,h3⟩,h4⟩:=h;exact⟨h1,fun i j p q hi hj e=>RI h2 hi hj e,h3,h4⟩
theorem Qc(h:∀p∈rK ks,0≤p.1):∀p∈cG ks seen,0≤p.1:=by intro p hp;obtain⟨i,_,hi⟩:=List.mem_filterMap.1 hp;exact h p (List.mem_filterMap.2 ⟨i,List.mem_range.2 (RG hi),hi⟩)
theorem xM{B:List (Int×Int)}{first:Int}:∀{n:Nat}{a:Int}{out cyc:List Int},vt B first n a out=some cyc→cyc.length=out.length+n
 |0,a,out,cyc,h=>by simp only[vt,Option.some.injEq] at h;subst h;rfl
 |n+1,a,out,cyc,h=>by
  rw[vt] at h;split at h
  ·cases h
  ·split at h
   ·cases h
   ·have:=xM h
    simp at this;omega
def Ma(bs:List Nat) (n j:Nat):Bool:=aX bs j&&(List.range n).all fun k=>decide (k≤j)||bef bs j k
def bW(r:Rec):Bool:=decide (r.nx.length=r.mem.length)&&r.wr.isEmpty
def AE(bs:List Nat) (n j:Nat) (r:Rec):Bool:=
 r.v.y9 (fun b=>decide (b<r.nx.length))&&
  (bW r||(Ma bs n j&&r.wr.all (fun b=>dI r.tm b&&(match r.nx[b]? with | some s=>s.y9 (fun b=>decide (b<r.nx.length)) | none=>true))&&
   (r.nx.drop r.mem.length).all fun s=>(s.own||match s with | .kO=>true | _=>false)&&s.y9 (fun b=>decide (b<r.nx.length))))
def sa(bs:List Nat) (n:Nat):Nat→List Rec→Bool
 |_,[]=>true
 |j,r::rest=>AE bs n j r&&sa bs n (j+1) rest
def mu(T:TypeId→Option TyI) (O:adM) (N m0:Nat) (ops:Array Oper) (bs:List Nat) (s:XS):Option XS:=
 match lg T O N ops bs 0 ops.toList s.env s.mem [] with
 |none=>none
 |some (R,env,mem)=>
  if sa bs R.length 0 R then some ⟨env,mem,s.aeS||R.any fun r=>r.wr.any fun b=>decide (b<m0)⟩ else none
structure ahc (bs:List Nat) (n:Nat) (f:Nat×Rec):Prop where
 refs:f.2.v.y9 (fun b=>decide (b<f.2.nx.length))=true
 or:(f.2.nx.length=f.2.mem.length∧f.2.wr=[])∨((∀i,i<f.1→bef bs i f.1=true)∧(∀k,f.1<k→k<n→bef bs f.1 k=true)∧
  f.2.wr.all (fun b=>dI f.2.tm b&&(match f.2.nx[b]? with | some s=>s.y9 (fun b=>decide (b<f.2.nx.length)) | none=>true))=true∧
  ((f.2.nx.drop f.2.mem.length).all fun s=>(s.own||match s with | .kO=>true | _=>false)&&s.y9 (fun b=>decide (b<f.2.nx.length)))=true)
theorem AD{bs:List Nat}{n:Nat}:∀{j0:Nat}{R:List Rec},sa bs n j0 R=true→∀f∈aJ j0 R,ahc bs n f
 |_,[],_,f,hf=>by simp[aJ] at hf
 |j0,r::rest,h,f,hf=>by
  simp only[sa,Bool.and_eq_true] at h;rw[aJ,List.mem_cons] at hf;rcases hf with rfl | hf
  ·have h1:=h.1
   simp only[AE,bW,Ma,Bool.and_eq_true,Bool.or_eq_true,decide_eq_true_eq,List.isEmpty_iff] at h1;obtain⟨h1,h2⟩:=h1;refine⟨h1,?_⟩;rcases h2 with h2 | ⟨⟨⟨h2,h3⟩,h4⟩,h5⟩
   ·exact .inl h2
   ·refine .inr ⟨fun i hi=>List.all_eq_true.1 h2 i (List.mem_range.2 hi),fun k hk hkn=>?_,h4,h5⟩
    have:=List.all_eq_true.1 h3 k (List.mem_range.2 hkn);simp only[Bool.or_eq_true,decide_eq_true_eq] at this;rcases this with h6 | h6
    ·omega
    ·exact h6
  ·exact AD h.2 f hf
variable{R:List Rec}
theorem JH{bs:List Nat}(h:sa bs R.length 0 R=true){f:Nat×Rec}(hf:f∈aJ 0 R):gj bs (aJ 0 R) f.1 f.2=true:=by
 have H':=AD h;have YD:=H' f hf;have hn:=iF hf;unfold gj;have hq:∀g∈(aJ 0 R).filter (fun g=>decide (g.1<f.1)&& !bef bs g.1 f.1),g.2.nx.length=g.2.mem.length∧g.2.wr=[]:=by
  intro g hg;have Yg:=List.mem_filter.1 hg;simp only[Bool.and_eq_true,decide_eq_true_eq,Bool.not_eq_true'] at Yg;rcases (H' g Yg.1).or with h1 | ⟨_,h1,_⟩
  ·exact h1
  ·have:=h1 f.1 Yg.2.1 (by omega)
   rw[this] at Yg;exact absurd Yg.2.2 (by simp)
 have XW:∀YM,gT YM ((aJ 0 R).filter fun g=>decide (g.1<f.1)&& !bef bs g.1 f.1)=fun b=>decide (b<YM):=by
  intro YM;funext b;unfold gT;have:(((aJ 0 R).filter fun g=>decide (g.1<f.1)&& !bef bs g.1 f.1).all fun f=> !decide (f.2.mem.length≤b∧b<f.2.nx.length))=true:=List.all_eq_true.2 fun g hg=>by have:=(hq g hg).1;simp;omega
  rw[this,Bool.and_true]
 simp only[XW,Bool.and_eq_true];rcases YD.or with⟨h1,h2⟩ | ⟨h1,_,h3,h4⟩
 ·have hd:f.2.nx.drop f.2.mem.length=[]:=List.drop_of_length_le (by rw[h1];exact Nat.le_refl _)
  refine⟨⟨⟨⟨by rw[h2];rfl,YD.refs⟩,by rw[h2];rfl⟩,by rw[hd];rfl⟩,?_⟩;refine List.all_eq_true.2 fun g hg=>?_
  obtain⟨g1,g2⟩:=hq g hg;rw[g2,h2,g1,Nat.sub_self,List.take_zero];rfl
 ·refine⟨⟨⟨⟨?_,YD.refs⟩,?_⟩,h4⟩,?_⟩
  ·refine List.all_eq_true.2 fun b hb=>?_
   have:=List.all_eq_true.1 h3 b hb;simp only[Bool.and_eq_true] at this;exact this.1
  ·refine List.all_eq_true.2 fun b hb=>?_
   have:=List.all_eq_true.1 h3 b hb;simp only[Bool.and_eq_true] at this;exact this.2
  ·refine List.all_eq_true.2 fun g hg=>?_
   have Yg:=List.mem_filter.1 hg;simp only[Bool.and_eq_true,decide_eq_true_eq,Bool.not_eq_true'] at Yg;rw[h1 g.1 Yg.2.1] at Yg;exact absurd Yg.2.2 (by simp)
variable{N m0:Nat}{O:adM}
theorem lf{T:TypeId→Option TyI}{ops:Array Oper}{bs:List Nat}(IR:eY ops.toList=bs)(s:XS):
  aE T O N m0 ops s=match mu T O N m0 ops bs s with
   |some s' =>some s'
   |none=>kZ T O N m0 ops s:=by
 cases h:mu T O N m0 ops bs s with
 |none=>rfl
 |some s' =>
  simp only;unfold mu at h;unfold aE;simp only;rw[IR];split at h
  ·cases h
  ·rename_i R env mem hr
   split at h
   ·rename_i hl
    cases h;rw[hr];simp only;rw[if_pos (List.all_eq_true.2 fun f hf=>JH hl hf)]
   ·cases h
def qf(bs:List Nat) (n j:Nat):Bool:=(List.range n).all fun k=>decide (k≤j)||bef bs j k
def xw(bs:List Nat) (n j:Nat) (r:Rec):Bool:=
 r.v.y9 (fun b=>decide (b<r.nx.length))&&
  (bW r||(qf bs n j&&(r.wr.isEmpty||(aX bs j&&r.wr.all (fun b=>dI r.tm b&&(match r.nx[b]? with | some s=>s.y9 (fun b=>decide (b<r.nx.length)) | none=>true))))&&
   (r.nx.drop r.mem.length).all fun s=>(s.own||match s with | .kO=>true | _=>false)&&s.y9 (fun b=>decide (b<r.nx.length))))
def qv(bs:List Nat) (n:Nat):Nat→List Rec→Bool
 |_,[]=>true
 |j,r::rest=>xw bs n j r&&qv bs n (j+1) rest
def j9(T:TypeId→Option TyI) (O:adM) (N m0:Nat) (ops:Array Oper) (bs:List Nat) (s:XS):Option XS:=
 match lg T O N ops bs 0 ops.toList s.env s.mem [] with
 |none=>none
 |some (R,env,mem)=>
  if qv bs R.length 0 R then some ⟨env,mem,s.aeS||R.any fun r=>r.wr.any fun b=>decide (b<m0)⟩ else none
structure ahd (bs:List Nat) (n:Nat) (f:Nat×Rec):Prop where
 refs:f.2.v.y9 (fun b=>decide (b<f.2.nx.length))=true
 or:(f.2.nx.length=f.2.mem.length∧f.2.wr=[])∨((f.2.wr=[]∨∀i,i<f.1→bef bs i f.1=true)∧(∀k,f.1<k→k<n→bef bs f.1 k=true)∧
  f.2.wr.all (fun b=>dI f.2.tm b&&(match f.2.nx[b]? with | some s=>s.y9 (fun b=>decide (b<f.2.nx.length)) | none=>true))=true∧
  ((f.2.nx.drop f.2.mem.length).all fun s=>(s.own||match s with | .kO=>true | _=>false)&&s.y9 (fun b=>decide (b<f.2.nx.length)))=true)
theorem A8{bs:List Nat}{n:Nat}:∀{j0:Nat}{R:List Rec},qv bs n j0 R=true→∀f∈aJ j0 R,ahd bs n f
 |_,[],_,f,hf=>by simp[aJ] at hf
 |j0,r::rest,h,f,hf=>by
  simp only[qv,Bool.and_eq_true] at h;rw[aJ,List.mem_cons] at hf;rcases hf with rfl | hf
  ·have h1:=h.1
   simp only[xw,bW,qf,Bool.and_eq_true,Bool.or_eq_true,decide_eq_true_eq,List.isEmpty_iff] at h1;obtain⟨h1,h2⟩:=h1;refine⟨h1,?_⟩;rcases h2 with h2 | ⟨⟨h3,h4⟩,h5⟩
   ·exact .inl h2
   ·refine .inr ⟨?_,fun k hk hkn=>?_,?_,h5⟩
    ·rcases h4 with h4 | ⟨h4,_⟩
     ·exact .inl h4
     ·exact .inr fun i hi=>List.all_eq_true.1 h4 i (List.mem_range.2 hi)
    ·have:=List.all_eq_true.1 h3 k (List.mem_range.2 hkn)
     simp only[Bool.or_eq_true,decide_eq_true_eq] at this;rcases this with h6 | h6
     ·omega
     ·exact h6
    ·rcases h4 with h4 | ⟨_,h4⟩
     ·rw[h4];rfl
     ·exact h4
  ·exact A8 h.2 f hf
theorem JI{bs:List Nat}(h:qv bs R.length 0 R=true){f:Nat×Rec}(hf:f∈aJ 0 R):gj bs (aJ 0 R) f.1 f.2=true:=by
 have H':=A8 h;have YD:=H' f hf;have hn:=iF hf;unfold gj;have hq:∀g∈(aJ 0 R).filter (fun g=>decide (g.1<f.1)&& !bef bs g.1 f.1),g.2.nx.length=g.2.mem.length∧g.2.wr=[]:=by
  intro g hg;have Yg:=List.mem_filter.1 hg;simp only[Bool.and_eq_true,decide_eq_true_eq,Bool.not_eq_true'] at Yg;rcases (H' g Yg.1).or with h1 | ⟨_,h1,_⟩
  ·exact h1
  ·have:=h1 f.1 Yg.2.1 (by omega)
   rw[this] at Yg;exact absurd Yg.2.2 (by simp)
 have XW:∀YM,gT YM ((aJ 0 R).filter fun g=>decide (g.1<f.1)&& !bef bs g.1 f.1)=fun b=>decide (b<YM):=by
  intro YM;funext b;unfold gT;have:(((aJ 0 R).filter fun g=>decide (g.1<f.1)&& !bef bs g.1 f.1).all fun f=> !decide (f.2.mem.length≤b∧b<f.2.nx.length))=true:=List.all_eq_true.2 fun g hg=>by have:=(hq g hg).1;simp;omega
  rw[this,Bool.and_true]
 simp only[XW,Bool.and_eq_true];rcases YD.or with⟨h1,h2⟩ | ⟨h1,_,h3,h4⟩
 ·have hd:f.2.nx.drop f.2.mem.length=[]:=List.drop_of_length_le (by rw[h1];exact Nat.le_refl _)
  refine⟨⟨⟨⟨by rw[h2];rfl,YD.refs⟩,by rw[h2];rfl⟩,by rw[hd];rfl⟩,?_⟩;refine List.all_eq_true.2 fun g hg=>?_
  obtain⟨g1,g2⟩:=hq g hg;rw[g2,h2,g1,Nat.sub_self,List.take_zero];rfl
 ·refine⟨⟨⟨⟨?_,YD.refs⟩,?_⟩,h4⟩,?_⟩
  ·refine List.all_eq_true.2 fun b hb=>?_
   have:=List.all_eq_true.1 h3 b hb;simp only[Bool.and_eq_true] at this;exact this.1
  ·refine List.all_eq_true.2 fun b hb=>?_
   have:=List.all_eq_true.1 h3 b hb;simp only[Bool.and_eq_true] at this;exact this.2
  ·refine List.all_eq_true.2 fun g hg=>?_
   obtain⟨g1,g2⟩:=hq g hg;rcases h1 with h1 | h1
   ·rw[g2,h1,g1,Nat.sub_self,List.take_zero]
    rfl
   ·have Yg:=List.mem_filter.1 hg
    simp only[Bool.and_eq_true,decide_eq_true_eq,Bool.not_eq_true'] at Yg;rw[h1 g.1 Yg.2.1] at Yg;exact absurd Yg.2.2 (by simp)
theorem jo{T:TypeId→Option TyI}{ops:Array Oper}{bs:List Nat}(IR:eY ops.toList=bs)(s:XS):
  aE T O N m0 ops s=match j9 T O N m0 ops bs s with
   |some s' =>some s'
   |none=>kZ T O N m0 ops s:=by
 cases h:j9 T O N m0 ops bs s with
 |none=>rfl
 |some s' =>
  simp only;unfold j9 at h;unfold aE;simp only;rw[IR];split at h
  ·cases h
  ·rename_i R env mem hr
   split at h
   ·rename_i hl
    cases h;rw[hr];simp only;rw[if_pos (List.all_eq_true.2 fun f hf=>JI hl hf)]
   ·cases h
mutual
theorem aeV{p q:Nat→Bool}:∀(v:AV),v.y9 p=true→v.y9 q=true→v.y9 (fun b=>p b&&q b)=true
 |.ptr _ _,h1,h2=>by simp only[AV.y9] at h1 h2 ⊢;rw[h1,h2];rfl
 |.slice _ _ _ _,h1,h2=>by simp only[AV.y9] at h1 h2 ⊢;rw[h1,h2];rfl
 |.map _,h1,h2=>by simp only[AV.y9] at h1 h2 ⊢;rw[h1,h2];rfl
 |.yield _,h1,h2=>by simp only[AV.y9] at h1 h2 ⊢;rw[h1,h2];rfl
 |.func _ cs,h1,h2=>by simp only[AV.y9] at h1 h2 ⊢;exact kX cs h1 h2
 |.iface _ v,h1,h2=>by simp only[AV.y9] at h1 h2 ⊢;exact aeV v h1 h2
 |.agg cs,h1,h2=>by simp only[AV.y9] at h1 h2 ⊢;exact kX cs h1 h2
 |.tuple cs,h1,h2=>by simp only[AV.y9] at h1 h2 ⊢;exact kX cs h1 h2
 |.undef,_,_=>rfl
 |.bool _,_,_=>rfl
 |.int _ _,_,_=>rfl
 |.str _,_,_=>rfl
 |.aeT,_,_=>rfl
 |.kK,_,_=>rfl
 |.ae0,_,_=>rfl
 |.nilFunc,_,_=>rfl
 |.nilIface,_,_=>rfl
theorem kX{p q:Nat→Bool}:∀(cs:List AV),AV.aeB p cs=true→AV.aeB q cs=true→AV.aeB (fun b=>p b&&q b) cs=true
 | [],_,_=>rfl
 |v::vs,h1,h2=>by simp only[AV.aeB,Bool.and_eq_true] at h1 h2 ⊢;exact⟨aeV v h1.1 h2.1,kX vs h1.2 h2.2⟩
end
mutual
theorem aeP:∀(v:AV),v.y9 (fun _=>true)=true
 |.ptr _ _=>rfl
 |.slice _ _ _ _=>rfl
 |.map _=>rfl
 |.yield _=>rfl
 |.func _ cs=>by simp only[AV.y9];exact jK cs
 |.iface _ v=>by simp only[AV.y9];exact aeP v
 |.agg cs=>by simp only[AV.y9];exact jK cs
 |.tuple cs=>by simp only[AV.y9];exact jK cs
 |.undef=>rfl
 |.bool _=>rfl
 |.int _ _=>rfl
 |.str _=>rfl
 |.aeT=>rfl
 |.kK=>rfl
 |.ae0=>rfl
 |.nilFunc=>rfl
 |.nilIface=>rfl
theorem jK:∀(cs:List AV),AV.aeB (fun _=>true) cs=true
 | []=>rfl
 |v::vs=>by simp only[AV.aeB,Bool.and_eq_true];exact⟨aeP v,jK vs⟩
end
theorem aeX{YM:Nat}{v:AV}(h:v.y9 (fun b=>decide (b<YM))=true):∀{un:List (Nat×Rec)},(∀g∈un,v.y9 (fun b=> !decide (g.2.mem.length≤b∧b<g.2.nx.length))=true)→v.y9 (gT YM un)=true
 | [],_=>by
  have:gT YM []=fun b=>decide (b<YM):=by funext b;simp[gT]
  rw[this];exact h
 |g::un,hg=>by
  have ih:=aeX h (un:=un) (fun x hx=>hg x (List.mem_cons_of_mem _ hx));have h1:=aeV v ih (hg g (List.mem_cons_self ..));have:gT YM (g::un)=fun b=>gT YM un b&& !decide (g.2.mem.length≤b∧b<g.2.nx.length):=by funext b;simp only[gT,List.all_cons];cases decide (b<YM)<;>cases (un.all fun f=> !decide (f.2.mem.length≤b∧b<f.2.nx.length))<;>simp
  rw[this];exact h1
def oU:aeD→Bool
 |.kO=>true
 |_=>false
def my(lo hi:Nat) (r:Rec):Bool:=
 bW r&&r.v.y9 (fun b=> !decide (lo≤b∧b<hi))&&((r.tm.drop lo).take (hi-lo)).all oU
def By(bs:List Nat) (i:Nat) (r:Rec):Nat→List Rec→Bool
 |_,[]=>true
 |j,s::rest=>(bef bs i j||(r.wr.isEmpty&&my r.mem.length r.nx.length s))&&By bs i r (j+1) rest
def oM(bs:List Nat):Nat→List Rec→Bool
 |_,[]=>true
 |j,r::rest=>r.v.y9 (fun b=>decide (b<r.nx.length))&&(bW r||(By bs j r (j+1) rest&&(r.wr.isEmpty||(aX bs j&&r.wr.all (fun b=>dI r.tm b&&(match r.nx[b]? with | some s=>s.y9 (fun b=>decide (b<r.nx.length)) | none=>true))))&&
   (r.nx.drop r.mem.length).all fun s=>(s.own||match s with | .kO=>true | _=>false)&&s.y9 (fun b=>decide (b<r.nx.length))))&&oM bs (j+1) rest
def jz(T:TypeId→Option TyI) (O:adM) (N m0:Nat) (ops:Array Oper) (bs:List Nat) (s:XS):Option XS:=
 match lg T O N ops bs 0 ops.toList s.env s.mem [] with
 |none=>none
 |some (R,env,mem)=>
  if oM bs 0 R then some ⟨env,mem,s.aeS||R.any fun r=>r.wr.any fun b=>decide (b<m0)⟩ else none
theorem DH{bs:List Nat}{i:Nat}{r:Rec}:∀{j0:Nat}{R:List Rec},By bs i r j0 R=true→∀g∈aJ j0 R,bef bs i g.1=true∨(r.wr=[]∧my r.mem.length r.nx.length g.2=true)
 |_,[],_,g,hg=>by simp[aJ] at hg
 |j0,s::rest,h,g,hg=>by
  simp only[By,Bool.and_eq_true,Bool.or_eq_true,List.isEmpty_iff] at h;rw[aJ,List.mem_cons] at hg;rcases hg with rfl | hg
  ·exact h.1
  ·exact DH h.2 g hg
structure ahe (bs:List Nat) (R:List (Nat×Rec)) (f:Nat×Rec):Prop where
 refs:f.2.v.y9 (fun b=>decide (b<f.2.nx.length))=true
 or:(f.2.nx.length=f.2.mem.length∧f.2.wr=[])∨((f.2.wr=[]∨∀i,i<f.1→bef bs i f.1=true)∧(∀g∈R,f.1<g.1→bef bs f.1 g.1=true∨(f.2.wr=[]∧my f.2.mem.length f.2.nx.length g.2=true))∧
  f.2.wr.all (fun b=>dI f.2.tm b&&(match f.2.nx[b]? with | some s=>s.y9 (fun b=>decide (b<f.2.nx.length)) | none=>true))=true∧
  ((f.2.nx.drop f.2.mem.length).all fun s=>(s.own||match s with | .kO=>true | _=>false)&&s.y9 (fun b=>decide (b<f.2.nx.length)))=true)
theorem Bx{bs:List Nat}{R0:List (Nat×Rec)}:∀{j0:Nat}{R:List Rec},(∀g∈R0,g.1<j0∨g∈aJ j0 R)→oM bs j0 R=true→∀f∈aJ j0 R,ahe bs R0 f
 |_,[],_,_,f,hf=>by simp[aJ] at hf
 |j0,r::rest,hR,h,f,hf=>by
  simp only[oM,Bool.and_eq_true] at h;obtain⟨⟨h0,h1⟩,h2⟩:=h;have hR' :∀g∈R0,g.1<j0+1∨g∈aJ (j0+1) rest:=by
   intro g hg;rcases hR g hg with h3 | h3
   ·exact .inl (by omega)
   ·rw[aJ,List.mem_cons] at h3
    rcases h3 with rfl | h3
    ·exact .inl (by simp)
    ·exact .inr h3
  rw[aJ,List.mem_cons] at hf;rcases hf with rfl | hf
  ·refine⟨h0,?_⟩
   simp only[bW,Bool.and_eq_true,Bool.or_eq_true,decide_eq_true_eq,List.isEmpty_iff] at h1;rcases h1 with h1 | ⟨⟨h3,h4⟩,h5⟩
   ·exact .inl h1
   ·refine .inr ⟨?_,fun g hg A'=>?_,?_,h5⟩
    ·rcases h4 with h4 | ⟨h4,_⟩
     ·exact .inl h4
     ·exact .inr fun i hi=>List.all_eq_true.1 h4 i (List.mem_range.2 hi)
    ·rcases hR' g hg with h6 | h6
     ·simp only at A';omega
     ·exact DH h3 g h6
    ·rcases h4 with h4 | ⟨_,h4⟩
     ·rw[h4];rfl
     ·exact h4
  ·exact Bx hR' h2 f hf
theorem JJ{bs:List Nat}(h:oM bs 0 R=true){f:Nat×Rec}(hf:f∈aJ 0 R):gj bs (aJ 0 R) f.1 f.2=true:=by
 have H':=Bx (R0:=aJ 0 R) (fun g hg=>.inr hg) h;have YD:=H' f hf;unfold gj;have YX:∀g∈(aJ 0 R).filter (fun g=>decide (g.1<f.1)&& !bef bs g.1 f.1),(g.2.nx.length=g.2.mem.length∧g.2.wr=[])∨(g.2.wr=[]∧my g.2.mem.length g.2.nx.length f.2=true):=by
  intro g hg;have Yg:=List.mem_filter.1 hg;simp only[Bool.and_eq_true,decide_eq_true_eq,Bool.not_eq_true'] at Yg;rcases (H' g Yg.1).or with h1 | ⟨_,h1,_⟩
  ·exact .inl h1
  ·rcases h1 f hf Yg.2.1 with h2 | h2
   ·rw[h2] at Yg;exact absurd Yg.2.2 (by simp)
   ·exact .inr h2
 simp only[Bool.and_eq_true];by_cases hqu:f.2.nx.length=f.2.mem.length∧f.2.wr=[]
 ·obtain⟨h1,h2⟩:=hqu
  have hd:f.2.nx.drop f.2.mem.length=[]:=List.drop_of_length_le (by rw[h1];exact Nat.le_refl _);refine⟨⟨⟨⟨by rw[h2];rfl,aeX YD.refs fun g hg=>?_⟩,by rw[h2];rfl⟩,by rw[hd];rfl⟩,?_⟩
  ·rcases YX g hg with⟨g1,g2⟩ | ⟨g1,g2⟩
   ·have e:(fun b=> !decide (g.2.mem.length≤b∧b<g.2.nx.length))=fun _=>true:=by
     funext b;rw[g1];have:¬(g.2.mem.length≤b∧b<g.2.mem.length):=by omega
     simp[this]
    rw[e];exact aeP _
   ·simp only[my,Bool.and_eq_true] at g2
    exact g2.1.2
  ·refine List.all_eq_true.2 fun g hg=>?_
   rcases YX g hg with⟨g1,g2⟩ | ⟨g1,g2⟩
   ·rw[g2,h2,g1,Nat.sub_self,List.take_zero]
    rfl
   ·simp only[my,Bool.and_eq_true] at g2
    rw[g1,h2];simp only[List.all_nil,Bool.true_and];refine List.all_eq_true.2 fun s hs=>?_
    have:=List.all_eq_true.1 g2.2 s hs;cases s<;>simp_all[oU]
 ·rcases YD.or with hq | ⟨h1,_,h3,h4⟩
  ·exact absurd hq hqu
  ·have hq:∀g∈(aJ 0 R).filter (fun g=>decide (g.1<f.1)&& !bef bs g.1 f.1),g.2.nx.length=g.2.mem.length∧g.2.wr=[]:=by
    intro g hg;rcases YX g hg with h5 | ⟨g1,g2⟩
    ·exact h5
    ·simp only[my,bW,Bool.and_eq_true,decide_eq_true_eq,List.isEmpty_iff] at g2
     exact absurd g2.1.1 hqu
   have XW:∀YM,gT YM ((aJ 0 R).filter fun g=>decide (g.1<f.1)&& !bef bs g.1 f.1)=fun b=>decide (b<YM):=by
    intro YM;funext b;unfold gT;have:(((aJ 0 R).filter fun g=>decide (g.1<f.1)&& !bef bs g.1 f.1).all fun f=> !decide (f.2.mem.length≤b∧b<f.2.nx.length))=true:=List.all_eq_true.2 fun g hg=>by have:=(hq g hg).1;simp;omega
    rw[this,Bool.and_true]
   simp only[XW];refine⟨⟨⟨⟨?_,YD.refs⟩,?_⟩,h4⟩,?_⟩
   ·refine List.all_eq_true.2 fun b hb=>?_
    have:=List.all_eq_true.1 h3 b hb;simp only[Bool.and_eq_true] at this;exact this.1
   ·refine List.all_eq_true.2 fun b hb=>?_
    have:=List.all_eq_true.1 h3 b hb;simp only[Bool.and_eq_true] at this;exact this.2
   ·refine List.all_eq_true.2 fun g hg=>?_
    obtain⟨g1,g2⟩:=hq g hg;rcases h1 with h1 | h1
    ·rw[g2,h1,g1,Nat.sub_self,List.take_zero]
     rfl
    ·have Yg:=List.mem_filter.1 hg
     simp only[Bool.and_eq_true,decide_eq_true_eq,Bool.not_eq_true'] at Yg;rw[h1 g.1 Yg.2.1] at Yg;exact absurd Yg.2.2 (by simp)
theorem cq{T:TypeId→Option TyI}{ops:Array Oper}{bs:List Nat}(IR:eY ops.toList=bs)(s:XS):
  aE T O N m0 ops s=match jz T O N m0 ops bs s with
   |some s' =>some s'
   |none=>kZ T O N m0 ops s:=by
 cases h:jz T O N m0 ops bs s with
 |none=>rfl
 |some s' =>
  simp only;unfold jz at h;unfold aE;simp only;rw[IR];split at h
  ·cases h
  ·rename_i R env mem hr
   split at h
   ·rename_i hl
    cases h;rw[hr];simp only;rw[if_pos (List.all_eq_true.2 fun f hf=>JJ hl hf)]
   ·cases h
theorem Bd(f:Nat→Bool) (new:Mem):∀(i:Nat) (M:Mem),aZ [] i M (bp f i M++new)=M++new
 |_,[]=>rfl
 |i,s::M=>by simp[bp,aZ,Bd f new (i+1) M]
theorem xx(new:Mem):∀(i:Nat) (M:Mem),aZ [] i M (M++new)=M++new
 |_,[]=>rfl
 |i,s::M=>by simp[aZ,xx new (i+1) M]
theorem xz(f:Nat→Bool) (s:aeD):∀(i:Nat) (M:Mem) (k:Nat),aZ [i+k] i M ((bp f i M).set k s)=M.set k s
 |_,[],_=>rfl
 |i,x::M,0=>by
  simp only[bp,List.set_cons_zero,aZ,Nat.add_zero];have h:∀(j:Nat) (M:Mem),i<j→aZ [i] j M (bp f j M)=M:=by
   intro j M hj;induction M generalizing j with
   |nil=>rfl
   |cons y M ih=>simp[bp,aZ,ih (j+1) (by omega),show¬j=i by omega]
  simp[h (i+1) M (by omega)]
 |i,x::M,k+1=>by have:=xz f s (i+1) M k;rw[show i+1+k=i+(k+1) by omega] at this;simp[bp,aZ,this,show¬i=i+(k+1) by omega]
theorem Kh(f:Nat→Bool)(s:aeD)(M:Mem)(k:Nat):aZ [k] 0 M ((bp f 0 M).set k s)=M.set k s:=by
 have:=xz f s 0 M k
 rwa [Nat.zero_add] at this
theorem Du(f:Nat→Bool):∀(i:Nat) (M:Mem),(bp f i M).length=M.length
 |_,[]=>rfl
 |i,x::M=>by simp[bp,Du f (i+1) M]
theorem Ds(f:Nat→Bool)(M:Mem)(lo n:Nat)(h:∀b,lo≤b→b<lo+n→f b=false):(((bp f 0 M).drop lo).take n).all oU=true:=by
 rw[List.all_eq_true];intro s hs;obtain⟨i,hi⟩:=List.getElem?_of_mem hs;rw[List.getElem?_take] at hi;split at hi
 ·rename_i A'
  rw[List.getElem?_drop,tN] at hi;cases hM:M[lo+i]? with
  |none=>rw[hM] at hi;simp at hi
  |some x=>
   rw[hM] at hi;simp only[Option.map_some,Nat.zero_add,Option.some.injEq] at hi;rw[h (lo+i) (by omega) (by omega)] at hi;simp at hi;subst hi;rfl
 ·cases hi
theorem MB(M:Mem)(lo n:Nat):(((bp (fun _=>false) 0 M).drop lo).take n).all oU=true:=Ds _ M lo n fun _ _ _=>rfl
theorem VU(M X:Mem)(k:Nat):(M++X).drop (M.length+k)=X.drop k:=by rw[List.drop_append];simp
theorem Uv(M X:Mem):(M++X).drop M.length=X:=by simp
theorem vf(i:Nat)(s s' :aeD)(r r' :Mem):aZ [] i (s::r) (s' ::r')=s::aZ [] (i+1) r r' :=by simp[aZ]
theorem Be:∀(i:Nat) (N X Y:Mem),aZ [] i (N++X) (N++Y)=N++aZ [] (i+N.length) X Y
 |i,[],X,Y=>by simp
 |i,s::N,X,Y=>by simp only[List.cons_append,vf,Be (i+1) N X Y,List.length_cons];rw[show i+1+N.length=i+(N.length+1) by omega]
theorem aeD.aeV{p q:Nat→Bool}:∀(s:aeD),s.y9 p=true→s.y9 q=true→s.y9 (fun b=>p b&&q b)=true
 |.kO,_,_=>rfl
 |.cells _ _ cs,h,h' =>kX cs h h'
 |.map es,h,h' =>by simp only[aeD.y9,List.all_eq_true,Bool.and_eq_true] at h h' ⊢;exact fun e he=>⟨Go.Eng.aeV _ (h e he).1 (h' e he).1,Go.Eng.aeV _ (h e he).2 (h' e he).2⟩
 |.ae8 es,h,h' =>by simp only[aeD.y9,List.all_eq_true,Bool.and_eq_true] at h h' ⊢;exact fun e he=>⟨Go.Eng.aeV _ (h e he).1 (h' e he).1,Go.Eng.aeV _ (h e he).2 (h' e he).2⟩
 |.loop r,h,h' =>by simp only[aeD.y9,List.all_eq_true] at h h' ⊢;exact fun e he=>Go.Eng.aeV _ (h e he) (h' e he)
theorem aeD.aeX{YM:Nat}{s:aeD}(h:s.y9 (fun b=>decide (b<YM))=true):∀{un:List (Nat×Rec)},(∀g∈un,s.y9 (fun b=> !decide (g.2.mem.length≤b∧b<g.2.nx.length))=true)→s.y9 (gT YM un)=true
 | [],_=>by
  have:gT YM []=fun b=>decide (b<YM):=by funext b;simp[gT]
  rw[this];exact h
 |g::un,hg=>by
  have ih:=aeD.aeX h (un:=un) (fun x hx=>hg x (List.mem_cons_of_mem _ hx));have h1:=aeD.aeV s ih (hg g (List.mem_cons_self ..));have:gT YM (g::un)=fun b=>gT YM un b&& !decide (g.2.mem.length≤b∧b<g.2.nx.length):=by funext b;simp only[gT,List.all_cons];cases decide (b<YM)<;>cases (un.all fun f=> !decide (f.2.mem.length≤b∧b<f.2.nx.length))<;>simp
  rw[this];exact h1
theorem qN{g:Rec}(h:g.nx.length=g.mem.length):(fun b=> !decide (g.mem.length≤b∧b<g.nx.length))=fun _=>true:=by
 funext b;rw[h];have:¬(g.mem.length≤b∧b<g.mem.length):=by omega
 simp[this]
theorem aeD.aeP:∀(s:aeD),s.y9 (fun _=>true)=true
 |.kO=>rfl
 |.cells _ _ cs=>jK cs
 |.map es=>by simp only[aeD.y9,List.all_eq_true,Bool.and_eq_true];exact fun e _=>⟨Go.Eng.aeP _,Go.Eng.aeP _⟩
 |.ae8 es=>by simp only[aeD.y9,List.all_eq_true,Bool.and_eq_true];exact fun e _=>⟨Go.Eng.aeP _,Go.Eng.aeP _⟩
 |.loop r=>by simp only[aeD.y9,List.all_eq_true];exact fun e _=>Go.Eng.aeP _
def cY(lo hi:Nat) (r:Rec):Bool:=
 r.wr.isEmpty&&r.v.y9 (fun b=> !decide (lo≤b∧b<hi))&&((r.nx.drop r.mem.length).all fun s=>s.y9 (fun b=> !decide (lo≤b∧b<hi)))&&((r.tm.drop lo).take (hi-lo)).all oU
def fz(bs:List Nat) (i:Nat) (r:Rec):Nat→List Rec→Bool
 |_,[]=>true
 |j,s::rest=>(bef bs i j||(r.wr.isEmpty&&cY r.mem.length r.nx.length s))&&fz bs i r (j+1) rest
def iT(bs:List Nat) (j:Nat) (r:Rec):List (Nat×Rec)→Bool
 | []=>true
 |g::l=>(bef bs g.1 j||(bW g.2&&r.wr.all fun b=> !dI g.2.tm b))&&iT bs j r l
def jN(bs:List Nat):Nat→List (Nat×Rec)→List Rec→Bool
 |_,_,[]=>true
 |j,acc,r::rest=>r.v.y9 (fun b=>decide (b<r.nx.length))&&(bW r||(fz bs j r (j+1) rest&&(r.wr.isEmpty||(iT bs j r acc&&r.wr.all (fun b=>dI r.tm b&&(match r.nx[b]? with | some s=>s.y9 (fun b=>decide (b<r.nx.length)) | none=>true))))&&
   (r.nx.drop r.mem.length).all fun s=>(s.own||match s with | .kO=>true | _=>false)&&s.y9 (fun b=>decide (b<r.nx.length))))&&jN bs (j+1) ((j,r)::acc) rest
def cO(T:TypeId→Option TyI) (O:adM) (N m0:Nat) (ops:Array Oper) (bs:List Nat) (s:XS):Option XS:=
 match lg T O N ops bs 0 ops.toList s.env s.mem [] with
 |none=>none
 |some (R,env,mem)=>
  if jN bs 0 [] R then some ⟨env,mem,s.aeS||R.any fun r=>r.wr.any fun b=>decide (b<m0)⟩ else none
theorem AS{bs:List Nat}{i:Nat}{r:Rec}:∀{j0:Nat}{R:List Rec},fz bs i r j0 R=true→∀g∈aJ j0 R,bef bs i g.1=true∨(r.wr=[]∧cY r.mem.length r.nx.length g.2=true)
 |_,[],_,g,hg=>by simp[aJ] at hg
 |j0,s::rest,h,g,hg=>by
  simp only[fz,Bool.and_eq_true,Bool.or_eq_true,List.isEmpty_iff] at h;rw[aJ,List.mem_cons] at hg;rcases hg with rfl | hg
  ·exact h.1
  ·exact AS h.2 g hg
theorem C6{bs:List Nat}{j:Nat}{r:Rec}:∀{acc:List (Nat×Rec)},iT bs j r acc=true→∀g∈acc,bef bs g.1 j=true∨((g.2.nx.length=g.2.mem.length∧g.2.wr=[])∧(r.wr.all fun b=> !dI g.2.tm b)=true)
 | [],_,g,hg=>by cases hg
 |a::l,h,g,hg=>by
  simp only[iT,bW,Bool.and_eq_true,Bool.or_eq_true,decide_eq_true_eq,List.isEmpty_iff] at h;rcases List.mem_cons.1 hg with rfl | hg
  ·exact h.1
  ·exact C6 h.2 g hg
structure agX (bs:List Nat) (R:List (Nat×Rec)) (f:Nat×Rec):Prop where
 refs:f.2.v.y9 (fun b=>decide (b<f.2.nx.length))=true
 or:(f.2.nx.length=f.2.mem.length∧f.2.wr=[])∨((f.2.wr=[]∨∀g∈R,g.1<f.1→bef bs g.1 f.1=true∨((g.2.nx.length=g.2.mem.length∧g.2.wr=[])∧(f.2.wr.all fun b=> !dI g.2.tm b)=true))∧(∀g∈R,f.1<g.1→bef bs f.1 g.1=true∨(f.2.wr=[]∧cY f.2.mem.length f.2.nx.length g.2=true))∧
  f.2.wr.all (fun b=>dI f.2.tm b&&(match f.2.nx[b]? with | some s=>s.y9 (fun b=>decide (b<f.2.nx.length)) | none=>true))=true∧
  ((f.2.nx.drop f.2.mem.length).all fun s=>(s.own||match s with | .kO=>true | _=>false)&&s.y9 (fun b=>decide (b<f.2.nx.length)))=true)
theorem xp{bs:List Nat}{R0:List (Nat×Rec)}:∀{j0:Nat}{acc:List (Nat×Rec)}{R:List Rec},(∀g∈R0,g.1<j0∨g∈aJ j0 R)→(∀g∈R0,g.1<j0→g∈acc)→jN bs j0 acc R=true→∀f∈aJ j0 R,agX bs R0 f
 |_,_,[],_,_,_,f,hf=>by simp[aJ] at hf
 |j0,acc,r::rest,hR,aaQ,h,f,hf=>by
  simp only[jN,Bool.and_eq_true] at h;obtain⟨⟨h0,h1⟩,h2⟩:=h;have hR' :∀g∈R0,g.1<j0+1∨g∈aJ (j0+1) rest:=by
   intro g hg;rcases hR g hg with h3 | h3
   ·exact .inl (by omega)
   ·rw[aJ,List.mem_cons] at h3
    rcases h3 with rfl | h3
    ·exact .inl (by simp)
    ·exact .inr h3
  have aac :∀g∈R0,g.1<j0+1→g∈(j0,r)::acc:=by
   intro g hg A';rcases hR g hg with h3 | h3
   ·exact List.mem_cons_of_mem _ (aaQ g hg h3)
   ·rw[aJ,List.mem_cons] at h3
    rcases h3 with rfl | h3
    ·exact List.mem_cons_self ..
    ·have:=(iF h3).1;omega
  rw[aJ,List.mem_cons] at hf;rcases hf with rfl | hf
  ·refine⟨h0,?_⟩
   simp only[bW,Bool.and_eq_true,Bool.or_eq_true,decide_eq_true_eq,List.isEmpty_iff] at h1;rcases h1 with h1 | ⟨⟨h3,h4⟩,h5⟩
   ·exact .inl h1
   ·refine .inr ⟨?_,fun g hg A'=>?_,?_,h5⟩
    ·rcases h4 with h4 | ⟨h4,_⟩
     ·exact .inl h4
     ·exact .inr fun g hg A'=>C6 h4 g (aaQ g hg A')
    ·rcases hR' g hg with h6 | h6
     ·simp only at A';omega
     ·exact AS h3 g h6
    ·rcases h4 with h4 | ⟨_,h4⟩
     ·rw[h4];rfl
     ·exact h4
  ·exact xp hR' aac h2 f hf
theorem E5{bs:List Nat}(h:jN bs 0 [] R=true){f:Nat×Rec}(hf:f∈aJ 0 R):gj bs (aJ 0 R) f.1 f.2=true:=by
 have H':=xp (R0:=aJ 0 R) (fun g hg=>.inr hg) (fun g _ A'=>absurd A' (Nat.not_lt_zero _)) h;have YD:=H' f hf;unfold gj;have YX:∀g∈(aJ 0 R).filter (fun g=>decide (g.1<f.1)&& !bef bs g.1 f.1),(g.2.nx.length=g.2.mem.length∧g.2.wr=[])∨(g.2.wr=[]∧cY g.2.mem.length g.2.nx.length f.2=true):=by
  intro g hg;have Yg:=List.mem_filter.1 hg;simp only[Bool.and_eq_true,decide_eq_true_eq,Bool.not_eq_true'] at Yg;rcases (H' g Yg.1).or with h1 | ⟨_,h1,_⟩
  ·exact .inl h1
  ·rcases h1 f hf Yg.2.1 with h2 | h2
   ·rw[h2] at Yg;exact absurd Yg.2.2 (by simp)
   ·exact .inr h2
 have hwr:∀g∈(aJ 0 R).filter (fun g=>decide (g.1<f.1)&& !bef bs g.1 f.1),g.2.wr=[]∧(f.2.wr.all fun b=> !dI g.2.tm b)=true∧(f.2.wr=[]∨g.2.nx.length=g.2.mem.length):=by
  intro g hg;have Yg:=List.mem_filter.1 hg;simp only[Bool.and_eq_true,decide_eq_true_eq,Bool.not_eq_true'] at Yg;rcases YX g hg with⟨g1,g2⟩ | ⟨g1,g2⟩
  ·refine⟨g2,?_,.inr g1⟩
   rcases YD.or with h1 | ⟨h1,_⟩
   ·rw[h1.2];rfl
   ·rcases h1 with h1 | h1
    ·rw[h1];rfl
    ·rcases h1 g Yg.1 Yg.2.1 with h3 | h3
     ·rw[h3] at Yg;exact absurd Yg.2.2 (by simp)
     ·exact h3.2
  ·simp only[cY,Bool.and_eq_true,List.isEmpty_iff] at g2
   refine⟨g1,?_,.inl g2.1.1.1⟩;rw[g2.1.1.1];rfl
 have hv:f.2.v.y9 (gT f.2.nx.length ((aJ 0 R).filter fun g=>decide (g.1<f.1)&& !bef bs g.1 f.1))=true:=aeX YD.refs fun g hg=>by
  rcases YX g hg with⟨g1,_⟩ | ⟨_,g2⟩
  ·rw[qN g1];exact aeP _
  ·simp only[cY,Bool.and_eq_true] at g2
   exact g2.1.1.2
 have ack:(((aJ 0 R).filter fun g=>decide (g.1<f.1)&& !bef bs g.1 f.1).all fun g=>g.2.wr.all (fun b=> !dI f.2.tm b)&&f.2.wr.all (fun b=> !dI g.2.tm b)&&
   ((f.2.tm.drop g.2.mem.length).take (g.2.nx.length-g.2.mem.length)).all fun s=>match s with | .kO=>true | _=>false)=true:=List.all_eq_true.2 fun g hg=>by
  obtain⟨w1,w2,_⟩:=hwr g hg;rw[w1,w2];simp only[List.all_nil,Bool.true_and];rcases YX g hg with⟨g1,_⟩ | ⟨_,g2⟩
  ·rw[g1,Nat.sub_self,List.take_zero];rfl
  ·simp only[cY,Bool.and_eq_true] at g2
   refine List.all_eq_true.2 fun s hs=>?_
   have:=List.all_eq_true.1 g2.2 s hs;cases s<;>simp_all[oU]
 have Yx:((f.2.nx.drop f.2.mem.length).all fun s=>(s.own||match s with | .kO=>true | _=>false)&&s.y9 (gT f.2.nx.length ((aJ 0 R).filter fun g=>decide (g.1<f.1)&& !bef bs g.1 f.1)))=true:=by
  refine List.all_eq_true.2 fun s hs=>?_
  rcases YD.or with⟨h1,_⟩ | ⟨_,_,_,h4⟩
  ·rw[List.drop_of_length_le (by rw[h1];exact Nat.le_refl _)] at hs;cases hs
  ·have h5:=List.all_eq_true.1 h4 s hs
   simp only[Bool.and_eq_true] at h5 ⊢;refine⟨h5.1,aeD.aeX h5.2 fun g hg=>?_⟩;rcases YX g hg with⟨g1,_⟩ | ⟨_,g2⟩
   ·rw[qN g1];exact aeD.aeP _
   ·simp only[cY,Bool.and_eq_true] at g2
    exact List.all_eq_true.1 g2.1.2 s hs
 have hw:f.2.wr.all (fun b=>dI f.2.tm b)=true∧(f.2.wr.all fun b=>match f.2.nx[b]? with | some s=>s.y9 (gT f.2.nx.length ((aJ 0 R).filter fun g=>decide (g.1<f.1)&& !bef bs g.1 f.1)) | none=>true)=true:=by
  rcases YD.or with⟨_,h2⟩ | ⟨_,_,h3,_⟩
  ·rw[h2];exact⟨rfl,rfl⟩
  ·constructor
   ·refine List.all_eq_true.2 fun b hb=>?_
    have:=List.all_eq_true.1 h3 b hb;simp only[Bool.and_eq_true] at this;exact this.1
   ·refine List.all_eq_true.2 fun b hb=>?_
    have:=List.all_eq_true.1 h3 b hb;simp only[Bool.and_eq_true] at this;cases hn:f.2.nx[b]? with
    |none=>rfl
    |some s=>
     simp only[hn] at this ⊢;refine aeD.aeX this.2 fun g hg=>?_
     rcases (hwr g hg).2.2 with h5 | h5
     ·rw[h5] at hb;cases hb
     ·rw[qN h5];exact aeD.aeP _
 simp only[Bool.and_eq_true];exact⟨⟨⟨⟨hw.1,hv⟩,hw.2⟩,Yx⟩,ack⟩
theorem aY{T:TypeId→Option TyI}{ops:Array Oper}{bs:List Nat}(IR:eY ops.toList=bs)(s:XS):
  aE T O N m0 ops s=match cO T O N m0 ops bs s with
   |some s' =>some s'
   |none=>kZ T O N m0 ops s:=by
 cases h:cO T O N m0 ops bs s with
 |none=>rfl
 |some s' =>
  simp only;unfold cO at h;unfold aE;simp only;rw[IR];split at h
  ·cases h
  ·rename_i R env mem hr
   split at h
   ·rename_i hl
    cases h;rw[hr];simp only;rw[if_pos (List.all_eq_true.2 fun f hf=>E5 hl hf)]
   ·cases h
end Go.Eng
namespace Go.Eng
mutual
theorem aeA.cut{μ μ' :Nat→Place}{n n' :Nat}:∀{v V V'},aeA μ n v V→aeA μ' n' v V' →aeA μ' n v V'
 |.undef,V,V',_,_=>by simp[aeA]
 |.bool b,V,V',_,h=>by simpa [aeA] using h
 |.int k i,V,V',_,h=>by simpa [aeA] using h
 |.str s,V,V',_,h=>by simpa [aeA] using h
 |.ptr b o,V,V',h,h' =>by simp only[aeA] at h h' ⊢;exact⟨h.1,h'.2⟩
 |.aeT,V,V',_,h=>by simpa [aeA] using h
 |.slice b o l c,V,V',h,h' =>by simp only[aeA] at h h' ⊢;exact⟨h.1,h'.2⟩
 |.kK,V,V',_,h=>by simpa [aeA] using h
 |.map b,V,V',h,h' =>by simp only[aeA] at h h' ⊢;exact⟨h.1,h'.2⟩
 |.yield b,V,V',h,h' =>by simp only[aeA] at h h' ⊢;exact⟨h.1,h'.2⟩
 |.ae0,V,V',_,h=>by simpa [aeA] using h
 |.func f cs,V,V',h,h' =>by simp only[aeA] at h h' ⊢;obtain⟨Us,rfl,h⟩:=h;obtain⟨Z4,rfl,h'⟩:=h';exact⟨Z4,rfl,aeC.cut h h'⟩
 |.nilFunc,V,V',_,h=>by simpa [aeA] using h
 |.iface t v,V,V',h,h' =>by simp only[aeA] at h h' ⊢;obtain⟨U,rfl,h⟩:=h;obtain⟨U',rfl,h'⟩:=h';exact⟨U',rfl,aeA.cut h h'⟩
 |.nilIface,V,V',_,h=>by simpa [aeA] using h
 |.agg cs,V,V',h,h' =>by simp only[aeA] at h h' ⊢;obtain⟨Us,rfl,h⟩:=h;obtain⟨Z4,rfl,h'⟩:=h';exact⟨Z4,rfl,aeC.cut h h'⟩
 |.tuple cs,V,V',h,h' =>by simp only[aeA] at h h' ⊢;obtain⟨Us,rfl,h⟩:=h;obtain⟨Z4,rfl,h'⟩:=h';exact⟨Z4,rfl,aeC.cut h h'⟩
theorem aeC.cut{μ μ' :Nat→Place}{n n' :Nat}:∀{vs Us Z4},aeC μ n vs Us→aeC μ' n' vs Z4 →aeC μ' n vs Z4
 | [],Us,Z4,_,h=>by simpa [aeC] using h
 |v::vs,Us,Z4,h,h' =>by simp only[aeC] at h h' ⊢;obtain⟨U,Ws,rfl,h1,h2⟩:=h;obtain⟨U',Ws',rfl,YS,ZZ⟩:=h';exact⟨U',Ws',rfl,aeA.cut h1 YS,aeC.cut h2 ZZ⟩
end
theorem aeO.cut{μ μ' :Nat→Place}{n n' base:Nat}{w w' :World}{p p' :Place}{s:aeD}(h:aeO μ n base w p s)(h' :aeO μ' n' base w' p' s):aeO μ' n base w' p' s:=by
 cases s with
 |kO=>trivial
 |cells own es cs=>
  simp only[aeO] at h h' ⊢;obtain⟨_,_,_,_,_,_,g4,_⟩:=h;obtain⟨cur,e,fr,k1,k2,k3,k4,k5⟩:=h';refine⟨cur,e,fr,k1,k2,k3,fun j v hj=>?_,k5⟩;obtain⟨V,_,r⟩:=g4 j v hj;obtain⟨V',hV',r'⟩:=k4 j v hj;exact⟨V',hV',aeA.cut r r'⟩
 |map es=>
  simp only[aeO] at h h' ⊢;obtain⟨_,_,_,_,_,g4⟩:=h;obtain⟨Do,G',k1,k2,k3,k4⟩:=h';refine⟨Do,G',k1,k2,k3,fun j e hj=>?_⟩;obtain⟨E,_,r⟩:=g4 j e hj;obtain⟨E',Yb,r'⟩:=k4 j e hj;exact⟨E',Yb,aeA.cut r.1 r'.1,aeA.cut r.2 r'.2⟩
 |ae8 es=>
  simp only[aeO] at h h' ⊢;obtain⟨_,_,_,_,_,g4⟩:=h;obtain⟨Do,G',k1,k2,k3,k4⟩:=h';refine⟨Do,G',k1,k2,k3,fun j e hj=>?_⟩;obtain⟨E,_,r⟩:=g4 j e hj;obtain⟨E',Yb,r'⟩:=k4 j e hj;exact⟨E',Yb,aeA.cut r.1 r'.1,aeA.cut r.2 r'.2⟩
 |loop r=>
  simp only[aeO] at h h' ⊢;obtain⟨L,_,_,g⟩:=h;obtain⟨L',k1,k2,k⟩:=h';exact⟨L',k1,k2,k.st,k.afe,k.ps,k.assign,k.body,k.size,fun t=>aeA.cut (g.tmps t) (k.tmps t)⟩
theorem kF.forget{P:Program}{f:FuncId}{args:List AV}{m new:Mem}{v:AV}(hv:v.closed=true)(h:kF P f args m v (m++new)):kF P f args m v m:=by
 refine⟨h.1,fun base μ w Vs hG hH hV=>(h.2 base μ w Vs hG hH hV).mono ?_⟩;rintro e w' ⟨V,v',m',μ',rfl,q1,q2,q3,rfl,rfl⟩;have Yk:∀{b:Nat}{s:aeD},m[b]? =some s→(m++new)[b]? =some s:=fun {b s} hb=>by rw[List.getElem?_append_left (gL hb)];exact hb
 have YV:∀{b:Nat},ei m b→ei (m++new) b:=fun ⟨s,h1,h2⟩=>⟨s,Yk h1,h2⟩
 exact⟨V,_,m,μ',rfl,aeA.closed hv q1,⟨q2.aeI,fun b s hb=>(hH.slot b s hb).cut (q2.slot b s (Yk hb)),fun b b' s' hb UV =>q2.sep b b' s' (YV hb) (Yk UV)⟩,
  ⟨Nat.le_refl _,q3.agree,q3.os,q3.tape,q3.output,q3.size,q3.frame,fun b hb=>q3.owner b (YV hb),q3.drawn⟩,rfl,rfl⟩
end Go.Eng
