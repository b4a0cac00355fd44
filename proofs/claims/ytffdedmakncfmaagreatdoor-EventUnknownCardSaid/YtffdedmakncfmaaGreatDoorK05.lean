/- See K51. -/
import Derived.Test.YtffdedmakncfmaaGreatDoorK04
import Derived.Maps.RangeRun
set_option linter.all false
namespace Go.Eng
theorem RO:iZ []=[]:=rfl
theorem CI(n:Int) (l:List Int):iZ (n::l)=.int .i64 n::iZ l:=rfl
theorem NR(l:List Int):(iZ l).length=l.length:=by simp[iZ]
theorem RN(l:List Int) (i:Nat):(iZ l)[i]? =(l[i]?).map fun n=>.int .i64 n:=by simp[iZ]
theorem L6(l:List Int) (i:Nat) (h:i<(iZ l).length):(iZ l)[i]=.int .i64 (l[i]'(by simpa [iZ] using h)):=by simp[iZ]
theorem RM(l:List Int):(iZ l).all AV.cellOk=true:=by simp[iZ,AV.cellOk]
theorem CU(m:Nat) (l:List Int):AV.refsL m (iZ l)=[]:=by
 induction l with
 |nil=>rfl
 |cons x l ih=>simp[CI,AV.refsL,AV.refs,ih]
theorem zL(ρ:Nat→Option Nat) (l:List Int):AV.rens ρ (iZ l)=iZ l:=by
 induction l with
 |nil=>rfl
 |cons x l ih=>simp[CI,AV.rens,AV.ren,ih]
theorem OF(m:Nat) (l:List Int):AV.unders m (iZ l)=true:=by
 induction l with
 |nil=>rfl
 |cons x l ih=>simp[CI,AV.unders,AV.under,ih]
theorem Bp(ok:Nat→Bool) (l:List Int):AV.refsOkL ok (iZ l)=true:=by
 induction l with
 |nil=>rfl
 |cons x l ih=>simp[CI,AV.refsOkL,AV.refsOk,ih]
theorem Hq(m:Nat) (o:Bool) (e:Nat) (l:List Int):Slot.refs m (.cells o e (iZ l))=[]:=by simp[Slot.refs,CU]
theorem Jt(ρ:Nat→Option Nat) (o:Bool) (e:Nat) (l:List Int):Slot.ren ρ (.cells o e (iZ l))=.cells o e (iZ l):=by simp[Slot.ren,zL]
theorem AR(ok:Nat→Bool) (o:Bool) (e:Nat) (l:List Int):Slot.refsOk ok (.cells o e (iZ l))=true:=by simp[Slot.refsOk,Bp]
attribute [simp] RO NR RN L6 CU zL OF Bp Hq Jt AR RM
section
variable {P:Program}{f:FuncId}{A B:List Int}{M:Mem}{x y:AV}
end
end Go.Eng
namespace Go.Eng
def cU(bs:List Nat) (j:Nat):Bool:=(List.range j).all fun i=>bef bs i j
def bL(last:Bool) (bs:List Nat) (j:Nat) (r:Rec):Bool:=
 decide (r.nx.length=r.mem.length)&&r.v.refsOk (fun b=>decide (b<r.nx.length))&&
  (if last then cU bs j&&r.wr.all (fun b=>dE r.tm b&&(match r.nx[b]? with | some s=>s.refsOk (fun b=>decide (b<r.nx.length)) | none=>true)) else r.wr.isEmpty)
def bF(bs:List Nat):Nat→List Rec→Bool
 |_,[]=>true
 |j,[r]=>bL true bs j r
 |j,r::r2::rest=>bL false bs j r&&bF bs (j+1) (r2::rest)
def bN(T:TypeId→Option TyI) (O:Oracle) (N m0:Nat) (ops:Array Oper) (bs:List Nat) (s:XS):Option XS:=
 match kx T O N ops bs 0 ops.toList s.env s.mem [] with
 |none=>none
 |some (R,env,mem)=>
  if bF bs 0 R then some ⟨env,mem,s.dirty||R.any fun r=>r.wr.any fun b=>decide (b<m0)⟩ else none
def mA(T:TypeId→Option TyI) (O:Oracle) (N m0:Nat) (ops:Array Oper) (s:XS):Option XS:=aQ T O N m0 ops s
theorem gf:∀{j0:Nat} {R:List Rec} {f:Nat×Rec},f∈aT j0 R→j0≤f.1∧f.1<j0+R.length
 |_,[],f,h=>by simp[aT] at h
 |j0,r::R,f,h=>by
  simp only[aT,List.mem_cons] at h
  rcases h with rfl | h
  ·simp
  ·have:=gf h
   simp only[List.length_cons];omega
structure LightOk (bs:List Nat) (n:Nat) (f:Nat×Rec):Prop where
 len:f.2.nx.length=f.2.mem.length
 refs:f.2.v.refsOk (fun b=>decide (b<f.2.nx.length))=true
 wr:f.2.wr=[]∨(f.1+1=n∧(∀i,i<f.1→bef bs i f.1=true)∧f.2.wr.all (fun b=>dE f.2.tm b&&(match f.2.nx[b]? with | some s=>s.refsOk (fun b=>decide (b<f.2.nx.length)) | none=>true))=true)
theorem sW{bs:List Nat}:∀{j0:Nat} {R:List Rec},bF bs j0 R=true→∀f∈aT j0 R,LightOk bs (j0+R.length) f
 |_,[],_,f,hf=>by simp[aT] at hf
 |j0,[r],h,f,hf=>by
  simp only[aT,List.mem_cons,List.not_mem_nil,or_false] at hf
  subst hf
  simp only[bF,bL,Bool.and_eq_true,decide_eq_true_eq,if_true] at h
  obtain⟨⟨h1,h2⟩,h3,h4⟩:=h
  exact⟨h1,h2,.inr ⟨rfl,fun i hi=>List.all_eq_true.1 h3 i (List.mem_range.2 hi),h4⟩⟩
 |j0,r::r2::rest,h,f,hf=>by
  simp only[bF,Bool.and_eq_true] at h
  rw[aT,List.mem_cons] at hf
  rcases hf with rfl | hf
  ·have h1:=h.1
   simp only[bL,Bool.and_eq_true,decide_eq_true_eq,Bool.false_eq_true,if_false,List.isEmpty_iff] at h1
   obtain⟨⟨h1,h2⟩,h3⟩:=h1
   exact⟨h1,h2,.inl h3⟩
  ·have:=sW h.2 f hf
   have e:j0+1+(r2::rest).length=j0+(r::r2::rest).length:=by simp only[List.length_cons];omega
   rw[e] at this
   exact this
theorem Jj{bs:List Nat}{n top:Nat}{un:List (Nat×Rec)}(h:∀f∈un,LightOk bs n f):fY top un=fun b=>decide (b<top):=by
 funext b
 unfold fY
 have:(un.all fun f=> !decide (f.2.mem.length≤b∧b<f.2.nx.length))=true:=List.all_eq_true.2 fun f hf=>by
  have:=(h f hf).len
  simp;omega
 rw[this,Bool.and_true]
theorem AH{bs:List Nat}{R:List Rec}(h:bF bs 0 R=true) {f:Nat×Rec}(hf:f∈aT 0 R):fM bs (aT 0 R) f.1 f.2=true:=by
 have hall:=sW h
 have hf1:=hall f hf
 have hn:=gf hf
 unfold fM
 have hun:∀g∈(aT 0 R).filter (fun g=>decide (g.1<f.1)&& !bef bs g.1 f.1),LightOk bs (0+R.length) g:=fun g hg=>hall g ((List.mem_filter.1 hg).1)
 simp only[Jj hun,Bool.and_eq_true]
 have hd:f.2.nx.drop f.2.mem.length=[]:=List.drop_of_length_le (by rw[hf1.len];exact Nat.le_refl _)
 refine⟨⟨⟨⟨?_,hf1.refs⟩,?_⟩,by rw[hd];rfl⟩,?_⟩
 ·rcases hf1.wr with h1 | ⟨_,_,h1⟩
  ·rw[h1];rfl
  ·refine List.all_eq_true.2 fun b hb=>?_
   have:=List.all_eq_true.1 h1 b hb
   simp only[Bool.and_eq_true] at this
   exact this.1
 ·rcases hf1.wr with h1 | ⟨_,_,h1⟩
  ·rw[h1];rfl
  ·refine List.all_eq_true.2 fun b hb=>?_
   have:=List.all_eq_true.1 h1 b hb
   simp only[Bool.and_eq_true] at this
   exact this.2
 ·refine List.all_eq_true.2 fun g hg=>?_
  have hg1:=hun g hg
  have hg2:=List.mem_filter.1 hg
  simp only[Bool.and_eq_true,decide_eq_true_eq,Bool.not_eq_true'] at hg2
  have hgw:g.2.wr=[]:=by
   rcases hg1.wr with h1 | ⟨h1,_,_⟩
   ·exact h1
   ·have:=gf ((List.mem_filter.1 hg).1)
    omega
  have hfw:f.2.wr=[]:=by
   rcases hf1.wr with h1 | ⟨_,h1,_⟩
   ·exact h1
   ·rw[h1 g.1 hg2.2.1] at hg2
    exact absurd hg2.2.2 (by simp)
  rw[hgw,hfw,hg1.len,Nat.sub_self,List.take_zero]
  rfl
theorem aA{T:TypeId→Option TyI}{O:Oracle}{N m0:Nat}{ops:Array Oper}{bs:List Nat}(hbs:ek ops.toList=bs) (s:XS):
  aQ T O N m0 ops s=match bN T O N m0 ops bs s with
   |some s' =>some s'
   |none=>mA T O N m0 ops s:=by
 cases h:bN T O N m0 ops bs s with
 |none=>rfl
 |some s' =>
  simp only
  unfold bN at h
  unfold aQ
  simp only
  rw[hbs]
  split at h
  ·cases h
  ·rename_i R env mem hr
   split at h
   ·rename_i hl
    cases h
    rw[hr]
    simp only
    rw[if_pos (List.all_eq_true.2 fun f hf=>AH hl hf)]
   ·cases h
def cc:Code→List (Array Oper)
 |.region _ ops true=>[ops]
 |.seq a b=>cc a++cc b
 |.cond _ a b=>cc a++cc b
 |.block _ b=>cc b
 |.loop b=>cc b
 |.rangeFunc _ _ a b=>cc a++cc b
 |_=>[]
def aV(f:Func):List (Array Oper):=match f.body with
 |some c=>cc c
 |none=>[]
theorem di{f:Func}{ops:Array Oper}{l:List Nat}(h:aV f=[ops]) (hm:(aV f).map (fun o=>ek o.toList)=[l]):ek ops.toList=l:=by
 rw[h] at hm
 simpa using hm
theorem yY{f:Func}{o o' :Array Oper}{l l' :List Nat}(h:aV f=[o,o']) (hm:(aV f).map (fun o=>ek o.toList)=[l,l']):ek o.toList=l∧ek o'.toList=l' :=by
 rw[h] at hm
 simpa using hm
theorem cK{f:Func}{os:List (Array Oper)}{ls:List (List Nat)}(h:aV f=os) (hm:(aV f).map (fun o=>ek o.toList)=ls):os.map (fun o=>ek o.toList)=ls:=by rw[←h];exact hm
end Go.Eng
namespace Go.Eng
open Go.ChangeMaps (setBlock)
section
variable {P:Program}{T:TypeId→Option TyI}{μ:Nat→Place}{mem:Mem}{base:Nat}{w:World}
theorem vP(hH:HRel base μ mem w) {r:Nat}{m s seen c} (hr:w.heap[r]? =some (.mapIter m s seen c)) {b:Nat}{s' :Slot}(hb:mem[b]? =some s') (hs:s' ≠ .absent):(μ b).blk≠r:=by
 intro e
 have:=hH.slot b s' hb
 cases s' with
 |absent=>exact hs rfl
 |cells own es cs=>simp only[SRel] at this;obtain⟨_,_,_,h1,_⟩:=this;rw[e,hr] at h1;cases h1
 |map es=>simp only[SRel] at this;obtain⟨_,_,h1,_⟩:=this;rw[e,hr] at h1;cases h1
 |fmap es=>simp only[SRel] at this;obtain⟨_,_,h1,_⟩:=this;rw[e,hr] at h1;cases h1
 |loop r=>simp only[SRel] at this;obtain⟨_,h1,_⟩:=this;rw[e,hr] at h1;cases h1
theorem HRel.turn{r:Nat}{m s seen c} {o:Obj}(hH:HRel base μ mem w) (hr:w.heap[r]? =some (.mapIter m s seen c)):HRel base μ mem (setBlock w r o):=by
 refine⟨by simpa [setBlock] using hH.base_le,fun b s' hs=>?_,hH.sep⟩
 by_cases h0:s' =.absent
 ·subst h0;trivial
 ·refine(hH.slot b s' hs).mono (Nat.le_refl _) (fun _ _=>rfl) fun _=>?_
  exact Array.getElem?_setIfInBounds_ne (Ne.symm (vP hH hr hs h0))
theorem Step.turn{m0:Nat}{μ' :Nat→Place}{mem' :Mem}{w' :World}{r:Nat}{o:Obj}(h:Step m0 μ mem w μ' mem' w') (hr:w.heap.size≤r):Step m0 μ mem w μ' mem' (setBlock w' r o):=h.shut hr
theorem MOk.turn{h0 r:Nat}{ds:List Deferred}{m s seen c} {o:Obj}(h:MOk P base h0 w ds) (hr:w.heap[r]? =some (.mapIter m s seen c)) (hb:base≤r):MOk P base h0 (setBlock w r o) ds:=by
 refine⟨⟨h.glob.below,?_⟩,h.base_le,by simpa [setBlock] using h.le,fun d hd=>?_,h.nodup⟩
 ·have:=h.glob.tab
  unfold Lib.TabIs at this ⊢
  rw[←this]
  refine Ks fun k hk=>Array.getElem?_setIfInBounds_ne ?_
  have:=h.glob.below;omega
 ·obtain⟨q,e,h1,h2⟩:=h.each d hd
  refine⟨q,e,h1,?_⟩
  have hne:r≠q:=by rintro rfl;rw[hr] at h2;cases h2
  show(w.heap.setIfInBounds r o)[q]? =_
  rw[Array.getElem?_setIfInBounds_ne hne,h2]
theorem Jm(hT:cf P T) {N:Nat}{ops:Array Oper}{Q:Exit→Act→World→Prop}{rest:List Oper}:∀{l:List Oper}{st st' :St}{μ:Nat→Place} {w:World} {a:Act} {m0:Nat}{μ0:Nat→Place} {mem0:Mem} {w0:World} {h0:Nat} {ro:Option Nat},
  kg P T N ops l st st' →HRel base μ st.mem w→TRel μ st.mem.length st.env a.tmps→a.tmps.size=N→MOk P base h0 w a.defers→m0≤st.mem.length→Step m0 μ0 mem0 w0 μ st.mem w→
  (∀a' w' μ',HRel base μ' st'.mem w' →TRel μ' st'.mem.length st'.env a'.tmps→a'.tmps.size=N→MOk P base h0 w' a'.defers→m0≤st'.mem.length→Step m0 μ0 mem0 w0 μ' st'.mem w' →wpListIn (Fr ro) 0 P ops Q rest a' w')→
  wpListIn (Fr ro) 0 P ops Q (l++rest) a w
 | [],st,st',μ,w,a,m0,μ0,mem0,w0,h0,ro,h,hH,hR,hN,hdf,hm,hS,hQ=>by
  simp only[kg] at h
  subst h
  exact hQ a w μ hH hR hN hdf hm hS
 |o::os,st,st',μ,w,a,m0,μ0,mem0,w0,h0,ro,h,hH,hR,hN,hdf,hm,hS,hQ=>by
  obtain⟨b,hb,hd,hf,ht⟩:=h
  rw[List.cons_append]
  refine wpListIn_step fun K hK=>?_
  rw[mI hR hb]
  cases b with
  |false=>
   simp only[Bool.false_eq_true,if_false]
   refine⟨fun _ _=>trivial,?_⟩
   refine hK _ _ (Jm hT (hf rfl) hH (hR.putE hN hd (by simp[VRel,VRels,undef])) (by rw[dN];exact hN) (by rw[ee];exact hdf) hm hS hQ)
  |true=>
   simp only[if_true]
   obtain⟨v,mem',hstep,hrun⟩:=ht rfl
   refine oO hT hdf.glob hH hR hN hd hstep fun V w' μ' q1 q2 q3 q4=>hK _ _ ?_
   exact Jm hT hrun q2 q3 (by rw[dN];exact hN) (by rw[ee];exact hdf.step hH q4) (Nat.le_trans hm q4.len) (hS.trans (q4.mono hm)) hQ
theorem xC(a:Act) (d:Nat) (V:Value) (h:d<a.tmps.size):(a.put (some d) V).eval (.tmp d)=V:=by
 simp[Act.put,Act.eval,h]
variable {tp:Bool}{N m0:Nat}{Q:Exit→St→Prop}
theorem vi{F:Option Nat}{ops:Array Oper}{Q:Exit→Act→World→Prop}{o:Oper}{rest:List Oper}{a:Act}{w w' :World}{V:Value}(hg:o.guard=none) (hnd:∀c,o.op≠ .defer c)
  (hrun:(execOp a.eval o).run P w=.ok (.value V) w') (h:wpListIn (Fr F) 0 P ops Q rest (a.put o.dst V) w'):wpListIn (Fr F) 0 P ops Q (o::rest) a w:=by
 refine wpListIn_plain hg fun K hK=>⟨fun _ _=>trivial,?_⟩
 rw[Oper.semAt_eq _ _ _ hnd,hrun]
 exact hK _ _ h
theorem GA(hT:cf P T) {idB out nx idS idA:Nat}{opsB opsS opsA:Array Oper}{pre restA:List Oper}{oR oN oX oE:Oper}{code:Code}{it nxt more pair:Nat}{tR tk te:TypeId}{iR:TyI}{mOp:Operand}
  (hB:opsB.toList=pre++[oR]) (r1:oR.op=.range tR mOp) (r2:oR.dst=some it) (r3:oR.guard=none) (hTR:T tR=some iR) (hdR:iR.desc=.map tk te)
  (hS:opsS.toList=[oN,oX]) (n1:oN.op=.next (.tmp it) false) (n2:oN.dst=some nxt) (n3:oN.guard=none) (x1:oX.op=.extract (.tmp nxt) 0) (x2:oX.dst=some more) (x3:oX.guard=none)
  (hA:opsA.toList=oE::restA) (e1:oE.op=.entry (.tmp it)) (e2:oE.dst=some pair) (e3:oE.guard=none) (hbd:it<N∧nxt<N∧more<N∧pair<N) (hne:nxt≠it∧more≠it)
  {st st1:St}{b:Nat}{es:List (AV×AV)}(hpre:kg P T N opsB pre st st1) (hmo:get st1.env mOp=.map b) (hb:st1.mem[b]? =some (.fmap es))
  (I:List Nat→St→Prop) (h0:I [] ⟨(it,.ptr st1.mem.length 0)::st1.env,st1.mem++[.absent]⟩)
  (hI:∀seen s,I seen s→ab s.env it=.ptr st1.mem.length 0∧s.mem[st1.mem.length]? =some .absent∧s.mem[b]? =some (.fmap es))
  (hEnd:∀seen s,I seen s→(∀j,j<es.length→j∈seen)→Q .normal ⟨(more,.bool false)::(nxt,.tuple [.bool false])::s.env,s.mem⟩)
  (hRound:∀seen s j k v,I seen s→es[j]? =some (k,v)→j∉seen→∃s3,kg P T N opsA restA ⟨(pair,.tuple [k,v])::(more,.bool true)::(nxt,.tuple [.bool true,k,v])::s.env,s.mem⟩ s3∧
   AWP P tp N (st1.mem.length+1) code s3 fun e s4=>(e=.normal∨e=.exit nx)∧∃s5,Weak (st1.mem.length+1) s4 s5∧I (seen++[j]) s5):
  AWP P tp N m0 (.seq (.region idB opsB false) (.block out (.loop (.seq (.region idS opsS false) (.seq (.cond (.tmp more) .skip (.exit out)) (.block nx (.seq (.region idA opsA false) code))))))) st Q:=by
 obtain⟨b1,b2,b3,b4⟩:=hbd
 intro ro h0' base μ w a hro hH hR hN hdf hm
 refine wpIn_seq (wpIn_region_list ?_)
 rw[hB]
 refine Jm hT hpre hH hR hN hdf hm (.refl hm) fun a1 w1 μ1 c1 c2 c3 c4 c5 c6=>?_
 have hmv:=aS c2 mOp
 rw[hmo] at hmv
 simp only[VRel] at hmv
 obtain⟨hbl,hmv⟩:=hmv
 have hsl:=c1.slot b _ hb
 simp only[SRel] at hsl
 obtain⟨ents,clock,k1,⟨hck,hborn⟩,k3,k4⟩:=hsl
 subst hck
 have hd:=(hT tR iR hTR).desc
 rw[hdR] at hd
 have hrun:=run_range_map (P:=P) w1 tR tk te (μ1 b).blk ents ents.size hd k1
 refine vi r3 (by rw[r1];intro c e;cases e) (V:=.pointer (some ⟨w1.heap.size,0,none⟩)) (w' :=w1.alloc (.mapIter (some (μ1 b).blk) ents.size #[] ents.size)) (by simp only[execOp,r1,hmv];simp[hrun]) (wpListIn_nil ?_)
 rw[r2]
 show Code.wpIn (Fr ro) 0 P _ _ _ _
 refine wpIn_block ?_
 obtain⟨p1,p2⟩:=c1.push (.mapIter (some (μ1 b).blk) ents.size #[] ents.size) .absent ⟨w1.heap.size,0,0,0⟩ rfl trivial
 have hrw:w.heap.size≤w1.heap.size:=c6.size
 have hrb:base≤w1.heap.size:=c1.base_le
 obtain⟨mb,hmb⟩:∃mb,mb=(μ1 b).blk:=⟨_,rfl⟩
 rw[←hmb] at k1 p1 p2 ⊢
 have hmbl:mb<w1.heap.size:=(Array.getElem?_eq_some_iff.1 k1).1
 obtain⟨r,hr⟩:∃r,r=w1.heap.size:=⟨_,rfl⟩
 have hold:∀x∈ents.toList,x.born<ents.size:=by
  intro x hx
  obtain⟨j,hj⟩:=List.getElem?_of_mem hx
  have hj' :ents[j]? =some x:=by simpa using hj
  rw[hborn j x hj']
  exact(Array.getElem?_eq_some_iff.1 hj').1
 have hnd:(ents.toList.map (·.born)).Nodup:=by
  have e:ents.toList.map (·.born)=List.range ents.size:=by
   refine List.ext_getElem? fun i=>?_
   rw[List.getElem?_map,Array.getElem?_toList]
   cases hi:ents[i]? with
   |none=>
    have:=Array.getElem?_eq_none_iff.1 hi
    simp[this]
   |some x=>
    have:=(Array.getElem?_eq_some_iff.1 hi).1
    simp[hborn i x hi,this]
  rw[e];exact List.nodup_range
 refine v8 (σ:=Array Nat) (fun seen a' w' =>∃st' μ',HRel base μ' st'.mem w' ∧TRel μ' st'.mem.length st'.env a'.tmps∧a'.tmps.size=N∧MOk P base h0' w' a'.defers∧st1.mem.length<st'.mem.length∧
   Step m0 μ st.mem w μ' st'.mem w' ∧μ' st1.mem.length=⟨r,0,0,0⟩∧(μ' b).blk=mb∧w'.heap[r]? =some (.mapIter (some mb) ents.size seen ents.size)∧w'.heap[mb]? =some (.map ents ents.size)∧I seen.toList st')
  (fun seen=>(leftOf ents seen).size) ?_ (s:= #[]) ⟨_,_,p1,?_,?_,?_,?_,c6.trans (p2.mono c5),?_,?_,?_,?_,h0⟩
 ·rintro seen a' w' ⟨st',μ',d1,d2,d3,d4,d5,d6,d7,d8,d9,d10,d11⟩
  obtain⟨i1,i2,i3⟩:=hI _ _ d11
  have hit:a'.eval (.tmp it)=.pointer (some ⟨r,0,none⟩):=by
   have:=d2 it
   rw[i1] at this
   simp only[VRel,d7] at this
   exact this.2
  have hm' :m0≤st'.mem.length:=d6.len
  refine wpIn_seq (wpIn_region_list ?_)
  rw[hS]
  rcases run_next_at (P:=P) w' oN.type r mb ents.size ents.size seen ents ents.size d9 d10 hold (Nat.le_refl _) with⟨l0,hrun⟩ | ⟨E,hE,w2,hal,hrun⟩
  ·refine vi n3 (by rw[n1];intro c e;cases e) (V:=.tuple #[.bool false]) (w' :=w') (by simp only[execOp,n1,hit];simp[hrun]) ?_
   rw[n2]
   refine vi x3 (by rw[x1];intro c e;cases e) (V:=.bool false) (w' :=w') (by simp only[execOp,x1,xC a' nxt _ (by omega)];simp[Instr.extract]) (wpListIn_nil ?_)
   rw[x2]
   show Code.wpIn (Fr ro) 0 P _ _ _ _
   refine wpIn_seq (wpIn_cond_false (xC _ _ _ (by rw[dN];omega)) (wpIn_exit ?_))
   simp only[Exit.then,Exit.inBlock,if_true]
   refine⟨⟨(more,.bool false)::(nxt,.tuple [.bool false])::st'.env,st'.mem⟩,μ',d1,?_,by rw[dN,dN];exact d3,by rw[ee,ee];exact d4,hm',d6,hEnd _ _ d11 fun j hj=>?_⟩
   ·exact TRel.put (TRel.put d2 (by omega) (by simp[VRel,VRels])) (by rw[dN];omega) (by simp[VRel])
   ·have hlt:j<ents.size:=by omega
    have:=all_seen ents seen l0 ents[j] (by simp)
    rw[hborn j _ (by simp[hlt])] at this
    simpa using this
  ·obtain⟨hem,hns⟩:=mem_left hE
   obtain⟨j,hj⟩:=List.getElem?_of_mem hem
   have hj' :ents[j]? =some E:=by simpa using hj
   have hbj:=hborn j E hj'
   have hjl:j<es.length:=by have:=(Array.getElem?_eq_some_iff.1 hj').1;omega
   have hsl' :=d1.slot b _ i3
   simp only[SRel] at hsl'
   obtain⟨ents',clock',g1,_,_,g4⟩:=hsl'
   rw[d8,d10] at g1
   cases g1
   obtain⟨E',hE',hk,hv⟩:=g4 j es[j] (by simp[hjl])
   rw[hj'] at hE'
   cases hE'
   have hH2:HRel base μ' st'.mem w2:=by rcases hal with rfl | rfl<;>first | exact d1 | exact d1.drew
   have hS2:Step m0 μ st.mem w μ' st'.mem w2:=by rcases hal with rfl | rfl<;>first | exact d6 | exact d6.trans ((Step.drew (Nat.le_refl _)).mono hm')
   have hM2:MOk P base h0' w2 a'.defers:=by rcases hal with rfl | rfl<;>first | exact d4 | exact d4.step d1 (Step.drew (Nat.le_refl _))
   have hit2:w2.heap[r]? =some (.mapIter (some mb) ents.size seen ents.size):=by rcases hal with rfl | rfl<;>exact d9
   have hmp2:w2.heap[mb]? =some (.map ents ents.size):=by rcases hal with rfl | rfl<;>exact d10
   have hH3:=hH2.turn (o:=.mapIter (some mb) ents.size (seen.push E.born) ents.size) hit2
   have hS3:=hS2.turn (r:=r) (o:=.mapIter (some mb) ents.size (seen.push E.born) ents.size) (by omega)
   have hM3:=hM2.turn (o:=.mapIter (some mb) ents.size (seen.push E.born) ents.size) hit2 (by omega)
   have hrl:r<w2.heap.size:=(Array.getElem?_eq_some_iff.1 hit2).1
   have hit3:(setBlock w2 r (.mapIter (some mb) ents.size (seen.push E.born) ents.size)).heap[r]? =some (.mapIter (some mb) ents.size (seen.push E.born) ents.size):=by simp[setBlock,hrl]
   have hmp3:(setBlock w2 r (.mapIter (some mb) ents.size (seen.push E.born) ents.size)).heap[mb]? =some (.map ents ents.size):=by
    rw[←hmp2];exact Array.getElem?_setIfInBounds_ne (by omega)
   obtain⟨w3,hw3⟩:∃w3,w3=setBlock w2 r (.mapIter (some mb) ents.size (seen.push E.born) ents.size):=⟨_,rfl⟩
   rw[←hw3] at hH3 hS3 hM3 hit3 hmp3 hrun
   refine vi n3 (by rw[n1];intro c e;cases e) (V:=.tuple #[.bool true,E.key,E.val]) (w' :=w3) (by simp only[execOp,n1,hit];simp[hrun]) ?_
   rw[n2]
   refine vi x3 (by rw[x1];intro c e;cases e) (V:=.bool true) (w' :=w3) (by simp only[execOp,x1,xC a' nxt _ (by omega)];simp[Instr.extract]) (wpListIn_nil ?_)
   rw[x2]
   show Code.wpIn (Fr ro) 0 P _ _ _ _
   refine wpIn_seq (wpIn_cond_true (xC _ _ _ (by rw[dN];omega)) (wpIn_skip ?_))
   show Code.wpIn (Fr ro) 0 P _ _ _ _
   refine wpIn_block (wpIn_seq (wpIn_region_list ?_))
   rw[hA]
   have hev:((a'.put (some nxt) (.tuple #[.bool true,E.key,E.val])).put (some more) (.bool true)).eval (.tmp it)=.pointer (some ⟨r,0,none⟩):=by
    rw[←hit]
    simp[Act.put,Act.eval,Array.getElem?_setIfInBounds_ne hne.1,Array.getElem?_setIfInBounds_ne hne.2]
   have hen:=run_entry_at (P:=P) w3 r mb ents.size seen ents ents.size E hit3 hmp3 hem hnd
   refine vi e3 (by rw[e1];intro c e;cases e) (V:=.tuple #[E.key,E.val]) (w' :=w3) (by simp only[execOp,e1,hev];simp[hen]) ?_
   rw[e2]
   have hkv:es[j]? =some (es[j].1,es[j].2):=by simp[hjl]
   have hnj:j∉seen.toList:=by
    intro hmem
    rw[hbj] at hns
    have:seen.contains j=true:=by simpa using hmem
    rw[this] at hns;cases hns
   obtain⟨s3,hops,hcode⟩:=hRound _ _ j _ _ d11 hkv hnj
   have hT1:=TRel.put d2 (d:=nxt) (by omega) (V:=.tuple #[.bool true,E.key,E.val]) (v:=.tuple [.bool true,es[j].1,es[j].2]) (by simp only[VRel];exact⟨_,rfl,bl.2 ⟨by simp[VRel],bl.2 ⟨hk,bl.2 ⟨hv,by simp[VRels]⟩⟩⟩⟩)
   have hT2:=TRel.put hT1 (d:=more) (by rw[dN];omega) (V:=.bool true) (v:=.bool true) (by simp[VRel])
   have hT3:=TRel.put hT2 (d:=pair) (by rw[dN,dN];omega) (V:=.tuple #[E.key,E.val]) (v:=.tuple [es[j].1,es[j].2]) (by simp only[VRel];exact⟨_,rfl,bl.2 ⟨hk,bl.2 ⟨hv,by simp[VRels]⟩⟩⟩)
   have hlen:st1.mem.length+1≤st'.mem.length:=by omega
   refine tz (m0:=st1.mem.length+1) (μ0:=μ') (mem0:=st'.mem) (w0:=w3) hT hops hH3 hT3 (by rw[dN,dN,dN];exact d3) (by rw[ee,ee,ee];exact hM3) hlen (.refl hlen) fun a4 w4 μ4 f1 f2 f3 f4 f5 f6=>?_
   show Code.wpIn (Fr ro) 0 P _ _ _ _
   refine wpIn_mono (hcode ro h0' base μ4 w4 a4 hro f1 f2 f3 f4 f5) ?_
   rintro e a5 w5 ⟨s4,μ5,y1,y2,y3,y4,y5,y6,hee,s5,hwk,hI5⟩
   obtain⟨μ6,z1,z2,z3,z4⟩:=hwk base μ5 w5 a5.tmps y1 y2 y5
   have S:=(f6.trans y6).trans z4
   have hbb:b<st1.mem.length:=(List.getElem?_eq_some_iff.1 hb).1
   have fin:∃s',(∃st' μ',HRel base μ' st'.mem w5∧TRel μ' st'.mem.length st'.env a5.tmps∧a5.tmps.size=N∧MOk P base h0' w5 a5.defers∧st1.mem.length<st'.mem.length∧
     Step m0 μ st.mem w μ' st'.mem w5∧μ' st1.mem.length=⟨r,0,0,0⟩∧(μ' b).blk=mb∧w5.heap[r]? =some (.mapIter (some mb) ents.size s' ents.size)∧w5.heap[mb]? =some (.map ents ents.size)∧I s'.toList st')∧
     (leftOf ents s').size<(leftOf ents seen).size:=by
    refine⟨seen.push E.born,⟨s5,μ6,z1,z2,y3,y4,z3,hS3.trans (S.mono (by have:=c5;omega)),?_,?_,?_,?_,?_⟩,left_shrinks ents seen E hE⟩
    ·rw[S.agree _ (by omega),d7]
    ·rw[S.agree _ (by omega),d8]
    ·rw[S.frame r (by rw[hw3];simpa [setBlock] using hrl) fun x hx=>by obtain⟨sx,q1,q2⟩:=hx;exact vP hH3 hit3 q1 (Slot.own_ne q2)]
     exact hit3
    ·rw[S.frame mb (Array.getElem?_eq_some_iff.1 hmp3).1 fun x hx=>?_]
     ·exact hmp3
     ·rw[←d8]
      refine hH3.sep x b _ hx i3 (by simp) ?_
      rintro rfl
      obtain⟨sx,q1,q2⟩:=hx
      rw[i3] at q1;cases q1;cases q2
    ·rw[Array.toList_push,hbj];exact hI5
   rcases hee with rfl | rfl
   ·exact fin
   ·simp only[Exit.inBlock,if_true];exact fin
 ·refine TRel.put (c2.mono (by simp) fun x hx=>tL hx) (by omega) ?_
  simp only[VRel,List.length_append,List.length_singleton,dr]
  exact⟨by omega,trivial⟩
 ·rw[dN];exact c3
 ·rw[ee];exact c4.step c1 p2
 ·simp
 ·rw[dr,hr]
 ·have hbb:b<st1.mem.length:=(List.getElem?_eq_some_iff.1 hb).1
  rw[tL hbb];exact hmb.symm
 ·rw[hr];exact heap_alloc_new w1 _
 ·rw[fu w1 _ hmbl];exact k1
end
end Go.Eng
namespace Go.Eng
theorem zI{m:Nat}:∀{env:Env},(env.all fun e=>(e.2.refs m).isEmpty)=true→∀t,(ab env t).refs m=[]
 | [],_,t=>by simp[ab,AV.refs]
 |(k,v)::r,h,t=>by
  simp only[List.all_cons,Bool.and_eq_true,List.isEmpty_iff] at h
  simp only[ab]
  split
  ·exact h.1
  ·exact zI h.2 t
section
variable {P:Program}{T:TypeId→Option TyI}{O:Oracle}{tp:Bool}{N m0 K:Nat}{lv:Code→List Nat}{Q:Exit→St→Prop}
theorem sK(hm:P.follows .mixedOrders=true) (hT:cf P T) (hO:OracleOk P O) {c:Code}{s s' :XS}{e:Exit}(hs:bW c=true) (h:aU T lv O K N m0 tp c s=some (e,s')) (hq:Q e ⟨s'.env,s'.mem⟩):AWP P tp N m0 c ⟨s.env,s.mem⟩ Q:=
 (cw hm hT hO hs h).1 Q hq
theorem IV(hm:P.follows .mixedOrders=true) (hT:cf P T) (hO:OracleOk P O) {idB out nx idS idA:Nat}{opsB opsS opsA:Array Oper}{restA:List Oper}{oR oN oX oE:Oper}{code:Code}{it nxt more pair:Nat}{tR tk te:TypeId}{iR:TyI}{mOp:Operand}
  (hB:opsB.toList=opsB.toList.dropLast++[oR]) (r1:oR.op=.range tR mOp) (r2:oR.dst=some it) (r3:oR.guard=none) (hTR:T tR=some iR) (hdR:iR.desc=.map tk te)
  (hS:opsS.toList=[oN,oX]) (n1:oN.op=.next (.tmp it) false) (n2:oN.dst=some nxt) (n3:oN.guard=none) (x1:oX.op=.extract (.tmp nxt) 0) (x2:oX.dst=some more) (x3:oX.guard=none)
  (hA:opsA.toList=oE::restA) (e1:oE.op=.entry (.tmp it)) (e2:oE.dst=some pair) (e3:oE.guard=none) (hbd:it<N∧nxt<N∧more<N∧pair<N) (hne:nxt≠it∧more≠it) (hst:bW code=true)
  {s s1:XS}{b:Nat}{es:List (AV×AV)}(hpre:cO T O N m0 opsB opsB.toList.dropLast s=some s1) (hmo:get s1.env mOp=.map b) (hb:s1.mem[b]? =some (.fmap es))
  (lw wr:List Nat) (V:List Nat→Nat→AV) (M:List Nat→Mem) (Inv:List Nat→Prop)
  (hwr:wr=pair::more::nxt::(restA.filterMap (·.dst)++ad code)) (hit:it∉wr) (hrefs:(((it,AV.ptr s1.mem.length 0)::s1.env).all fun e=>(e.2.refs (s1.mem.length+1)).isEmpty)=true)
  (hM:∀seen,Inv seen→(M seen).length=s1.mem.length+1∧(M seen)[s1.mem.length]? =some .absent∧(M seen)[b]? =some (.fmap es)∧∀x∈M seen,x.refs (s1.mem.length+1)=[])
  (hV:∀seen t,Inv seen→t∈lw→(V seen t).refs (s1.mem.length+1)=[])
  (h0:Inv []∧M []=s1.mem++[.absent]∧∀t∈lw,ab ((it,AV.ptr s1.mem.length 0)::s1.env) t=V [] t)
  (hEnd:∀seen env,Inv seen→Same wr ((it,AV.ptr s1.mem.length 0)::s1.env) env→(∀t∈lw,ab env t=V seen t)→(∀j,j<es.length→j∈seen)→Q .normal ⟨(more,.bool false)::(nxt,.tuple [.bool false])::env,M seen⟩)
  (hRound:∀seen env j k v,Inv seen→Same wr ((it,AV.ptr s1.mem.length 0)::s1.env) env→(∀t∈lw,ab env t=V seen t)→es[j]? =some (k,v)→j∉seen→∃sA e s',cO T O N (s1.mem.length+1) opsA restA ⟨(pair,.tuple [k,v])::(more,.bool true)::(nxt,.tuple [.bool true,k,v])::env,M seen,false⟩=some sA∧
   aU T lv O K N (s1.mem.length+1) tp code sA=some (e,s')∧(e=.normal∨e=.exit nx)∧Inv (seen++[j])∧(∀t∈lw,ab s'.env t=V (seen++[j]) t)∧s'.mem.take (s1.mem.length+1)=M (seen++[j])):
  AWP P tp N m0 (.seq (.region idB opsB false) (.block out (.loop (.seq (.region idS opsS false) (.seq (.cond (.tmp more) .skip (.exit out)) (.block nx (.seq (.region idA opsA false) code))))))) ⟨s.env,s.mem⟩ Q:=by
 have hrl:=zI hrefs
 refine GA (st1:=⟨s1.env,s1.mem⟩) hT hB r1 r2 r3 hTR hdR hS n1 n2 n3 x1 x2 x3 hA e1 e2 e3 hbd hne (iF hO hpre).1 hmo hb
  (fun seen st=>Inv seen∧Same wr ((it,AV.ptr s1.mem.length 0)::s1.env) st.env∧(∀t∈lw,ab st.env t=V seen t)∧st.mem=M seen) ⟨h0.1,.refl _ _,h0.2.2,h0.2.1.symm⟩ ?_ ?_ ?_
 ·rintro seen st ⟨i1,i2,i3,i4⟩
  obtain⟨j1,j2,j3,_⟩:=hM seen i1
  refine⟨?_,by rw[i4];exact j2,by rw[i4];exact j3⟩
  rw[i2 it hit];simp[ab]
 ·rintro seen ⟨env,mem⟩ ⟨i1,i2,i3,i4⟩ hall
  have:=hEnd seen env i1 i2 i3 hall
  simp only at i4 ⊢
  rw[i4];exact this
 ·rintro seen ⟨env,mem⟩ j k v ⟨i1,i2,i3,i4⟩ hj hns
  simp only at i2 i3 i4
  subst i4
  obtain⟨sA,e,s',k1,k2,k3,k4,k5,k6⟩:=hRound seen env j k v i1 i2 i3 hj hns
  refine⟨⟨sA.env,sA.mem⟩,(iF hO k1).1,?_⟩
  refine AWP.assume fun hlen _=>?_
  refine sK hm hT hO hst k2 ⟨k3,?_⟩
  obtain⟨j1,j2,j3,j4⟩:=hM _ k4
  have hlen' :s1.mem.length+1≤s'.mem.length:=by
   have h1:=congrArg List.length k6
   rw[List.length_take,j1] at h1
   omega
  have hsame:Same wr ((it,AV.ptr s1.mem.length 0)::s1.env) s'.env:=by
   have q1:=(mE k1).mono (wr' :=wr) (by intro t ht;rw[hwr];simp[ht])
   have q2:=(dZ hO k2).mono (wr' :=wr) (by intro t ht;rw[hwr];simp[ht])
   intro t ht
   rw[q2 t ht,q1 t ht,←i2 t ht]
   have:t≠pair∧t≠more∧t≠nxt:=by
    rw[hwr] at ht
    simp only[List.mem_cons,not_or] at ht
    exact⟨ht.1,ht.2.1,ht.2.2.1⟩
   simp[ab,Ne.symm this.1,Ne.symm this.2.1,Ne.symm this.2.2]
  refine⟨_,Weak.compact [] (by simp[AM]),k4,?_,?_,?_⟩
  ·intro t ht
   simp only[fV]
   rw[hsame t ht,AV.ren_refs (hrl t)]
  ·intro t ht
   simp only[fV]
   rw[k5 t ht,AV.ren_refs (hV _ t k4 ht)]
  ·simp only[compact,keep,List.map_nil,List.append_nil,k6]
   conv=>rhs;rw[←List.map_id (M (seen++[j]))]
   exact List.map_congr_left fun x hx=>Slot.ren_refs (j4 x hx)
end
end Go.Eng
namespace Go.Eng
abbrev Sd:=(Int×Int)×Int
def sdE(s:Sd):AV×AV:=(.agg [.int .i64 s.1.1,.int .i64 s.1.2],.int .i64 s.2)
def nxE(p:Int×Int):AV×AV:=(.int .i64 p.1,.int .i64 p.2)
def mT:List (Int×Int)→Int→Option Int
 | [],_=>none
 |p::l,a=>if a=p.1 then some p.2 else mT l a
def Mg:List Sd→Int×Int→Option Int
 | [],_=>none
 |s::l,a=>if a.1=s.1.1∧a.2=s.1.2 then some s.2 else Mg l a
def bAt(ks:List Sd) (j:Nat):Option (Int×Int):=match ks[j]? with
 |some s=>if (Mg ks (s.1.2,s.1.1)).isSome then none else some s.1
 |none=>none
def qh(ks:List Sd):List (Int×Int):=(List.range ks.length).filterMap (bAt ks)
def xG(f:Int):List (Int×Int)→Int
 | []=>f
 |p::l=>xG (if f<0∨p.1<f then p.1 else f) l
theorem Ji(f:Int):∀(l m:List (Int×Int)),xG f (l++m)=xG (xG f l) m:=by
 intro l
 induction l generalizing f with
 |nil=>intro m;rfl
 |cons p l ih=>intro m;exact ih _ m
theorem zu:∀(l:List (Int×Int)) (f:Int),(∀p∈l,0≤p.1)→(0≤f∨l≠[])→0≤xG f l∧(xG f l=f∨∃p∈l,xG f l=p.1)∧(0≤f→xG f l≤f)∧∀p∈l,xG f l≤p.1
 | [],f,_,h=>by
  have:0≤f:=h.resolve_right (by simp)
  exact⟨this,.inl rfl,fun _=>Int.le_refl _,by simp⟩
 |p::l,f,hp,_=>by
  have hp0:=hp p (by simp)
  have ih:=zu l (if f<0∨p.1<f then p.1 else f) (fun q hq=>hp q (by simp[hq])) (.inl (by split<;>omega))
  obtain⟨i1,i2,i3,i4⟩:=ih
  have h0:(0:Int)≤(if f<0∨p.1<f then p.1 else f):=by split<;>omega
  have i3:=i3 h0
  simp only[xG]
  refine⟨i1,?_,fun hf=>?_,fun q hq=>?_⟩
  ·rcases i2 with h | ⟨q,hq,h⟩
   ·rw[h]
    split
    ·exact .inr ⟨p,by simp,rfl⟩
    ·exact .inl rfl
   ·exact .inr ⟨q,by simp[hq],h⟩
  ·refine Int.le_trans i3 ?_
   split<;>omega
  ·rcases List.mem_cons.1 hq with rfl | hq
   ·refine Int.le_trans i3 ?_
    split<;>omega
   ·exact i4 q hq
theorem N4{l m:List (Int×Int)}(h:l.Perm m) (hp:∀p∈l,0≤p.1):xG (-1) l=xG (-1) m:=by
 by_cases h0:l=[]
 ·subst h0
  rw[List.nil_perm.1 h]
 ·have hm0:m≠[]:=by
   rintro rfl
   exact h0 (List.perm_nil.1 h)
  have hpm:∀p∈m,0≤p.1:=fun p hq=>hp p (h.mem_iff.2 hq)
  obtain⟨a1,a2,_,a4⟩:=zu l (-1) hp (.inr h0)
  obtain⟨b1,b2,_,b4⟩:=zu m (-1) hpm (.inr hm0)
  obtain⟨p,hp1,hp2⟩:=a2.resolve_left (by omega)
  obtain⟨q,hq1,hq2⟩:=b2.resolve_left (by omega)
  have e1:=b4 p (h.mem_iff.1 hp1)
  have e2:=a4 q (h.mem_iff.2 hq1)
  omega
theorem N1{l:List (Int×Int)}{a b:Int}(h:mT l a=some b):(a,b)∈l:=by
 induction l with
 |nil=>cases h
 |cons p l ih=>
  rw[mT] at h
  split at h
  ·rename_i e;cases h;subst e;simp
  ·simp[ih h]
theorem Bf{l:List (Int×Int)}{a:Int}(h:∀p∈l,p.1≠a):mT l a=none:=by
 induction l with
 |nil=>rfl
 |cons p l ih=>
  rw[mT,if_neg (fun e=>h p (by simp) e.symm)]
  exact ih fun q hq=>h q (by simp[hq])
theorem vH{l:List (Int×Int)}{a b:Int}(hn:∀p∈l,∀q∈l,p.1=q.1→p=q) (h:(a,b)∈l):mT l a=some b:=by
 induction l with
 |nil=>cases h
 |cons p l ih=>
  rw[mT]
  split
  ·rename_i e
   have:=hn p (by simp) (a,b) h e.symm
   rw[this]
  ·rename_i e
   rcases List.mem_cons.1 h with rfl | h
   ·exact absurd rfl e
   ·exact ih (fun p hp q hq=>hn p (by simp[hp]) q (by simp[hq])) h
theorem Mf{l m:List (Int×Int)}(h:l.Perm m) (hn:∀p∈l,∀q∈l,p.1=q.1→p=q) (a:Int):mT l a=mT m a:=by
 have hn' :∀p∈m,∀q∈m,p.1=q.1→p=q:=fun p hp q hq=>hn p (h.mem_iff.2 hp) q (h.mem_iff.2 hq)
 cases hb:mT m a with
 |some b=>exact vH hn (h.mem_iff.2 (N1 hb))
 |none=>
  refine Bf fun p hp e=>?_
  have:=vH hn' (a:=a) (b:=p.2) (by rw[←e];exact h.mem_iff.1 hp)
  rw[hb] at this;cases this
def QG(ks:List Sd):Prop:=∀i j p q,bAt ks i=some p→bAt ks j=some q→p.1=q.1→i=j
def cb(ks:List Sd) (seen:List Nat):List (Int×Int):=seen.filterMap (bAt ks)
theorem Nl{ks:List Sd}{j:Nat}{p:Int×Int}(h:bAt ks j=some p):j<ks.length:=by
 unfold bAt at h
 split at h
 ·rename_i s hs;exact(List.getElem?_eq_some_iff.1 hs).1
 ·cases h
theorem HE{ks:List Sd}{seen:List Nat}(hn:seen.Nodup) (hlt:∀j∈seen,j<ks.length) (hall:∀j,j<ks.length→j∈seen):(cb ks seen).Perm (qh ks):=by
 refine List.Perm.filterMap _ ?_
 refine(List.perm_ext_iff_of_nodup hn List.nodup_range).2 fun j=>?_
 simp only[List.mem_range]
 exact⟨hlt j,hall j⟩
theorem Dc{ks:List Sd}(ha:QG ks) {seen:List Nat}{j:Nat}(hj:j∉seen) {p:Int×Int}(hp:bAt ks j=some p):mT (cb ks seen) p.1=none:=by
 refine Bf fun q hq e=>?_
 obtain⟨i,hi,hi2⟩:=List.mem_filterMap.1 hq
 have:=ha i j q p hi2 hp e
 subst this
 exact hj hi
theorem Dd{ks:List Sd}(ha:QG ks) {seen:List Nat}:∀p∈cb ks seen,∀q∈cb ks seen,p.1=q.1→p=q:=by
 intro p hp q hq e
 obtain⟨i,_,hi⟩:=List.mem_filterMap.1 hp
 obtain⟨j,_,hj⟩:=List.mem_filterMap.1 hq
 have:=ha i j p q hi hj e
 subst this
 rw[hi] at hj;cases hj;rfl
def tN(B:List (Int×Int)) (first:Int):Nat→Int→List Int→Option (List Int)
 |0,_,out=>some out
 |n+1,a,out=>match mT B a with
  |none=>none
  |some b=>if a=first∧out≠[] then none else tN B first n b (out++[a])
def yT(B:List (Int×Int)):Option (List Int):=tN B (xG (-1) B) B.length (xG (-1) B) []
def rO(ks:List Sd):Bool:=
 let B:=qh ks
 decide (B≠[])&&decide ((B.map (·.1)).Nodup)&&B.all (fun p=>decide (0≤p.1))&&decide (ks.length≤1000000)
theorem Np{ks:List Sd}{i j:Nat}{p q:Int×Int}(hn:((qh ks).map (·.1)).Nodup) (hi:bAt ks i=some p) (hj:bAt ks j=some q) (e:p.1=q.1):i=j:=by
 have key:∀(l:List Nat),l.Nodup→((l.filterMap (bAt ks)).map (·.1)).Nodup→i∈l→j∈l→i=j:=by
  intro l
  induction l with
  |nil=>intro _ _ h;cases h
  |cons a l ih=>
   intro hl hnd h1 h2
   have hl' :=(List.nodup_cons.1 hl).2
   rw[List.filterMap_cons] at hnd
   cases ha:bAt ks a with
   |none=>
    rw[ha] at hnd
    have n1:i≠a:=by rintro rfl;rw[hi] at ha;cases ha
    have n2:j≠a:=by rintro rfl;rw[hj] at ha;cases ha
    exact ih hl' hnd ((List.mem_cons.1 h1).resolve_left n1) ((List.mem_cons.1 h2).resolve_left n2)
   |some r=>
    rw[ha] at hnd
    simp only[List.map_cons,List.nodup_cons] at hnd
    have out:∀k s,k∈l→bAt ks k=some s→s.1≠r.1:=by
     intro k s hk hs h
     exact hnd.1 (List.mem_map.2 ⟨s,List.mem_filterMap.2 ⟨k,hk,hs⟩,h⟩)
    rcases List.mem_cons.1 h1 with h1 | h1<;>rcases List.mem_cons.1 h2 with h2 | h2
    ·rw[h1,h2]
    ·rw[←h1,hi] at ha;cases ha;exact absurd e.symm (out j q h2 hj)
    ·rw[←h2,hj] at ha;cases ha;exact absurd e (out i p h1 hi)
    ·exact ih hl' hnd.2 h1 h2
 exact key _ List.nodup_range hn (List.mem_range.2 (Nl hi)) (List.mem_range.2 (Nl hj))
theorem Hd{ks:List Sd}(h:rO ks=true):qh ks≠[]∧QG ks∧(∀p∈qh ks,0≤p.1)∧ks.length≤1000000:=by
 simp only[rO,Bool.and_eq_true,decide_eq_true_eq,List.all_eq_true] at h
 obtain⟨⟨⟨h1,h2⟩,h3⟩,h4⟩:=h
 exact⟨h1,fun i j p q hi hj e=>Np h2 hi hj e,h3,h4⟩
theorem MF{ks:List Sd}(h:∀p∈qh ks,0≤p.1) {seen:List Nat}:∀p∈cb ks seen,0≤p.1:=by
 intro p hp
 obtain⟨i,_,hi⟩:=List.mem_filterMap.1 hp
 exact h p (List.mem_filterMap.2 ⟨i,List.mem_range.2 (Nl hi),hi⟩)
theorem v7{B:List (Int×Int)}{first:Int}:∀{n:Nat} {a:Int} {out cyc:List Int},tN B first n a out=some cyc→cyc.length=out.length+n
 |0,a,out,cyc,h=>by simp only[tN,Option.some.injEq] at h;subst h;rfl
 |n+1,a,out,cyc,h=>by
  rw[tN] at h
  split at h
  ·cases h
  ·split at h
   ·cases h
   ·have:=v7 h
    simp at this;omega
def LN(bs:List Nat) (n j:Nat):Bool:=cU bs j&&(List.range n).all fun k=>decide (k≤j)||bef bs j k
def cS(r:Rec):Bool:=decide (r.nx.length=r.mem.length)&&r.wr.isEmpty
def A5(bs:List Nat) (n j:Nat) (r:Rec):Bool:=
 r.v.refsOk (fun b=>decide (b<r.nx.length))&&
  (cS r||(LN bs n j&&r.wr.all (fun b=>dE r.tm b&&(match r.nx[b]? with | some s=>s.refsOk (fun b=>decide (b<r.nx.length)) | none=>true))&&
   (r.nx.drop r.mem.length).all fun s=>(s.own||match s with | .absent=>true | _=>false)&&s.refsOk (fun b=>decide (b<r.nx.length))))
def sL(bs:List Nat) (n:Nat):Nat→List Rec→Bool
 |_,[]=>true
 |j,r::rest=>A5 bs n j r&&sL bs n (j+1) rest
def mz(T:TypeId→Option TyI) (O:Oracle) (N m0:Nat) (ops:Array Oper) (bs:List Nat) (s:XS):Option XS:=
 match kx T O N ops bs 0 ops.toList s.env s.mem [] with
 |none=>none
 |some (R,env,mem)=>
  if sL bs R.length 0 R then some ⟨env,mem,s.dirty||R.any fun r=>r.wr.any fun b=>decide (b<m0)⟩ else none
structure BarOk (bs:List Nat) (n:Nat) (f:Nat×Rec):Prop where
 refs:f.2.v.refsOk (fun b=>decide (b<f.2.nx.length))=true
 or:(f.2.nx.length=f.2.mem.length∧f.2.wr=[])∨((∀i,i<f.1→bef bs i f.1=true)∧(∀k,f.1<k→k<n→bef bs f.1 k=true)∧
  f.2.wr.all (fun b=>dE f.2.tm b&&(match f.2.nx[b]? with | some s=>s.refsOk (fun b=>decide (b<f.2.nx.length)) | none=>true))=true∧
  ((f.2.nx.drop f.2.mem.length).all fun s=>(s.own||match s with | .absent=>true | _=>false)&&s.refsOk (fun b=>decide (b<f.2.nx.length)))=true)
theorem yQ{bs:List Nat}{n:Nat}:∀{j0:Nat} {R:List Rec},sL bs n j0 R=true→∀f∈aT j0 R,BarOk bs n f
 |_,[],_,f,hf=>by simp[aT] at hf
 |j0,r::rest,h,f,hf=>by
  simp only[sL,Bool.and_eq_true] at h
  rw[aT,List.mem_cons] at hf
  rcases hf with rfl | hf
  ·have h1:=h.1
   simp only[A5,cS,LN,Bool.and_eq_true,Bool.or_eq_true,decide_eq_true_eq,List.isEmpty_iff] at h1
   obtain⟨h1,h2⟩:=h1
   refine⟨h1,?_⟩
   rcases h2 with h2 | ⟨⟨⟨h2,h3⟩,h4⟩,h5⟩
   ·exact .inl h2
   ·refine .inr ⟨fun i hi=>List.all_eq_true.1 h2 i (List.mem_range.2 hi),fun k hk hkn=>?_,h4,h5⟩
    have:=List.all_eq_true.1 h3 k (List.mem_range.2 hkn)
    simp only[Bool.or_eq_true,decide_eq_true_eq] at this
    rcases this with h6 | h6
    ·omega
    ·exact h6
  ·exact yQ h.2 f hf
theorem GG{bs:List Nat}{R:List Rec}(h:sL bs R.length 0 R=true) {f:Nat×Rec}(hf:f∈aT 0 R):fM bs (aT 0 R) f.1 f.2=true:=by
 have hall:=yQ h
 have hf1:=hall f hf
 have hn:=gf hf
 unfold fM
 have hq:∀g∈(aT 0 R).filter (fun g=>decide (g.1<f.1)&& !bef bs g.1 f.1),g.2.nx.length=g.2.mem.length∧g.2.wr=[]:=by
  intro g hg
  have hg2:=List.mem_filter.1 hg
  simp only[Bool.and_eq_true,decide_eq_true_eq,Bool.not_eq_true'] at hg2
  rcases (hall g hg2.1).or with h1 | ⟨_,h1,_⟩
  ·exact h1
  ·have:=h1 f.1 hg2.2.1 (by omega)
   rw[this] at hg2
   exact absurd hg2.2.2 (by simp)
 have hok:∀top,fY top ((aT 0 R).filter fun g=>decide (g.1<f.1)&& !bef bs g.1 f.1)=fun b=>decide (b<top):=by
  intro top
  funext b
  unfold fY
  have:(((aT 0 R).filter fun g=>decide (g.1<f.1)&& !bef bs g.1 f.1).all fun f=> !decide (f.2.mem.length≤b∧b<f.2.nx.length))=true:=List.all_eq_true.2 fun g hg=>by
   have:=(hq g hg).1
   simp;omega
  rw[this,Bool.and_true]
 simp only[hok,Bool.and_eq_true]
 rcases hf1.or with⟨h1,h2⟩ | ⟨h1,_,h3,h4⟩
 ·have hd:f.2.nx.drop f.2.mem.length=[]:=List.drop_of_length_le (by rw[h1];exact Nat.le_refl _)
  refine⟨⟨⟨⟨by rw[h2];rfl,hf1.refs⟩,by rw[h2];rfl⟩,by rw[hd];rfl⟩,?_⟩
  refine List.all_eq_true.2 fun g hg=>?_
  obtain⟨g1,g2⟩:=hq g hg
  rw[g2,h2,g1,Nat.sub_self,List.take_zero]
  rfl
 ·refine⟨⟨⟨⟨?_,hf1.refs⟩,?_⟩,h4⟩,?_⟩
  ·refine List.all_eq_true.2 fun b hb=>?_
   have:=List.all_eq_true.1 h3 b hb
   simp only[Bool.and_eq_true] at this
   exact this.1
  ·refine List.all_eq_true.2 fun b hb=>?_
   have:=List.all_eq_true.1 h3 b hb
   simp only[Bool.and_eq_true] at this
   exact this.2
  ·refine List.all_eq_true.2 fun g hg=>?_
   have hg2:=List.mem_filter.1 hg
   simp only[Bool.and_eq_true,decide_eq_true_eq,Bool.not_eq_true'] at hg2
   rw[h1 g.1 hg2.2.1] at hg2
   exact absurd hg2.2.2 (by simp)
theorem mB{T:TypeId→Option TyI}{O:Oracle}{N m0:Nat}{ops:Array Oper}{bs:List Nat}(hbs:ek ops.toList=bs) (s:XS):
  aQ T O N m0 ops s=match mz T O N m0 ops bs s with
   |some s' =>some s'
   |none=>mA T O N m0 ops s:=by
 cases h:mz T O N m0 ops bs s with
 |none=>rfl
 |some s' =>
  simp only
  unfold mz at h
  unfold aQ
  simp only
  rw[hbs]
  split at h
  ·cases h
  ·rename_i R env mem hr
   split at h
   ·rename_i hl
    cases h
    rw[hr]
    simp only
    rw[if_pos (List.all_eq_true.2 fun f hf=>GG hl hf)]
   ·cases h
def Gx(bs:List Nat) (n j:Nat):Bool:=(List.range n).all fun k=>decide (k≤j)||bef bs j k
def J7(bs:List Nat) (n j:Nat) (r:Rec):Bool:=
 r.v.refsOk (fun b=>decide (b<r.nx.length))&&
  (cS r||(Gx bs n j&&(r.wr.isEmpty||(cU bs j&&r.wr.all (fun b=>dE r.tm b&&(match r.nx[b]? with | some s=>s.refsOk (fun b=>decide (b<r.nx.length)) | none=>true))))&&
   (r.nx.drop r.mem.length).all fun s=>(s.own||match s with | .absent=>true | _=>false)&&s.refsOk (fun b=>decide (b<r.nx.length))))
def zn(bs:List Nat) (n:Nat):Nat→List Rec→Bool
 |_,[]=>true
 |j,r::rest=>J7 bs n j r&&zn bs n (j+1) rest
def tG(T:TypeId→Option TyI) (O:Oracle) (N m0:Nat) (ops:Array Oper) (bs:List Nat) (s:XS):Option XS:=
 match kx T O N ops bs 0 ops.toList s.env s.mem [] with
 |none=>none
 |some (R,env,mem)=>
  if zn bs R.length 0 R then some ⟨env,mem,s.dirty||R.any fun r=>r.wr.any fun b=>decide (b<m0)⟩ else none
structure MakOk (bs:List Nat) (n:Nat) (f:Nat×Rec):Prop where
 refs:f.2.v.refsOk (fun b=>decide (b<f.2.nx.length))=true
 or:(f.2.nx.length=f.2.mem.length∧f.2.wr=[])∨((f.2.wr=[]∨∀i,i<f.1→bef bs i f.1=true)∧(∀k,f.1<k→k<n→bef bs f.1 k=true)∧
  f.2.wr.all (fun b=>dE f.2.tm b&&(match f.2.nx[b]? with | some s=>s.refsOk (fun b=>decide (b<f.2.nx.length)) | none=>true))=true∧
  ((f.2.nx.drop f.2.mem.length).all fun s=>(s.own||match s with | .absent=>true | _=>false)&&s.refsOk (fun b=>decide (b<f.2.nx.length)))=true)
theorem zo{bs:List Nat}{n:Nat}:∀{j0:Nat} {R:List Rec},zn bs n j0 R=true→∀f∈aT j0 R,MakOk bs n f
 |_,[],_,f,hf=>by simp[aT] at hf
 |j0,r::rest,h,f,hf=>by
  simp only[zn,Bool.and_eq_true] at h
  rw[aT,List.mem_cons] at hf
  rcases hf with rfl | hf
  ·have h1:=h.1
   simp only[J7,cS,Gx,Bool.and_eq_true,Bool.or_eq_true,decide_eq_true_eq,List.isEmpty_iff] at h1
   obtain⟨h1,h2⟩:=h1
   refine⟨h1,?_⟩
   rcases h2 with h2 | ⟨⟨h3,h4⟩,h5⟩
   ·exact .inl h2
   ·refine .inr ⟨?_,fun k hk hkn=>?_,?_,h5⟩
    ·rcases h4 with h4 | ⟨h4,_⟩
     ·exact .inl h4
     ·exact .inr fun i hi=>List.all_eq_true.1 h4 i (List.mem_range.2 hi)
    ·have:=List.all_eq_true.1 h3 k (List.mem_range.2 hkn)
     simp only[Bool.or_eq_true,decide_eq_true_eq] at this
     rcases this with h6 | h6
     ·omega
     ·exact h6
    ·rcases h4 with h4 | ⟨_,h4⟩
     ·rw[h4];rfl
     ·exact h4
  ·exact zo h.2 f hf
theorem GH{bs:List Nat}{R:List Rec}(h:zn bs R.length 0 R=true) {f:Nat×Rec}(hf:f∈aT 0 R):fM bs (aT 0 R) f.1 f.2=true:=by
 have hall:=zo h
 have hf1:=hall f hf
 have hn:=gf hf
 unfold fM
 have hq:∀g∈(aT 0 R).filter (fun g=>decide (g.1<f.1)&& !bef bs g.1 f.1),g.2.nx.length=g.2.mem.length∧g.2.wr=[]:=by
  intro g hg
  have hg2:=List.mem_filter.1 hg
  simp only[Bool.and_eq_true,decide_eq_true_eq,Bool.not_eq_true'] at hg2
  rcases (hall g hg2.1).or with h1 | ⟨_,h1,_⟩
  ·exact h1
  ·have:=h1 f.1 hg2.2.1 (by omega)
   rw[this] at hg2
   exact absurd hg2.2.2 (by simp)
 have hok:∀top,fY top ((aT 0 R).filter fun g=>decide (g.1<f.1)&& !bef bs g.1 f.1)=fun b=>decide (b<top):=by
  intro top
  funext b
  unfold fY
  have:(((aT 0 R).filter fun g=>decide (g.1<f.1)&& !bef bs g.1 f.1).all fun f=> !decide (f.2.mem.length≤b∧b<f.2.nx.length))=true:=List.all_eq_true.2 fun g hg=>by
   have:=(hq g hg).1
   simp;omega
  rw[this,Bool.and_true]
 simp only[hok,Bool.and_eq_true]
 rcases hf1.or with⟨h1,h2⟩ | ⟨h1,_,h3,h4⟩
 ·have hd:f.2.nx.drop f.2.mem.length=[]:=List.drop_of_length_le (by rw[h1];exact Nat.le_refl _)
  refine⟨⟨⟨⟨by rw[h2];rfl,hf1.refs⟩,by rw[h2];rfl⟩,by rw[hd];rfl⟩,?_⟩
  refine List.all_eq_true.2 fun g hg=>?_
  obtain⟨g1,g2⟩:=hq g hg
  rw[g2,h2,g1,Nat.sub_self,List.take_zero]
  rfl
 ·refine⟨⟨⟨⟨?_,hf1.refs⟩,?_⟩,h4⟩,?_⟩
  ·refine List.all_eq_true.2 fun b hb=>?_
   have:=List.all_eq_true.1 h3 b hb
   simp only[Bool.and_eq_true] at this
   exact this.1
  ·refine List.all_eq_true.2 fun b hb=>?_
   have:=List.all_eq_true.1 h3 b hb
   simp only[Bool.and_eq_true] at this
   exact this.2
  ·refine List.all_eq_true.2 fun g hg=>?_
   obtain⟨g1,g2⟩:=hq g hg
   rcases h1 with h1 | h1
   ·rw[g2,h1,g1,Nat.sub_self,List.take_zero]
    rfl
   ·have hg2:=List.mem_filter.1 hg
    simp only[Bool.and_eq_true,decide_eq_true_eq,Bool.not_eq_true'] at hg2
    rw[h1 g.1 hg2.2.1] at hg2
    exact absurd hg2.2.2 (by simp)
theorem zN{T:TypeId→Option TyI}{O:Oracle}{N m0:Nat}{ops:Array Oper}{bs:List Nat}(hbs:ek ops.toList=bs) (s:XS):
  aQ T O N m0 ops s=match tG T O N m0 ops bs s with
   |some s' =>some s'
   |none=>mA T O N m0 ops s:=by
 cases h:tG T O N m0 ops bs s with
 |none=>rfl
 |some s' =>
  simp only
  unfold tG at h
  unfold aQ
  simp only
  rw[hbs]
  split at h
  ·cases h
  ·rename_i R env mem hr
   split at h
   ·rename_i hl
    cases h
    rw[hr]
    simp only
    rw[if_pos (List.all_eq_true.2 fun f hf=>GH hl hf)]
   ·cases h
mutual
theorem refsOk_and{p q:Nat→Bool}:∀(v:AV),v.refsOk p=true→v.refsOk q=true→v.refsOk (fun b=>p b&&q b)=true
 |.ptr _ _,h1,h2=>by simp only[AV.refsOk] at h1 h2 ⊢;rw[h1,h2];rfl
 |.slice _ _ _ _,h1,h2=>by simp only[AV.refsOk] at h1 h2 ⊢;rw[h1,h2];rfl
 |.map _,h1,h2=>by simp only[AV.refsOk] at h1 h2 ⊢;rw[h1,h2];rfl
 |.yield _,h1,h2=>by simp only[AV.refsOk] at h1 h2 ⊢;rw[h1,h2];rfl
 |.func _ cs,h1,h2=>by simp only[AV.refsOk] at h1 h2 ⊢;exact jy cs h1 h2
 |.iface _ v,h1,h2=>by simp only[AV.refsOk] at h1 h2 ⊢;exact refsOk_and v h1 h2
 |.agg cs,h1,h2=>by simp only[AV.refsOk] at h1 h2 ⊢;exact jy cs h1 h2
 |.tuple cs,h1,h2=>by simp only[AV.refsOk] at h1 h2 ⊢;exact jy cs h1 h2
 |.undef,_,_=>rfl
 |.bool _,_,_=>rfl
 |.int _ _,_,_=>rfl
 |.str _,_,_=>rfl
 |.nilptr,_,_=>rfl
 |.nilslice,_,_=>rfl
 |.nilmap,_,_=>rfl
 |.nilFunc,_,_=>rfl
 |.nilIface,_,_=>rfl
theorem jy{p q:Nat→Bool}:∀(cs:List AV),AV.refsOkL p cs=true→AV.refsOkL q cs=true→AV.refsOkL (fun b=>p b&&q b) cs=true
 | [],_,_=>rfl
 |v::vs,h1,h2=>by
  simp only[AV.refsOkL,Bool.and_eq_true] at h1 h2 ⊢
  exact⟨refsOk_and v h1.1 h2.1,jy vs h1.2 h2.2⟩
end
mutual
theorem refsOk_true:∀(v:AV),v.refsOk (fun _=>true)=true
 |.ptr _ _=>rfl
 |.slice _ _ _ _=>rfl
 |.map _=>rfl
 |.yield _=>rfl
 |.func _ cs=>by simp only[AV.refsOk];exact iE cs
 |.iface _ v=>by simp only[AV.refsOk];exact refsOk_true v
 |.agg cs=>by simp only[AV.refsOk];exact iE cs
 |.tuple cs=>by simp only[AV.refsOk];exact iE cs
 |.undef=>rfl
 |.bool _=>rfl
 |.int _ _=>rfl
 |.str _=>rfl
 |.nilptr=>rfl
 |.nilslice=>rfl
 |.nilmap=>rfl
 |.nilFunc=>rfl
 |.nilIface=>rfl
theorem iE:∀(cs:List AV),AV.refsOkL (fun _=>true) cs=true
 | []=>rfl
 |v::vs=>by
  simp only[AV.refsOkL,Bool.and_eq_true]
  exact⟨refsOk_true v,iE vs⟩
end
theorem refsOk_okRef{top:Nat}{v:AV}(h:v.refsOk (fun b=>decide (b<top))=true):∀{un:List (Nat×Rec)},(∀g∈un,v.refsOk (fun b=> !decide (g.2.mem.length≤b∧b<g.2.nx.length))=true)→v.refsOk (fY top un)=true
 | [],_=>by
  have:fY top []=fun b=>decide (b<top):=by funext b;simp[fY]
  rw[this];exact h
 |g::un,hg=>by
  have ih:=refsOk_okRef h (un:=un) (fun x hx=>hg x (List.mem_cons_of_mem _ hx))
  have h1:=refsOk_and v ih (hg g (List.mem_cons_self ..))
  have:fY top (g::un)=fun b=>fY top un b&& !decide (g.2.mem.length≤b∧b<g.2.nx.length):=by
   funext b
   simp only[fY,List.all_cons]
   cases decide (b<top)<;>cases (un.all fun f=> !decide (f.2.mem.length≤b∧b<f.2.nx.length))<;>simp
  rw[this];exact h1
def mR:Slot→Bool
 |.absent=>true
 |_=>false
def RW(lo hi:Nat) (r:Rec):Bool:=
 cS r&&r.v.refsOk (fun b=> !decide (lo≤b∧b<hi))&&((r.tm.drop lo).take (hi-lo)).all mR
structure ShyOk (bs:List Nat) (R:List (Nat×Rec)) (f:Nat×Rec):Prop where
 refs:f.2.v.refsOk (fun b=>decide (b<f.2.nx.length))=true
 or:(f.2.nx.length=f.2.mem.length∧f.2.wr=[])∨((f.2.wr=[]∨∀i,i<f.1→bef bs i f.1=true)∧(∀g∈R,f.1<g.1→bef bs f.1 g.1=true∨(f.2.wr=[]∧RW f.2.mem.length f.2.nx.length g.2=true))∧
  f.2.wr.all (fun b=>dE f.2.tm b&&(match f.2.nx[b]? with | some s=>s.refsOk (fun b=>decide (b<f.2.nx.length)) | none=>true))=true∧
  ((f.2.nx.drop f.2.mem.length).all fun s=>(s.own||match s with | .absent=>true | _=>false)&&s.refsOk (fun b=>decide (b<f.2.nx.length)))=true)
theorem zr(f:Nat→Bool) (new:Mem):∀(i:Nat) (M:Mem),bk [] i M (br f i M++new)=M++new
 |_,[]=>rfl
 |i,s::M=>by simp[br,bk,zr f new (i+1) M]
theorem vJ(new:Mem):∀(i:Nat) (M:Mem),bk [] i M (M++new)=M++new
 |_,[]=>rfl
 |i,s::M=>by simp[bk,vJ new (i+1) M]
theorem vM(f:Nat→Bool) (s:Slot):∀(i:Nat) (M:Mem) (k:Nat),bk [i+k] i M ((br f i M).set k s)=M.set k s
 |_,[],_=>rfl
 |i,x::M,0=>by
  simp only[br,List.set_cons_zero,bk,Nat.add_zero]
  have h:∀(j:Nat) (M:Mem),i<j→bk [i] j M (br f j M)=M:=by
   intro j M hj
   induction M generalizing j with
   |nil=>rfl
   |cons y M ih=>simp[br,bk,ih (j+1) (by omega),show¬j=i by omega]
  simp[h (i+1) M (by omega)]
 |i,x::M,k+1=>by
  have:=vM f s (i+1) M k
  rw[show i+1+k=i+(k+1) by omega] at this
  simp[br,bk,this,show¬i=i+(k+1) by omega]
theorem G7(f:Nat→Bool) (s:Slot) (M:Mem) (k:Nat):bk [k] 0 M ((br f 0 M).set k s)=M.set k s:=by
 have:=vM f s 0 M k
 rwa [Nat.zero_add] at this
theorem Bl(f:Nat→Bool):∀(i:Nat) (M:Mem),(br f i M).length=M.length
 |_,[]=>rfl
 |i,x::M=>by simp[br,Bl f (i+1) M]
theorem Mj(f:Nat→Bool) (M:Mem) (lo n:Nat) (h:∀b,lo≤b→b<lo+n→f b=false):(((br f 0 M).drop lo).take n).all mR=true:=by
 rw[List.all_eq_true]
 intro s hs
 obtain⟨i,hi⟩:=List.getElem?_of_mem hs
 rw[List.getElem?_take] at hi
 split at hi
 ·rename_i hlt
  rw[List.getElem?_drop,rJ] at hi
  cases hM:M[lo+i]? with
  |none=>rw[hM] at hi;simp at hi
  |some x=>
   rw[hM] at hi
   simp only[Option.map_some,Nat.zero_add,Option.some.injEq] at hi
   rw[h (lo+i) (by omega) (by omega)] at hi
   simp at hi
   subst hi;rfl
 ·cases hi
theorem Jh(M:Mem) (lo n:Nat):(((br (fun _=>false) 0 M).drop lo).take n).all mR=true:=Mj _ M lo n fun _ _ _=>rfl
theorem QX(M X:Mem) (k:Nat):(M++X).drop (M.length+k)=X.drop k:=by
 rw[List.drop_append];simp
theorem PL(M X:Mem):(M++X).drop M.length=X:=by simp
theorem tf(i:Nat) (s s' :Slot) (r r' :Mem):bk [] i (s::r) (s' ::r')=s::bk [] (i+1) r r' :=by simp[bk]
theorem zt:∀(i:Nat) (N X Y:Mem),bk [] i (N++X) (N++Y)=N++bk [] (i+N.length) X Y
 |i,[],X,Y=>by simp
 |i,s::N,X,Y=>by
  simp only[List.cons_append,tf,zt (i+1) N X Y,List.length_cons]
  rw[show i+1+N.length=i+(N.length+1) by omega]
theorem Slot.refsOk_and{p q:Nat→Bool}:∀(s:Slot),s.refsOk p=true→s.refsOk q=true→s.refsOk (fun b=>p b&&q b)=true
 |.absent,_,_=>rfl
 |.cells _ _ cs,h,h' =>jy cs h h'
 |.map es,h,h' =>by
  simp only[Slot.refsOk,List.all_eq_true,Bool.and_eq_true] at h h' ⊢
  exact fun e he=>⟨Go.Eng.refsOk_and _ (h e he).1 (h' e he).1,Go.Eng.refsOk_and _ (h e he).2 (h' e he).2⟩
 |.fmap es,h,h' =>by
  simp only[Slot.refsOk,List.all_eq_true,Bool.and_eq_true] at h h' ⊢
  exact fun e he=>⟨Go.Eng.refsOk_and _ (h e he).1 (h' e he).1,Go.Eng.refsOk_and _ (h e he).2 (h' e he).2⟩
 |.loop r,h,h' =>by
  simp only[Slot.refsOk,List.all_eq_true] at h h' ⊢
  exact fun e he=>Go.Eng.refsOk_and _ (h e he) (h' e he)
theorem Slot.refsOk_okRef{top:Nat}{s:Slot}(h:s.refsOk (fun b=>decide (b<top))=true):∀{un:List (Nat×Rec)},(∀g∈un,s.refsOk (fun b=> !decide (g.2.mem.length≤b∧b<g.2.nx.length))=true)→s.refsOk (fY top un)=true
 | [],_=>by
  have:fY top []=fun b=>decide (b<top):=by funext b;simp[fY]
  rw[this];exact h
 |g::un,hg=>by
  have ih:=Slot.refsOk_okRef h (un:=un) (fun x hx=>hg x (List.mem_cons_of_mem _ hx))
  have h1:=Slot.refsOk_and s ih (hg g (List.mem_cons_self ..))
  have:fY top (g::un)=fun b=>fY top un b&& !decide (g.2.mem.length≤b∧b<g.2.nx.length):=by
   funext b
   simp only[fY,List.all_cons]
   cases decide (b<top)<;>cases (un.all fun f=> !decide (f.2.mem.length≤b∧b<f.2.nx.length))<;>simp
  rw[this];exact h1
theorem oY{g:Rec}(h:g.nx.length=g.mem.length):(fun b=> !decide (g.mem.length≤b∧b<g.nx.length))=fun _=>true:=by
 funext b
 rw[h]
 have:¬(g.mem.length≤b∧b<g.mem.length):=by omega
 simp[this]
theorem Slot.refsOk_true:∀(s:Slot),s.refsOk (fun _=>true)=true
 |.absent=>rfl
 |.cells _ _ cs=>iE cs
 |.map es=>by simp only[Slot.refsOk,List.all_eq_true,Bool.and_eq_true];exact fun e _=>⟨Go.Eng.refsOk_true _,Go.Eng.refsOk_true _⟩
 |.fmap es=>by simp only[Slot.refsOk,List.all_eq_true,Bool.and_eq_true];exact fun e _=>⟨Go.Eng.refsOk_true _,Go.Eng.refsOk_true _⟩
 |.loop r=>by simp only[Slot.refsOk,List.all_eq_true];exact fun e _=>Go.Eng.refsOk_true _
def cM(lo hi:Nat) (r:Rec):Bool:=
 r.wr.isEmpty&&r.v.refsOk (fun b=> !decide (lo≤b∧b<hi))&&((r.nx.drop r.mem.length).all fun s=>s.refsOk (fun b=> !decide (lo≤b∧b<hi)))&&((r.tm.drop lo).take (hi-lo)).all mR
def eV(bs:List Nat) (i:Nat) (r:Rec):Nat→List Rec→Bool
 |_,[]=>true
 |j,s::rest=>(bef bs i j||(r.wr.isEmpty&&cM r.mem.length r.nx.length s))&&eV bs i r (j+1) rest
def iL(bs:List Nat) (j:Nat) (r:Rec):List (Nat×Rec)→Bool
 | []=>true
 |g::l=>(bef bs g.1 j||(cS g.2&&r.wr.all fun b=> !dE g.2.tm b))&&iL bs j r l
def ea(bs:List Nat):Nat→List (Nat×Rec)→List Rec→Bool
 |_,_,[]=>true
 |j,acc,r::rest=>r.v.refsOk (fun b=>decide (b<r.nx.length))&&(cS r||(eV bs j r (j+1) rest&&(r.wr.isEmpty||(iL bs j r acc&&r.wr.all (fun b=>dE r.tm b&&(match r.nx[b]? with | some s=>s.refsOk (fun b=>decide (b<r.nx.length)) | none=>true))))&&
   (r.nx.drop r.mem.length).all fun s=>(s.own||match s with | .absent=>true | _=>false)&&s.refsOk (fun b=>decide (b<r.nx.length))))&&ea bs (j+1) ((j,r)::acc) rest
def cH(T:TypeId→Option TyI) (O:Oracle) (N m0:Nat) (ops:Array Oper) (bs:List Nat) (s:XS):Option XS:=
 match kx T O N ops bs 0 ops.toList s.env s.mem [] with
 |none=>none
 |some (R,env,mem)=>
  if ea bs 0 [] R then some ⟨env,mem,s.dirty||R.any fun r=>r.wr.any fun b=>decide (b<m0)⟩ else none
theorem yZ{bs:List Nat}{i:Nat}{r:Rec}:∀{j0:Nat} {R:List Rec},eV bs i r j0 R=true→∀g∈aT j0 R,bef bs i g.1=true∨(r.wr=[]∧cM r.mem.length r.nx.length g.2=true)
 |_,[],_,g,hg=>by simp[aT] at hg
 |j0,s::rest,h,g,hg=>by
  simp only[eV,Bool.and_eq_true,Bool.or_eq_true,List.isEmpty_iff] at h
  rw[aT,List.mem_cons] at hg
  rcases hg with rfl | hg
  ·exact h.1
  ·exact yZ h.2 g hg
theorem A4{bs:List Nat}{j:Nat}{r:Rec}:∀{acc:List (Nat×Rec)},iL bs j r acc=true→∀g∈acc,bef bs g.1 j=true∨((g.2.nx.length=g.2.mem.length∧g.2.wr=[])∧(r.wr.all fun b=> !dE g.2.tm b)=true)
 | [],_,g,hg=>by cases hg
 |a::l,h,g,hg=>by
  simp only[iL,cS,Bool.and_eq_true,Bool.or_eq_true,decide_eq_true_eq,List.isEmpty_iff] at h
  rcases List.mem_cons.1 hg with rfl | hg
  ·exact h.1
  ·exact A4 h.2 g hg
structure FreeOk (bs:List Nat) (R:List (Nat×Rec)) (f:Nat×Rec):Prop where
 refs:f.2.v.refsOk (fun b=>decide (b<f.2.nx.length))=true
 or:(f.2.nx.length=f.2.mem.length∧f.2.wr=[])∨((f.2.wr=[]∨∀g∈R,g.1<f.1→bef bs g.1 f.1=true∨((g.2.nx.length=g.2.mem.length∧g.2.wr=[])∧(f.2.wr.all fun b=> !dE g.2.tm b)=true))∧(∀g∈R,f.1<g.1→bef bs f.1 g.1=true∨(f.2.wr=[]∧cM f.2.mem.length f.2.nx.length g.2=true))∧
  f.2.wr.all (fun b=>dE f.2.tm b&&(match f.2.nx[b]? with | some s=>s.refsOk (fun b=>decide (b<f.2.nx.length)) | none=>true))=true∧
  ((f.2.nx.drop f.2.mem.length).all fun s=>(s.own||match s with | .absent=>true | _=>false)&&s.refsOk (fun b=>decide (b<f.2.nx.length)))=true)
theorem vD{bs:List Nat}{R0:List (Nat×Rec)}:∀{j0:Nat} {acc:List (Nat×Rec)} {R:List Rec},(∀g∈R0,g.1<j0∨g∈aT j0 R)→(∀g∈R0,g.1<j0→g∈acc)→ea bs j0 acc R=true→∀f∈aT j0 R,FreeOk bs R0 f
 |_,_,[],_,_,_,f,hf=>by simp[aT] at hf
 |j0,acc,r::rest,hR,hacc,h,f,hf=>by
  simp only[ea,Bool.and_eq_true] at h
  obtain⟨⟨h0,h1⟩,h2⟩:=h
  have hR' :∀g∈R0,g.1<j0+1∨g∈aT (j0+1) rest:=by
   intro g hg
   rcases hR g hg with h3 | h3
   ·exact .inl (by omega)
   ·rw[aT,List.mem_cons] at h3
    rcases h3 with rfl | h3
    ·exact .inl (by simp)
    ·exact .inr h3
  have hacc' :∀g∈R0,g.1<j0+1→g∈(j0,r)::acc:=by
   intro g hg hlt
   rcases hR g hg with h3 | h3
   ·exact List.mem_cons_of_mem _ (hacc g hg h3)
   ·rw[aT,List.mem_cons] at h3
    rcases h3 with rfl | h3
    ·exact List.mem_cons_self ..
    ·have:=(gf h3).1;omega
  rw[aT,List.mem_cons] at hf
  rcases hf with rfl | hf
  ·refine⟨h0,?_⟩
   simp only[cS,Bool.and_eq_true,Bool.or_eq_true,decide_eq_true_eq,List.isEmpty_iff] at h1
   rcases h1 with h1 | ⟨⟨h3,h4⟩,h5⟩
   ·exact .inl h1
   ·refine .inr ⟨?_,fun g hg hlt=>?_,?_,h5⟩
    ·rcases h4 with h4 | ⟨h4,_⟩
     ·exact .inl h4
     ·exact .inr fun g hg hlt=>A4 h4 g (hacc g hg hlt)
    ·rcases hR' g hg with h6 | h6
     ·simp only at hlt;omega
     ·exact yZ h3 g h6
    ·rcases h4 with h4 | ⟨_,h4⟩
     ·rw[h4];rfl
     ·exact h4
  ·exact vD hR' hacc' h2 f hf
theorem CD{bs:List Nat}{R:List Rec}(h:ea bs 0 [] R=true) {f:Nat×Rec}(hf:f∈aT 0 R):fM bs (aT 0 R) f.1 f.2=true:=by
 have hall:=vD (R0:=aT 0 R) (fun g hg=>.inr hg) (fun g _ hlt=>absurd hlt (Nat.not_lt_zero _)) h
 have hf1:=hall f hf
 unfold fM
 have hun:∀g∈(aT 0 R).filter (fun g=>decide (g.1<f.1)&& !bef bs g.1 f.1),(g.2.nx.length=g.2.mem.length∧g.2.wr=[])∨(g.2.wr=[]∧cM g.2.mem.length g.2.nx.length f.2=true):=by
  intro g hg
  have hg2:=List.mem_filter.1 hg
  simp only[Bool.and_eq_true,decide_eq_true_eq,Bool.not_eq_true'] at hg2
  rcases (hall g hg2.1).or with h1 | ⟨_,h1,_⟩
  ·exact .inl h1
  ·rcases h1 f hf hg2.2.1 with h2 | h2
   ·rw[h2] at hg2;exact absurd hg2.2.2 (by simp)
   ·exact .inr h2
 have hwr:∀g∈(aT 0 R).filter (fun g=>decide (g.1<f.1)&& !bef bs g.1 f.1),g.2.wr=[]∧(f.2.wr.all fun b=> !dE g.2.tm b)=true∧(f.2.wr=[]∨g.2.nx.length=g.2.mem.length):=by
  intro g hg
  have hg2:=List.mem_filter.1 hg
  simp only[Bool.and_eq_true,decide_eq_true_eq,Bool.not_eq_true'] at hg2
  rcases hun g hg with⟨g1,g2⟩ | ⟨g1,g2⟩
  ·refine⟨g2,?_,.inr g1⟩
   rcases hf1.or with h1 | ⟨h1,_⟩
   ·rw[h1.2];rfl
   ·rcases h1 with h1 | h1
    ·rw[h1];rfl
    ·rcases h1 g hg2.1 hg2.2.1 with h3 | h3
     ·rw[h3] at hg2;exact absurd hg2.2.2 (by simp)
     ·exact h3.2
  ·simp only[cM,Bool.and_eq_true,List.isEmpty_iff] at g2
   refine⟨g1,?_,.inl g2.1.1.1⟩
   rw[g2.1.1.1];rfl
 have hv:f.2.v.refsOk (fY f.2.nx.length ((aT 0 R).filter fun g=>decide (g.1<f.1)&& !bef bs g.1 f.1))=true:=refsOk_okRef hf1.refs fun g hg=>by
  rcases hun g hg with⟨g1,_⟩ | ⟨_,g2⟩
  ·rw[oY g1];exact refsOk_true _
  ·simp only[cM,Bool.and_eq_true] at g2
   exact g2.1.1.2
 have hlast:(((aT 0 R).filter fun g=>decide (g.1<f.1)&& !bef bs g.1 f.1).all fun g=>g.2.wr.all (fun b=> !dE f.2.tm b)&&f.2.wr.all (fun b=> !dE g.2.tm b)&&
   ((f.2.tm.drop g.2.mem.length).take (g.2.nx.length-g.2.mem.length)).all fun s=>match s with | .absent=>true | _=>false)=true:=List.all_eq_true.2 fun g hg=>by
  obtain⟨w1,w2,_⟩:=hwr g hg
  rw[w1,w2]
  simp only[List.all_nil,Bool.true_and]
  rcases hun g hg with⟨g1,_⟩ | ⟨_,g2⟩
  ·rw[g1,Nat.sub_self,List.take_zero];rfl
  ·simp only[cM,Bool.and_eq_true] at g2
   refine List.all_eq_true.2 fun s hs=>?_
   have:=List.all_eq_true.1 g2.2 s hs
   cases s<;>simp_all[mR]
 have hnew:((f.2.nx.drop f.2.mem.length).all fun s=>(s.own||match s with | .absent=>true | _=>false)&&s.refsOk (fY f.2.nx.length ((aT 0 R).filter fun g=>decide (g.1<f.1)&& !bef bs g.1 f.1)))=true:=by
  refine List.all_eq_true.2 fun s hs=>?_
  rcases hf1.or with⟨h1,_⟩ | ⟨_,_,_,h4⟩
  ·rw[List.drop_of_length_le (by rw[h1];exact Nat.le_refl _)] at hs;cases hs
  ·have h5:=List.all_eq_true.1 h4 s hs
   simp only[Bool.and_eq_true] at h5 ⊢
   refine⟨h5.1,Slot.refsOk_okRef h5.2 fun g hg=>?_⟩
   rcases hun g hg with⟨g1,_⟩ | ⟨_,g2⟩
   ·rw[oY g1];exact Slot.refsOk_true _
   ·simp only[cM,Bool.and_eq_true] at g2
    exact List.all_eq_true.1 g2.1.2 s hs
 have hw:f.2.wr.all (fun b=>dE f.2.tm b)=true∧(f.2.wr.all fun b=>match f.2.nx[b]? with | some s=>s.refsOk (fY f.2.nx.length ((aT 0 R).filter fun g=>decide (g.1<f.1)&& !bef bs g.1 f.1)) | none=>true)=true:=by
  rcases hf1.or with⟨_,h2⟩ | ⟨_,_,h3,_⟩
  ·rw[h2];exact⟨rfl,rfl⟩
  ·constructor
   ·refine List.all_eq_true.2 fun b hb=>?_
    have:=List.all_eq_true.1 h3 b hb
    simp only[Bool.and_eq_true] at this
    exact this.1
   ·refine List.all_eq_true.2 fun b hb=>?_
    have:=List.all_eq_true.1 h3 b hb
    simp only[Bool.and_eq_true] at this
    cases hn:f.2.nx[b]? with
    |none=>rfl
    |some s=>
     simp only[hn] at this ⊢
     refine Slot.refsOk_okRef this.2 fun g hg=>?_
     rcases (hwr g hg).2.2 with h5 | h5
     ·rw[h5] at hb;cases hb
     ·rw[oY h5];exact Slot.refsOk_true _
 simp only[Bool.and_eq_true]
 exact⟨⟨⟨⟨hw.1,hv⟩,hw.2⟩,hnew⟩,hlast⟩
theorem bz{T:TypeId→Option TyI}{O:Oracle}{N m0:Nat}{ops:Array Oper}{bs:List Nat}(hbs:ek ops.toList=bs) (s:XS):
  aQ T O N m0 ops s=match cH T O N m0 ops bs s with
   |some s' =>some s'
   |none=>mA T O N m0 ops s:=by
 cases h:cH T O N m0 ops bs s with
 |none=>rfl
 |some s' =>
  simp only
  unfold cH at h
  unfold aQ
  simp only
  rw[hbs]
  split at h
  ·cases h
  ·rename_i R env mem hr
   split at h
   ·rename_i hl
    cases h
    rw[hr]
    simp only
    rw[if_pos (List.all_eq_true.2 fun f hf=>CD hl hf)]
   ·cases h
mutual
theorem AV.refs_under{k n:Nat}(hn:k≤n):∀{v:AV},v.under k=true→v.refs n=[]
 |.undef,_=>rfl
 |.bool _,_=>rfl
 |.int _ _,_=>rfl
 |.str _,_=>rfl
 |.ptr b o,h=>by simp only[AV.under,decide_eq_true_eq] at h;simp only[AV.refs];rw[if_pos (by omega)]
 |.nilptr,_=>rfl
 |.slice b o l c,h=>by simp only[AV.under,decide_eq_true_eq] at h;simp only[AV.refs];rw[if_pos (by omega)]
 |.nilslice,_=>rfl
 |.map b,h=>by simp only[AV.under,decide_eq_true_eq] at h;simp only[AV.refs];rw[if_pos (by omega)]
 |.yield b,h=>by simp only[AV.under,decide_eq_true_eq] at h;simp only[AV.refs];rw[if_pos (by omega)]
 |.nilmap,_=>rfl
 |.func f cs,h=>by simp only[AV.under] at h;simp only[AV.refs];exact AV.refsL_unders hn h
 |.nilFunc,_=>rfl
 |.iface t v,h=>by simp only[AV.under] at h;simp only[AV.refs];exact AV.refs_under hn h
 |.nilIface,_=>rfl
 |.agg cs,h=>by simp only[AV.under] at h;simp only[AV.refs];exact AV.refsL_unders hn h
 |.tuple cs,h=>by simp only[AV.under] at h;simp only[AV.refs];exact AV.refsL_unders hn h
theorem AV.refsL_unders{k n:Nat}(hn:k≤n):∀{vs:List AV},AV.unders k vs=true→AV.refsL n vs=[]
 | [],_=>rfl
 |v::vs,h=>by
  simp only[AV.unders,Bool.and_eq_true] at h
  simp only[AV.refsL,AV.refs_under hn h.1,AV.refsL_unders hn h.2,List.append_nil]
end
mutual
theorem AV.refsOk_under{k:Nat}{f:Nat→Bool}(hf:∀b,b<k→f b=true):∀{v:AV},v.under k=true→v.refsOk f=true
 |.undef,_=>rfl
 |.bool _,_=>rfl
 |.int _ _,_=>rfl
 |.str _,_=>rfl
 |.ptr b o,h=>by simp only[AV.under,decide_eq_true_eq] at h;simp only[AV.refsOk];exact hf b h
 |.nilptr,_=>rfl
 |.slice b o l c,h=>by simp only[AV.under,decide_eq_true_eq] at h;simp only[AV.refsOk];exact hf b h
 |.nilslice,_=>rfl
 |.map b,h=>by simp only[AV.under,decide_eq_true_eq] at h;simp only[AV.refsOk];exact hf b h
 |.yield b,h=>by simp only[AV.under,decide_eq_true_eq] at h;simp only[AV.refsOk];exact hf b h
 |.nilmap,_=>rfl
 |.func f cs,h=>by simp only[AV.under] at h;simp only[AV.refsOk];exact AV.refsOkL_unders hf h
 |.nilFunc,_=>rfl
 |.iface t v,h=>by simp only[AV.under] at h;simp only[AV.refsOk];exact AV.refsOk_under hf h
 |.nilIface,_=>rfl
 |.agg cs,h=>by simp only[AV.under] at h;simp only[AV.refsOk];exact AV.refsOkL_unders hf h
 |.tuple cs,h=>by simp only[AV.under] at h;simp only[AV.refsOk];exact AV.refsOkL_unders hf h
theorem AV.refsOkL_unders{k:Nat}{f:Nat→Bool}(hf:∀b,b<k→f b=true):∀{vs:List AV},AV.unders k vs=true→AV.refsOkL f vs=true
 | [],_=>rfl
 |v::vs,h=>by
  simp only[AV.unders,Bool.and_eq_true] at h
  simp only[AV.refsOkL,AV.refsOk_under hf h.1,AV.refsOkL_unders hf h.2,Bool.and_self]
end
mutual
theorem vf{k n:Nat}(hn:k≤n):∀{v:AV},v.under k=true→v.under n=true
 |.undef,_=>rfl
 |.bool _,_=>rfl
 |.int _ _,_=>rfl
 |.str _,_=>rfl
 |.ptr b o,h=>by simp only[AV.under,decide_eq_true_eq] at h ⊢;omega
 |.nilptr,_=>rfl
 |.slice b o l c,h=>by simp only[AV.under,decide_eq_true_eq] at h ⊢;omega
 |.nilslice,_=>rfl
 |.map b,h=>by simp only[AV.under,decide_eq_true_eq] at h ⊢;omega
 |.yield b,h=>by simp only[AV.under,decide_eq_true_eq] at h ⊢;omega
 |.nilmap,_=>rfl
 |.func f cs,h=>by simp only[AV.under] at h ⊢;exact mG hn h
 |.nilFunc,_=>rfl
 |.iface t v,h=>by simp only[AV.under] at h ⊢;exact vf hn h
 |.nilIface,_=>rfl
 |.agg cs,h=>by simp only[AV.under] at h ⊢;exact mG hn h
 |.tuple cs,h=>by simp only[AV.under] at h ⊢;exact mG hn h
theorem mG{k n:Nat}(hn:k≤n):∀{vs:List AV},AV.unders k vs=true→AV.unders n vs=true
 | [],_=>rfl
 |v::vs,h=>by
  simp only[AV.unders,Bool.and_eq_true] at h ⊢
  exact⟨vf hn h.1,mG hn h.2⟩
end
theorem ei{k:Nat}{vs:List AV}(h:AV.unders k vs=true):(∀n,k≤n→AV.refsL n vs=[])∧(∀n,k≤n→AV.refsOkL (fun b=>decide (b<n)) vs=true):=
 ⟨fun n hn=>AV.refsL_unders hn h,fun n hn=>AV.refsOkL_unders (fun b hb=>by simp only[decide_eq_true_eq];omega) h⟩
theorem dR{k:Nat}{v:AV}(h:v.under k=true):(∀n,k≤n→v.refs n=[])∧(∀n,k≤n→v.refsOk (fun b=>decide (b<n))=true):=
 ⟨fun n hn=>AV.refs_under hn h,fun n hn=>AV.refsOk_under (fun b hb=>by simp only[decide_eq_true_eq];omega) h⟩
mutual
theorem VRel.cut{μ μ' :Nat→Place}{n n' :Nat}:∀{v V V'},VRel μ n v V→VRel μ' n' v V' →VRel μ' n v V'
 |.undef,V,V',_,_=>by simp[VRel]
 |.bool b,V,V',_,h=>by simpa [VRel] using h
 |.int k i,V,V',_,h=>by simpa [VRel] using h
 |.str s,V,V',_,h=>by simpa [VRel] using h
 |.ptr b o,V,V',h,h' =>by simp only[VRel] at h h' ⊢;exact⟨h.1,h'.2⟩
 |.nilptr,V,V',_,h=>by simpa [VRel] using h
 |.slice b o l c,V,V',h,h' =>by simp only[VRel] at h h' ⊢;exact⟨h.1,h'.2⟩
 |.nilslice,V,V',_,h=>by simpa [VRel] using h
 |.map b,V,V',h,h' =>by simp only[VRel] at h h' ⊢;exact⟨h.1,h'.2⟩
 |.yield b,V,V',h,h' =>by simp only[VRel] at h h' ⊢;exact⟨h.1,h'.2⟩
 |.nilmap,V,V',_,h=>by simpa [VRel] using h
 |.func f cs,V,V',h,h' =>by
  simp only[VRel] at h h' ⊢
  obtain⟨Us,rfl,h⟩:=h
  obtain⟨Us',rfl,h'⟩:=h'
  exact⟨Us',rfl,VRels.cut h h'⟩
 |.nilFunc,V,V',_,h=>by simpa [VRel] using h
 |.iface t v,V,V',h,h' =>by
  simp only[VRel] at h h' ⊢
  obtain⟨U,rfl,h⟩:=h
  obtain⟨U',rfl,h'⟩:=h'
  exact⟨U',rfl,VRel.cut h h'⟩
 |.nilIface,V,V',_,h=>by simpa [VRel] using h
 |.agg cs,V,V',h,h' =>by
  simp only[VRel] at h h' ⊢
  obtain⟨Us,rfl,h⟩:=h
  obtain⟨Us',rfl,h'⟩:=h'
  exact⟨Us',rfl,VRels.cut h h'⟩
 |.tuple cs,V,V',h,h' =>by
  simp only[VRel] at h h' ⊢
  obtain⟨Us,rfl,h⟩:=h
  obtain⟨Us',rfl,h'⟩:=h'
  exact⟨Us',rfl,VRels.cut h h'⟩
theorem VRels.cut{μ μ' :Nat→Place}{n n' :Nat}:∀{vs Us Us'},VRels μ n vs Us→VRels μ' n' vs Us' →VRels μ' n vs Us'
 | [],Us,Us',_,h=>by simpa [VRels] using h
 |v::vs,Us,Us',h,h' =>by
  simp only[VRels] at h h' ⊢
  obtain⟨U,Ws,rfl,h1,h2⟩:=h
  obtain⟨U',Ws',rfl,h1',h2'⟩:=h'
  exact⟨U',Ws',rfl,VRel.cut h1 h1',VRels.cut h2 h2'⟩
end
theorem SRel.cut{μ μ' :Nat→Place}{n n' base:Nat}{w w' :World}{p p' :Place}{s:Slot}(h:SRel μ n base w p s) (h' :SRel μ' n' base w' p' s):SRel μ' n base w' p' s:=by
 cases s with
 |absent=>trivial
 |cells own es cs=>
  simp only[SRel] at h h' ⊢
  obtain⟨_,_,_,_,_,_,g4,_⟩:=h
  obtain⟨cur,e,fr,k1,k2,k3,k4,k5⟩:=h'
  refine⟨cur,e,fr,k1,k2,k3,fun j v hj=>?_,k5⟩
  obtain⟨V,_,r⟩:=g4 j v hj
  obtain⟨V',hV',r'⟩:=k4 j v hj
  exact⟨V',hV',VRel.cut r r'⟩
 |map es=>
  simp only[SRel] at h h' ⊢
  obtain⟨_,_,_,_,_,g4⟩:=h
  obtain⟨ents,clock,k1,k2,k3,k4⟩:=h'
  refine⟨ents,clock,k1,k2,k3,fun j e hj=>?_⟩
  obtain⟨E,_,r⟩:=g4 j e hj
  obtain⟨E',hE',r'⟩:=k4 j e hj
  exact⟨E',hE',VRel.cut r.1 r'.1,VRel.cut r.2 r'.2⟩
 |fmap es=>
  simp only[SRel] at h h' ⊢
  obtain⟨_,_,_,_,_,g4⟩:=h
  obtain⟨ents,clock,k1,k2,k3,k4⟩:=h'
  refine⟨ents,clock,k1,k2,k3,fun j e hj=>?_⟩
  obtain⟨E,_,r⟩:=g4 j e hj
  obtain⟨E',hE',r'⟩:=k4 j e hj
  exact⟨E',hE',VRel.cut r.1 r'.1,VRel.cut r.2 r'.2⟩
 |loop r=>
  simp only[SRel] at h h' ⊢
  obtain⟨L,_,_,g⟩:=h
  obtain⟨L',k1,k2,k⟩:=h'
  exact⟨L',k1,k2,k.st,k.pend,k.ps,k.assign,k.body,k.size,fun t=>VRel.cut (g.tmps t) (k.tmps t)⟩
theorem ACallsTo.forget{P:Program}{f:FuncId}{args:List AV}{m new:Mem}{v:AV}(hv:v.closed=true) (h:ACallsTo P f args m v (m++new)):ACallsTo P f args m v m:=by
 refine⟨h.1,fun base μ w Vs hG hH hV=>(h.2 base μ w Vs hG hH hV).mono ?_⟩
 rintro e w' ⟨V,v',m',μ',rfl,q1,q2,q3,rfl,rfl⟩
 have hget:∀{b:Nat}{s:Slot},m[b]? =some s→(m++new)[b]? =some s:=fun {b s} hb=>by rw[List.getElem?_append_left (List.getElem?_eq_some_iff.1 hb).1];exact hb
 have hown:∀{b:Nat},dn m b→dn (m++new) b:=fun ⟨s,h1,h2⟩=>⟨s,hget h1,h2⟩
 exact⟨V,_,m,μ',rfl,VRel.closed hv q1,⟨q2.base_le,fun b s hb=>(hH.slot b s hb).cut (q2.slot b s (hget hb)),fun b b' s' hb hb' =>q2.sep b b' s' (hown hb) (hget hb')⟩,
  ⟨Nat.le_refl _,q3.agree,q3.os,q3.tape,q3.output,q3.size,q3.frame,fun b hb=>q3.owner b (hown hb),q3.drawn⟩,rfl,rfl⟩
mutual
theorem VRel.low{μ:Nat→Place}{n n' :Nat}:∀{v V},v.under n=true→VRel μ n' v V→VRel μ n v V
 |.undef,V,_,_=>by simp[VRel]
 |.bool b,V,_,h=>by simpa [VRel] using h
 |.int k i,V,_,h=>by simpa [VRel] using h
 |.str s,V,_,h=>by simpa [VRel] using h
 |.ptr b o,V,hu,h=>by simp only[AV.under,decide_eq_true_eq] at hu;simp only[VRel] at h ⊢;exact⟨hu,h.2⟩
 |.nilptr,V,_,h=>by simpa [VRel] using h
 |.slice b o l c,V,hu,h=>by simp only[AV.under,decide_eq_true_eq] at hu;simp only[VRel] at h ⊢;exact⟨hu,h.2⟩
 |.nilslice,V,_,h=>by simpa [VRel] using h
 |.map b,V,hu,h=>by simp only[AV.under,decide_eq_true_eq] at hu;simp only[VRel] at h ⊢;exact⟨hu,h.2⟩
 |.yield b,V,hu,h=>by simp only[AV.under,decide_eq_true_eq] at hu;simp only[VRel] at h ⊢;exact⟨hu,h.2⟩
 |.nilmap,V,_,h=>by simpa [VRel] using h
 |.func f cs,V,hu,h=>by
  simp only[AV.under] at hu
  simp only[VRel] at h ⊢
  obtain⟨Us,rfl,h⟩:=h
  exact⟨Us,rfl,VRels.low hu h⟩
 |.nilFunc,V,_,h=>by simpa [VRel] using h
 |.iface t v,V,hu,h=>by
  simp only[AV.under] at hu
  simp only[VRel] at h ⊢
  obtain⟨U,rfl,h⟩:=h
  exact⟨U,rfl,VRel.low hu h⟩
 |.nilIface,V,_,h=>by simpa [VRel] using h
 |.agg cs,V,hu,h=>by
  simp only[AV.under] at hu
  simp only[VRel] at h ⊢
  obtain⟨Us,rfl,h⟩:=h
  exact⟨Us,rfl,VRels.low hu h⟩
 |.tuple cs,V,hu,h=>by
  simp only[AV.under] at hu
  simp only[VRel] at h ⊢
  obtain⟨Us,rfl,h⟩:=h
  exact⟨Us,rfl,VRels.low hu h⟩
theorem VRels.low{μ:Nat→Place}{n n' :Nat}:∀{vs Us},AV.unders n vs=true→VRels μ n' vs Us→VRels μ n vs Us
 | [],Us,_,h=>by simpa [VRels] using h
 |v::vs,Us,hu,h=>by
  simp only[AV.unders,Bool.and_eq_true] at hu
  simp only[VRels] at h ⊢
  obtain⟨U,Ws,rfl,h1,h2⟩:=h
  exact⟨U,Ws,rfl,VRel.low hu.1 h1,VRels.low hu.2 h2⟩
end
theorem ACallsTo.forget2{P:Program}{f:FuncId}{args:List AV}{m m1 new:Mem}{v:AV}(hv:v.closed=true) (hl:m1.length=m.length) (hc:∀(b:Nat) s,m1[b]? =some s→m[b]? =some s∨∃o es cs,s=.cells o es cs∧AV.unders m.length cs=true)
  (h:ACallsTo P f args m v (m1++new)):ACallsTo P f args m v m1:=by
 refine⟨h.1,fun base μ w Vs hG hH hV=>(h.2 base μ w Vs hG hH hV).mono ?_⟩
 rintro e w' ⟨V,v',m',μ',rfl,q1,q2,q3,rfl,rfl⟩
 have hget:∀{b:Nat}{s:Slot},m1[b]? =some s→(m1++new)[b]? =some s:=fun {b s} hb=>by rw[List.getElem?_append_left (List.getElem?_eq_some_iff.1 hb).1];exact hb
 have hown:∀{b:Nat},dn m1 b→dn (m1++new) b:=fun ⟨s,h1,h2⟩=>⟨s,hget h1,h2⟩
 refine⟨V,_,m1,μ',rfl,VRel.closed hv q1,⟨q2.base_le,fun b s hb=>?_,fun b b' s' hb hb' =>q2.sep b b' s' (hown hb) (hget hb')⟩,
  ⟨by rw[hl];exact Nat.le_refl _,q3.agree,q3.os,q3.tape,q3.output,q3.size,q3.frame,fun b hb=>q3.owner b (hown hb),q3.drawn⟩,rfl,rfl⟩
 rw[hl]
 rcases hc b s hb with h1 | ⟨o,es,cs,rfl,hu⟩
 ·exact(hH.slot b s h1).cut (q2.slot b s (hget hb))
 ·have:=q2.slot _ _ (hget hb)
  simp only[SRel] at this ⊢
  obtain⟨cur,e,fr,k1,k2,k3,k4,k5⟩:=this
  refine⟨cur,e,fr,k1,k2,k3,fun j v hj=>?_,k5⟩
  obtain⟨V',hV',r'⟩:=k4 j v hj
  exact⟨V',hV',VRel.low (vh hu j v hj) r'⟩
end Go.Eng
