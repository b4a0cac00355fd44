/- See E54. -/
import Derived.Test.YthpgbelancmpjaaGreatDoorE04
import Derived.Maps.RangeRun
set_option linter.all false
namespace Go.Eng
theorem WK:iZ []=[]:=rfl
theorem FT(n:Int)(l:List Int):iZ (n::l)=.int .i64 n::iZ l:=rfl
theorem RU(l:List Int):(iZ l).length=l.length:=by simp[iZ]
theorem WJ(l:List Int)(i:Nat):(iZ l)[i]? =(l[i]?).map fun n=>.int .i64 n:=by simp[iZ]
theorem PW(l:List Int)(i:Nat)(h:i<(iZ l).length):(iZ l)[i]=.int .i64 (l[i]'(by simpa [iZ] using h)):=by simp[iZ]
theorem WI(l:List Int):(iZ l).all AV.aei=true:=by simp[iZ,AV.aei]
theorem Gc(m:Nat)(l:List Int):AV.aew m (iZ l)=[]:=by
 induction l with
 |nil=>rfl
 |cons x l ih=>simp[FT,AV.aew,AV.refs,ih]
theorem Cd(ρ:Nat→Option Nat)(l:List Int):AV.aez ρ (iZ l)=iZ l:=by
 induction l with
 |nil=>rfl
 |cons x l ih=>simp[FT,AV.aez,AV.ren,ih]
theorem Tb(m:Nat)(l:List Int):AV.aen m (iZ l)=true:=by
 induction l with
 |nil=>rfl
 |cons x l ih=>simp[FT,AV.aen,AV.under,ih]
theorem DY(ok:Nat→Bool)(l:List Int):AV.ael ok (iZ l)=true:=by
 induction l with
 |nil=>rfl
 |cons x l ih=>simp[FT,AV.ael,AV.aef,ih]
theorem KL(m:Nat)(o:Bool)(e:Nat)(l:List Int):aek.refs m (.cells o e (iZ l))=[]:=by simp[aek.refs,Gc]
theorem Nl(ρ:Nat→Option Nat)(o:Bool)(e:Nat)(l:List Int):aek.ren ρ (.cells o e (iZ l))=.cells o e (iZ l):=by simp[aek.ren,Cd]
theorem Dm(ok:Nat→Bool)(o:Bool)(e:Nat)(l:List Int):aek.aef ok (.cells o e (iZ l))=true:=by simp[aek.aef,DY]
attribute [simp] WK RU WJ PW Gc Cd Tb DY KL Nl Dm WI
section
variable {P:Program}{f:FuncId}{A B:List Int}{M:Mem}{x y:AV}
end
def fc(H:List Nat)(j:Nat):Bool:=(List.range j).all fun i=>bef H i j
def bl(H:Bool)(I:List Nat)(j:Nat)(r:Rec):Bool:=
 decide (r.nx.length=r.mem.length)&&r.v.aef (fun b=>decide (b<r.nx.length))&&
  (if H then fc I j&&r.wr.all (fun b=>fg r.tm b&&(match r.nx[b]? with | some s=>s.aef (fun b=>decide (b<r.nx.length)) | none=>true)) else r.wr.isEmpty)
def bk(H:List Nat):Nat→List Rec→Bool
 |_,[]=>true
 |j,[r]=>bl true H j r
 |j,r::r2::rest=>bl false H j r&&bk H (j+1) (r2::rest)
def br(T:TypeId→Option TyI)(O:y9)(N m0:Nat)(ops:Array Oper)(H:List Nat)(s:XS):Option XS:=
 match mE T O N ops H 0 ops.toList s.env s.mem [] with
 |none=>none
 |some (R,env,mem)=>
  if bk H 0 R then some ⟨env,mem,s.aeC||R.any fun r=>r.wr.any fun b=>decide (b<m0)⟩ else none
def o8(T:TypeId→Option TyI)(O:y9)(N m0:Nat)(ops:Array Oper)(s:XS):Option XS:=aK T O N m0 ops s
theorem iE:∀{j0:Nat} {R:List Rec} {f:Nat×Rec},f∈ba j0 R→j0≤f.1∧f.1<j0+R.length
 |_,[],f,h=>by simp[ba] at h
 |j0,r::R,f,h=>by
  simp only[ba,List.mem_cons] at h;rcases h with rfl | h
  ·simp
  ·have:=iE h
   simp only[List.length_cons];omega
structure afq (bs:List Nat)(n:Nat)(f:Nat×Rec):Prop where
 len:f.2.nx.length=f.2.mem.length
 refs:f.2.v.aef (fun b=>decide (b<f.2.nx.length))=true
 wr:f.2.wr=[]∨(f.1+1=n∧(∀i,i<f.1→bef bs i f.1=true)∧f.2.wr.all (fun b=>fg f.2.tm b&&(match f.2.nx[b]? with | some s=>s.aef (fun b=>decide (b<f.2.nx.length)) | none=>true))=true)
theorem vO{H:List Nat}:∀{j0:Nat} {R:List Rec},bk H j0 R=true→∀f∈ba j0 R,afq H (j0+R.length) f
 |_,[],_,f,hf=>by simp[ba] at hf
 |j0,[r],h,f,hf=>by simp only[ba,lM] at hf;subst hf;simp only[bk,bl,Bool.and_eq_true,decide_eq_true_eq,if_true] at h;obtain⟨⟨Z,X⟩,h3,V⟩:=h;exact⟨Z,X,.inr ⟨rfl,fun i U=>List.all_eq_true.1 h3 i (List.mem_range.2 U),V⟩⟩
 |j0,r::r2::rest,h,f,hf=>by
  simp only[bk,Bool.and_eq_true] at h;rw[ba,List.mem_cons] at hf;rcases hf with rfl | hf
  ·have Z:=h.1
   simp only[bl,Bool.and_eq_true,decide_eq_true_eq,Bool.false_eq_true,if_false,List.isEmpty_iff] at Z;obtain⟨⟨Z,X⟩,h3⟩:=Z;exact⟨Z,X,.inl h3⟩
  ·have:=vO h.2 f hf
   have e:j0+1+(r2::rest).length=j0+(r::r2::rest).length:=by simp only[List.length_cons];omega
   rw[e] at this;exact this
variable{bs:List Nat}
theorem M8{n top:Nat}{un:List (Nat×Rec)}(h:∀f∈un,afq bs n f):iz top un=fun b=>decide (b<top):=by
 funext b;unfold iz;have:(un.all fun f=> !decide (f.2.mem.length≤b∧b<f.2.nx.length))=true:=List.all_eq_true.2 fun f Z=>by have:=(h f Z).len;simp;omega
 rw[this,Bool.and_true]
theorem Dd{R:List Rec}(h:bk bs 0 R=true){f:Nat×Rec}(hf:f∈ba 0 R):ie bs (ba 0 R) f.1 f.2=true:=by
 have K:=vO h;have X:=K f hf;have F:=iE hf;unfold ie;have V:∀g∈(ba 0 R).filter (fun g=>decide (g.1<f.1)&& !bef bs g.1 f.1),afq bs (0+R.length) g:=fun g U=>K g ((List.mem_filter.1 U).1)
 simp only[M8 V,Bool.and_eq_true];have G:f.2.nx.drop f.2.mem.length=[]:=List.drop_of_length_le (by rw[X.len];exact Nat.le_refl _);refine⟨⟨⟨⟨?_,X.refs⟩,?_⟩,by rw[G];rfl⟩,?_⟩
 ·rcases X.wr with Z | ⟨_,_,Z⟩
  ·rw[Z];rfl
  ·refine List.all_eq_true.2 fun b N=>?_
   have:=List.all_eq_true.1 Z b N;simp only[Bool.and_eq_true] at this;exact this.1
 ·rcases X.wr with Z | ⟨_,_,Z⟩
  ·rw[Z];rfl
  ·refine List.all_eq_true.2 fun b N=>?_
   have:=List.all_eq_true.1 Z b N;simp only[Bool.and_eq_true] at this;exact this.2
 ·refine List.all_eq_true.2 fun g U=>?_
  have S:=V g U;have O:=List.mem_filter.1 U;simp only[Bool.and_eq_true,decide_eq_true_eq,Bool.not_eq_true'] at O;have M:g.2.wr=[]:=by
   rcases S.wr with Z | ⟨Z,_,_⟩
   ·exact Z
   ·have:=iE ((List.mem_filter.1 U).1)
    omega
  have L:f.2.wr=[]:=by
   rcases X.wr with Z | ⟨_,Z,_⟩
   ·exact Z
   ·rw[Z g.1 O.2.1] at O
    exact absurd O.2.2 (by simp)
  rw[M,L,S.len,Nat.sub_self,List.take_zero];rfl
variable{ops:Array Oper}
theorem ao{T:TypeId→Option TyI}{O:y9}{N m0:Nat}(H:dT ops.toList=bs)(s:XS):
  aK T O N m0 ops s=match br T O N m0 ops bs s with
   |some s' =>some s'
   |none=>o8 T O N m0 ops s:=by
 cases h:br T O N m0 ops bs s with
 |none=>rfl
 |some s' =>
  simp only;unfold br at h;unfold aK;simp only;rw[H];split at h
  ·cases h
  ·rename_i R env mem Z
   split at h
   ·rename_i X
    cases h;rw[Z];simp only;rw[if_pos (List.all_eq_true.2 fun f V=>Dd X V)]
   ·cases h
def bR:Code→List (Array Oper)
 |.region _ ops true=>[ops]
 |.seq a b=>bR a++bR b
 |.cond _ a b=>bR a++bR b
 |.block _ b=>bR b
 |.loop b=>bR b
 |.rangeFunc _ _ a b=>bR a++bR b
 |_=>[]
def aJ(f:Func):List (Array Oper):=match f.body with
 |some c=>bR c
 |none=>[]
variable{f:Func}{l:List Nat}
theorem kN(h:aJ f=[ops])(H:(aJ f).map (fun o=>dT o.toList)=[l]):dT ops.toList=l:=by rw[h] at H;simpa using H
theorem de{j:Nat}(h:aJ f=[ops])(H:(aJ f).map (fun o=>dT o.toList)=[l])(I:fc l j=true):dT ops.toList=l∧fc l j=true:=⟨kN h H,I⟩
theorem vE{o o' :Array Oper}{l' :List Nat}(h:aJ f=[o,o'])(H:(aJ f).map (fun o=>dT o.toList)=[l,l']):dT o.toList=l∧dT o'.toList=l' :=by rw[h] at H;simpa using H
theorem cc{os:List (Array Oper)}{ls:List (List Nat)}(h:aJ f=os)(H:(aJ f).map (fun o=>dT o.toList)=ls):os.map (fun o=>dT o.toList)=ls:=by rw[←h];exact H
end Go.Eng
namespace Go.Eng
open Go.ChangeMaps (setBlock)
variable{w' :World}
section
variable {P:Program}{T:TypeId→Option TyI}{μ:Nat→Place}{mem:Mem}{base:Nat}{w:World}
theorem yN(H:aes base μ mem w){r:Nat}{m s seen c}(hr:w.heap[r]? =some (.mapIter m s seen c)){b:Nat}{s' :aek}(I:mem[b]? =some s')(J:s' ≠ .qK):(μ b).blk≠r:=by
 intro e;have:=H.slot b s' I;cases s' with
 |qK=>exact J rfl
 |cells own es cs=>simp only[aeu] at this;obtain⟨_,_,_,Z,_⟩:=this;rw[e,hr] at Z;cases Z
 |map es=>simp only[aeu] at this;obtain⟨_,_,Z,_⟩:=this;rw[e,hr] at Z;cases Z
 |aeO es=>simp only[aeu] at this;obtain⟨_,_,Z,_⟩:=this;rw[e,hr] at Z;cases Z
 |loop r=>simp only[aeu] at this;obtain⟨_,Z,_⟩:=this;rw[e,hr] at Z;cases Z
theorem aes.agq{r:Nat}{m s seen c}{o:Obj}(H:aes base μ mem w)(hr:w.heap[r]? =some (.mapIter m s seen c)):aes base μ mem (setBlock w r o):=by
 refine⟨by simpa [setBlock] using H.aep,fun b Z X=>?_,H.sep⟩;by_cases V:Z =.qK
 ·subst V;trivial
 ·refine(H.slot b Z X).mono (Nat.le_refl _) (fun _ _=>rfl) fun _=>?_
  exact Array.getElem?_setIfInBounds_ne (Ne.symm (yN H hr X V))
theorem Step.agq{m0:Nat}{μ' :Nat→Place}{H :Mem}{r:Nat}{o:Obj}(h:Step m0 μ mem w μ' H w')(hr:w.heap.size≤r):Step m0 μ mem w μ' H (setBlock w' r o):=h.shut hr
theorem MOk.agq{h0 r:Nat}{H:List Deferred}{m s seen c}{o:Obj}(h:MOk P base h0 w H)(hr:w.heap[r]? =some (.mapIter m s seen c))(I:base≤r):MOk P base h0 (setBlock w r o) H:=by
 refine⟨⟨h.afo.below,?_⟩,h.aep,by simpa [setBlock] using h.le,fun d X=>?_,h.nodup⟩
 ·have:=h.afo.tab
  unfold Lib.TabIs at this ⊢;rw[←this];refine Ow fun k S=>Array.getElem?_setIfInBounds_ne ?_
  have:=h.afo.below;omega
 ·obtain⟨q,e,V,Z⟩:=h.each d X
  refine⟨q,e,V,?_⟩;have U:r≠q:=by rintro rfl;rw[hr] at Z;cases Z
  show(w.heap.setIfInBounds r o)[q]? =_
  rw[Array.getElem?_setIfInBounds_ne U,Z]
theorem Nb(hT:cK P T){N:Nat}{ops:Array Oper}{Q:Exit→Act→World→Prop}{rest:List Oper}:∀{l:List Oper}{H I :St}{μ:Nat→Place} {w:World} {a:Act} {m0:Nat}{μ0:Nat→Place} {mem0:Mem} {w0:World} {h0:Nat} {J:Option Nat},
  mr P T N ops l H I →aes base μ H.mem w→aeM μ H.mem.length H.env a.tmps→a.tmps.size=N→MOk P base h0 w a.defers→m0≤H.mem.length→Step m0 μ0 mem0 w0 μ H.mem w→
  (∀a' w' μ',aes base μ' I.mem w' →aeM μ' I.mem.length I.env a'.tmps→a'.tmps.size=N→MOk P base h0 w' a'.defers→m0≤I.mem.length→Step m0 μ0 mem0 w0 μ' I.mem w' →wpListIn (Fr J) 0 P ops Q rest a' w')→
  wpListIn (Fr J) 0 P ops Q (l++rest) a w
 | [],H,I,μ,w,a,m0,μ0,mem0,w0,h0,J,h,hH,hR,hN,YV,hm,hS,hQ=>by simp only[mr] at h;subst h;exact hQ a w μ hH hR hN YV hm hS
 |o::os,H,I,μ,w,a,m0,μ0,mem0,w0,h0,J,h,hH,hR,hN,YV,hm,hS,hQ=>by
  obtain⟨b,R,X,O,M⟩:=h;rw[List.cons_append];refine wpListIn_step fun K U=>?_
  rw[pj hR R];cases b with
  |false=>
   simp only[Bool.false_eq_true,if_false];refine⟨fun _ _=>trivial,?_⟩;refine U _ _ (Nb hT (O rfl) hH (hR.ae6 hN X (by simp[aeg,aeh,undef])) (by rw[fu];exact hN) (by rw[fG];exact YV) hm hS hQ)
  |true=>
   simp only[if_true];obtain⟨v,S,Z,L⟩:=M rfl;refine rD hT YV.afo hH hR hN X Z fun V w' μ' q1 q2 q3 q4=>U _ _ ?_
   exact Nb hT L q2 q3 (by rw[fu];exact hN) (by rw[fG];exact YV.step hH q4) (Nat.le_trans hm q4.len) (hS.trans (q4.mono hm)) hQ
theorem zX(a:Act)(d:Nat)(V:Value)(h:d<a.tmps.size):(a.put (some d) V).eval (.tmp d)=V:=by simp[Act.put,Act.eval,h]
variable {tp:Bool}{N m0:Nat}{Q:Exit→St→Prop}
theorem xW{F:Option Nat}{ops:Array Oper}{Q:Exit→Act→World→Prop}{o:Oper}{rest:List Oper}{a:Act}{w:World}{V:Value}(hg:o.guard=none)(H:∀c,o.op≠ .defer c)(I:(execOp a.eval o).run P w=.ok (.value V) w')(h:wpListIn (Fr F) 0 P ops Q rest (a.put o.dst V) w'):wpListIn (Fr F) 0 P ops Q (o::rest) a w:=by
 refine wpListIn_plain hg fun K Z=>⟨fun _ _=>trivial,?_⟩
 rw[Oper.semAt_eq _ _ _ H,I];exact Z _ _ h
theorem JR(hT:cK P T){idB out nx idS idA:Nat}{Z2 abf Y:Array Oper}{pre ZP:List Oper}{oR oN oX oE:Oper}{W:Code}{H J more ZD:Nat}{tR tk te:TypeId}{iR:TyI}{mOp:Operand}(hB:Z2.toList=pre++[oR])(r1:oR.op=.range tR mOp)(r2:oR.dst=some H)(r3:oR.guard=none)(hTR:T tR=some iR)(hdR:iR.desc=.map tk te)(hS:abf.toList=[oN,oX])(n1:oN.op=.next (.tmp H) false)(n2:oN.dst=some J)(n3:oN.guard=none)(x1:oX.op=.extract (.tmp J) 0)(x2:oX.dst=some more)(x3:oX.guard=none)(hA:Y.toList=oE::ZP)(e1:oE.op=.entry (.tmp H))(e2:oE.dst=some ZD)(e3:oE.guard=none)(Y6:H<N∧J<N∧more<N∧ZD<N)(PP:J≠H∧more≠H){st st1:St}{b:Nat}{es:List (AV×AV)}(Yl:mr P T N Z2 pre st st1)(hmo:get st1.env mOp=.map b)(hb:st1.mem[b]? =some (.aeO es))(I:List Nat→St→Prop)(h0:I [] ⟨(H,.ptr st1.mem.length 0)::st1.env,st1.mem++[.qK]⟩)(hI:∀seen s,I seen s→ad s.env H=.ptr st1.mem.length 0∧s.mem[st1.mem.length]? =some .qK∧s.mem[b]? =some (.aeO es))(ab0:∀seen s,I seen s→(∀j,j<es.length→j∈seen)→Q .normal ⟨(more,.bool false)::(J,.tuple [.bool false])::s.env,s.mem⟩)(aal:∀seen s j k v,I seen s→es[j]? =some (k,v)→j∉seen→∃s3,mr P T N Y ZP ⟨(ZD,.tuple [k,v])::(more,.bool true)::(J,.tuple [.bool true,k,v])::s.env,s.mem⟩ s3∧
   AWP P tp N (st1.mem.length+1) W s3 fun e s4=>(e=.normal∨e=.exit nx)∧∃s5,afa (st1.mem.length+1) s4 s5∧I (seen++[j]) s5):
  AWP P tp N m0 (.seq (.region idB Z2 false) (.block out (.loop (.seq (.region idS abf false) (.seq (.cond (.tmp more) .skip (.exit out)) (.block nx (.seq (.region idA Y false) W))))))) st Q:=by
 obtain⟨b1,b2,b3,b4⟩:=Y6;intro ro h0' base μ w a YW hH hR hN YV hm;refine wpIn_seq (wpIn_region_list ?_);rw[hB];refine Nb hT Yl hH hR hN YV hm (.refl hm) fun a1 w1 μ1 c1 c2 c3 c4 c5 c6=>?_
 have R:=aZ c2 mOp;rw[hmo] at R;simp only[aeg] at R;obtain⟨YJ,R⟩:=R;have Zi:=c1.slot b _ hb;simp only[aeu] at Zi;obtain⟨Z,IR,k1,⟨YU,M⟩,k3,k4⟩:=Zi;subst YU;have hd:=(hT tR iR hTR).desc;rw[hdR] at hd;have u:=run_range_map (P:=P) w1 tR tk te (μ1 b).blk Z Z.size hd k1;refine xW r3 (by rw[r1];intro c e;cases e) (V:=.pointer (some ⟨w1.heap.size,0,none⟩)) (w' :=w1.alloc (.mapIter (some (μ1 b).blk) Z.size #[] Z.size)) (by simp only[execOp,r1,R];simp[u]) (wpListIn_nil ?_);rw[r2];show Code.wpIn (Fr ro) 0 P _ _ _ _
 refine wpIn_block ?_;obtain⟨p1,p2⟩:=c1.push (.mapIter (some (μ1 b).blk) Z.size #[] Z.size) .qK ⟨w1.heap.size,0,0,0⟩ rfl trivial;have hrw:w.heap.size≤w1.heap.size:=c6.size;have hrb:base≤w1.heap.size:=c1.aep;obtain⟨X,m⟩:=xE ((μ1 b).blk);rw[←m] at k1 p1 p2 ⊢;have ac':X<w1.heap.size:=(Array.getElem?_eq_some_iff.1 k1).1;obtain⟨r,hr⟩:=xE w1.heap.size;have Yr:∀x∈Z.toList,x.born<Z.size:=by
  intro x D;obtain⟨j,hj⟩:=List.getElem?_of_mem D;have U :Z[j]? =some x:=by simpa using hj
  rw[M j x U];exact(Array.getElem?_eq_some_iff.1 U).1
 have hnd:(Z.toList.map (·.born)).Nodup:=by
  have e:Z.toList.map (·.born)=List.range Z.size:=by
   refine List.ext_getElem? fun i=>?_
   rw[List.getElem?_map,Array.getElem?_toList];cases hi:Z[i]? with
   |none=>
    have:=Array.getElem?_eq_none_iff.1 hi;simp[this]
   |some x=>
    have:=(Array.getElem?_eq_some_iff.1 hi).1;simp[M i x hi,this]
  rw[e];exact List.nodup_range
 refine yT (σ:=Array Nat) (fun seen L w' =>∃S' μ',aes base μ' S'.mem w' ∧aeM μ' S'.mem.length S'.env L.tmps∧L.tmps.size=N∧MOk P base h0' w' L.defers∧st1.mem.length<S'.mem.length∧
   Step m0 μ st.mem w μ' S'.mem w' ∧μ' st1.mem.length=⟨r,0,0,0⟩∧(μ' b).blk=X∧w'.heap[r]? =some (.mapIter (some X) Z.size seen Z.size)∧w'.heap[X]? =some (.map Z Z.size)∧I seen.toList S')
  (fun seen=>(leftOf Z seen).size) ?_ (s:= #[]) ⟨_,_,p1,?_,?_,?_,?_,c6.trans (p2.mono c5),?_,?_,?_,?_,h0⟩
 ·rintro seen L w' ⟨S',μ',d1,d2,d3,d4,d5,d6,d7,d8,d9,d10,d11⟩
  obtain⟨i1,i2,i3⟩:=hI _ _ d11;have C:L.eval (.tmp H)=.pointer (some ⟨r,0,none⟩):=by have:=d2 H;rw[i1] at this;simp only[aeg,d7] at this;exact this.2
  have hm' :m0≤S'.mem.length:=d6.len;refine wpIn_seq (wpIn_region_list ?_);rw[hS];rcases run_next_at (P:=P) w' oN.type r X Z.size Z.size seen Z Z.size d9 d10 Yr (Nat.le_refl _) with⟨l0,u⟩ | ⟨E,hE,w2,O,u⟩
  ·refine xW n3 (by rw[n1];intro c e;cases e) (V:=.tuple #[.bool false]) (w' :=w') (by simp only[execOp,n1,C];simp[u]) ?_
   rw[n2];refine xW x3 (by rw[x1];intro c e;cases e) (V:=.bool false) (w' :=w') (by simp only[execOp,x1,zX L J _ (by omega)];simp[Instr.extract]) (wpListIn_nil ?_);rw[x2];show Code.wpIn (Fr ro) 0 P _ _ _ _
   refine wpIn_seq (wpIn_cond_false (zX _ _ _ (by rw[fu];omega)) (wpIn_exit ?_));simp only[Exit.then,Exit.inBlock,if_true];refine⟨⟨(more,.bool false)::(J,.tuple [.bool false])::S'.env,S'.mem⟩,μ',d1,?_,by rw[fu,fu];exact d3,by rw[fG,fG];exact d4,hm',d6,ab0 _ _ d11 fun j hj=>?_⟩
   ·exact aeM.put (aeM.put d2 (by omega) (by simp[aeg,aeh])) (by rw[fu];omega) (by simp[aeg])
   ·have FS:j<Z.size:=by omega
    have:=all_seen Z seen l0 Z[j] (by simp);rw[M j _ (by simp[FS])] at this;simpa using this
  ·obtain⟨hem,B⟩:=mem_left hE
   obtain⟨j,hj⟩:=List.getElem?_of_mem hem;have U :Z[j]? =some E:=by simpa using hj
   have hbj:=M j E U;have hjl:j<es.length:=by have:=(Array.getElem?_eq_some_iff.1 U).1;omega
   have acD :=d1.slot b _ i3;simp only[aeu] at acD;obtain⟨XU,XR,g1,_,_,g4⟩:=acD;rw[d8,d10] at g1;cases g1;obtain⟨E',Yd,hk,hv⟩:=g4 j es[j] (by simp[hjl]);rw[U] at Yd;cases Yd;have hH2:aes base μ' S'.mem w2:=by rcases O with rfl | rfl<;>first | exact d1 | exact d1.drew
   have hS2:Step m0 μ st.mem w μ' S'.mem w2:=by rcases O with rfl | rfl<;>first | exact d6 | exact d6.trans ((Step.drew (Nat.le_refl _)).mono hm')
   have hM2:MOk P base h0' w2 L.defers:=by rcases O with rfl | rfl<;>first | exact d4 | exact d4.step d1 (Step.drew (Nat.le_refl _))
   have A:w2.heap[r]? =some (.mapIter (some X) Z.size seen Z.size):=by rcases O with rfl | rfl<;>exact d9
   have ada:w2.heap[X]? =some (.map Z Z.size):=by rcases O with rfl | rfl<;>exact d10
   have K:=hH2.agq (o:=.mapIter (some X) Z.size (seen.push E.born) Z.size) A;have hS3:=hS2.agq (r:=r) (o:=.mapIter (some X) Z.size (seen.push E.born) Z.size) (by omega);have hM3:=hM2.agq (o:=.mapIter (some X) Z.size (seen.push E.born) Z.size) A (by omega);have hrl:r<w2.heap.size:=(Array.getElem?_eq_some_iff.1 A).1;have G:(setBlock w2 r (.mapIter (some X) Z.size (seen.push E.born) Z.size)).heap[r]? =some (.mapIter (some X) Z.size (seen.push E.born) Z.size):=by simp[setBlock,hrl]
   have F:(setBlock w2 r (.mapIter (some X) Z.size (seen.push E.born) Z.size)).heap[X]? =some (.map Z Z.size):=by rw[←ada];exact Array.getElem?_setIfInBounds_ne (by omega)
   obtain⟨w3,hw3⟩:=xE (setBlock w2 r (.mapIter (some X) Z.size (seen.push E.born) Z.size));rw[←hw3] at K hS3 hM3 G F u;refine xW n3 (by rw[n1];intro c e;cases e) (V:=.tuple #[.bool true,E.key,E.val]) (w' :=w3) (by simp only[execOp,n1,C];simp[u]) ?_;rw[n2];refine xW x3 (by rw[x1];intro c e;cases e) (V:=.bool true) (w' :=w3) (by simp only[execOp,x1,zX L J _ (by omega)];simp[Instr.extract]) (wpListIn_nil ?_);rw[x2];show Code.wpIn (Fr ro) 0 P _ _ _ _
   refine wpIn_seq (wpIn_cond_true (zX _ _ _ (by rw[fu];omega)) (wpIn_skip ?_));show Code.wpIn (Fr ro) 0 P _ _ _ _
   refine wpIn_block (wpIn_seq (wpIn_region_list ?_));rw[hA];have Zd:((L.put (some J) (.tuple #[.bool true,E.key,E.val])).put (some more) (.bool true)).eval (.tmp H)=.pointer (some ⟨r,0,none⟩):=by rw[←C];simp[Act.put,Act.eval,Array.getElem?_setIfInBounds_ne PP.1,Array.getElem?_setIfInBounds_ne PP.2]
   have hen:=run_entry_at (P:=P) w3 r X Z.size seen Z Z.size E G F hem hnd;refine xW e3 (by rw[e1];intro c e;cases e) (V:=.tuple #[E.key,E.val]) (w' :=w3) (by simp only[execOp,e1,Zd];simp[hen]) ?_;rw[e2];have hkv:es[j]? =some (es[j].1,es[j].2):=by simp[hjl]
   have hnj:j∉seen.toList:=by
    intro YN;rw[hbj] at B;have:seen.contains j=true:=by simpa using YN
    rw[this] at B;cases B
   obtain⟨s3,D',acj⟩:=aal _ _ j _ _ d11 hkv hnj;have hT1:=aeM.put d2 (d:=J) (by omega) (V:=.tuple #[.bool true,E.key,E.val]) (v:=.tuple [.bool true,es[j].1,es[j].2]) (by simp only[aeg];exact⟨_,rfl,bE.2 ⟨by simp[aeg],bE.2 ⟨hk,bE.2 ⟨hv,by simp[aeh]⟩⟩⟩⟩);have hT2:=aeM.put hT1 (d:=more) (by rw[fu];omega) (V:=.bool true) (v:=.bool true) (by simp[aeg]);have hT3:=aeM.put hT2 (d:=ZD) (by rw[fu,fu];omega) (V:=.tuple #[E.key,E.val]) (v:=.tuple [es[j].1,es[j].2]) (by simp only[aeg];exact⟨_,rfl,bE.2 ⟨hk,bE.2 ⟨hv,by simp[aeh]⟩⟩⟩);have H':st1.mem.length+1≤S'.mem.length:=by omega
   refine v7 (m0:=st1.mem.length+1) (μ0:=μ') (mem0:=S'.mem) (w0:=w3) hT D' K hT3 (by rw[fu,fu,fu];exact d3) (by rw[fG,fG,fG];exact hM3) H' (.refl H') fun a4 w4 μ4 f1 f2 f3 f4 f5 f6=>?_
   show Code.wpIn (Fr ro) 0 P _ _ _ _
   refine wpIn_mono (acj ro h0' base μ4 w4 a4 YW f1 f2 f3 f4 f5) ?_;rintro e a5 w5 ⟨s4,μ5,y1,y2,y3,y4,y5,y6,hee,s5,hwk,hI5⟩;obtain⟨μ6,z1,z2,z3,z4⟩:=hwk base μ5 w5 a5.tmps y1 y2 y5;have S:=(f6.trans y6).trans z4;have Yo:b<st1.mem.length:=gL hb;have Y7:∃s',(∃S' μ',aes base μ' S'.mem w5∧aeM μ' S'.mem.length S'.env a5.tmps∧a5.tmps.size=N∧MOk P base h0' w5 a5.defers∧st1.mem.length<S'.mem.length∧
     Step m0 μ st.mem w μ' S'.mem w5∧μ' st1.mem.length=⟨r,0,0,0⟩∧(μ' b).blk=X∧w5.heap[r]? =some (.mapIter (some X) Z.size s' Z.size)∧w5.heap[X]? =some (.map Z Z.size)∧I s'.toList S')∧
     (leftOf Z s').size<(leftOf Z seen).size:=by
    refine⟨seen.push E.born,⟨s5,μ6,z1,z2,y3,y4,z3,hS3.trans (S.mono (by have:=c5;omega)),?_,?_,?_,?_,?_⟩,left_shrinks Z seen E hE⟩
    ·rw[S.agree _ (by omega),d7]
    ·rw[S.agree _ (by omega),d8]
    ·rw[S.frame r (by rw[hw3];simpa [setBlock] using hrl) fun x D=>by obtain⟨sx,q1,q2⟩:=D;exact yN K G q1 (aek.aeP q2)]
     exact G
    ·rw[S.frame X (Array.getElem?_eq_some_iff.1 F).1 fun x D=>?_]
     ·exact F
     ·rw[←d8]
      refine K.sep x b _ D i3 (by simp) ?_;rintro rfl;obtain⟨sx,q1,q2⟩:=D;rw[i3] at q1;cases q1;cases q2
    ·rw[Array.toList_push,hbj];exact hI5
   rcases hee with rfl | rfl
   ·exact Y7
   ·simp only[Exit.inBlock,if_true];exact Y7
 ·refine aeM.put (c2.mono (by simp) fun x D=>wF D) (by omega) ?_
  simp only[aeg,List.length_append,List.length_singleton,eH];exact⟨by omega,trivial⟩
 ·rw[fu];exact c3
 ·rw[fG];exact c4.step c1 p2
 ·simp
 ·rw[eH,hr]
 ·have Yo:b<st1.mem.length:=gL hb
  rw[wF Yo];exact m.symm
 ·rw[hr];exact heap_alloc_new w1 _
 ·rw[gF w1 _ ac'];exact k1
end
end Go.Eng
namespace Go.Eng
theorem Ca{m:Nat}:∀{env:Env},(env.all fun e=>(e.2.refs m).isEmpty)=true→∀t,(ad env t).refs m=[]
 | [],_,t=>by simp[ad,AV.refs]
 |(k,v)::r,h,t=>by
  simp only[List.all_cons,Bool.and_eq_true,List.isEmpty_iff] at h;simp only[ad];split
  ·exact h.1
  ·exact Ca h.2 t
variable{s:XS}
section
variable {P:Program}{T:TypeId→Option TyI}{O:y9}{tp:Bool}{N m0 K:Nat}{lv:Code→List Nat}{Q:Exit→St→Prop}
section
variable (hm:P.follows .mixedOrders=true)(hT:cK P T)(hO:qS P O)
include hm hT hO
theorem vz{c:Code}{s' :XS}{e:Exit}(H:cC c=true)(h:aS T lv O K N m0 tp c s=some (e,s'))(hq:Q e ⟨s'.env,s'.mem⟩):AWP P tp N m0 c ⟨s.env,s.mem⟩ Q:=
 (cY hm hT hO H h).1 Q hq
theorem MK{idB out nx idS idA:Nat}{Z2 abf W:Array Oper}{ZP:List Oper}{oR oN oX oE:Oper}{H:Code}{I J more ZD:Nat}{tR tk te:TypeId}{iR:TyI}{mOp:Operand}(hB:Z2.toList=Z2.toList.dropLast++[oR])(r1:oR.op=.range tR mOp)(r2:oR.dst=some I)(r3:oR.guard=none)(hTR:T tR=some iR)(hdR:iR.desc=.map tk te)(hS:abf.toList=[oN,oX])(n1:oN.op=.next (.tmp I) false)(n2:oN.dst=some J)(n3:oN.guard=none)(x1:oX.op=.extract (.tmp J) 0)(x2:oX.dst=some more)(x3:oX.guard=none)(hA:W.toList=oE::ZP)(e1:oE.op=.entry (.tmp I))(e2:oE.dst=some ZD)(e3:oE.guard=none)(Y6:I<N∧J<N∧more<N∧ZD<N)(PP:J≠I∧more≠I)(XL:cC H=true){s1:XS}{b:Nat}{es:List (AV×AV)}(Yl:dN T O N m0 Z2 Z2.toList.dropLast s=some s1)(hmo:get s1.env mOp=.map b)(hb:s1.mem[b]? =some (.aeO es))(lw wr:List Nat)(V:List Nat→Nat→AV)(M:List Nat→Mem)(Inv:List Nat→Prop)(Y:wr=ZD::more::J::(ZP.filterMap (·.dst)++ae H))(hit:I∉wr)(aaX:(((I,AV.ptr s1.mem.length 0)::s1.env).all fun e=>(e.2.refs (s1.mem.length+1)).isEmpty)=true)(hM:∀seen,Inv seen→(M seen).length=s1.mem.length+1∧(M seen)[s1.mem.length]? =some .qK∧(M seen)[b]? =some (.aeO es)∧∀x∈M seen,x.refs (s1.mem.length+1)=[])(hV:∀seen t,Inv seen→t∈lw→(V seen t).refs (s1.mem.length+1)=[])(h0:Inv []∧M []=s1.mem++[.qK]∧∀t∈lw,ad ((I,AV.ptr s1.mem.length 0)::s1.env) t=V [] t)(ab0:∀seen env,Inv seen→aeU wr ((I,AV.ptr s1.mem.length 0)::s1.env) env→(∀t∈lw,ad env t=V seen t)→(∀j,j<es.length→j∈seen)→Q .normal ⟨(more,.bool false)::(J,.tuple [.bool false])::env,M seen⟩)(aal:∀seen env j k v,Inv seen→aeU wr ((I,AV.ptr s1.mem.length 0)::s1.env) env→(∀t∈lw,ad env t=V seen t)→es[j]? =some (k,v)→j∉seen→∃U e X,dN T O N (s1.mem.length+1) W ZP ⟨(ZD,.tuple [k,v])::(more,.bool true)::(J,.tuple [.bool true,k,v])::env,M seen,false⟩=some U∧
   aS T lv O K N (s1.mem.length+1) tp H U=some (e,X)∧(e=.normal∨e=.exit nx)∧Inv (seen++[j])∧(∀t∈lw,ad X.env t=V (seen++[j]) t)∧X.mem.take (s1.mem.length+1)=M (seen++[j])):
  AWP P tp N m0 (.seq (.region idB Z2 false) (.block out (.loop (.seq (.region idS abf false) (.seq (.cond (.tmp more) .skip (.exit out)) (.block nx (.seq (.region idA W false) H))))))) ⟨s.env,s.mem⟩ Q:=by
 have R:=Ca aaX;refine JR (st1:=⟨s1.env,s1.mem⟩) hT hB r1 r2 r3 hTR hdR hS n1 n2 n3 x1 x2 x3 hA e1 e2 e3 Y6 PP (jO hO Yl).1 hmo hb
  (fun seen S=>Inv seen∧aeU wr ((I,AV.ptr s1.mem.length 0)::s1.env) S.env∧(∀t∈lw,ad S.env t=V seen t)∧S.mem=M seen) ⟨h0.1,.refl _ _,h0.2.2,h0.2.1.symm⟩ ?_ ?_ ?_
 ·rintro seen S ⟨i1,i2,i3,i4⟩
  obtain⟨F,D,C,_⟩:=hM seen i1;refine⟨?_,by rw[i4];exact D,by rw[i4];exact C⟩;rw[i2 I hit];simp[ad]
 ·rintro seen ⟨env,mem⟩ ⟨i1,i2,i3,i4⟩ P'
  have:=ab0 seen env i1 i2 i3 P';simp only at i4 ⊢;rw[i4];exact this
 ·rintro seen ⟨env,mem⟩ j k v ⟨i1,i2,i3,i4⟩ hj hns
  simp only at i2 i3 i4;subst i4;obtain⟨U,e,X,B,A,o,L,m,u⟩:=aal seen env j k v i1 i2 i3 hj hns;refine⟨⟨U.env,U.mem⟩,(jO hO B).1,?_⟩;refine AWP.assume fun H' _=>?_
  refine vz hm hT hO XL A ⟨o,?_⟩;obtain⟨F,D,C,j4⟩:=hM _ L;have aad :s1.mem.length+1≤X.mem.length:=by have h1:=congrArg List.length u;rw[List.length_take,F] at h1;omega
  have G:aeU wr ((I,AV.ptr s1.mem.length 0)::s1.env) X.env:=by
   have q1:=(pc B).mono (wr' :=wr) (by intro t Z;rw[Y];simp[Z]);have q2:=(fE hO A).mono (wr' :=wr) (by intro t Z;rw[Y];simp[Z]);intro t Z;rw[q2 t Z,q1 t Z,←i2 t Z];have:t≠ZD∧t≠more∧t≠J:=by rw[Y] at Z;simp only[List.mem_cons,not_or] at Z;exact⟨Z.1,Z.2.1,Z.2.2.1⟩
   simp[ad,Ne.symm this.1,Ne.symm this.2.1,Ne.symm this.2.2]
  refine⟨_,afa.aer [] (by simp[Di]),L,?_,?_,?_⟩
  ·intro t Z
   simp only[iw];rw[G t Z,AV.aex (R t)]
  ·intro t Z
   simp only[iw];rw[m t Z,AV.aex (hV _ t L Z)]
  ·simp only[aer,ae1,List.map_nil,List.append_nil,u]
   conv=>rhs;rw[←List.map_id (M (seen++[j]))]
   exact List.map_congr_left fun x hx=>aek.aex (j4 x hx)
end
end
end Go.Eng
namespace Go.Eng
abbrev Sd:=(Int×Int)×Int
def sdE(s:Sd):AV×AV:=(.agg [.int .i64 s.1.1,.int .i64 s.1.2],.int .i64 s.2)
def nxE(p:Int×Int):AV×AV:=(.int .i64 p.1,.int .i64 p.2)
def pQ:List (Int×Int)→Int→Option Int
 | [],_=>none
 |p::l,a=>if a=p.1 then some p.2 else pQ l a
def P7:List Sd→Int×Int→Option Int
 | [],_=>none
 |s::l,a=>if a.1=s.1.1∧a.2=s.1.2 then some s.2 else P7 l a
def bAt(ks:List Sd)(j:Nat):Option (Int×Int):=match ks[j]? with
 |some s=>if (P7 ks (s.1.2,s.1.1)).isSome then none else some s.1
 |none=>none
def sO(ks:List Sd):List (Int×Int):=(List.range ks.length).filterMap (bAt ks)
def Ac(f:Int):List (Int×Int)→Int
 | []=>f
 |p::l=>Ac (if f<0∨p.1<f then p.1 else f) l
theorem M7(f:Int):∀(l m:List (Int×Int)),Ac f (l++m)=Ac (Ac f l) m:=by
 intro l;induction l generalizing f with
 |nil=>intro m;rfl
 |cons p l ih=>intro m;exact ih _ m
theorem BR:∀(l:List (Int×Int)) (f:Int),(∀p∈l,0≤p.1)→(0≤f∨l≠[])→0≤Ac f l∧(Ac f l=f∨∃p∈l,Ac f l=p.1)∧(0≤f→Ac f l≤f)∧∀p∈l,Ac f l≤p.1
 | [],f,_,h=>by have:0≤f:=h.resolve_right (by simp);exact⟨this,.inl rfl,fun _=>Int.le_refl _,by simp⟩
 |p::l,f,hp,_=>by
  have V:=hp p (by simp);have U:=BR l (if f<0∨p.1<f then p.1 else f) (fun q Z=>hp q (by simp[Z])) (.inl (by split<;>omega));obtain⟨S,R,X,O⟩:=U;have N:(0:Int)≤(if f<0∨p.1<f then p.1 else f):=by split<;>omega
  have X:=X N;simp only[Ac];refine⟨S,?_,fun M=>?_,fun q Z=>?_⟩
  ·rcases R with h | ⟨q,Z,h⟩
   ·rw[h]
    split
    ·exact .inr ⟨p,by simp,rfl⟩
    ·exact .inl rfl
   ·exact .inr ⟨q,by simp[Z],h⟩
  ·refine Int.le_trans X ?_
   split<;>omega
  ·rcases List.mem_cons.1 Z with rfl | Z
   ·refine Int.le_trans X ?_
    split<;>omega
   ·exact O q Z
theorem Sf{l m:List (Int×Int)}(h:l.Perm m)(H:∀p∈l,0≤p.1):Ac (-1) l=Ac (-1) m:=by
 by_cases Z:l=[]
 ·subst Z
  rw[List.nil_perm.1 h]
 ·have S:m≠[]:=by rintro rfl;exact Z (List.perm_nil.1 h)
  have X:∀p∈m,0≤p.1:=fun p R=>H p (h.mem_iff.2 R)
  obtain⟨F,O,_,N⟩:=BR l (-1) H (.inr Z);obtain⟨D,M,_,L⟩:=BR m (-1) X (.inr S);obtain⟨p,V,K⟩:=O.resolve_left (by omega);obtain⟨q,U,G⟩:=M.resolve_left (by omega);have C:=L p (h.mem_iff.1 V);have B:=N q (h.mem_iff.2 U);omega
variable{a b:Int}
theorem Se{l:List (Int×Int)}(h:pQ l a=some b):(a,b)∈l:=by
 induction l with
 |nil=>cases h
 |cons p l ih=>
  rw[pQ] at h;split at h
  next e=>cases h;subst e;simp
  ·simp[ih h]
theorem DN{l:List (Int×Int)}(h:∀p∈l,p.1≠a):pQ l a=none:=by
 induction l with
 |nil=>rfl
 |cons p l ih=>
  rw[pQ,if_neg (fun e=>h p (by simp) e.symm)];exact ih fun q Z=>h q (by simp[Z])
theorem yG{l:List (Int×Int)}(H:∀p∈l,∀q∈l,p.1=q.1→p=q)(h:(a,b)∈l):pQ l a=some b:=by
 induction l with
 |nil=>cases h
 |cons p l ih=>
  rw[pQ];split
  ·rename_i e
   have:=H p (by simp) (a,b) h e.symm;rw[this]
  ·rename_i e
   rcases List.mem_cons.1 h with rfl | h
   ·exact absurd rfl e
   ·exact ih (fun p Z q X=>H p (by simp[Z]) q (by simp[X])) h
theorem P6{l m:List (Int×Int)}(h:l.Perm m)(H:∀p∈l,∀q∈l,p.1=q.1→p=q)(a:Int):pQ l a=pQ m a:=by
 have Z :∀p∈m,∀q∈m,p.1=q.1→p=q:=fun p X q V=>H p (h.mem_iff.2 X) q (h.mem_iff.2 V)
 cases hb:pQ m a with
 |some b=>exact yG H (h.mem_iff.2 (Se hb))
 |none=>
  refine DN fun p X e=>?_
  have:=yG Z (a:=a) (b:=p.2) (by rw[←e];exact h.mem_iff.1 X);rw[hb] at this;cases this
def Vp(ks:List Sd):Prop:=∀i j p q,bAt ks i=some p→bAt ks j=some q→p.1=q.1→i=j
def cI(ks:List Sd)(seen:List Nat):List (Int×Int):=seen.filterMap (bAt ks)
variable{j:Nat}{ks:List Sd}{p:Int×Int}
theorem Ri(h:bAt ks j=some p):j<ks.length:=by
 unfold bAt at h;split at h
 next s Z=>exact(gL Z)
 ·cases h
variable{seen:List Nat}
theorem Lc(H:seen.Nodup)(I:∀j∈seen,j<ks.length)(J:∀j,j<ks.length→j∈seen):(cI ks seen).Perm (sO ks):=by
 refine List.Perm.filterMap _ ?_;refine(List.perm_ext_iff_of_nodup H List.nodup_range).2 fun j=>?_
 simp only[List.mem_range];exact⟨I j,J j⟩
theorem Gn(H:Vp ks)(I:j∉seen)(J:bAt ks j=some p):pQ (cI ks seen) p.1=none:=by
 refine DN fun q X e=>?_
 obtain⟨i,V,Z⟩:=List.mem_filterMap.1 X;have:=H i j q p Z J e;subst this;exact I V
theorem Gp(H:Vp ks):∀p∈cI ks seen,∀q∈cI ks seen,p.1=q.1→p=q:=by intro p V q U e;obtain⟨i,_,X⟩:=List.mem_filterMap.1 V;obtain⟨j,_,Z⟩:=List.mem_filterMap.1 U;have:=H i j p q X Z e;subst this;rw[X] at Z;cases Z;rfl
def wG(B:List (Int×Int))(first:Int):Nat→Int→List Int→Option (List Int)
 |0,_,out=>some out
 |n+1,a,out=>match pQ B a with
  |none=>none
  |some b=>if a=first∧out≠[] then none else wG B first n b (out++[a])
def Bm(B:List (Int×Int)):Option (List Int):=wG B (Ac (-1) B) B.length (Ac (-1) B) []
def uD(ks:List Sd):Bool:=
 let B:=sO ks
 decide (B≠[])&&decide ((B.map (·.1)).Nodup)&&B.all (fun p=>decide (0≤p.1))&&decide (ks.length≤1000000)
theorem Rk{i:Nat}{q:Int×Int}(J:((sO ks).map (·.1)).Nodup)(H:bAt ks i=some p)(I:bAt ks j=some q)(e:p.1=q.1):i=j:=by
 have R:∀(l:List Nat),l.Nodup→((l.filterMap (bAt ks)).map (·.1)).Nodup→i∈l→j∈l→i=j:=by
  intro l;induction l with
  |nil=>intro _ _ h;cases h
  |cons a l ih=>
   intro O Z X V;have U :=(List.nodup_cons.1 O).2;rw[List.filterMap_cons] at Z;cases ha:bAt ks a with
   |none=>
    rw[ha] at Z;have N:i≠a:=by rintro rfl;rw[H] at ha;cases ha
    have M:j≠a:=by rintro rfl;rw[I] at ha;cases ha
    exact ih U Z ((List.mem_cons.1 X).resolve_left N) ((List.mem_cons.1 V).resolve_left M)
   |some r=>
    rw[ha] at Z;simp only[List.map_cons,List.nodup_cons] at Z;have S:∀k s,k∈l→bAt ks k=some s→s.1≠r.1:=by intro k s L K h;exact Z.1 (List.mem_map.2 ⟨s,List.mem_filterMap.2 ⟨k,L,K⟩,h⟩)
    rcases List.mem_cons.1 X with X | X<;>rcases List.mem_cons.1 V with V | V
    ·rw[X,V]
    ·rw[←X,H] at ha;cases ha;exact absurd e.symm (S j q V I)
    ·rw[←V,I] at ha;cases ha;exact absurd e (S i p X H)
    ·exact ih U Z.2 X V
 exact R _ List.nodup_range J (List.mem_range.2 (Ri H)) (List.mem_range.2 (Ri I))
theorem Ky(h:uD ks=true):sO ks≠[]∧Vp ks∧(∀p∈sO ks,0≤p.1)∧ks.length≤1000000:=by simp only[uD,Bool.and_eq_true,decide_eq_true_eq,List.all_eq_true] at h;obtain⟨⟨⟨Z,X⟩,h3⟩,V⟩:=h;exact⟨Z,fun i j p q U S e=>Rk X U S e,h3,V⟩
theorem QA(h:∀p∈sO ks,0≤p.1):∀p∈cI ks seen,0≤p.1:=by intro p X;obtain⟨i,_,Z⟩:=List.mem_filterMap.1 X;exact h p (List.mem_filterMap.2 ⟨i,List.mem_range.2 (Ri Z),Z⟩)
theorem yS{B:List (Int×Int)}{first:Int}:∀{n:Nat} {a:Int} {H I:List Int},wG B first n a H=some I→I.length=H.length+n
 |0,a,H,I,h=>by simp only[wG,Option.some.injEq] at h;subst h;rfl
 |n+1,a,H,I,h=>by
  rw[wG] at h;split at h
  ·cases h
  ·split at h
   ·cases h
   ·have:=yS h
    simp at this;omega
def ML(H:List Nat)(n j:Nat):Bool:=fc H j&&(List.range n).all fun k=>decide (k≤j)||bef H j k
def cM(r:Rec):Bool:=decide (r.nx.length=r.mem.length)&&r.wr.isEmpty
def Bj(H:List Nat)(n j:Nat)(r:Rec):Bool:=
 r.v.aef (fun b=>decide (b<r.nx.length))&&
  (cM r||(ML H n j&&r.wr.all (fun b=>fg r.tm b&&(match r.nx[b]? with | some s=>s.aef (fun b=>decide (b<r.nx.length)) | none=>true))&&
   (r.nx.drop r.mem.length).all fun s=>(s.own||match s with | .qK=>true | _=>false)&&s.aef (fun b=>decide (b<r.nx.length))))
def sX(H:List Nat)(n:Nat):Nat→List Rec→Bool
 |_,[]=>true
 |j,r::rest=>Bj H n j r&&sX H n (j+1) rest
def mi(T:TypeId→Option TyI)(O:y9)(N m0:Nat)(ops:Array Oper)(H:List Nat)(s:XS):Option XS:=
 match mE T O N ops H 0 ops.toList s.env s.mem [] with
 |none=>none
 |some (R,env,mem)=>
  if sX H R.length 0 R then some ⟨env,mem,s.aeC||R.any fun r=>r.wr.any fun b=>decide (b<m0)⟩ else none
structure agM (bs:List Nat)(n:Nat)(f:Nat×Rec):Prop where
 refs:f.2.v.aef (fun b=>decide (b<f.2.nx.length))=true
 or:(f.2.nx.length=f.2.mem.length∧f.2.wr=[])∨((∀i,i<f.1→bef bs i f.1=true)∧(∀k,f.1<k→k<n→bef bs f.1 k=true)∧
  f.2.wr.all (fun b=>fg f.2.tm b&&(match f.2.nx[b]? with | some s=>s.aef (fun b=>decide (b<f.2.nx.length)) | none=>true))=true∧
  ((f.2.nx.drop f.2.mem.length).all fun s=>(s.own||match s with | .qK=>true | _=>false)&&s.aef (fun b=>decide (b<f.2.nx.length)))=true)
theorem Bi{H:List Nat}{n:Nat}:∀{j0:Nat} {R:List Rec},sX H n j0 R=true→∀f∈ba j0 R,agM H n f
 |_,[],_,f,hf=>by simp[ba] at hf
 |j0,r::rest,h,f,hf=>by
  simp only[sX,Bool.and_eq_true] at h;rw[ba,List.mem_cons] at hf;rcases hf with rfl | hf
  ·have X:=h.1
   simp only[Bj,cM,ML,Bool.and_eq_true,Bool.or_eq_true,decide_eq_true_eq,List.isEmpty_iff] at X;obtain⟨X,Z⟩:=X;refine⟨X,?_⟩;rcases Z with Z | ⟨⟨⟨Z,h3⟩,U⟩,S⟩
   ·exact .inl Z
   ·refine .inr ⟨fun i O=>List.all_eq_true.1 Z i (List.mem_range.2 O),fun k N V=>?_,U,S⟩
    have:=List.all_eq_true.1 h3 k (List.mem_range.2 V);simp only[Bool.or_eq_true,decide_eq_true_eq] at this;rcases this with h6 | h6
    ·omega
    ·exact h6
  ·exact Bi h.2 f hf
variable{R:List Rec}
theorem JX{H:List Nat}(h:sX H R.length 0 R=true){f:Nat×Rec}(hf:f∈ba 0 R):ie H (ba 0 R) f.1 f.2=true:=by
 have M:=Bi h;have S:=M f hf;have B:=iE hf;unfold ie;have L:∀g∈(ba 0 R).filter (fun g=>decide (g.1<f.1)&& !bef H g.1 f.1),g.2.nx.length=g.2.mem.length∧g.2.wr=[]:=by
  intro g X;have Z:=List.mem_filter.1 X;simp only[Bool.and_eq_true,decide_eq_true_eq,Bool.not_eq_true'] at Z;rcases (M g Z.1).or with V | ⟨_,V,_⟩
  ·exact V
  ·have:=V f.1 Z.2.1 (by omega)
   rw[this] at Z;exact absurd Z.2.2 (by simp)
 have K:∀U,iz U ((ba 0 R).filter fun g=>decide (g.1<f.1)&& !bef H g.1 f.1)=fun b=>decide (b<U):=by
  intro U;funext b;unfold iz;have:(((ba 0 R).filter fun g=>decide (g.1<f.1)&& !bef H g.1 f.1).all fun f=> !decide (f.2.mem.length≤b∧b<f.2.nx.length))=true:=List.all_eq_true.2 fun g X=>by have:=(L g X).1;simp;omega
  rw[this,Bool.and_true]
 simp only[K,Bool.and_eq_true];rcases S.or with⟨V,O⟩ | ⟨V,_,h3,G⟩
 ·have F:f.2.nx.drop f.2.mem.length=[]:=List.drop_of_length_le (by rw[V];exact Nat.le_refl _)
  refine⟨⟨⟨⟨by rw[O];rfl,S.refs⟩,by rw[O];rfl⟩,by rw[F];rfl⟩,?_⟩;refine List.all_eq_true.2 fun g X=>?_
  obtain⟨D,C⟩:=L g X;rw[C,O,D,Nat.sub_self,List.take_zero];rfl
 ·refine⟨⟨⟨⟨?_,S.refs⟩,?_⟩,G⟩,?_⟩
  ·refine List.all_eq_true.2 fun b N=>?_
   have:=List.all_eq_true.1 h3 b N;simp only[Bool.and_eq_true] at this;exact this.1
  ·refine List.all_eq_true.2 fun b N=>?_
   have:=List.all_eq_true.1 h3 b N;simp only[Bool.and_eq_true] at this;exact this.2
  ·refine List.all_eq_true.2 fun g X=>?_
   have Z:=List.mem_filter.1 X;simp only[Bool.and_eq_true,decide_eq_true_eq,Bool.not_eq_true'] at Z;rw[V g.1 Z.2.1] at Z;exact absurd Z.2.2 (by simp)
variable{N m0:Nat}{O:y9}
theorem kY{T:TypeId→Option TyI}{ops:Array Oper}{H:List Nat}(I:dT ops.toList=H)(s:XS):
  aK T O N m0 ops s=match mi T O N m0 ops H s with
   |some s' =>some s'
   |none=>o8 T O N m0 ops s:=by
 cases h:mi T O N m0 ops H s with
 |none=>rfl
 |some s' =>
  simp only;unfold mi at h;unfold aK;simp only;rw[I];split at h
  ·cases h
  ·rename_i R env mem Z
   split at h
   ·rename_i X
    cases h;rw[Z];simp only;rw[if_pos (List.all_eq_true.2 fun f V=>JX X V)]
   ·cases h
def JO(H:List Nat)(n j:Nat):Bool:=(List.range n).all fun k=>decide (k≤j)||bef H j k
def N5(H:List Nat)(n j:Nat)(r:Rec):Bool:=
 r.v.aef (fun b=>decide (b<r.nx.length))&&
  (cM r||(JO H n j&&(r.wr.isEmpty||(fc H j&&r.wr.all (fun b=>fg r.tm b&&(match r.nx[b]? with | some s=>s.aef (fun b=>decide (b<r.nx.length)) | none=>true))))&&
   (r.nx.drop r.mem.length).all fun s=>(s.own||match s with | .qK=>true | _=>false)&&s.aef (fun b=>decide (b<r.nx.length))))
def BK(H:List Nat)(n:Nat):Nat→List Rec→Bool
 |_,[]=>true
 |j,r::rest=>N5 H n j r&&BK H n (j+1) rest
def wk(T:TypeId→Option TyI)(O:y9)(N m0:Nat)(ops:Array Oper)(H:List Nat)(s:XS):Option XS:=
 match mE T O N ops H 0 ops.toList s.env s.mem [] with
 |none=>none
 |some (R,env,mem)=>
  if BK H R.length 0 R then some ⟨env,mem,s.aeC||R.any fun r=>r.wr.any fun b=>decide (b<m0)⟩ else none
structure agN (bs:List Nat)(n:Nat)(f:Nat×Rec):Prop where
 refs:f.2.v.aef (fun b=>decide (b<f.2.nx.length))=true
 or:(f.2.nx.length=f.2.mem.length∧f.2.wr=[])∨((f.2.wr=[]∨∀i,i<f.1→bef bs i f.1=true)∧(∀k,f.1<k→k<n→bef bs f.1 k=true)∧
  f.2.wr.all (fun b=>fg f.2.tm b&&(match f.2.nx[b]? with | some s=>s.aef (fun b=>decide (b<f.2.nx.length)) | none=>true))=true∧
  ((f.2.nx.drop f.2.mem.length).all fun s=>(s.own||match s with | .qK=>true | _=>false)&&s.aef (fun b=>decide (b<f.2.nx.length)))=true)
theorem BL{H:List Nat}{n:Nat}:∀{j0:Nat} {R:List Rec},BK H n j0 R=true→∀f∈ba j0 R,agN H n f
 |_,[],_,f,hf=>by simp[ba] at hf
 |j0,r::rest,h,f,hf=>by
  simp only[BK,Bool.and_eq_true] at h;rw[ba,List.mem_cons] at hf;rcases hf with rfl | hf
  ·have X:=h.1
   simp only[N5,cM,JO,Bool.and_eq_true,Bool.or_eq_true,decide_eq_true_eq,List.isEmpty_iff] at X;obtain⟨X,V⟩:=X;refine⟨X,?_⟩;rcases V with V | ⟨⟨h3,Z⟩,S⟩
   ·exact .inl V
   ·refine .inr ⟨?_,fun k L U=>?_,?_,S⟩
    ·rcases Z with Z | ⟨Z,_⟩
     ·exact .inl Z
     ·exact .inr fun i M=>List.all_eq_true.1 Z i (List.mem_range.2 M)
    ·have:=List.all_eq_true.1 h3 k (List.mem_range.2 U)
     simp only[Bool.or_eq_true,decide_eq_true_eq] at this;rcases this with h6 | h6
     ·omega
     ·exact h6
    ·rcases Z with Z | ⟨_,Z⟩
     ·rw[Z];rfl
     ·exact Z
  ·exact BL h.2 f hf
theorem JY{H:List Nat}(h:BK H R.length 0 R=true){f:Nat×Rec}(hf:f∈ba 0 R):ie H (ba 0 R) f.1 f.2=true:=by
 have D:=BL h;have S:=D f hf;have u:=iE hf;unfold ie;have M:∀g∈(ba 0 R).filter (fun g=>decide (g.1<f.1)&& !bef H g.1 f.1),g.2.nx.length=g.2.mem.length∧g.2.wr=[]:=by
  intro g V;have X:=List.mem_filter.1 V;simp only[Bool.and_eq_true,decide_eq_true_eq,Bool.not_eq_true'] at X;rcases (D g X.1).or with Z | ⟨_,Z,_⟩
  ·exact Z
  ·have:=Z f.1 X.2.1 (by omega)
   rw[this] at X;exact absurd X.2.2 (by simp)
 have C:∀U,iz U ((ba 0 R).filter fun g=>decide (g.1<f.1)&& !bef H g.1 f.1)=fun b=>decide (b<U):=by
  intro U;funext b;unfold iz;have:(((ba 0 R).filter fun g=>decide (g.1<f.1)&& !bef H g.1 f.1).all fun f=> !decide (f.2.mem.length≤b∧b<f.2.nx.length))=true:=List.all_eq_true.2 fun g V=>by have:=(M g V).1;simp;omega
  rw[this,Bool.and_true]
 simp only[C,Bool.and_eq_true];rcases S.or with⟨Z,L⟩ | ⟨Z,_,h3,B⟩
 ·have A:f.2.nx.drop f.2.mem.length=[]:=List.drop_of_length_le (by rw[Z];exact Nat.le_refl _)
  refine⟨⟨⟨⟨by rw[L];rfl,S.refs⟩,by rw[L];rfl⟩,by rw[A];rfl⟩,?_⟩;refine List.all_eq_true.2 fun g V=>?_
  obtain⟨K,G⟩:=M g V;rw[G,L,K,Nat.sub_self,List.take_zero];rfl
 ·refine⟨⟨⟨⟨?_,S.refs⟩,?_⟩,B⟩,?_⟩
  ·refine List.all_eq_true.2 fun b F=>?_
   have:=List.all_eq_true.1 h3 b F;simp only[Bool.and_eq_true] at this;exact this.1
  ·refine List.all_eq_true.2 fun b F=>?_
   have:=List.all_eq_true.1 h3 b F;simp only[Bool.and_eq_true] at this;exact this.2
  ·refine List.all_eq_true.2 fun g V=>?_
   obtain⟨K,G⟩:=M g V;rcases Z with Z | Z
   ·rw[G,Z,K,Nat.sub_self,List.take_zero]
    rfl
   ·have X:=List.mem_filter.1 V
    simp only[Bool.and_eq_true,decide_eq_true_eq,Bool.not_eq_true'] at X;rw[Z g.1 X.2.1] at X;exact absurd X.2.2 (by simp)
theorem Cg{T:TypeId→Option TyI}{ops:Array Oper}{H:List Nat}(I:dT ops.toList=H)(s:XS):
  aK T O N m0 ops s=match wk T O N m0 ops H s with
   |some s' =>some s'
   |none=>o8 T O N m0 ops s:=by
 cases h:wk T O N m0 ops H s with
 |none=>rfl
 |some s' =>
  simp only;unfold wk at h;unfold aK;simp only;rw[I];split at h
  ·cases h
  ·rename_i R env mem Z
   split at h
   ·rename_i X
    cases h;rw[Z];simp only;rw[if_pos (List.all_eq_true.2 fun f V=>JY X V)]
   ·cases h
mutual
theorem aeD{p q:Nat→Bool}:∀(v:AV),v.aef p=true→v.aef q=true→v.aef (fun b=>p b&&q b)=true
 |.ptr _ _,h1,h2=>by simp only[AV.aef] at h1 h2 ⊢;rw[h1,h2];rfl
 |.slice _ _ _ _,h1,h2=>by simp only[AV.aef] at h1 h2 ⊢;rw[h1,h2];rfl
 |.map _,h1,h2=>by simp only[AV.aef] at h1 h2 ⊢;rw[h1,h2];rfl
 |.yield _,h1,h2=>by simp only[AV.aef] at h1 h2 ⊢;rw[h1,h2];rfl
 |.func _ Z,h1,h2=>by simp only[AV.aef] at h1 h2 ⊢;exact kV Z h1 h2
 |.iface _ v,h1,h2=>by simp only[AV.aef] at h1 h2 ⊢;exact aeD v h1 h2
 |.agg Z,h1,h2=>by simp only[AV.aef] at h1 h2 ⊢;exact kV Z h1 h2
 |.tuple Z,h1,h2=>by simp only[AV.aef] at h1 h2 ⊢;exact kV Z h1 h2
 |.undef,_,_=>rfl
 |.bool _,_,_=>rfl
 |.int _ _,_,_=>rfl
 |.str _,_,_=>rfl
 |.aet,_,_=>rfl
 |.qF,_,_=>rfl
 |.aeF,_,_=>rfl
 |.nilFunc,_,_=>rfl
 |.nilIface,_,_=>rfl
theorem kV{p q:Nat→Bool}:∀(cs:List AV),AV.ael p cs=true→AV.ael q cs=true→AV.ael (fun b=>p b&&q b) cs=true
 | [],_,_=>rfl
 |v::vs,h1,h2=>by simp only[AV.ael,Bool.and_eq_true] at h1 h2 ⊢;exact⟨aeD v h1.1 h2.1,kV vs h1.2 h2.2⟩
end
mutual
theorem aey:∀(v:AV),v.aef (fun _=>true)=true
 |.ptr _ _=>rfl
 |.slice _ _ _ _=>rfl
 |.map _=>rfl
 |.yield _=>rfl
 |.func _ Z=>by simp only[AV.aef];exact jN Z
 |.iface _ v=>by simp only[AV.aef];exact aey v
 |.agg Z=>by simp only[AV.aef];exact jN Z
 |.tuple Z=>by simp only[AV.aef];exact jN Z
 |.undef=>rfl
 |.bool _=>rfl
 |.int _ _=>rfl
 |.str _=>rfl
 |.aet=>rfl
 |.qF=>rfl
 |.aeF=>rfl
 |.nilFunc=>rfl
 |.nilIface=>rfl
theorem jN:∀(cs:List AV),AV.ael (fun _=>true) cs=true
 | []=>rfl
 |v::vs=>by simp only[AV.ael,Bool.and_eq_true];exact⟨aey v,jN vs⟩
end
theorem aeG{top:Nat}{v:AV}(h:v.aef (fun b=>decide (b<top))=true):∀{un:List (Nat×Rec)},(∀g∈un,v.aef (fun b=> !decide (g.2.mem.length≤b∧b<g.2.nx.length))=true)→v.aef (iz top un)=true
 | [],_=>by
  have:iz top []=fun b=>decide (b<top):=by funext b;simp[iz]
  rw[this];exact h
 |g::un,hg=>by
  have Z:=aeG h (un:=un) (fun x X=>hg x (List.mem_cons_of_mem _ X));have V:=aeD v Z (hg g (List.mem_cons_self ..));have:iz top (g::un)=fun b=>iz top un b&& !decide (g.2.mem.length≤b∧b<g.2.nx.length):=by funext b;simp only[iz,List.all_cons];cases decide (b<top)<;>cases (un.all fun f=> !decide (f.2.mem.length≤b∧b<f.2.nx.length))<;>simp
  rw[this];exact V
def oU:aek→Bool
 |.qK=>true
 |_=>false
def WX(H I:Nat)(r:Rec):Bool:=
 cM r&&r.v.aef (fun b=> !decide (H≤b∧b<I))&&((r.tm.drop H).take (I-H)).all oU
structure agX (bs:List Nat)(R:List (Nat×Rec))(f:Nat×Rec):Prop where
 refs:f.2.v.aef (fun b=>decide (b<f.2.nx.length))=true
 or:(f.2.nx.length=f.2.mem.length∧f.2.wr=[])∨((f.2.wr=[]∨∀i,i<f.1→bef bs i f.1=true)∧(∀g∈R,f.1<g.1→bef bs f.1 g.1=true∨(f.2.wr=[]∧WX f.2.mem.length f.2.nx.length g.2=true))∧
  f.2.wr.all (fun b=>fg f.2.tm b&&(match f.2.nx[b]? with | some s=>s.aef (fun b=>decide (b<f.2.nx.length)) | none=>true))=true∧
  ((f.2.nx.drop f.2.mem.length).all fun s=>(s.own||match s with | .qK=>true | _=>false)&&s.aef (fun b=>decide (b<f.2.nx.length)))=true)
theorem BP(f:Nat→Bool)(new:Mem):∀(i:Nat) (M:Mem),bn [] i M (bG f i M++new)=M++new
 |_,[]=>rfl
 |i,s::M=>by simp[bG,bn,BP f new (i+1) M]
theorem yI(new:Mem):∀(i:Nat) (M:Mem),bn [] i M (M++new)=M++new
 |_,[]=>rfl
 |i,s::M=>by simp[bn,yI new (i+1) M]
theorem yK(f:Nat→Bool)(s:aek):∀(i:Nat) (M:Mem) (k:Nat),bn [i+k] i M ((bG f i M).set k s)=M.set k s
 |_,[],_=>rfl
 |i,x::M,0=>by
  simp only[bG,List.set_cons_zero,bn,Nat.add_zero];have h:∀(j:Nat) (M:Mem),i<j→bn [i] j M (bG f j M)=M:=by
   intro j M Z;induction M generalizing j with
   |nil=>rfl
   |cons y M ih=>simp[bG,bn,ih (j+1) (by omega),show¬j=i by omega]
  simp[h (i+1) M (by omega)]
 |i,x::M,k+1=>by have:=yK f s (i+1) M k;rw[show i+1+k=i+(k+1) by omega] at this;simp[bG,bn,this,show¬i=i+(k+1) by omega]
theorem Kq(f:Nat→Bool)(s:aek)(M:Mem)(k:Nat):bn [k] 0 M ((bG f 0 M).set k s)=M.set k s:=by
 have:=yK f s 0 M k
 rwa [Nat.zero_add] at this
theorem DT(f:Nat→Bool):∀(i:Nat) (M:Mem),(bG f i M).length=M.length
 |_,[]=>rfl
 |i,x::M=>by simp[bG,DT f (i+1) M]
theorem Qa(f:Nat→Bool)(M:Mem)(H n:Nat)(h:∀b,H≤b→b<H+n→f b=false):(((bG f 0 M).drop H).take n).all oU=true:=by
 rw[List.all_eq_true];intro s X;obtain⟨i,Z⟩:=List.getElem?_of_mem X;rw[List.getElem?_take] at Z;split at Z
 ·rename_i V
  rw[List.getElem?_drop,uz] at Z;cases hM:M[H+i]? with
  |none=>rw[hM] at Z;simp at Z
  |some x=>
   rw[hM] at Z;simp only[Option.map_some,Nat.zero_add,Option.some.injEq] at Z;rw[h (H+i) (by omega) (by omega)] at Z;simp at Z;subst Z;rfl
 ·cases Z
theorem M6(M:Mem)(H n:Nat):(((bG (fun _=>false) 0 M).drop H).take n).all oU=true:=Qa _ M H n fun _ _ _=>rfl
theorem VK(M X:Mem)(k:Nat):(M++X).drop (M.length+k)=X.drop k:=by rw[List.drop_append];simp
theorem Um(M X:Mem):(M++X).drop M.length=X:=by simp
theorem vT(i:Nat)(s s' :aek)(r r' :Mem):bn [] i (s::r) (s' ::r')=s::bn [] (i+1) r r' :=by simp[bn]
theorem BQ:∀(i:Nat) (N X Y:Mem),bn [] i (N++X) (N++Y)=N++bn [] (i+N.length) X Y
 |i,[],X,Y=>by simp
 |i,s::N,X,Y=>by simp only[List.cons_append,vT,BQ (i+1) N X Y,List.length_cons];rw[show i+1+N.length=i+(N.length+1) by omega]
theorem aek.aeD{p q:Nat→Bool}:∀(s:aek),s.aef p=true→s.aef q=true→s.aef (fun b=>p b&&q b)=true
 |.qK,_,_=>rfl
 |.cells _ _ cs,h,h' =>kV cs h h'
 |.map es,h,h' =>by simp only[aek.aef,List.all_eq_true,Bool.and_eq_true] at h h' ⊢;exact fun e Z=>⟨Go.Eng.aeD _ (h e Z).1 (h' e Z).1,Go.Eng.aeD _ (h e Z).2 (h' e Z).2⟩
 |.aeO es,h,h' =>by simp only[aek.aef,List.all_eq_true,Bool.and_eq_true] at h h' ⊢;exact fun e Z=>⟨Go.Eng.aeD _ (h e Z).1 (h' e Z).1,Go.Eng.aeD _ (h e Z).2 (h' e Z).2⟩
 |.loop r,h,h' =>by simp only[aek.aef,List.all_eq_true] at h h' ⊢;exact fun e Z=>Go.Eng.aeD _ (h e Z) (h' e Z)
theorem aek.aeG{top:Nat}{s:aek}(h:s.aef (fun b=>decide (b<top))=true):∀{un:List (Nat×Rec)},(∀g∈un,s.aef (fun b=> !decide (g.2.mem.length≤b∧b<g.2.nx.length))=true)→s.aef (iz top un)=true
 | [],_=>by
  have:iz top []=fun b=>decide (b<top):=by funext b;simp[iz]
  rw[this];exact h
 |g::un,hg=>by
  have Z:=aek.aeG h (un:=un) (fun x X=>hg x (List.mem_cons_of_mem _ X));have V:=aek.aeD s Z (hg g (List.mem_cons_self ..));have:iz top (g::un)=fun b=>iz top un b&& !decide (g.2.mem.length≤b∧b<g.2.nx.length):=by funext b;simp only[iz,List.all_cons];cases decide (b<top)<;>cases (un.all fun f=> !decide (f.2.mem.length≤b∧b<f.2.nx.length))<;>simp
  rw[this];exact V
theorem rJ{g:Rec}(h:g.nx.length=g.mem.length):(fun b=> !decide (g.mem.length≤b∧b<g.nx.length))=fun _=>true:=by
 funext b;rw[h];have:¬(g.mem.length≤b∧b<g.mem.length):=by omega
 simp[this]
theorem aek.aey:∀(s:aek),s.aef (fun _=>true)=true
 |.qK=>rfl
 |.cells _ _ cs=>jN cs
 |.map es=>by simp only[aek.aef,List.all_eq_true,Bool.and_eq_true];exact fun e _=>⟨Go.Eng.aey _,Go.Eng.aey _⟩
 |.aeO es=>by simp only[aek.aef,List.all_eq_true,Bool.and_eq_true];exact fun e _=>⟨Go.Eng.aey _,Go.Eng.aey _⟩
 |.loop r=>by simp only[aek.aef,List.all_eq_true];exact fun e _=>Go.Eng.aey _
def cw(H I:Nat)(r:Rec):Bool:=
 r.wr.isEmpty&&r.v.aef (fun b=> !decide (H≤b∧b<I))&&((r.nx.drop r.mem.length).all fun s=>s.aef (fun b=> !decide (H≤b∧b<I)))&&((r.tm.drop H).take (I-H)).all oU
def ef(H:List Nat)(i:Nat)(r:Rec):Nat→List Rec→Bool
 |_,[]=>true
 |j,s::rest=>(bef H i j||(r.wr.isEmpty&&cw r.mem.length r.nx.length s))&&ef H i r (j+1) rest
def gQ(H:List Nat)(j:Nat)(r:Rec):List (Nat×Rec)→Bool
 | []=>true
 |g::l=>(bef H g.1 j||(cM g.2&&r.wr.all fun b=> !fg g.2.tm b))&&gQ H j r l
def ff(H:List Nat):Nat→List (Nat×Rec)→List Rec→Bool
 |_,_,[]=>true
 |j,acc,r::rest=>r.v.aef (fun b=>decide (b<r.nx.length))&&(cM r||(ef H j r (j+1) rest&&(r.wr.isEmpty||(gQ H j r acc&&r.wr.all (fun b=>fg r.tm b&&(match r.nx[b]? with | some s=>s.aef (fun b=>decide (b<r.nx.length)) | none=>true))))&&
   (r.nx.drop r.mem.length).all fun s=>(s.own||match s with | .qK=>true | _=>false)&&s.aef (fun b=>decide (b<r.nx.length))))&&ff H (j+1) ((j,r)::acc) rest
def bZ(T:TypeId→Option TyI)(O:y9)(N m0:Nat)(ops:Array Oper)(H:List Nat)(s:XS):Option XS:=
 match mE T O N ops H 0 ops.toList s.env s.mem [] with
 |none=>none
 |some (R,env,mem)=>
  if ff H 0 [] R then some ⟨env,mem,s.aeC||R.any fun r=>r.wr.any fun b=>decide (b<m0)⟩ else none
theorem Br{H:List Nat}{i:Nat}{r:Rec}:∀{j0:Nat} {R:List Rec},ef H i r j0 R=true→∀g∈ba j0 R,bef H i g.1=true∨(r.wr=[]∧cw r.mem.length r.nx.length g.2=true)
 |_,[],_,g,hg=>by simp[ba] at hg
 |j0,s::rest,h,g,hg=>by
  simp only[ef,Bool.and_eq_true,Bool.or_eq_true,List.isEmpty_iff] at h;rw[ba,List.mem_cons] at hg;rcases hg with rfl | hg
  ·exact h.1
  ·exact Br h.2 g hg
theorem Dz{H:List Nat}{j:Nat}{r:Rec}:∀{acc:List (Nat×Rec)},gQ H j r acc=true→∀g∈acc,bef H g.1 j=true∨((g.2.nx.length=g.2.mem.length∧g.2.wr=[])∧(r.wr.all fun b=> !fg g.2.tm b)=true)
 | [],_,g,hg=>by cases hg
 |a::l,h,g,hg=>by
  simp only[gQ,cM,Bool.and_eq_true,Bool.or_eq_true,decide_eq_true_eq,List.isEmpty_iff] at h;rcases List.mem_cons.1 hg with rfl | hg
  ·exact h.1
  ·exact Dz h.2 g hg
structure agr (bs:List Nat)(R:List (Nat×Rec))(f:Nat×Rec):Prop where
 refs:f.2.v.aef (fun b=>decide (b<f.2.nx.length))=true
 or:(f.2.nx.length=f.2.mem.length∧f.2.wr=[])∨((f.2.wr=[]∨∀g∈R,g.1<f.1→bef bs g.1 f.1=true∨((g.2.nx.length=g.2.mem.length∧g.2.wr=[])∧(f.2.wr.all fun b=> !fg g.2.tm b)=true))∧(∀g∈R,f.1<g.1→bef bs f.1 g.1=true∨(f.2.wr=[]∧cw f.2.mem.length f.2.nx.length g.2=true))∧
  f.2.wr.all (fun b=>fg f.2.tm b&&(match f.2.nx[b]? with | some s=>s.aef (fun b=>decide (b<f.2.nx.length)) | none=>true))=true∧
  ((f.2.nx.drop f.2.mem.length).all fun s=>(s.own||match s with | .qK=>true | _=>false)&&s.aef (fun b=>decide (b<f.2.nx.length)))=true)
theorem yE{H:List Nat}{R0:List (Nat×Rec)}:∀{j0:Nat} {acc:List (Nat×Rec)} {R:List Rec},(∀g∈R0,g.1<j0∨g∈ba j0 R)→(∀g∈R0,g.1<j0→g∈acc)→ff H j0 acc R=true→∀f∈ba j0 R,agr H R0 f
 |_,_,[],_,_,_,f,hf=>by simp[ba] at hf
 |j0,acc,r::rest,hR,aa5,h,f,hf=>by
  simp only[ff,Bool.and_eq_true] at h;obtain⟨⟨L,U⟩,K⟩:=h;have V :∀g∈R0,g.1<j0+1∨g∈ba (j0+1) rest:=by
   intro g X;rcases hR g X with h3 | h3
   ·exact .inl (by omega)
   ·rw[ba,List.mem_cons] at h3
    rcases h3 with rfl | h3
    ·exact .inl (by simp)
    ·exact .inr h3
  have M :∀g∈R0,g.1<j0+1→g∈(j0,r)::acc:=by
   intro g X S;rcases hR g X with h3 | h3
   ·exact List.mem_cons_of_mem _ (aa5 g X h3)
   ·rw[ba,List.mem_cons] at h3
    rcases h3 with rfl | h3
    ·exact List.mem_cons_self ..
    ·have:=(iE h3).1;omega
  rw[ba,List.mem_cons] at hf;rcases hf with rfl | hf
  ·refine⟨L,?_⟩
   simp only[cM,Bool.and_eq_true,Bool.or_eq_true,decide_eq_true_eq,List.isEmpty_iff] at U;rcases U with U | ⟨⟨h3,Z⟩,G⟩
   ·exact .inl U
   ·refine .inr ⟨?_,fun g X S=>?_,?_,G⟩
    ·rcases Z with Z | ⟨Z,_⟩
     ·exact .inl Z
     ·exact .inr fun g X S=>Dz Z g (aa5 g X S)
    ·rcases V g X with h6 | h6
     ·simp only at S;omega
     ·exact Br h3 g h6
    ·rcases Z with Z | ⟨_,Z⟩
     ·rw[Z];rfl
     ·exact Z
  ·exact yE V M K f hf
theorem FK{H:List Nat}(h:ff H 0 [] R=true){f:Nat×Rec}(hf:f∈ba 0 R):ie H (ba 0 R) f.1 f.2=true:=by
 have A:=yE (R0:=ba 0 R) (fun g Z=>.inr Z) (fun g _ o=>absurd o (Nat.not_lt_zero _)) h;have C:=A f hf;unfold ie;have S:∀g∈(ba 0 R).filter (fun g=>decide (g.1<f.1)&& !bef H g.1 f.1),(g.2.nx.length=g.2.mem.length∧g.2.wr=[])∨(g.2.wr=[]∧cw g.2.mem.length g.2.nx.length f.2=true):=by
  intro g Z;have U:=List.mem_filter.1 Z;simp only[Bool.and_eq_true,decide_eq_true_eq,Bool.not_eq_true'] at U;rcases (A g U.1).or with V | ⟨_,V,_⟩
  ·exact .inl V
  ·rcases V f hf U.2.1 with G | G
   ·rw[G] at U;exact absurd U.2.2 (by simp)
   ·exact .inr G
 have F:∀g∈(ba 0 R).filter (fun g=>decide (g.1<f.1)&& !bef H g.1 f.1),g.2.wr=[]∧(f.2.wr.all fun b=> !fg g.2.tm b)=true∧(f.2.wr=[]∨g.2.nx.length=g.2.mem.length):=by
  intro g Z;have U:=List.mem_filter.1 Z;simp only[Bool.and_eq_true,decide_eq_true_eq,Bool.not_eq_true'] at U;rcases S g Z with⟨M,X⟩ | ⟨M,X⟩
  ·refine⟨X,?_,.inr M⟩
   rcases C.or with V | ⟨V,_⟩
   ·rw[V.2];rfl
   ·rcases V with V | V
    ·rw[V];rfl
    ·rcases V g U.1 U.2.1 with h3 | h3
     ·rw[h3] at U;exact absurd U.2.2 (by simp)
     ·exact h3.2
  ·simp only[cw,Bool.and_eq_true,List.isEmpty_iff] at X
   refine⟨M,?_,.inl X.1.1.1⟩;rw[X.1.1.1];rfl
 have m:f.2.v.aef (iz f.2.nx.length ((ba 0 R).filter fun g=>decide (g.1<f.1)&& !bef H g.1 f.1))=true:=aeG C.refs fun g Z=>by
  rcases S g Z with⟨M,_⟩ | ⟨_,X⟩
  ·rw[rJ M];exact aey _
  ·simp only[cw,Bool.and_eq_true] at X
   exact X.1.1.2
 have B:(((ba 0 R).filter fun g=>decide (g.1<f.1)&& !bef H g.1 f.1).all fun g=>g.2.wr.all (fun b=> !fg f.2.tm b)&&f.2.wr.all (fun b=> !fg g.2.tm b)&&
   ((f.2.tm.drop g.2.mem.length).take (g.2.nx.length-g.2.mem.length)).all fun s=>match s with | .qK=>true | _=>false)=true:=List.all_eq_true.2 fun g Z=>by
  obtain⟨w1,w2,_⟩:=F g Z;rw[w1,w2];simp only[List.all_nil,Bool.true_and];rcases S g Z with⟨M,_⟩ | ⟨_,X⟩
  ·rw[M,Nat.sub_self,List.take_zero];rfl
  ·simp only[cw,Bool.and_eq_true] at X
   refine List.all_eq_true.2 fun s K=>?_
   have:=List.all_eq_true.1 X.2 s K;cases s<;>simp_all[oU]
 have Y:((f.2.nx.drop f.2.mem.length).all fun s=>(s.own||match s with | .qK=>true | _=>false)&&s.aef (iz f.2.nx.length ((ba 0 R).filter fun g=>decide (g.1<f.1)&& !bef H g.1 f.1)))=true:=by
  refine List.all_eq_true.2 fun s K=>?_
  rcases C.or with⟨V,_⟩ | ⟨_,_,_,W⟩
  ·rw[List.drop_of_length_le (by rw[V];exact Nat.le_refl _)] at K;cases K
  ·have L:=List.all_eq_true.1 W s K
   simp only[Bool.and_eq_true] at L ⊢;refine⟨L.1,aek.aeG L.2 fun g Z=>?_⟩;rcases S g Z with⟨M,_⟩ | ⟨_,X⟩
   ·rw[rJ M];exact aek.aey _
   ·simp only[cw,Bool.and_eq_true] at X
    exact List.all_eq_true.1 X.1.2 s K
 have u:f.2.wr.all (fun b=>fg f.2.tm b)=true∧(f.2.wr.all fun b=>match f.2.nx[b]? with | some s=>s.aef (iz f.2.nx.length ((ba 0 R).filter fun g=>decide (g.1<f.1)&& !bef H g.1 f.1)) | none=>true)=true:=by
  rcases C.or with⟨_,G⟩ | ⟨_,_,h3,_⟩
  ·rw[G];exact⟨rfl,rfl⟩
  ·constructor
   ·refine List.all_eq_true.2 fun b D=>?_
    have:=List.all_eq_true.1 h3 b D;simp only[Bool.and_eq_true] at this;exact this.1
   ·refine List.all_eq_true.2 fun b D=>?_
    have:=List.all_eq_true.1 h3 b D;simp only[Bool.and_eq_true] at this;cases hn:f.2.nx[b]? with
    |none=>rfl
    |some s=>
     simp only[hn] at this ⊢;refine aek.aeG this.2 fun g Z=>?_
     rcases (F g Z).2.2 with L | L
     ·rw[L] at D;cases D
     ·rw[rJ L];exact aek.aey _
 simp only[Bool.and_eq_true];exact⟨⟨⟨⟨u.1,m⟩,u.2⟩,Y⟩,B⟩
theorem bd{T:TypeId→Option TyI}{ops:Array Oper}{H:List Nat}(I:dT ops.toList=H)(s:XS):
  aK T O N m0 ops s=match bZ T O N m0 ops H s with
   |some s' =>some s'
   |none=>o8 T O N m0 ops s:=by
 cases h:bZ T O N m0 ops H s with
 |none=>rfl
 |some s' =>
  simp only;unfold bZ at h;unfold aK;simp only;rw[I];split at h
  ·cases h
  ·rename_i R env mem Z
   split at h
   ·rename_i X
    cases h;rw[Z];simp only;rw[if_pos (List.all_eq_true.2 fun f V=>FK X V)]
   ·cases h
mutual
theorem AV.ae7{k n:Nat}(H:k≤n):∀{v:AV},v.under k=true→v.refs n=[]
 |.undef,_=>rfl
 |.bool _,_=>rfl
 |.int _ _,_=>rfl
 |.str _,_=>rfl
 |.ptr b o,h=>by simp only[AV.under,decide_eq_true_eq] at h;simp only[AV.refs];rw[if_pos (by omega)]
 |.aet,_=>rfl
 |.slice b o l c,h=>by simp only[AV.under,decide_eq_true_eq] at h;simp only[AV.refs];rw[if_pos (by omega)]
 |.qF,_=>rfl
 |.map b,h=>by simp only[AV.under,decide_eq_true_eq] at h;simp only[AV.refs];rw[if_pos (by omega)]
 |.yield b,h=>by simp only[AV.under,decide_eq_true_eq] at h;simp only[AV.refs];rw[if_pos (by omega)]
 |.aeF,_=>rfl
 |.func f Z,h=>by simp only[AV.under] at h;simp only[AV.refs];exact AV.aeH H h
 |.nilFunc,_=>rfl
 |.iface t v,h=>by simp only[AV.under] at h;simp only[AV.refs];exact AV.ae7 H h
 |.nilIface,_=>rfl
 |.agg Z,h=>by simp only[AV.under] at h;simp only[AV.refs];exact AV.aeH H h
 |.tuple Z,h=>by simp only[AV.under] at h;simp only[AV.refs];exact AV.aeH H h
theorem AV.aeH{k n:Nat}(H:k≤n):∀{vs:List AV},AV.aen k vs=true→AV.aew n vs=[]
 | [],_=>rfl
 |v::vs,h=>by simp only[AV.aen,Bool.and_eq_true] at h;simp only[AV.aew,AV.ae7 H h.1,AV.aeH H h.2,List.append_nil]
end
mutual
theorem AV.aeW{k:Nat}{f:Nat→Bool}(hf:∀b,b<k→f b=true):∀{v:AV},v.under k=true→v.aef f=true
 |.undef,_=>rfl
 |.bool _,_=>rfl
 |.int _ _,_=>rfl
 |.str _,_=>rfl
 |.ptr b o,h=>by simp only[AV.under,decide_eq_true_eq] at h;simp only[AV.aef];exact hf b h
 |.aet,_=>rfl
 |.slice b o l c,h=>by simp only[AV.under,decide_eq_true_eq] at h;simp only[AV.aef];exact hf b h
 |.qF,_=>rfl
 |.map b,h=>by simp only[AV.under,decide_eq_true_eq] at h;simp only[AV.aef];exact hf b h
 |.yield b,h=>by simp only[AV.under,decide_eq_true_eq] at h;simp only[AV.aef];exact hf b h
 |.aeF,_=>rfl
 |.func f Z,h=>by simp only[AV.under] at h;simp only[AV.aef];exact AV.aeE hf h
 |.nilFunc,_=>rfl
 |.iface t v,h=>by simp only[AV.under] at h;simp only[AV.aef];exact AV.aeW hf h
 |.nilIface,_=>rfl
 |.agg Z,h=>by simp only[AV.under] at h;simp only[AV.aef];exact AV.aeE hf h
 |.tuple Z,h=>by simp only[AV.under] at h;simp only[AV.aef];exact AV.aeE hf h
theorem AV.aeE{k:Nat}{f:Nat→Bool}(hf:∀b,b<k→f b=true):∀{vs:List AV},AV.aen k vs=true→AV.ael f vs=true
 | [],_=>rfl
 |v::vs,h=>by simp only[AV.aen,Bool.and_eq_true] at h;simp only[AV.ael,AV.aeW hf h.1,AV.aeE hf h.2,Bool.and_self]
end
mutual
theorem xT{k n:Nat}(H:k≤n):∀{v:AV},v.under k=true→v.under n=true
 |.undef,_=>rfl
 |.bool _,_=>rfl
 |.int _ _,_=>rfl
 |.str _,_=>rfl
 |.ptr b o,h=>by simp only[AV.under,decide_eq_true_eq] at h ⊢;omega
 |.aet,_=>rfl
 |.slice b o l c,h=>by simp only[AV.under,decide_eq_true_eq] at h ⊢;omega
 |.qF,_=>rfl
 |.map b,h=>by simp only[AV.under,decide_eq_true_eq] at h ⊢;omega
 |.yield b,h=>by simp only[AV.under,decide_eq_true_eq] at h ⊢;omega
 |.aeF,_=>rfl
 |.func f Z,h=>by simp only[AV.under] at h ⊢;exact pg H h
 |.nilFunc,_=>rfl
 |.iface t v,h=>by simp only[AV.under] at h ⊢;exact xT H h
 |.nilIface,_=>rfl
 |.agg Z,h=>by simp only[AV.under] at h ⊢;exact pg H h
 |.tuple Z,h=>by simp only[AV.under] at h ⊢;exact pg H h
theorem pg{k n:Nat}(H:k≤n):∀{vs:List AV},AV.aen k vs=true→AV.aen n vs=true
 | [],_=>rfl
 |v::vs,h=>by simp only[AV.aen,Bool.and_eq_true] at h ⊢;exact⟨xT H h.1,pg H h.2⟩
end
variable{k:Nat}
theorem fJ{vs:List AV}(h:AV.aen k vs=true):(∀n,k≤n→AV.aew n vs=[])∧(∀n,k≤n→AV.ael (fun b=>decide (b<n)) vs=true):=
 ⟨fun n Z=>AV.aeH Z h,fun n Z=>AV.aeE (fun b X=>by simp only[decide_eq_true_eq];omega) h⟩
variable{v:AV}
theorem fz(h:v.under k=true):(∀n,k≤n→v.refs n=[])∧(∀n,k≤n→v.aef (fun b=>decide (b<n))=true):=
 ⟨fun n Z=>AV.ae7 Z h,fun n Z=>AV.aeW (fun b X=>by simp only[decide_eq_true_eq];omega) h⟩
mutual
theorem aeg.cut{μ μ' :Nat→Place}{n n' :Nat}:∀{v V V'},aeg μ n v V→aeg μ' n' v V' →aeg μ' n v V'
 |.undef,V,V',_,_=>by simp[aeg]
 |.bool b,V,V',_,h=>by simpa [aeg] using h
 |.int k i,V,V',_,h=>by simpa [aeg] using h
 |.str s,V,V',_,h=>by simpa [aeg] using h
 |.ptr b o,V,V',h,Z =>by simp only[aeg] at h Z ⊢;exact⟨h.1,Z.2⟩
 |.aet,V,V',_,h=>by simpa [aeg] using h
 |.slice b o l c,V,V',h,Z =>by simp only[aeg] at h Z ⊢;exact⟨h.1,Z.2⟩
 |.qF,V,V',_,h=>by simpa [aeg] using h
 |.map b,V,V',h,Z =>by simp only[aeg] at h Z ⊢;exact⟨h.1,Z.2⟩
 |.yield b,V,V',h,Z =>by simp only[aeg] at h Z ⊢;exact⟨h.1,Z.2⟩
 |.aeF,V,V',_,h=>by simpa [aeg] using h
 |.func f S,V,V',h,Z =>by simp only[aeg] at h Z ⊢;obtain⟨M,rfl,h⟩:=h;obtain⟨X,rfl,Z⟩:=Z;exact⟨X,rfl,aeh.cut h Z⟩
 |.nilFunc,V,V',_,h=>by simpa [aeg] using h
 |.iface t v,V,V',h,Z =>by simp only[aeg] at h Z ⊢;obtain⟨U,rfl,h⟩:=h;obtain⟨L,rfl,Z⟩:=Z;exact⟨L,rfl,aeg.cut h Z⟩
 |.nilIface,V,V',_,h=>by simpa [aeg] using h
 |.agg S,V,V',h,Z =>by simp only[aeg] at h Z ⊢;obtain⟨M,rfl,h⟩:=h;obtain⟨X,rfl,Z⟩:=Z;exact⟨X,rfl,aeh.cut h Z⟩
 |.tuple S,V,V',h,Z =>by simp only[aeg] at h Z ⊢;obtain⟨M,rfl,h⟩:=h;obtain⟨X,rfl,Z⟩:=Z;exact⟨X,rfl,aeh.cut h Z⟩
theorem aeh.cut{μ μ' :Nat→Place}{n n' :Nat}:∀{vs Us ZW},aeh μ n vs Us→aeh μ' n' vs ZW →aeh μ' n vs ZW
 | [],Us,ZW,_,h=>by simpa [aeh] using h
 |v::vs,Us,ZW,h,h' =>by simp only[aeh] at h h' ⊢;obtain⟨U,K,rfl,V,S⟩:=h;obtain⟨M,Z,rfl,L,X⟩:=h';exact⟨M,Z,rfl,aeg.cut V L,aeh.cut S X⟩
end
theorem aeu.cut{μ μ' :Nat→Place}{n n' H:Nat}{w w' :World}{p I :Place}{s:aek}(h:aeu μ n H w p s)(h' :aeu μ' n' H w' I s):aeu μ' n H w' I s:=by
 cases s with
 |qK=>trivial
 |cells own es cs=>
  simp only[aeu] at h h' ⊢;obtain⟨_,_,_,_,_,_,M,_⟩:=h;obtain⟨F,e,o,X,U,K,G,m⟩:=h';refine⟨F,e,o,X,U,K,fun j v Z=>?_,m⟩;obtain⟨V,_,r⟩:=M j v Z;obtain⟨Y,D,S⟩:=G j v Z;exact⟨Y,D,aeg.cut r S⟩
 |map es=>
  simp only[aeu] at h h' ⊢;obtain⟨_,_,_,_,_,M⟩:=h;obtain⟨C,B,X,U,K,G⟩:=h';refine⟨C,B,X,U,K,fun j e Z=>?_⟩;obtain⟨E,_,r⟩:=M j e Z;obtain⟨A,u,S⟩:=G j e Z;exact⟨A,u,aeg.cut r.1 S.1,aeg.cut r.2 S.2⟩
 |aeO es=>
  simp only[aeu] at h h' ⊢;obtain⟨_,_,_,_,_,M⟩:=h;obtain⟨C,B,X,U,K,G⟩:=h';refine⟨C,B,X,U,K,fun j e Z=>?_⟩;obtain⟨E,_,r⟩:=M j e Z;obtain⟨A,u,S⟩:=G j e Z;exact⟨A,u,aeg.cut r.1 S.1,aeg.cut r.2 S.2⟩
 |loop r=>
  simp only[aeu] at h h' ⊢;obtain⟨L,_,_,g⟩:=h;obtain⟨W,X,U,k⟩:=h';exact⟨W,X,U,k.st,k.afj,k.ps,k.assign,k.body,k.size,fun t=>aeg.cut (g.tmps t) (k.tmps t)⟩
variable{P:Program}{args:List AV}{m new:Mem}
theorem kO.forget{f:FuncId}(H:v.closed=true)(h:kO P f args m v (m++new)):kO P f args m v m:=by
 refine⟨h.1,fun base μ w Vs hG hH hV=>(h.2 base μ w Vs hG hH hV).mono ?_⟩;rintro e w' ⟨V,v',m',μ',rfl,q1,q2,q3,rfl,rfl⟩;have X:∀{b:Nat}{s:aek},m[b]? =some s→(m++new)[b]? =some s:=fun {b s} Z=>gU Z _
 have U:∀{b:Nat},dQ m b→dQ (m++new) b:=fun ⟨s,S,M⟩=>⟨s,X S,M⟩
 exact⟨V,_,m,μ',rfl,aeg.closed H q1,⟨q2.aep,fun b s Z=>(hH.slot b s Z).cut (q2.slot b s (X Z)),fun b L K Z G =>q2.sep b L K (U Z) (X G)⟩,
  ⟨Nat.le_refl _,q3.agree,q3.os,q3.tape,q3.output,q3.size,q3.frame,fun b Z=>q3.owner b (U Z),q3.drawn⟩,rfl,rfl⟩
mutual
theorem aeg.low{μ:Nat→Place}{n n' :Nat}:∀{v V},v.under n=true→aeg μ n' v V→aeg μ n v V
 |.undef,V,_,_=>by simp[aeg]
 |.bool b,V,_,h=>by simpa [aeg] using h
 |.int k i,V,_,h=>by simpa [aeg] using h
 |.str s,V,_,h=>by simpa [aeg] using h
 |.ptr b o,V,hu,h=>by simp only[AV.under,decide_eq_true_eq] at hu;simp only[aeg] at h ⊢;exact⟨hu,h.2⟩
 |.aet,V,_,h=>by simpa [aeg] using h
 |.slice b o l c,V,hu,h=>by simp only[AV.under,decide_eq_true_eq] at hu;simp only[aeg] at h ⊢;exact⟨hu,h.2⟩
 |.qF,V,_,h=>by simpa [aeg] using h
 |.map b,V,hu,h=>by simp only[AV.under,decide_eq_true_eq] at hu;simp only[aeg] at h ⊢;exact⟨hu,h.2⟩
 |.yield b,V,hu,h=>by simp only[AV.under,decide_eq_true_eq] at hu;simp only[aeg] at h ⊢;exact⟨hu,h.2⟩
 |.aeF,V,_,h=>by simpa [aeg] using h
 |.func f X,V,hu,h=>by simp only[AV.under] at hu;simp only[aeg] at h ⊢;obtain⟨Z,rfl,h⟩:=h;exact⟨Z,rfl,aeh.low hu h⟩
 |.nilFunc,V,_,h=>by simpa [aeg] using h
 |.iface t v,V,hu,h=>by simp only[AV.under] at hu;simp only[aeg] at h ⊢;obtain⟨U,rfl,h⟩:=h;exact⟨U,rfl,aeg.low hu h⟩
 |.nilIface,V,_,h=>by simpa [aeg] using h
 |.agg X,V,hu,h=>by simp only[AV.under] at hu;simp only[aeg] at h ⊢;obtain⟨Z,rfl,h⟩:=h;exact⟨Z,rfl,aeh.low hu h⟩
 |.tuple X,V,hu,h=>by simp only[AV.under] at hu;simp only[aeg] at h ⊢;obtain⟨Z,rfl,h⟩:=h;exact⟨Z,rfl,aeh.low hu h⟩
theorem aeh.low{μ:Nat→Place}{n n' :Nat}:∀{vs Us},AV.aen n vs=true→aeh μ n' vs Us→aeh μ n vs Us
 | [],Us,_,h=>by simpa [aeh] using h
 |v::vs,Us,hu,h=>by simp only[AV.aen,Bool.and_eq_true] at hu;simp only[aeh] at h ⊢;obtain⟨U,Z,rfl,X,V⟩:=h;exact⟨U,Z,rfl,aeg.low hu.1 X,aeh.low hu.2 V⟩
end
theorem kO.af6{f:FuncId}{H:Mem}(J:v.closed=true)(I:H.length=m.length)(hc:∀(b:Nat) s,H[b]? =some s→m[b]? =some s∨∃o es U,s=.cells o es U∧AV.aen m.length U=true)(h:kO P f args m v (H++new)):kO P f args m v H:=by
 refine⟨h.1,fun base μ w Vs hG hH hV=>(h.2 base μ w Vs hG hH hV).mono ?_⟩;rintro e w' ⟨V,v',m',μ',rfl,q1,q2,q3,rfl,rfl⟩;have X:∀{b:Nat}{s:aek},H[b]? =some s→(H++new)[b]? =some s:=fun {b s} Z=>gU Z _
 have K:∀{b:Nat},dQ H b→dQ (H++new) b:=fun ⟨s,S,F⟩=>⟨s,X S,F⟩
 refine⟨V,_,H,μ',rfl,aeg.closed J q1,⟨q2.aep,fun b s Z=>?_,fun b D C Z B =>q2.sep b D C (K Z) (X B)⟩,
  ⟨by rw[I];exact Nat.le_refl _,q3.agree,q3.os,q3.tape,q3.output,q3.size,q3.frame,fun b Z=>q3.owner b (K Z),q3.drawn⟩,rfl,rfl⟩
 rw[I];rcases hc b s Z with S | ⟨o,es,U,rfl,A⟩
 ·exact(hH.slot b s S).cut (q2.slot b s (X Z))
 ·have:=q2.slot _ _ (X Z)
  simp only[aeu] at this ⊢;obtain⟨M,e,u,Y,W,k3,k4,k5⟩:=this;refine⟨M,e,u,Y,W,k3,fun j v G=>?_,k5⟩;obtain⟨V',L,r'⟩:=k4 j v G;exact⟨V',L,aeg.low (xU A j v G) r'⟩
end Go.Eng
