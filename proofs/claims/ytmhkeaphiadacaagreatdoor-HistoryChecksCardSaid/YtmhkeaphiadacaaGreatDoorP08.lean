/- See P53. -/
import Derived.Test.YtmhkeaphiadacaaGreatDoorP07
import Derived.Maps.RangeRun
set_option linter.all false
namespace Go.Eng
theorem VH:iZ []=[]:=rfl
theorem Fx(n:Int)(l:List Int):iZ (n::l)=.int .i64 n::iZ l:=rfl
theorem RE(l:List Int):(iZ l).length=l.length:=by simp[iZ]
theorem VG(l:List Int)(i:Nat):(iZ l)[i]? =(l[i]?).map fun n=>.int .i64 n:=by simp[iZ]
theorem PU(l:List Int)(i:Nat)(h:i<(iZ l).length):(iZ l)[i]=.int .i64 (l[i]'(by simpa [iZ] using h)):=by simp[iZ]
theorem VF(l:List Int):(iZ l).all AV.qK=true:=by simp[iZ,AV.qK]
theorem FJ(m:Nat)(l:List Int):AV.aas m (iZ l)=[]:=by
 induction l with
 |nil=>rfl
 |cons x l ih=>simp[Fx,AV.aas,AV.refs,ih]
theorem Bu(ρ:Nat→Option Nat)(l:List Int):AV.aal ρ (iZ l)=iZ l:=by
 induction l with
 |nil=>rfl
 |cons x l ih=>simp[Fx,AV.aal,AV.ren,ih]
theorem Sp(m:Nat)(l:List Int):AV.aah m (iZ l)=true:=by
 induction l with
 |nil=>rfl
 |cons x l ih=>simp[Fx,AV.aah,AV.under,ih]
theorem DE(ok:Nat→Bool)(l:List Int):AV.aaa ok (iZ l)=true:=by
 induction l with
 |nil=>rfl
 |cons x l ih=>simp[Fx,AV.aaa,AV.HK,ih]
theorem KR(m:Nat)(o:Bool)(e:Nat)(l:List Int):aae.refs m (.cells o e (iZ l))=[]:=by simp[aae.refs,FJ]
theorem Nh(ρ:Nat→Option Nat)(o:Bool)(e:Nat)(l:List Int):aae.ren ρ (.cells o e (iZ l))=.cells o e (iZ l):=by simp[aae.ren,Bu]
theorem CE(ok:Nat→Bool)(o:Bool)(e:Nat)(l:List Int):aae.HK ok (.cells o e (iZ l))=true:=by simp[aae.HK,DE]
attribute [simp] VH RE VG PU FJ Bu Sp DE KR Nh CE VF
section
variable {P:Program}{f:FuncId}{A B:List Int}{M:Mem}{x y:AV}
end
end Go.Eng
namespace Go.Eng
def ba(bs:List Nat) (j:Nat):Bool:=(List.range j).all fun i=>bef bs i j
def aH(last:Bool) (bs:List Nat) (j:Nat) (r:Rec):Bool:=
 decide (r.nx.length=r.mem.length)&&r.v.HK (fun b=>decide (b<r.nx.length))&&
  (if last then ba bs j&&r.wr.all (fun b=>cw r.tm b&&(match r.nx[b]? with | some s=>s.HK (fun b=>decide (b<r.nx.length)) | none=>true)) else r.wr.isEmpty)
def aG(bs:List Nat):Nat→List Rec→Bool
 |_,[]=>true
 |j,[r]=>aH true bs j r
 |j,r::r2::rest=>aH false bs j r&&aG bs (j+1) (r2::rest)
def aJ(T:TypeId→Option TyI) (O:aac) (N m0:Nat) (ops:Array Oper) (bs:List Nat) (s:XS):Option XS:=
 match kS T O N ops bs 0 ops.toList s.env s.mem [] with
 |none=>none
 |some (R,env,mem)=>
  if aG bs 0 R then some ⟨env,mem,s.aaB||R.any fun r=>r.wr.any fun b=>decide (b<m0)⟩ else none
def kQ(T:TypeId→Option TyI) (O:aac) (N m0:Nat) (ops:Array Oper) (s:XS):Option XS:=ay T O N m0 ops s
theorem iD:∀{j0:Nat}{R:List Rec}{f:Nat×Rec},f∈aF j0 R→j0≤f.1∧f.1<j0+R.length
 |_,[],f,h=>by simp[aF] at h
 |j0,r::R,f,h=>by
  simp only[aF,List.mem_cons] at h;rcases h with rfl | h
  ·simp
  ·have:=iD h
   simp only[List.length_cons];omega
structure abr (bs:List Nat) (n:Nat) (f:Nat×Rec):Prop where
 len:f.2.nx.length=f.2.mem.length
 refs:f.2.v.HK (fun b=>decide (b<f.2.nx.length))=true
 wr:f.2.wr=[]∨(f.1+1=n∧(∀i,i<f.1→bef bs i f.1=true)∧f.2.wr.all (fun b=>cw f.2.tm b&&(match f.2.nx[b]? with | some s=>s.HK (fun b=>decide (b<f.2.nx.length)) | none=>true))=true)
theorem vj{bs:List Nat}:∀{j0:Nat}{R:List Rec},aG bs j0 R=true→∀f∈aF j0 R,abr bs (j0+R.length) f
 |_,[],_,f,hf=>by simp[aF] at hf
 |j0,[r],h,f,hf=>by simp only[aF,List.mem_cons,List.not_mem_nil,or_false] at hf;subst hf;simp only[aG,aH,Bool.and_eq_true,decide_eq_true_eq,if_true] at h;obtain⟨⟨h1,h2⟩,h3,h4⟩:=h;exact⟨h1,h2,.inr ⟨rfl,fun i hi=>List.all_eq_true.1 h3 i (List.mem_range.2 hi),h4⟩⟩
 |j0,r::r2::rest,h,f,hf=>by
  simp only[aG,Bool.and_eq_true] at h;rw[aF,List.mem_cons] at hf;rcases hf with rfl | hf
  ·have h1:=h.1
   simp only[aH,Bool.and_eq_true,decide_eq_true_eq,Bool.false_eq_true,if_false,List.isEmpty_iff] at h1;obtain⟨⟨h1,h2⟩,h3⟩:=h1;exact⟨h1,h2,.inl h3⟩
  ·have:=vj h.2 f hf
   have e:j0+1+(r2::rest).length=j0+(r::r2::rest).length:=by simp only[List.length_cons];omega
   rw[e] at this;exact this
variable{bs:List Nat}
theorem Na{n XB:Nat}{un:List (Nat×Rec)}(h:∀f∈un,abr bs n f):gR XB un=fun b=>decide (b<XB):=by
 funext b;unfold gR;have:(un.all fun f=> !decide (f.2.mem.length≤b∧b<f.2.nx.length))=true:=List.all_eq_true.2 fun f hf=>by have:=(h f hf).len;simp;omega
 rw[this,Bool.and_true]
theorem Cv{R:List Rec}(h:aG bs 0 R=true){f:Nat×Rec}(hf:f∈aF 0 R):gb bs (aF 0 R) f.1 f.2=true:=by
 have G':=vj h;have Xl:=G' f hf;have hn:=iD hf;unfold gb;have XM:∀g∈(aF 0 R).filter (fun g=>decide (g.1<f.1)&& !bef bs g.1 f.1),abr bs (0+R.length) g:=fun g hg=>G' g ((List.mem_filter.1 hg).1)
 simp only[Na XM,Bool.and_eq_true];have hd:f.2.nx.drop f.2.mem.length=[]:=List.drop_of_length_le (by rw[Xl.len];exact Nat.le_refl _);refine⟨⟨⟨⟨?_,Xl.refs⟩,?_⟩,by rw[hd];rfl⟩,?_⟩
 ·rcases Xl.wr with h1 | ⟨_,_,h1⟩
  ·rw[h1];rfl
  ·refine List.all_eq_true.2 fun b hb=>?_
   have:=List.all_eq_true.1 h1 b hb;simp only[Bool.and_eq_true] at this;exact this.1
 ·rcases Xl.wr with h1 | ⟨_,_,h1⟩
  ·rw[h1];rfl
  ·refine List.all_eq_true.2 fun b hb=>?_
   have:=List.all_eq_true.1 h1 b hb;simp only[Bool.and_eq_true] at this;exact this.2
 ·refine List.all_eq_true.2 fun g hg=>?_
  have hg1:=XM g hg;have WV:=List.mem_filter.1 hg;simp only[Bool.and_eq_true,decide_eq_true_eq,Bool.not_eq_true'] at WV;have hgw:g.2.wr=[]:=by
   rcases hg1.wr with h1 | ⟨h1,_,_⟩
   ·exact h1
   ·have:=iD ((List.mem_filter.1 hg).1)
    omega
  have hfw:f.2.wr=[]:=by
   rcases Xl.wr with h1 | ⟨_,h1,_⟩
   ·exact h1
   ·rw[h1 g.1 WV.2.1] at WV
    exact absurd WV.2.2 (by simp)
  rw[hgw,hfw,hg1.len,Nat.sub_self,List.take_zero];rfl
variable{ops:Array Oper}
theorem ag{T:TypeId→Option TyI}{O:aac}{N m0:Nat}(PP:fX ops.toList=bs)(s:XS):
  ay T O N m0 ops s=match aJ T O N m0 ops bs s with
   |some s' =>some s'
   |none=>kQ T O N m0 ops s:=by
 cases h:aJ T O N m0 ops bs s with
 |none=>rfl
 |some s' =>
  simp only;unfold aJ at h;unfold ay;simp only;rw[PP];split at h
  ·cases h
  ·rename_i R env mem hr
   split at h
   ·rename_i hl
    cases h;rw[hr];simp only;rw[if_pos (List.all_eq_true.2 fun f hf=>Cv hl hf)]
   ·cases h
def bQ:Code→List (Array Oper)
 |.region _ ops true=>[ops]
 |.seq a b=>bQ a++bQ b
 |.cond _ a b=>bQ a++bQ b
 |.block _ b=>bQ b
 |.loop b=>bQ b
 |.rangeFunc _ _ a b=>bQ a++bQ b
 |_=>[]
def aP(f:Func):List (Array Oper):=match f.body with
 |some c=>bQ c
 |none=>[]
variable{f:Func}{l:List Nat}
theorem ie(h:aP f=[ops])(hm:(aP f).map (fun o=>fX o.toList)=[l]):fX ops.toList=l:=by rw[h] at hm;simpa using hm
theorem kA{o o' :Array Oper}{l' :List Nat}(h:aP f=[o,o'])(hm:(aP f).map (fun o=>fX o.toList)=[l,l']):fX o.toList=l∧fX o'.toList=l' :=by rw[h] at hm;simpa using hm
theorem bH{os:List (Array Oper)}{ls:List (List Nat)}(h:aP f=os)(hm:(aP f).map (fun o=>fX o.toList)=ls):os.map (fun o=>fX o.toList)=ls:=by rw[←h];exact hm
end Go.Eng
namespace Go.Eng
open Go.ChangeMaps (setBlock)
variable{w' :World}
section
variable {P:Program}{T:TypeId→Option TyI}{μ:Nat→Place}{mem:Mem}{base:Nat}{w:World}
theorem xN(hH:aam base μ mem w){r:Nat}{m s seen c}(hr:w.heap[r]? =some (.mapIter m s seen c)){b:Nat}{s' :aae}(hb:mem[b]? =some s')(hs:s' ≠ .qF):(μ b).blk≠r:=by
 intro e;have:=hH.slot b s' hb;cases s' with
 |qF=>exact hs rfl
 |cells own es cs=>simp only[aap] at this;obtain⟨_,_,_,h1,_⟩:=this;rw[e,hr] at h1;cases h1
 |map es=>simp only[aap] at this;obtain⟨_,_,h1,_⟩:=this;rw[e,hr] at h1;cases h1
 |aaF es=>simp only[aap] at this;obtain⟨_,_,h1,_⟩:=this;rw[e,hr] at h1;cases h1
 |loop r=>simp only[aap] at this;obtain⟨_,h1,_⟩:=this;rw[e,hr] at h1;cases h1
theorem aam.acE{r:Nat}{m s seen c}{o:Obj}(hH:aam base μ mem w)(hr:w.heap[r]? =some (.mapIter m s seen c)):aam base μ mem (setBlock w r o):=by
 refine⟨by simpa [setBlock] using hH.aai,fun b s' hs=>?_,hH.sep⟩;by_cases h0:s' =.qF
 ·subst h0;trivial
 ·refine(hH.slot b s' hs).mono (Nat.le_refl _) (fun _ _=>rfl) fun _=>?_
  exact Array.getElem?_setIfInBounds_ne (Ne.symm (xN hH hr hs h0))
theorem Step.acE{m0:Nat}{μ' :Nat→Place}{mem' :Mem}{r:Nat}{o:Obj}(h:Step m0 μ mem w μ' mem' w')(hr:w.heap.size≤r):Step m0 μ mem w μ' mem' (setBlock w' r o):=h.shut hr
theorem MOk.acE{h0 r:Nat}{ds:List Deferred}{m s seen c}{o:Obj}(h:MOk P base h0 w ds)(hr:w.heap[r]? =some (.mapIter m s seen c))(hb:base≤r):MOk P base h0 (setBlock w r o) ds:=by
 refine⟨⟨h.abp.below,?_⟩,h.aai,by simpa [setBlock] using h.le,fun d hd=>?_,h.nodup⟩
 ·have:=h.abp.tab
  unfold Lib.TabIs at this ⊢;rw[←this];refine Oc fun k hk=>Array.getElem?_setIfInBounds_ne ?_
  have:=h.abp.below;omega
 ·obtain⟨q,e,h1,h2⟩:=h.each d hd
  refine⟨q,e,h1,?_⟩;have H':r≠q:=by rintro rfl;rw[hr] at h2;cases h2
  show(w.heap.setIfInBounds r o)[q]? =_
  rw[Array.getElem?_setIfInBounds_ne H',h2]
theorem Nc(hT:cH P T) {N:Nat}{ops:Array Oper}{Q:Exit→Act→World→Prop}{rest:List Oper}:∀{l:List Oper}{st IR :St}{μ:Nat→Place}{w:World}{a:Act}{m0:Nat}{μ0:Nat→Place}{mem0:Mem}{w0:World}{h0:Nat}{ro:Option Nat},
  mi P T N ops l st IR →aam base μ st.mem w→aaJ μ st.mem.length st.env a.tmps→a.tmps.size=N→MOk P base h0 w a.defers→m0≤st.mem.length→Step m0 μ0 mem0 w0 μ st.mem w→
  (∀a' w' μ',aam base μ' IR.mem w' →aaJ μ' IR.mem.length IR.env a'.tmps→a'.tmps.size=N→MOk P base h0 w' a'.defers→m0≤IR.mem.length→Step m0 μ0 mem0 w0 μ' IR.mem w' →wpListIn (Fr ro) 0 P ops Q rest a' w')→
  wpListIn (Fr ro) 0 P ops Q (l++rest) a w
 | [],st,IR,μ,w,a,m0,μ0,mem0,w0,h0,ro,h,hH,hR,hN,hdf,hm,hS,hQ=>by simp only[mi] at h;subst h;exact hQ a w μ hH hR hN hdf hm hS
 |o::os,st,IR,μ,w,a,m0,μ0,mem0,w0,h0,ro,h,hH,hR,hN,hdf,hm,hS,hQ=>by
  obtain⟨b,hb,hd,hf,ht⟩:=h;rw[List.cons_append];refine wpListIn_step fun K hK=>?_
  rw[oT hR hb];cases b with
  |false=>
   simp only[Bool.false_eq_true,if_false];refine⟨fun _ _=>trivial,?_⟩;refine hK _ _ (Nc hT (hf rfl) hH (hR.aa4 hN hd (by simp[aab,aad,undef])) (by rw[eX];exact hN) (by rw[fw];exact hdf) hm hS hQ)
  |true=>
   simp only[if_true];obtain⟨v,mem',hstep,W9⟩:=ht rfl;refine qX hT hdf.abp hH hR hN hd hstep fun V w' μ' q1 q2 q3 q4=>hK _ _ ?_
   exact Nc hT W9 q2 q3 (by rw[eX];exact hN) (by rw[fw];exact hdf.step hH q4) (Nat.le_trans hm q4.len) (hS.trans (q4.mono hm)) hQ
theorem zn(a:Act)(d:Nat)(V:Value)(h:d<a.tmps.size):(a.put (some d) V).eval (.tmp d)=V:=by simp[Act.put,Act.eval,h]
variable {tp:Bool}{N m0:Nat}{Q:Exit→St→Prop}
theorem xd{F:Option Nat}{ops:Array Oper}{Q:Exit→Act→World→Prop}{o:Oper}{rest:List Oper}{a:Act}{w:World}{V:Value}(hg:o.guard=none)(Y3:∀c,o.op≠ .defer c)(W9:(execOp a.eval o).run P w=.ok (.value V) w')(h:wpListIn (Fr F) 0 P ops Q rest (a.put o.dst V) w'):wpListIn (Fr F) 0 P ops Q (o::rest) a w:=by
 refine wpListIn_plain hg fun K hK=>⟨fun _ _=>trivial,?_⟩
 rw[Oper.semAt_eq _ _ _ Y3,W9];exact hK _ _ h
end
end Go.Eng
namespace Go.Eng
theorem Bs{m:Nat}:∀{env:Env},(env.all fun e=>(e.2.refs m).isEmpty)=true→∀t,(aa env t).refs m=[]
 | [],_,t=>by simp[aa,AV.refs]
 |(k,v)::r,h,t=>by
  simp only[List.all_cons,Bool.and_eq_true,List.isEmpty_iff] at h;simp only[aa];split
  ·exact h.1
  ·exact Bs h.2 t
section
variable {P:Program}{T:TypeId→Option TyI}{O:aac}{tp:Bool}{N m0 K:Nat}{lv:Code→List Nat}{Q:Exit→St→Prop}
theorem jJ(hm:P.follows .mixedOrders=true)(hT:cH P T)(hO:qS P O){c:Code}{s s' :XS}{e:Exit}(hs:dR c=true)(h:aQ T lv O K N m0 tp c s=some (e,s'))(hq:Q e ⟨s'.env,s'.mem⟩):AWP P tp N m0 c ⟨s.env,s.mem⟩ Q:=
 (dz hm hT hO hs h).1 Q hq
end
end Go.Eng
namespace Go.Eng
abbrev Sd:=(Int×Int)×Int
def sdE(s:Sd):AV×AV:=(.agg [.int .i64 s.1.1,.int .i64 s.1.2],.int .i64 s.2)
def nxE(p:Int×Int):AV×AV:=(.int .i64 p.1,.int .i64 p.2)
def mA:List (Int×Int)→Int→Option Int
 | [],_=>none
 |p::l,a=>if a=p.1 then some p.2 else mA l a
def M5:List Sd→Int×Int→Option Int
 | [],_=>none
 |s::l,a=>if a.1=s.1.1∧a.2=s.1.2 then some s.2 else M5 l a
def bAt(ks:List Sd) (j:Nat):Option (Int×Int):=match ks[j]? with
 |some s=>if (M5 ks (s.1.2,s.1.1)).isSome then none else some s.1
 |none=>none
def pn(ks:List Sd):List (Int×Int):=(List.range ks.length).filterMap (bAt ks)
def vm(f:Int):List (Int×Int)→Int
 | []=>f
 |p::l=>vm (if f<0∨p.1<f then p.1 else f) l
theorem Bk(f:Int):∀(l m:List (Int×Int)),vm f (l++m)=vm (vm f l) m:=by
 intro l;induction l generalizing f with
 |nil=>intro m;rfl
 |cons p l ih=>intro m;exact ih _ m
theorem Bl:∀(l:List (Int×Int)) (f:Int),(∀p∈l,0≤p.1)→(0≤f∨l≠[])→0≤vm f l∧(vm f l=f∨∃p∈l,vm f l=p.1)∧(0≤f→vm f l≤f)∧∀p∈l,vm f l≤p.1
 | [],f,_,h=>by have:0≤f:=h.resolve_right (by simp);exact⟨this,.inl rfl,fun _=>Int.le_refl _,by simp⟩
 |p::l,f,hp,_=>by
  have hp0:=hp p (by simp);have ih:=Bl l (if f<0∨p.1<f then p.1 else f) (fun q hq=>hp q (by simp[hq])) (.inl (by split<;>omega));obtain⟨i1,i2,i3,i4⟩:=ih;have h0:(0:Int)≤(if f<0∨p.1<f then p.1 else f):=by split<;>omega
  have i3:=i3 h0;simp only[vm];refine⟨i1,?_,fun hf=>?_,fun q hq=>?_⟩
  ·rcases i2 with h | ⟨q,hq,h⟩
   ·rw[h]
    split
    ·exact .inr ⟨p,by simp,rfl⟩
    ·exact .inl rfl
   ·exact .inr ⟨q,by simp[hq],h⟩
  ·refine Int.le_trans i3 ?_
   split<;>omega
  ·rcases List.mem_cons.1 hq with rfl | hq
   ·refine Int.le_trans i3 ?_
    split<;>omega
   ·exact i4 q hq
theorem RR{l m:List (Int×Int)}(h:l.Perm m)(hp:∀p∈l,0≤p.1):vm (-1) l=vm (-1) m:=by
 by_cases h0:l=[]
 ·subst h0
  rw[List.nil_perm.1 h]
 ·have Xe:m≠[]:=by rintro rfl;exact h0 (List.perm_nil.1 h)
  have hpm:∀p∈m,0≤p.1:=fun p hq=>hp p (h.mem_iff.2 hq)
  obtain⟨a1,a2,_,a4⟩:=Bl l (-1) hp (.inr h0);obtain⟨b1,b2,_,b4⟩:=Bl m (-1) hpm (.inr Xe);obtain⟨p,hp1,hp2⟩:=a2.resolve_left (by omega);obtain⟨q,hq1,hq2⟩:=b2.resolve_left (by omega);have e1:=b4 p (h.mem_iff.1 hp1);have e2:=a4 q (h.mem_iff.2 hq1);omega
variable{a b:Int}
theorem RQ{l:List (Int×Int)}(h:mA l a=some b):(a,b)∈l:=by
 induction l with
 |nil=>cases h
 |cons p l ih=>
  rw[mA] at h;split at h
  ·rename_i e;cases h;subst e;simp
  ·simp[ih h]
theorem Dv{l:List (Int×Int)}(h:∀p∈l,p.1≠a):mA l a=none:=by
 induction l with
 |nil=>rfl
 |cons p l ih=>
  rw[mA,if_neg (fun e=>h p (by simp) e.symm)];exact ih fun q hq=>h q (by simp[hq])
theorem xF{l:List (Int×Int)}(hn:∀p∈l,∀q∈l,p.1=q.1→p=q)(h:(a,b)∈l):mA l a=some b:=by
 induction l with
 |nil=>cases h
 |cons p l ih=>
  rw[mA];split
  ·rename_i e
   have:=hn p (by simp) (a,b) h e.symm;rw[this]
  ·rename_i e
   rcases List.mem_cons.1 h with rfl | h
   ·exact absurd rfl e
   ·exact ih (fun p hp q hq=>hn p (by simp[hp]) q (by simp[hq])) h
theorem P4{l m:List (Int×Int)}(h:l.Perm m)(hn:∀p∈l,∀q∈l,p.1=q.1→p=q)(a:Int):mA l a=mA m a:=by
 have hn' :∀p∈m,∀q∈m,p.1=q.1→p=q:=fun p hp q hq=>hn p (h.mem_iff.2 hp) q (h.mem_iff.2 hq)
 cases hb:mA m a with
 |some b=>exact xF hn (h.mem_iff.2 (RQ hb))
 |none=>
  refine Dv fun p hp e=>?_
  have:=xF hn' (a:=a) (b:=p.2) (by rw[←e];exact h.mem_iff.1 hp);rw[hb] at this;cases this
def Ur(ks:List Sd):Prop:=∀i j p q,bAt ks i=some p→bAt ks j=some q→p.1=q.1→i=j
def bJ(ks:List Sd) (seen:List Nat):List (Int×Int):=seen.filterMap (bAt ks)
variable{j:Nat}{ks:List Sd}{p:Int×Int}
theorem Ri(h:bAt ks j=some p):j<ks.length:=by
 unfold bAt at h;split at h
 ·rename_i s hs;exact(List.getElem?_eq_some_iff.1 hs).1
 ·cases h
variable{seen:List Nat}
theorem La(hn:seen.Nodup)(AC:∀j∈seen,j<ks.length)(G':∀j,j<ks.length→j∈seen):(bJ ks seen).Perm (pn ks):=by
 refine List.Perm.filterMap _ ?_;refine(List.perm_ext_iff_of_nodup hn List.nodup_range).2 fun j=>?_
 simp only[List.mem_range];exact⟨AC j,G' j⟩
theorem FW(ha:Ur ks)(hj:j∉seen)(hp:bAt ks j=some p):mA (bJ ks seen) p.1=none:=by
 refine Dv fun q hq e=>?_
 obtain⟨i,hi,ZP⟩:=List.mem_filterMap.1 hq;have:=ha i j q p ZP hp e;subst this;exact hj hi
theorem FX(ha:Ur ks):∀p∈bJ ks seen,∀q∈bJ ks seen,p.1=q.1→p=q:=by intro p hp q hq e;obtain⟨i,_,hi⟩:=List.mem_filterMap.1 hp;obtain⟨j,_,hj⟩:=List.mem_filterMap.1 hq;have:=ha i j p q hi hj e;subst this;rw[hi] at hj;cases hj;rfl
def vG(B:List (Int×Int)) (first:Int):Nat→Int→List Int→Option (List Int)
 |0,_,out=>some out
 |n+1,a,out=>match mA B a with
  |none=>none
  |some b=>if a=first∧out≠[] then none else vG B first n b (out++[a])
def tW(B:List (Int×Int)):Option (List Int):=vG B (vm (-1) B) B.length (vm (-1) B) []
def oH(ks:List Sd):Bool:=
 let B:=pn ks
 decide (B≠[])&&decide ((B.map (·.1)).Nodup)&&B.all (fun p=>decide (0≤p.1))&&decide (ks.length≤1000000)
theorem Rl{i:Nat}{q:Int×Int}(hn:((pn ks).map (·.1)).Nodup)(hi:bAt ks i=some p)(hj:bAt ks j=some q)(e:p.1=q.1):i=j:=by
 have key:∀(l:List Nat),l.Nodup→((l.filterMap (bAt ks)).map (·.1)).Nodup→i∈l→j∈l→i=j:=by
  intro l;induction l with
  |nil=>intro _ _ h;cases h
  |cons a l ih=>
   intro hl Y3 h1 h2;have hl' :=(List.nodup_cons.1 hl).2;rw[List.filterMap_cons] at Y3;cases ha:bAt ks a with
   |none=>
    rw[ha] at Y3;have n1:i≠a:=by rintro rfl;rw[hi] at ha;cases ha
    have n2:j≠a:=by rintro rfl;rw[hj] at ha;cases ha
    exact ih hl' Y3 ((List.mem_cons.1 h1).resolve_left n1) ((List.mem_cons.1 h2).resolve_left n2)
   |some r=>
    rw[ha] at Y3;simp only[List.map_cons,List.nodup_cons] at Y3;have out:∀k s,k∈l→bAt ks k=some s→s.1≠r.1:=by intro k s hk hs h;exact Y3.1 (List.mem_map.2 ⟨s,List.mem_filterMap.2 ⟨k,hk,hs⟩,h⟩)
    rcases List.mem_cons.1 h1 with h1 | h1<;>rcases List.mem_cons.1 h2 with h2 | h2
    ·rw[h1,h2]
    ·rw[←h1,hi] at ha;cases ha;exact absurd e.symm (out j q h2 hj)
    ·rw[←h2,hj] at ha;cases ha;exact absurd e (out i p h1 hi)
    ·exact ih hl' Y3.2 h1 h2
 exact key _ List.nodup_range hn (List.mem_range.2 (Ri hi)) (List.mem_range.2 (Ri hj))
theorem KG(h:oH ks=true):pn ks≠[]∧Ur ks∧(∀p∈pn ks,0≤p.1)∧ks.length≤1000000:=by simp only[oH,Bool.and_eq_true,decide_eq_true_eq,List.all_eq_true] at h;obtain⟨⟨⟨h1,h2⟩,h3⟩,h4⟩:=h;exact⟨h1,fun i j p q hi hj e=>Rl h2 hi hj e,h3,h4⟩
theorem Qo(h:∀p∈pn ks,0≤p.1):∀p∈bJ ks seen,0≤p.1:=by intro p hp;obtain⟨i,_,hi⟩:=List.mem_filterMap.1 hp;exact h p (List.mem_filterMap.2 ⟨i,List.mem_range.2 (Ri hi),hi⟩)
theorem xY{B:List (Int×Int)}{first:Int}:∀{n:Nat}{a:Int}{out cyc:List Int},vG B first n a out=some cyc→cyc.length=out.length+n
 |0,a,out,cyc,h=>by simp only[vG,Option.some.injEq] at h;subst h;rfl
 |n+1,a,out,cyc,h=>by
  rw[vG] at h;split at h
  ·cases h
  ·split at h
   ·cases h
   ·have:=xY h
    simp at this;omega
def UB(bs:List Nat) (n j:Nat):Bool:=ba bs j&&(List.range n).all fun k=>decide (k≤j)||bef bs j k
def cj(r:Rec):Bool:=decide (r.nx.length=r.mem.length)&&r.wr.isEmpty
def Rj(bs:List Nat) (n j:Nat) (r:Rec):Bool:=
 r.v.HK (fun b=>decide (b<r.nx.length))&&
  (cj r||(UB bs n j&&r.wr.all (fun b=>cw r.tm b&&(match r.nx[b]? with | some s=>s.HK (fun b=>decide (b<r.nx.length)) | none=>true))&&
   (r.nx.drop r.mem.length).all fun s=>(s.own||match s with | .qF=>true | _=>false)&&s.HK (fun b=>decide (b<r.nx.length))))
def Df(bs:List Nat) (n:Nat):Nat→List Rec→Bool
 |_,[]=>true
 |j,r::rest=>Rj bs n j r&&Df bs n (j+1) rest
def zt(T:TypeId→Option TyI) (O:aac) (N m0:Nat) (ops:Array Oper) (bs:List Nat) (s:XS):Option XS:=
 match kS T O N ops bs 0 ops.toList s.env s.mem [] with
 |none=>none
 |some (R,env,mem)=>
  if Df bs R.length 0 R then some ⟨env,mem,s.aaB||R.any fun r=>r.wr.any fun b=>decide (b<m0)⟩ else none
structure ac0 (bs:List Nat) (n:Nat) (f:Nat×Rec):Prop where
 refs:f.2.v.HK (fun b=>decide (b<f.2.nx.length))=true
 or:(f.2.nx.length=f.2.mem.length∧f.2.wr=[])∨((∀i,i<f.1→bef bs i f.1=true)∧(∀k,f.1<k→k<n→bef bs f.1 k=true)∧
  f.2.wr.all (fun b=>cw f.2.tm b&&(match f.2.nx[b]? with | some s=>s.HK (fun b=>decide (b<f.2.nx.length)) | none=>true))=true∧
  ((f.2.nx.drop f.2.mem.length).all fun s=>(s.own||match s with | .qF=>true | _=>false)&&s.HK (fun b=>decide (b<f.2.nx.length)))=true)
theorem AO{bs:List Nat}{n:Nat}:∀{j0:Nat}{R:List Rec},Df bs n j0 R=true→∀f∈aF j0 R,ac0 bs n f
 |_,[],_,f,hf=>by simp[aF] at hf
 |j0,r::rest,h,f,hf=>by
  simp only[Df,Bool.and_eq_true] at h;rw[aF,List.mem_cons] at hf;rcases hf with rfl | hf
  ·have h1:=h.1
   simp only[Rj,cj,UB,Bool.and_eq_true,Bool.or_eq_true,decide_eq_true_eq,List.isEmpty_iff] at h1;obtain⟨h1,h2⟩:=h1;refine⟨h1,?_⟩;rcases h2 with h2 | ⟨⟨⟨h2,h3⟩,h4⟩,h5⟩
   ·exact .inl h2
   ·refine .inr ⟨fun i hi=>List.all_eq_true.1 h2 i (List.mem_range.2 hi),fun k hk hkn=>?_,h4,h5⟩
    have:=List.all_eq_true.1 h3 k (List.mem_range.2 hkn);simp only[Bool.or_eq_true,decide_eq_true_eq] at this;rcases this with h6 | h6
    ·omega
    ·exact h6
  ·exact AO h.2 f hf
variable{R:List Rec}
theorem Ka{bs:List Nat}(h:Df bs R.length 0 R=true){f:Nat×Rec}(hf:f∈aF 0 R):gb bs (aF 0 R) f.1 f.2=true:=by
 have G':=AO h;have Xl:=G' f hf;have hn:=iD hf;unfold gb;have hq:∀g∈(aF 0 R).filter (fun g=>decide (g.1<f.1)&& !bef bs g.1 f.1),g.2.nx.length=g.2.mem.length∧g.2.wr=[]:=by
  intro g hg;have WV:=List.mem_filter.1 hg;simp only[Bool.and_eq_true,decide_eq_true_eq,Bool.not_eq_true'] at WV;rcases (G' g WV.1).or with h1 | ⟨_,h1,_⟩
  ·exact h1
  ·have:=h1 f.1 WV.2.1 (by omega)
   rw[this] at WV;exact absurd WV.2.2 (by simp)
 have WN:∀XB,gR XB ((aF 0 R).filter fun g=>decide (g.1<f.1)&& !bef bs g.1 f.1)=fun b=>decide (b<XB):=by
  intro XB;funext b;unfold gR;have:(((aF 0 R).filter fun g=>decide (g.1<f.1)&& !bef bs g.1 f.1).all fun f=> !decide (f.2.mem.length≤b∧b<f.2.nx.length))=true:=List.all_eq_true.2 fun g hg=>by have:=(hq g hg).1;simp;omega
  rw[this,Bool.and_true]
 simp only[WN,Bool.and_eq_true];rcases Xl.or with⟨h1,h2⟩ | ⟨h1,_,h3,h4⟩
 ·have hd:f.2.nx.drop f.2.mem.length=[]:=List.drop_of_length_le (by rw[h1];exact Nat.le_refl _)
  refine⟨⟨⟨⟨by rw[h2];rfl,Xl.refs⟩,by rw[h2];rfl⟩,by rw[hd];rfl⟩,?_⟩;refine List.all_eq_true.2 fun g hg=>?_
  obtain⟨g1,g2⟩:=hq g hg;rw[g2,h2,g1,Nat.sub_self,List.take_zero];rfl
 ·refine⟨⟨⟨⟨?_,Xl.refs⟩,?_⟩,h4⟩,?_⟩
  ·refine List.all_eq_true.2 fun b hb=>?_
   have:=List.all_eq_true.1 h3 b hb;simp only[Bool.and_eq_true] at this;exact this.1
  ·refine List.all_eq_true.2 fun b hb=>?_
   have:=List.all_eq_true.1 h3 b hb;simp only[Bool.and_eq_true] at this;exact this.2
  ·refine List.all_eq_true.2 fun g hg=>?_
   have WV:=List.mem_filter.1 hg;simp only[Bool.and_eq_true,decide_eq_true_eq,Bool.not_eq_true'] at WV;rw[h1 g.1 WV.2.1] at WV;exact absurd WV.2.2 (by simp)
variable{N m0:Nat}{O:aac}
theorem Nk{T:TypeId→Option TyI}{ops:Array Oper}{bs:List Nat}(PP:fX ops.toList=bs)(s:XS):
  ay T O N m0 ops s=match zt T O N m0 ops bs s with
   |some s' =>some s'
   |none=>kQ T O N m0 ops s:=by
 cases h:zt T O N m0 ops bs s with
 |none=>rfl
 |some s' =>
  simp only;unfold zt at h;unfold ay;simp only;rw[PP];split at h
  ·cases h
  ·rename_i R env mem hr
   split at h
   ·rename_i hl
    cases h;rw[hr];simp only;rw[if_pos (List.all_eq_true.2 fun f hf=>Ka hl hf)]
   ·cases h
def qD(bs:List Nat) (n j:Nat):Bool:=(List.range n).all fun k=>decide (k≤j)||bef bs j k
def xG(bs:List Nat) (n j:Nat) (r:Rec):Bool:=
 r.v.HK (fun b=>decide (b<r.nx.length))&&
  (cj r||(qD bs n j&&(r.wr.isEmpty||(ba bs j&&r.wr.all (fun b=>cw r.tm b&&(match r.nx[b]? with | some s=>s.HK (fun b=>decide (b<r.nx.length)) | none=>true))))&&
   (r.nx.drop r.mem.length).all fun s=>(s.own||match s with | .qF=>true | _=>false)&&s.HK (fun b=>decide (b<r.nx.length))))
def qR(bs:List Nat) (n:Nat):Nat→List Rec→Bool
 |_,[]=>true
 |j,r::rest=>xG bs n j r&&qR bs n (j+1) rest
def jN(T:TypeId→Option TyI) (O:aac) (N m0:Nat) (ops:Array Oper) (bs:List Nat) (s:XS):Option XS:=
 match kS T O N ops bs 0 ops.toList s.env s.mem [] with
 |none=>none
 |some (R,env,mem)=>
  if qR bs R.length 0 R then some ⟨env,mem,s.aaB||R.any fun r=>r.wr.any fun b=>decide (b<m0)⟩ else none
structure ac1 (bs:List Nat) (n:Nat) (f:Nat×Rec):Prop where
 refs:f.2.v.HK (fun b=>decide (b<f.2.nx.length))=true
 or:(f.2.nx.length=f.2.mem.length∧f.2.wr=[])∨((f.2.wr=[]∨∀i,i<f.1→bef bs i f.1=true)∧(∀k,f.1<k→k<n→bef bs f.1 k=true)∧
  f.2.wr.all (fun b=>cw f.2.tm b&&(match f.2.nx[b]? with | some s=>s.HK (fun b=>decide (b<f.2.nx.length)) | none=>true))=true∧
  ((f.2.nx.drop f.2.mem.length).all fun s=>(s.own||match s with | .qF=>true | _=>false)&&s.HK (fun b=>decide (b<f.2.nx.length)))=true)
theorem Be{bs:List Nat}{n:Nat}:∀{j0:Nat}{R:List Rec},qR bs n j0 R=true→∀f∈aF j0 R,ac1 bs n f
 |_,[],_,f,hf=>by simp[aF] at hf
 |j0,r::rest,h,f,hf=>by
  simp only[qR,Bool.and_eq_true] at h;rw[aF,List.mem_cons] at hf;rcases hf with rfl | hf
  ·have h1:=h.1
   simp only[xG,cj,qD,Bool.and_eq_true,Bool.or_eq_true,decide_eq_true_eq,List.isEmpty_iff] at h1;obtain⟨h1,h2⟩:=h1;refine⟨h1,?_⟩;rcases h2 with h2 | ⟨⟨h3,h4⟩,h5⟩
   ·exact .inl h2
   ·refine .inr ⟨?_,fun k hk hkn=>?_,?_,h5⟩
    ·rcases h4 with h4 | ⟨h4,_⟩
     ·exact .inl h4
     ·exact .inr fun i hi=>List.all_eq_true.1 h4 i (List.mem_range.2 hi)
    ·have:=List.all_eq_true.1 h3 k (List.mem_range.2 hkn)
     simp only[Bool.or_eq_true,decide_eq_true_eq] at this;rcases this with h6 | h6
     ·omega
     ·exact h6
    ·rcases h4 with h4 | ⟨_,h4⟩
     ·rw[h4];rfl
     ·exact h4
  ·exact Be h.2 f hf
theorem Kb{bs:List Nat}(h:qR bs R.length 0 R=true){f:Nat×Rec}(hf:f∈aF 0 R):gb bs (aF 0 R) f.1 f.2=true:=by
 have G':=Be h;have Xl:=G' f hf;have hn:=iD hf;unfold gb;have hq:∀g∈(aF 0 R).filter (fun g=>decide (g.1<f.1)&& !bef bs g.1 f.1),g.2.nx.length=g.2.mem.length∧g.2.wr=[]:=by
  intro g hg;have WV:=List.mem_filter.1 hg;simp only[Bool.and_eq_true,decide_eq_true_eq,Bool.not_eq_true'] at WV;rcases (G' g WV.1).or with h1 | ⟨_,h1,_⟩
  ·exact h1
  ·have:=h1 f.1 WV.2.1 (by omega)
   rw[this] at WV;exact absurd WV.2.2 (by simp)
 have WN:∀XB,gR XB ((aF 0 R).filter fun g=>decide (g.1<f.1)&& !bef bs g.1 f.1)=fun b=>decide (b<XB):=by
  intro XB;funext b;unfold gR;have:(((aF 0 R).filter fun g=>decide (g.1<f.1)&& !bef bs g.1 f.1).all fun f=> !decide (f.2.mem.length≤b∧b<f.2.nx.length))=true:=List.all_eq_true.2 fun g hg=>by have:=(hq g hg).1;simp;omega
  rw[this,Bool.and_true]
 simp only[WN,Bool.and_eq_true];rcases Xl.or with⟨h1,h2⟩ | ⟨h1,_,h3,h4⟩
 ·have hd:f.2.nx.drop f.2.mem.length=[]:=List.drop_of_length_le (by rw[h1];exact Nat.le_refl _)
  refine⟨⟨⟨⟨by rw[h2];rfl,Xl.refs⟩,by rw[h2];rfl⟩,by rw[hd];rfl⟩,?_⟩;refine List.all_eq_true.2 fun g hg=>?_
  obtain⟨g1,g2⟩:=hq g hg;rw[g2,h2,g1,Nat.sub_self,List.take_zero];rfl
 ·refine⟨⟨⟨⟨?_,Xl.refs⟩,?_⟩,h4⟩,?_⟩
  ·refine List.all_eq_true.2 fun b hb=>?_
   have:=List.all_eq_true.1 h3 b hb;simp only[Bool.and_eq_true] at this;exact this.1
  ·refine List.all_eq_true.2 fun b hb=>?_
   have:=List.all_eq_true.1 h3 b hb;simp only[Bool.and_eq_true] at this;exact this.2
  ·refine List.all_eq_true.2 fun g hg=>?_
   obtain⟨g1,g2⟩:=hq g hg;rcases h1 with h1 | h1
   ·rw[g2,h1,g1,Nat.sub_self,List.take_zero]
    rfl
   ·have WV:=List.mem_filter.1 hg
    simp only[Bool.and_eq_true,decide_eq_true_eq,Bool.not_eq_true'] at WV;rw[h1 g.1 WV.2.1] at WV;exact absurd WV.2.2 (by simp)
theorem jj{T:TypeId→Option TyI}{ops:Array Oper}{bs:List Nat}(PP:fX ops.toList=bs)(s:XS):
  ay T O N m0 ops s=match jN T O N m0 ops bs s with
   |some s' =>some s'
   |none=>kQ T O N m0 ops s:=by
 cases h:jN T O N m0 ops bs s with
 |none=>rfl
 |some s' =>
  simp only;unfold jN at h;unfold ay;simp only;rw[PP];split at h
  ·cases h
  ·rename_i R env mem hr
   split at h
   ·rename_i hl
    cases h;rw[hr];simp only;rw[if_pos (List.all_eq_true.2 fun f hf=>Kb hl hf)]
   ·cases h
mutual
theorem aaw{p q:Nat→Bool}:∀(v:AV),v.HK p=true→v.HK q=true→v.HK (fun b=>p b&&q b)=true
 |.ptr _ _,h1,h2=>by simp only[AV.HK] at h1 h2 ⊢;rw[h1,h2];rfl
 |.slice _ _ _ _,h1,h2=>by simp only[AV.HK] at h1 h2 ⊢;rw[h1,h2];rfl
 |.map _,h1,h2=>by simp only[AV.HK] at h1 h2 ⊢;rw[h1,h2];rfl
 |.yield _,h1,h2=>by simp only[AV.HK] at h1 h2 ⊢;rw[h1,h2];rfl
 |.func _ cs,h1,h2=>by simp only[AV.HK] at h1 h2 ⊢;exact kN cs h1 h2
 |.iface _ v,h1,h2=>by simp only[AV.HK] at h1 h2 ⊢;exact aaw v h1 h2
 |.agg cs,h1,h2=>by simp only[AV.HK] at h1 h2 ⊢;exact kN cs h1 h2
 |.tuple cs,h1,h2=>by simp only[AV.HK] at h1 h2 ⊢;exact kN cs h1 h2
 |.undef,_,_=>rfl
 |.bool _,_,_=>rfl
 |.int _ _,_,_=>rfl
 |.str _,_,_=>rfl
 |.aar,_,_=>rfl
 |.kO,_,_=>rfl
 |.aau,_,_=>rfl
 |.nilFunc,_,_=>rfl
 |.nilIface,_,_=>rfl
theorem kN{p q:Nat→Bool}:∀(cs:List AV),AV.aaa p cs=true→AV.aaa q cs=true→AV.aaa (fun b=>p b&&q b) cs=true
 | [],_,_=>rfl
 |v::vs,h1,h2=>by simp only[AV.aaa,Bool.and_eq_true] at h1 h2 ⊢;exact⟨aaw v h1.1 h2.1,kN vs h1.2 h2.2⟩
end
mutual
theorem aaq:∀(v:AV),v.HK (fun _=>true)=true
 |.ptr _ _=>rfl
 |.slice _ _ _ _=>rfl
 |.map _=>rfl
 |.yield _=>rfl
 |.func _ cs=>by simp only[AV.HK];exact jy cs
 |.iface _ v=>by simp only[AV.HK];exact aaq v
 |.agg cs=>by simp only[AV.HK];exact jy cs
 |.tuple cs=>by simp only[AV.HK];exact jy cs
 |.undef=>rfl
 |.bool _=>rfl
 |.int _ _=>rfl
 |.str _=>rfl
 |.aar=>rfl
 |.kO=>rfl
 |.aau=>rfl
 |.nilFunc=>rfl
 |.nilIface=>rfl
theorem jy:∀(cs:List AV),AV.aaa (fun _=>true) cs=true
 | []=>rfl
 |v::vs=>by simp only[AV.aaa,Bool.and_eq_true];exact⟨aaq v,jy vs⟩
end
theorem aay{XB:Nat}{v:AV}(h:v.HK (fun b=>decide (b<XB))=true):∀{un:List (Nat×Rec)},(∀g∈un,v.HK (fun b=> !decide (g.2.mem.length≤b∧b<g.2.nx.length))=true)→v.HK (gR XB un)=true
 | [],_=>by
  have:gR XB []=fun b=>decide (b<XB):=by funext b;simp[gR]
  rw[this];exact h
 |g::un,hg=>by
  have ih:=aay h (un:=un) (fun x hx=>hg x (List.mem_cons_of_mem _ hx));have h1:=aaw v ih (hg g (List.mem_cons_self ..));have:gR XB (g::un)=fun b=>gR XB un b&& !decide (g.2.mem.length≤b∧b<g.2.nx.length):=by funext b;simp only[gR,List.all_cons];cases decide (b<XB)<;>cases (un.all fun f=> !decide (f.2.mem.length≤b∧b<f.2.nx.length))<;>simp
  rw[this];exact h1
def jd:aae→Bool
 |.qF=>true
 |_=>false
def mh(lo hi:Nat) (r:Rec):Bool:=
 cj r&&r.v.HK (fun b=> !decide (lo≤b∧b<hi))&&((r.tm.drop lo).take (hi-lo)).all jd
def By(bs:List Nat) (i:Nat) (r:Rec):Nat→List Rec→Bool
 |_,[]=>true
 |j,s::rest=>(bef bs i j||(r.wr.isEmpty&&mh r.mem.length r.nx.length s))&&By bs i r (j+1) rest
def ph(bs:List Nat):Nat→List Rec→Bool
 |_,[]=>true
 |j,r::rest=>r.v.HK (fun b=>decide (b<r.nx.length))&&(cj r||(By bs j r (j+1) rest&&(r.wr.isEmpty||(ba bs j&&r.wr.all (fun b=>cw r.tm b&&(match r.nx[b]? with | some s=>s.HK (fun b=>decide (b<r.nx.length)) | none=>true))))&&
   (r.nx.drop r.mem.length).all fun s=>(s.own||match s with | .qF=>true | _=>false)&&s.HK (fun b=>decide (b<r.nx.length))))&&ph bs (j+1) rest
def jo(T:TypeId→Option TyI) (O:aac) (N m0:Nat) (ops:Array Oper) (bs:List Nat) (s:XS):Option XS:=
 match kS T O N ops bs 0 ops.toList s.env s.mem [] with
 |none=>none
 |some (R,env,mem)=>
  if ph bs 0 R then some ⟨env,mem,s.aaB||R.any fun r=>r.wr.any fun b=>decide (b<m0)⟩ else none
theorem DM{bs:List Nat}{i:Nat}{r:Rec}:∀{j0:Nat}{R:List Rec},By bs i r j0 R=true→∀g∈aF j0 R,bef bs i g.1=true∨(r.wr=[]∧mh r.mem.length r.nx.length g.2=true)
 |_,[],_,g,hg=>by simp[aF] at hg
 |j0,s::rest,h,g,hg=>by
  simp only[By,Bool.and_eq_true,Bool.or_eq_true,List.isEmpty_iff] at h;rw[aF,List.mem_cons] at hg;rcases hg with rfl | hg
  ·exact h.1
  ·exact DM h.2 g hg
structure ac2 (bs:List Nat) (R:List (Nat×Rec)) (f:Nat×Rec):Prop where
 refs:f.2.v.HK (fun b=>decide (b<f.2.nx.length))=true
 or:(f.2.nx.length=f.2.mem.length∧f.2.wr=[])∨((f.2.wr=[]∨∀i,i<f.1→bef bs i f.1=true)∧(∀g∈R,f.1<g.1→bef bs f.1 g.1=true∨(f.2.wr=[]∧mh f.2.mem.length f.2.nx.length g.2=true))∧
  f.2.wr.all (fun b=>cw f.2.tm b&&(match f.2.nx[b]? with | some s=>s.HK (fun b=>decide (b<f.2.nx.length)) | none=>true))=true∧
  ((f.2.nx.drop f.2.mem.length).all fun s=>(s.own||match s with | .qF=>true | _=>false)&&s.HK (fun b=>decide (b<f.2.nx.length)))=true)
theorem Bx{bs:List Nat}{R0:List (Nat×Rec)}:∀{j0:Nat}{R:List Rec},(∀g∈R0,g.1<j0∨g∈aF j0 R)→ph bs j0 R=true→∀f∈aF j0 R,ac2 bs R0 f
 |_,[],_,_,f,hf=>by simp[aF] at hf
 |j0,r::rest,hR,h,f,hf=>by
  simp only[ph,Bool.and_eq_true] at h;obtain⟨⟨h0,h1⟩,h2⟩:=h;have hR' :∀g∈R0,g.1<j0+1∨g∈aF (j0+1) rest:=by
   intro g hg;rcases hR g hg with h3 | h3
   ·exact .inl (by omega)
   ·rw[aF,List.mem_cons] at h3
    rcases h3 with rfl | h3
    ·exact .inl (by simp)
    ·exact .inr h3
  rw[aF,List.mem_cons] at hf;rcases hf with rfl | hf
  ·refine⟨h0,?_⟩
   simp only[cj,Bool.and_eq_true,Bool.or_eq_true,decide_eq_true_eq,List.isEmpty_iff] at h1;rcases h1 with h1 | ⟨⟨h3,h4⟩,h5⟩
   ·exact .inl h1
   ·refine .inr ⟨?_,fun g hg AC=>?_,?_,h5⟩
    ·rcases h4 with h4 | ⟨h4,_⟩
     ·exact .inl h4
     ·exact .inr fun i hi=>List.all_eq_true.1 h4 i (List.mem_range.2 hi)
    ·rcases hR' g hg with h6 | h6
     ·simp only at AC;omega
     ·exact DM h3 g h6
    ·rcases h4 with h4 | ⟨_,h4⟩
     ·rw[h4];rfl
     ·exact h4
  ·exact Bx hR' h2 f hf
theorem Kc{bs:List Nat}(h:ph bs 0 R=true){f:Nat×Rec}(hf:f∈aF 0 R):gb bs (aF 0 R) f.1 f.2=true:=by
 have G':=Bx (R0:=aF 0 R) (fun g hg=>.inr hg) h;have Xl:=G' f hf;unfold gb;have XM:∀g∈(aF 0 R).filter (fun g=>decide (g.1<f.1)&& !bef bs g.1 f.1),(g.2.nx.length=g.2.mem.length∧g.2.wr=[])∨(g.2.wr=[]∧mh g.2.mem.length g.2.nx.length f.2=true):=by
  intro g hg;have WV:=List.mem_filter.1 hg;simp only[Bool.and_eq_true,decide_eq_true_eq,Bool.not_eq_true'] at WV;rcases (G' g WV.1).or with h1 | ⟨_,h1,_⟩
  ·exact .inl h1
  ·rcases h1 f hf WV.2.1 with h2 | h2
   ·rw[h2] at WV;exact absurd WV.2.2 (by simp)
   ·exact .inr h2
 simp only[Bool.and_eq_true];by_cases hqu:f.2.nx.length=f.2.mem.length∧f.2.wr=[]
 ·obtain⟨h1,h2⟩:=hqu
  have hd:f.2.nx.drop f.2.mem.length=[]:=List.drop_of_length_le (by rw[h1];exact Nat.le_refl _);refine⟨⟨⟨⟨by rw[h2];rfl,aay Xl.refs fun g hg=>?_⟩,by rw[h2];rfl⟩,by rw[hd];rfl⟩,?_⟩
  ·rcases XM g hg with⟨g1,g2⟩ | ⟨g1,g2⟩
   ·have e:(fun b=> !decide (g.2.mem.length≤b∧b<g.2.nx.length))=fun _=>true:=by
     funext b;rw[g1];have:¬(g.2.mem.length≤b∧b<g.2.mem.length):=by omega
     simp[this]
    rw[e];exact aaq _
   ·simp only[mh,Bool.and_eq_true] at g2
    exact g2.1.2
  ·refine List.all_eq_true.2 fun g hg=>?_
   rcases XM g hg with⟨g1,g2⟩ | ⟨g1,g2⟩
   ·rw[g2,h2,g1,Nat.sub_self,List.take_zero]
    rfl
   ·simp only[mh,Bool.and_eq_true] at g2
    rw[g1,h2];simp only[List.all_nil,Bool.true_and];refine List.all_eq_true.2 fun s hs=>?_
    have:=List.all_eq_true.1 g2.2 s hs;cases s<;>simp_all[jd]
 ·rcases Xl.or with hq | ⟨h1,_,h3,h4⟩
  ·exact absurd hq hqu
  ·have hq:∀g∈(aF 0 R).filter (fun g=>decide (g.1<f.1)&& !bef bs g.1 f.1),g.2.nx.length=g.2.mem.length∧g.2.wr=[]:=by
    intro g hg;rcases XM g hg with h5 | ⟨g1,g2⟩
    ·exact h5
    ·simp only[mh,cj,Bool.and_eq_true,decide_eq_true_eq,List.isEmpty_iff] at g2
     exact absurd g2.1.1 hqu
   have WN:∀XB,gR XB ((aF 0 R).filter fun g=>decide (g.1<f.1)&& !bef bs g.1 f.1)=fun b=>decide (b<XB):=by
    intro XB;funext b;unfold gR;have:(((aF 0 R).filter fun g=>decide (g.1<f.1)&& !bef bs g.1 f.1).all fun f=> !decide (f.2.mem.length≤b∧b<f.2.nx.length))=true:=List.all_eq_true.2 fun g hg=>by have:=(hq g hg).1;simp;omega
    rw[this,Bool.and_true]
   simp only[WN];refine⟨⟨⟨⟨?_,Xl.refs⟩,?_⟩,h4⟩,?_⟩
   ·refine List.all_eq_true.2 fun b hb=>?_
    have:=List.all_eq_true.1 h3 b hb;simp only[Bool.and_eq_true] at this;exact this.1
   ·refine List.all_eq_true.2 fun b hb=>?_
    have:=List.all_eq_true.1 h3 b hb;simp only[Bool.and_eq_true] at this;exact this.2
   ·refine List.all_eq_true.2 fun g hg=>?_
    obtain⟨g1,g2⟩:=hq g hg;rcases h1 with h1 | h1
    ·rw[g2,h1,g1,Nat.sub_self,List.take_zero]
     rfl
    ·have WV:=List.mem_filter.1 hg
     simp only[Bool.and_eq_true,decide_eq_true_eq,Bool.not_eq_true'] at WV;rw[h1 g.1 WV.2.1] at WV;exact absurd WV.2.2 (by simp)
theorem cm{T:TypeId→Option TyI}{ops:Array Oper}{bs:List Nat}(PP:fX ops.toList=bs)(s:XS):
  ay T O N m0 ops s=match jo T O N m0 ops bs s with
   |some s' =>some s'
   |none=>kQ T O N m0 ops s:=by
 cases h:jo T O N m0 ops bs s with
 |none=>rfl
 |some s' =>
  simp only;unfold jo at h;unfold ay;simp only;rw[PP];split at h
  ·cases h
  ·rename_i R env mem hr
   split at h
   ·rename_i hl
    cases h;rw[hr];simp only;rw[if_pos (List.all_eq_true.2 fun f hf=>Kc hl hf)]
   ·cases h
theorem Bi(f:Nat→Bool) (new:Mem):∀(i:Nat) (M:Mem),bh [] i M (bD f i M++new)=M++new
 |_,[]=>rfl
 |i,s::M=>by simp[bD,bh,Bi f new (i+1) M]
theorem xH(new:Mem):∀(i:Nat) (M:Mem),bh [] i M (M++new)=M++new
 |_,[]=>rfl
 |i,s::M=>by simp[bh,xH new (i+1) M]
theorem xJ(f:Nat→Bool) (s:aae):∀(i:Nat) (M:Mem) (k:Nat),bh [i+k] i M ((bD f i M).set k s)=M.set k s
 |_,[],_=>rfl
 |i,x::M,0=>by
  simp only[bD,List.set_cons_zero,bh,Nat.add_zero];have h:∀(j:Nat) (M:Mem),i<j→bh [i] j M (bD f j M)=M:=by
   intro j M hj;induction M generalizing j with
   |nil=>rfl
   |cons y M ih=>simp[bD,bh,ih (j+1) (by omega),show¬j=i by omega]
  simp[h (i+1) M (by omega)]
 |i,x::M,k+1=>by have:=xJ f s (i+1) M k;rw[show i+1+k=i+(k+1) by omega] at this;simp[bD,bh,this,show¬i=i+(k+1) by omega]
theorem Kz(f:Nat→Bool)(s:aae)(M:Mem)(k:Nat):bh [k] 0 M ((bD f 0 M).set k s)=M.set k s:=by
 have:=xJ f s 0 M k
 rwa [Nat.zero_add] at this
theorem Dz(f:Nat→Bool):∀(i:Nat) (M:Mem),(bD f i M).length=M.length
 |_,[]=>rfl
 |i,x::M=>by simp[bD,Dz f (i+1) M]
theorem Dx(f:Nat→Bool)(M:Mem)(lo n:Nat)(h:∀b,lo≤b→b<lo+n→f b=false):(((bD f 0 M).drop lo).take n).all jd=true:=by
 rw[List.all_eq_true];intro s hs;obtain⟨i,hi⟩:=List.getElem?_of_mem hs;rw[List.getElem?_take] at hi;split at hi
 ·rename_i AC
  rw[List.getElem?_drop,ua] at hi;cases hM:M[lo+i]? with
  |none=>rw[hM] at hi;simp at hi
  |some x=>
   rw[hM] at hi;simp only[Option.map_some,Nat.zero_add,Option.some.injEq] at hi;rw[h (lo+i) (by omega) (by omega)] at hi;simp at hi;subst hi;rfl
 ·cases hi
theorem M6(M:Mem)(lo n:Nat):(((bD (fun _=>false) 0 M).drop lo).take n).all jd=true:=Dx _ M lo n fun _ _ _=>rfl
theorem UM(M X:Mem)(k:Nat):(M++X).drop (M.length+k)=X.drop k:=by rw[List.drop_append];simp
theorem TH(M X:Mem):(M++X).drop M.length=X:=by simp
theorem vk(i:Nat)(s s' :aae)(r r' :Mem):bh [] i (s::r) (s' ::r')=s::bh [] (i+1) r r' :=by simp[bh]
theorem Bj:∀(i:Nat) (N X Y:Mem),bh [] i (N++X) (N++Y)=N++bh [] (i+N.length) X Y
 |i,[],X,Y=>by simp
 |i,s::N,X,Y=>by simp only[List.cons_append,vk,Bj (i+1) N X Y,List.length_cons];rw[show i+1+N.length=i+(N.length+1) by omega]
theorem aae.aaw{p q:Nat→Bool}:∀(s:aae),s.HK p=true→s.HK q=true→s.HK (fun b=>p b&&q b)=true
 |.qF,_,_=>rfl
 |.cells _ _ cs,h,h' =>kN cs h h'
 |.map es,h,h' =>by simp only[aae.HK,List.all_eq_true,Bool.and_eq_true] at h h' ⊢;exact fun e he=>⟨Go.Eng.aaw _ (h e he).1 (h' e he).1,Go.Eng.aaw _ (h e he).2 (h' e he).2⟩
 |.aaF es,h,h' =>by simp only[aae.HK,List.all_eq_true,Bool.and_eq_true] at h h' ⊢;exact fun e he=>⟨Go.Eng.aaw _ (h e he).1 (h' e he).1,Go.Eng.aaw _ (h e he).2 (h' e he).2⟩
 |.loop r,h,h' =>by simp only[aae.HK,List.all_eq_true] at h h' ⊢;exact fun e he=>Go.Eng.aaw _ (h e he) (h' e he)
theorem aae.aay{XB:Nat}{s:aae}(h:s.HK (fun b=>decide (b<XB))=true):∀{un:List (Nat×Rec)},(∀g∈un,s.HK (fun b=> !decide (g.2.mem.length≤b∧b<g.2.nx.length))=true)→s.HK (gR XB un)=true
 | [],_=>by
  have:gR XB []=fun b=>decide (b<XB):=by funext b;simp[gR]
  rw[this];exact h
 |g::un,hg=>by
  have ih:=aae.aay h (un:=un) (fun x hx=>hg x (List.mem_cons_of_mem _ hx));have h1:=aae.aaw s ih (hg g (List.mem_cons_self ..));have:gR XB (g::un)=fun b=>gR XB un b&& !decide (g.2.mem.length≤b∧b<g.2.nx.length):=by funext b;simp only[gR,List.all_cons];cases decide (b<XB)<;>cases (un.all fun f=> !decide (f.2.mem.length≤b∧b<f.2.nx.length))<;>simp
  rw[this];exact h1
theorem rk{g:Rec}(h:g.nx.length=g.mem.length):(fun b=> !decide (g.mem.length≤b∧b<g.nx.length))=fun _=>true:=by
 funext b;rw[h];have:¬(g.mem.length≤b∧b<g.mem.length):=by omega
 simp[this]
theorem aae.aaq:∀(s:aae),s.HK (fun _=>true)=true
 |.qF=>rfl
 |.cells _ _ cs=>jy cs
 |.map es=>by simp only[aae.HK,List.all_eq_true,Bool.and_eq_true];exact fun e _=>⟨Go.Eng.aaq _,Go.Eng.aaq _⟩
 |.aaF es=>by simp only[aae.HK,List.all_eq_true,Bool.and_eq_true];exact fun e _=>⟨Go.Eng.aaq _,Go.Eng.aaq _⟩
 |.loop r=>by simp only[aae.HK,List.all_eq_true];exact fun e _=>Go.Eng.aaq _
def cY(lo hi:Nat) (r:Rec):Bool:=
 r.wr.isEmpty&&r.v.HK (fun b=> !decide (lo≤b∧b<hi))&&((r.nx.drop r.mem.length).all fun s=>s.HK (fun b=> !decide (lo≤b∧b<hi)))&&((r.tm.drop lo).take (hi-lo)).all jd
def fg(bs:List Nat) (i:Nat) (r:Rec):Nat→List Rec→Bool
 |_,[]=>true
 |j,s::rest=>(bef bs i j||(r.wr.isEmpty&&cY r.mem.length r.nx.length s))&&fg bs i r (j+1) rest
def iT(bs:List Nat) (j:Nat) (r:Rec):List (Nat×Rec)→Bool
 | []=>true
 |g::l=>(bef bs g.1 j||(cj g.2&&r.wr.all fun b=> !cw g.2.tm b))&&iT bs j r l
def fu(bs:List Nat):Nat→List (Nat×Rec)→List Rec→Bool
 |_,_,[]=>true
 |j,acc,r::rest=>r.v.HK (fun b=>decide (b<r.nx.length))&&(cj r||(fg bs j r (j+1) rest&&(r.wr.isEmpty||(iT bs j r acc&&r.wr.all (fun b=>cw r.tm b&&(match r.nx[b]? with | some s=>s.HK (fun b=>decide (b<r.nx.length)) | none=>true))))&&
   (r.nx.drop r.mem.length).all fun s=>(s.own||match s with | .qF=>true | _=>false)&&s.HK (fun b=>decide (b<r.nx.length))))&&fu bs (j+1) ((j,r)::acc) rest
def cO(T:TypeId→Option TyI) (O:aac) (N m0:Nat) (ops:Array Oper) (bs:List Nat) (s:XS):Option XS:=
 match kS T O N ops bs 0 ops.toList s.env s.mem [] with
 |none=>none
 |some (R,env,mem)=>
  if fu bs 0 [] R then some ⟨env,mem,s.aaB||R.any fun r=>r.wr.any fun b=>decide (b<m0)⟩ else none
theorem A5{bs:List Nat}{i:Nat}{r:Rec}:∀{j0:Nat}{R:List Rec},fg bs i r j0 R=true→∀g∈aF j0 R,bef bs i g.1=true∨(r.wr=[]∧cY r.mem.length r.nx.length g.2=true)
 |_,[],_,g,hg=>by simp[aF] at hg
 |j0,s::rest,h,g,hg=>by
  simp only[fg,Bool.and_eq_true,Bool.or_eq_true,List.isEmpty_iff] at h;rw[aF,List.mem_cons] at hg;rcases hg with rfl | hg
  ·exact h.1
  ·exact A5 h.2 g hg
theorem De{bs:List Nat}{j:Nat}{r:Rec}:∀{acc:List (Nat×Rec)},iT bs j r acc=true→∀g∈acc,bef bs g.1 j=true∨((g.2.nx.length=g.2.mem.length∧g.2.wr=[])∧(r.wr.all fun b=> !cw g.2.tm b)=true)
 | [],_,g,hg=>by cases hg
 |a::l,h,g,hg=>by
  simp only[iT,cj,Bool.and_eq_true,Bool.or_eq_true,decide_eq_true_eq,List.isEmpty_iff] at h;rcases List.mem_cons.1 hg with rfl | hg
  ·exact h.1
  ·exact De h.2 g hg
structure acF (bs:List Nat) (R:List (Nat×Rec)) (f:Nat×Rec):Prop where
 refs:f.2.v.HK (fun b=>decide (b<f.2.nx.length))=true
 or:(f.2.nx.length=f.2.mem.length∧f.2.wr=[])∨((f.2.wr=[]∨∀g∈R,g.1<f.1→bef bs g.1 f.1=true∨((g.2.nx.length=g.2.mem.length∧g.2.wr=[])∧(f.2.wr.all fun b=> !cw g.2.tm b)=true))∧(∀g∈R,f.1<g.1→bef bs f.1 g.1=true∨(f.2.wr=[]∧cY f.2.mem.length f.2.nx.length g.2=true))∧
  f.2.wr.all (fun b=>cw f.2.tm b&&(match f.2.nx[b]? with | some s=>s.HK (fun b=>decide (b<f.2.nx.length)) | none=>true))=true∧
  ((f.2.nx.drop f.2.mem.length).all fun s=>(s.own||match s with | .qF=>true | _=>false)&&s.HK (fun b=>decide (b<f.2.nx.length)))=true)
theorem xB{bs:List Nat}{R0:List (Nat×Rec)}:∀{j0:Nat}{acc:List (Nat×Rec)}{R:List Rec},(∀g∈R0,g.1<j0∨g∈aF j0 R)→(∀g∈R0,g.1<j0→g∈acc)→fu bs j0 acc R=true→∀f∈aF j0 R,acF bs R0 f
 |_,_,[],_,_,_,f,hf=>by simp[aF] at hf
 |j0,acc,r::rest,hR,hacc,h,f,hf=>by
  simp only[fu,Bool.and_eq_true] at h;obtain⟨⟨h0,h1⟩,h2⟩:=h;have hR' :∀g∈R0,g.1<j0+1∨g∈aF (j0+1) rest:=by
   intro g hg;rcases hR g hg with h3 | h3
   ·exact .inl (by omega)
   ·rw[aF,List.mem_cons] at h3
    rcases h3 with rfl | h3
    ·exact .inl (by simp)
    ·exact .inr h3
  have Zv :∀g∈R0,g.1<j0+1→g∈(j0,r)::acc:=by
   intro g hg AC;rcases hR g hg with h3 | h3
   ·exact List.mem_cons_of_mem _ (hacc g hg h3)
   ·rw[aF,List.mem_cons] at h3
    rcases h3 with rfl | h3
    ·exact List.mem_cons_self ..
    ·have:=(iD h3).1;omega
  rw[aF,List.mem_cons] at hf;rcases hf with rfl | hf
  ·refine⟨h0,?_⟩
   simp only[cj,Bool.and_eq_true,Bool.or_eq_true,decide_eq_true_eq,List.isEmpty_iff] at h1;rcases h1 with h1 | ⟨⟨h3,h4⟩,h5⟩
   ·exact .inl h1
   ·refine .inr ⟨?_,fun g hg AC=>?_,?_,h5⟩
    ·rcases h4 with h4 | ⟨h4,_⟩
     ·exact .inl h4
     ·exact .inr fun g hg AC=>De h4 g (hacc g hg AC)
    ·rcases hR' g hg with h6 | h6
     ·simp only at AC;omega
     ·exact A5 h3 g h6
    ·rcases h4 with h4 | ⟨_,h4⟩
     ·rw[h4];rfl
     ·exact h4
  ·exact xB hR' Zv h2 f hf
theorem Fq{bs:List Nat}(h:fu bs 0 [] R=true){f:Nat×Rec}(hf:f∈aF 0 R):gb bs (aF 0 R) f.1 f.2=true:=by
 have G':=xB (R0:=aF 0 R) (fun g hg=>.inr hg) (fun g _ AC=>absurd AC (Nat.not_lt_zero _)) h;have Xl:=G' f hf;unfold gb;have XM:∀g∈(aF 0 R).filter (fun g=>decide (g.1<f.1)&& !bef bs g.1 f.1),(g.2.nx.length=g.2.mem.length∧g.2.wr=[])∨(g.2.wr=[]∧cY g.2.mem.length g.2.nx.length f.2=true):=by
  intro g hg;have WV:=List.mem_filter.1 hg;simp only[Bool.and_eq_true,decide_eq_true_eq,Bool.not_eq_true'] at WV;rcases (G' g WV.1).or with h1 | ⟨_,h1,_⟩
  ·exact .inl h1
  ·rcases h1 f hf WV.2.1 with h2 | h2
   ·rw[h2] at WV;exact absurd WV.2.2 (by simp)
   ·exact .inr h2
 have hwr:∀g∈(aF 0 R).filter (fun g=>decide (g.1<f.1)&& !bef bs g.1 f.1),g.2.wr=[]∧(f.2.wr.all fun b=> !cw g.2.tm b)=true∧(f.2.wr=[]∨g.2.nx.length=g.2.mem.length):=by
  intro g hg;have WV:=List.mem_filter.1 hg;simp only[Bool.and_eq_true,decide_eq_true_eq,Bool.not_eq_true'] at WV;rcases XM g hg with⟨g1,g2⟩ | ⟨g1,g2⟩
  ·refine⟨g2,?_,.inr g1⟩
   rcases Xl.or with h1 | ⟨h1,_⟩
   ·rw[h1.2];rfl
   ·rcases h1 with h1 | h1
    ·rw[h1];rfl
    ·rcases h1 g WV.1 WV.2.1 with h3 | h3
     ·rw[h3] at WV;exact absurd WV.2.2 (by simp)
     ·exact h3.2
  ·simp only[cY,Bool.and_eq_true,List.isEmpty_iff] at g2
   refine⟨g1,?_,.inl g2.1.1.1⟩;rw[g2.1.1.1];rfl
 have hv:f.2.v.HK (gR f.2.nx.length ((aF 0 R).filter fun g=>decide (g.1<f.1)&& !bef bs g.1 f.1))=true:=aay Xl.refs fun g hg=>by
  rcases XM g hg with⟨g1,_⟩ | ⟨_,g2⟩
  ·rw[rk g1];exact aaq _
  ·simp only[cY,Bool.and_eq_true] at g2
   exact g2.1.1.2
 have hlast:(((aF 0 R).filter fun g=>decide (g.1<f.1)&& !bef bs g.1 f.1).all fun g=>g.2.wr.all (fun b=> !cw f.2.tm b)&&f.2.wr.all (fun b=> !cw g.2.tm b)&&
   ((f.2.tm.drop g.2.mem.length).take (g.2.nx.length-g.2.mem.length)).all fun s=>match s with | .qF=>true | _=>false)=true:=List.all_eq_true.2 fun g hg=>by
  obtain⟨w1,w2,_⟩:=hwr g hg;rw[w1,w2];simp only[List.all_nil,Bool.true_and];rcases XM g hg with⟨g1,_⟩ | ⟨_,g2⟩
  ·rw[g1,Nat.sub_self,List.take_zero];rfl
  ·simp only[cY,Bool.and_eq_true] at g2
   refine List.all_eq_true.2 fun s hs=>?_
   have:=List.all_eq_true.1 g2.2 s hs;cases s<;>simp_all[jd]
 have Xc:((f.2.nx.drop f.2.mem.length).all fun s=>(s.own||match s with | .qF=>true | _=>false)&&s.HK (gR f.2.nx.length ((aF 0 R).filter fun g=>decide (g.1<f.1)&& !bef bs g.1 f.1)))=true:=by
  refine List.all_eq_true.2 fun s hs=>?_
  rcases Xl.or with⟨h1,_⟩ | ⟨_,_,_,h4⟩
  ·rw[List.drop_of_length_le (by rw[h1];exact Nat.le_refl _)] at hs;cases hs
  ·have h5:=List.all_eq_true.1 h4 s hs
   simp only[Bool.and_eq_true] at h5 ⊢;refine⟨h5.1,aae.aay h5.2 fun g hg=>?_⟩;rcases XM g hg with⟨g1,_⟩ | ⟨_,g2⟩
   ·rw[rk g1];exact aae.aaq _
   ·simp only[cY,Bool.and_eq_true] at g2
    exact List.all_eq_true.1 g2.1.2 s hs
 have hw:f.2.wr.all (fun b=>cw f.2.tm b)=true∧(f.2.wr.all fun b=>match f.2.nx[b]? with | some s=>s.HK (gR f.2.nx.length ((aF 0 R).filter fun g=>decide (g.1<f.1)&& !bef bs g.1 f.1)) | none=>true)=true:=by
  rcases Xl.or with⟨_,h2⟩ | ⟨_,_,h3,_⟩
  ·rw[h2];exact⟨rfl,rfl⟩
  ·constructor
   ·refine List.all_eq_true.2 fun b hb=>?_
    have:=List.all_eq_true.1 h3 b hb;simp only[Bool.and_eq_true] at this;exact this.1
   ·refine List.all_eq_true.2 fun b hb=>?_
    have:=List.all_eq_true.1 h3 b hb;simp only[Bool.and_eq_true] at this;cases hn:f.2.nx[b]? with
    |none=>rfl
    |some s=>
     simp only[hn] at this ⊢;refine aae.aay this.2 fun g hg=>?_
     rcases (hwr g hg).2.2 with h5 | h5
     ·rw[h5] at hb;cases hb
     ·rw[rk h5];exact aae.aaq _
 simp only[Bool.and_eq_true];exact⟨⟨⟨⟨hw.1,hv⟩,hw.2⟩,Xc⟩,hlast⟩
theorem br{T:TypeId→Option TyI}{ops:Array Oper}{bs:List Nat}(PP:fX ops.toList=bs)(s:XS):
  ay T O N m0 ops s=match cO T O N m0 ops bs s with
   |some s' =>some s'
   |none=>kQ T O N m0 ops s:=by
 cases h:cO T O N m0 ops bs s with
 |none=>rfl
 |some s' =>
  simp only;unfold cO at h;unfold ay;simp only;rw[PP];split at h
  ·cases h
  ·rename_i R env mem hr
   split at h
   ·rename_i hl
    cases h;rw[hr];simp only;rw[if_pos (List.all_eq_true.2 fun f hf=>Fq hl hf)]
   ·cases h
end Go.Eng
namespace Go.Eng
open Go.ChangeMaps (setBlock)
variable{code:Code}{es:List (AV×AV)}{iR:TyI}{idA idB idS it more nx Y7 out Y8:Nat}{mOp:Operand}{oE oN oR oX:Oper}{opsA Zw opsS:Array Oper}{Zx:List Oper}
section
variable {P:Program}{T:TypeId→Option TyI}{tp:Bool}{N m0:Nat}{Q:Exit→St→Prop}
theorem Fj(hT:cH P T){pre:List Oper}{tR tk te:TypeId}(hB:Zw.toList=pre++[oR])(r1:oR.op=.range tR mOp)(r2:oR.dst=some it)(r3:oR.guard=none)(hTR:T tR=some iR)(hdR:iR.desc=.map tk te)(hS:opsS.toList=[oN,oX])(n1:oN.op=.next (.tmp it) false)(n2:oN.dst=some Y7)(n3:oN.guard=none)(x1:oX.op=.extract (.tmp Y7) 0)(x2:oX.dst=some more)(x3:oX.guard=none)(hA:opsA.toList=oE::Zx)(e1:oE.op=.entry (.tmp it))(e2:oE.dst=some Y8)(e3:oE.guard=none)(X7:it<N∧Y7<N∧more<N∧Y8<N)(H':Y7≠it∧more≠it){st st1:St}{b:Nat}(Xa:mi P T N Zw pre st st1)(hmo:get st1.env mOp=.map b)(hb:st1.mem[b]? =some (.aaF es))(I:List Nat→St→Prop)(h0:I [] ⟨(it,.ptr st1.mem.length 0)::st1.env,st1.mem++[.qF]⟩)(hI:∀seen s,I seen s→aa s.env it=.ptr st1.mem.length 0∧s.mem[st1.mem.length]? =some .qF∧s.mem[b]? =some (.aaF es))(hEnd:∀seen s,I seen s→(∀j,j<es.length→j∈seen)→Q .normal ⟨(more,.bool false)::(Y7,.tuple [.bool false])::s.env,s.mem⟩)(ZU:∀seen s j k v,I seen s→es[j]? =some (k,v)→j∉seen→∃s3,mi P T N opsA Zx ⟨(Y8,.tuple [k,v])::(more,.bool true)::(Y7,.tuple [.bool true,k,v])::s.env,s.mem⟩ s3∧
   AWP P tp N (st1.mem.length+1) code s3 fun e s4=>((e=.normal∨e=.exit nx)∧∃s5,aa7 (st1.mem.length+1) s4 s5∧I (seen++[j]) s5)∨(e=.ret∧Q .ret s4)):
  AWP P tp N m0 (.seq (.region idB Zw false) (.block out (.loop (.seq (.region idS opsS false) (.seq (.cond (.tmp more) .skip (.exit out)) (.block nx (.seq (.region idA opsA false) code))))))) st Q:=by
 obtain⟨b1,b2,b3,b4⟩:=X7;intro ro h0' base μ w a XA hH hR hN hdf hm;refine wpIn_seq (wpIn_region_list ?_);rw[hB];refine Nc hT Xa hH hR hN hdf hm (.refl hm) fun a1 w1 μ1 c1 c2 c3 c4 c5 c6=>?_
 have hmv:=aW c2 mOp;rw[hmo] at hmv;simp only[aab] at hmv;obtain⟨hbl,hmv⟩:=hmv;have YC:=c1.slot b _ hb;simp only[aap] at YC;obtain⟨Do,FS,k1,⟨ZE,hborn⟩,k3,k4⟩:=YC;subst ZE;have hd:=(hT tR iR hTR).desc;rw[hdR] at hd;have W9:=run_range_map (P:=P) w1 tR tk te (μ1 b).blk Do Do.size hd k1;refine xd r3 (by rw[r1];intro c e;cases e) (V:=.pointer (some ⟨w1.heap.size,0,none⟩)) (w' :=w1.alloc (.mapIter (some (μ1 b).blk) Do.size #[] Do.size)) (by simp only[execOp,r1,hmv];simp[W9]) (wpListIn_nil ?_);rw[r2];show Code.wpIn (Fr ro) 0 P _ _ _ _
 refine wpIn_block ?_;obtain⟨p1,p2⟩:=c1.push (.mapIter (some (μ1 b).blk) Do.size #[] Do.size) .qF ⟨w1.heap.size,0,0,0⟩ rfl trivial;have hrw:w.heap.size≤w1.heap.size:=c6.size;have hrb:base≤w1.heap.size:=c1.aai;obtain⟨mb,hmb⟩:∃mb,mb=(μ1 b).blk:=⟨_,rfl⟩
 rw[←hmb] at k1 p1 p2 ⊢;have hmbl:mb<w1.heap.size:=(Array.getElem?_eq_some_iff.1 k1).1;obtain⟨r,hr⟩:∃r,r=w1.heap.size:=⟨_,rfl⟩
 have W4:∀x∈Do.toList,x.born<Do.size:=by
  intro x hx;obtain⟨j,hj⟩:=List.getElem?_of_mem hx;have hj' :Do[j]? =some x:=by simpa using hj
  rw[hborn j x hj'];exact(Array.getElem?_eq_some_iff.1 hj').1
 have Y3:(Do.toList.map (·.born)).Nodup:=by
  have e:Do.toList.map (·.born)=List.range Do.size:=by
   refine List.ext_getElem? fun i=>?_
   rw[List.getElem?_map,Array.getElem?_toList];cases hi:Do[i]? with
   |none=>
    have:=Array.getElem?_eq_none_iff.1 hi;simp[this]
   |some x=>
    have:=(Array.getElem?_eq_some_iff.1 hi).1;simp[hborn i x hi,this]
  rw[e];exact List.nodup_range
 refine xZ (σ:=Array Nat) (fun seen a' w' =>∃IR μ',aam base μ' IR.mem w' ∧aaJ μ' IR.mem.length IR.env a'.tmps∧a'.tmps.size=N∧MOk P base h0' w' a'.defers∧st1.mem.length<IR.mem.length∧
   Step m0 μ st.mem w μ' IR.mem w' ∧μ' st1.mem.length=⟨r,0,0,0⟩∧(μ' b).blk=mb∧w'.heap[r]? =some (.mapIter (some mb) Do.size seen Do.size)∧w'.heap[mb]? =some (.map Do Do.size)∧I seen.toList IR)
  (fun seen=>(leftOf Do seen).size) ?_ (s:= #[]) ⟨_,_,p1,?_,?_,?_,?_,c6.trans (p2.mono c5),?_,?_,?_,?_,h0⟩
 ·rintro seen a' w' ⟨IR,μ',d1,d2,d3,d4,d5,d6,d7,d8,d9,d10,d11⟩
  obtain⟨i1,i2,i3⟩:=hI _ _ d11;have hit:a'.eval (.tmp it)=.pointer (some ⟨r,0,none⟩):=by have:=d2 it;rw[i1] at this;simp only[aab,d7] at this;exact this.2
  have YR :m0≤IR.mem.length:=d6.len;refine wpIn_seq (wpIn_region_list ?_);rw[hS];rcases run_next_at (P:=P) w' oN.type r mb Do.size Do.size seen Do Do.size d9 d10 W4 (Nat.le_refl _) with⟨l0,W9⟩ | ⟨E,hE,w2,hal,W9⟩
  ·refine xd n3 (by rw[n1];intro c e;cases e) (V:=.tuple #[.bool false]) (w' :=w') (by simp only[execOp,n1,hit];simp[W9]) ?_
   rw[n2];refine xd x3 (by rw[x1];intro c e;cases e) (V:=.bool false) (w' :=w') (by simp only[execOp,x1,zn a' Y7 _ (by omega)];simp[Instr.extract]) (wpListIn_nil ?_);rw[x2];show Code.wpIn (Fr ro) 0 P _ _ _ _
   refine wpIn_seq (wpIn_cond_false (zn _ _ _ (by rw[eX];omega)) (wpIn_exit ?_));simp only[Exit.then,Exit.inBlock,if_true];refine⟨⟨(more,.bool false)::(Y7,.tuple [.bool false])::IR.env,IR.mem⟩,μ',d1,?_,by rw[eX,eX];exact d3,by rw[fw,fw];exact d4,YR,d6,hEnd _ _ d11 fun j hj=>?_⟩
   ·exact aaJ.put (aaJ.put d2 (by omega) (by simp[aab,aad])) (by rw[eX];omega) (by simp[aab])
   ·have AC:j<Do.size:=by omega
    have:=all_seen Do seen l0 Do[j] (by simp);rw[hborn j _ (by simp[AC])] at this;simpa using this
  ·obtain⟨hem,hns⟩:=mem_left hE
   obtain⟨j,hj⟩:=List.getElem?_of_mem hem;have hj' :Do[j]? =some E:=by simpa using hj
   have hbj:=hborn j E hj';have WB:j<es.length:=by have:=(Array.getElem?_eq_some_iff.1 hj').1;omega
   have hsl' :=d1.slot b _ i3;simp only[aap] at hsl';obtain⟨WJ,WH,g1,_,_,g4⟩:=hsl';rw[d8,d10] at g1;cases g1;obtain⟨E',WX,hk,hv⟩:=g4 j es[j] (by simp[WB]);rw[hj'] at WX;cases WX;have hH2:aam base μ' IR.mem w2:=by rcases hal with rfl | rfl<;>first | exact d1 | exact d1.drew
   have hS2:Step m0 μ st.mem w μ' IR.mem w2:=by rcases hal with rfl | rfl<;>first | exact d6 | exact d6.trans ((Step.drew (Nat.le_refl _)).mono YR)
   have XH:MOk P base h0' w2 a'.defers:=by rcases hal with rfl | rfl<;>first | exact d4 | exact d4.step d1 (Step.drew (Nat.le_refl _))
   have hit2:w2.heap[r]? =some (.mapIter (some mb) Do.size seen Do.size):=by rcases hal with rfl | rfl<;>exact d9
   have hmp2:w2.heap[mb]? =some (.map Do Do.size):=by rcases hal with rfl | rfl<;>exact d10
   have hH3:=hH2.acE (o:=.mapIter (some mb) Do.size (seen.push E.born) Do.size) hit2;have hS3:=hS2.acE (r:=r) (o:=.mapIter (some mb) Do.size (seen.push E.born) Do.size) (by omega);have hM3:=XH.acE (o:=.mapIter (some mb) Do.size (seen.push E.born) Do.size) hit2 (by omega);have hrl:r<w2.heap.size:=(Array.getElem?_eq_some_iff.1 hit2).1;have hit3:(setBlock w2 r (.mapIter (some mb) Do.size (seen.push E.born) Do.size)).heap[r]? =some (.mapIter (some mb) Do.size (seen.push E.born) Do.size):=by simp[setBlock,hrl]
   have hmp3:(setBlock w2 r (.mapIter (some mb) Do.size (seen.push E.born) Do.size)).heap[mb]? =some (.map Do Do.size):=by rw[←hmp2];exact Array.getElem?_setIfInBounds_ne (by omega)
   obtain⟨w3,hw3⟩:∃w3,w3=setBlock w2 r (.mapIter (some mb) Do.size (seen.push E.born) Do.size):=⟨_,rfl⟩
   rw[←hw3] at hH3 hS3 hM3 hit3 hmp3 W9;refine xd n3 (by rw[n1];intro c e;cases e) (V:=.tuple #[.bool true,E.key,E.val]) (w' :=w3) (by simp only[execOp,n1,hit];simp[W9]) ?_;rw[n2];refine xd x3 (by rw[x1];intro c e;cases e) (V:=.bool true) (w' :=w3) (by simp only[execOp,x1,zn a' Y7 _ (by omega)];simp[Instr.extract]) (wpListIn_nil ?_);rw[x2];show Code.wpIn (Fr ro) 0 P _ _ _ _
   refine wpIn_seq (wpIn_cond_true (zn _ _ _ (by rw[eX];omega)) (wpIn_skip ?_));show Code.wpIn (Fr ro) 0 P _ _ _ _
   refine wpIn_block (wpIn_seq (wpIn_region_list ?_));rw[hA];have WQ:((a'.put (some Y7) (.tuple #[.bool true,E.key,E.val])).put (some more) (.bool true)).eval (.tmp it)=.pointer (some ⟨r,0,none⟩):=by rw[←hit];simp[Act.put,Act.eval,Array.getElem?_setIfInBounds_ne H'.1,Array.getElem?_setIfInBounds_ne H'.2]
   have hen:=run_entry_at (P:=P) w3 r mb Do.size seen Do Do.size E hit3 hmp3 hem Y3;refine xd e3 (by rw[e1];intro c e;cases e) (V:=.tuple #[E.key,E.val]) (w' :=w3) (by simp only[execOp,e1,WQ];simp[hen]) ?_;rw[e2];have hkv:es[j]? =some (es[j].1,es[j].2):=by simp[WB]
   have hnj:j∉seen.toList:=by
    intro W8;rw[hbj] at hns;have:seen.contains j=true:=by simpa using W8
    rw[this] at hns;cases hns
   obtain⟨s3,F',hcode⟩:=ZU _ _ j _ _ d11 hkv hnj;have hT1:=aaJ.put d2 (d:=Y7) (by omega) (V:=.tuple #[.bool true,E.key,E.val]) (v:=.tuple [.bool true,es[j].1,es[j].2]) (by simp only[aab];exact⟨_,rfl,bj.2 ⟨by simp[aab],bj.2 ⟨hk,bj.2 ⟨hv,by simp[aad]⟩⟩⟩⟩);have hT2:=aaJ.put hT1 (d:=more) (by rw[eX];omega) (V:=.bool true) (v:=.bool true) (by simp[aab]);have hT3:=aaJ.put hT2 (d:=Y8) (by rw[eX,eX];omega) (V:=.tuple #[E.key,E.val]) (v:=.tuple [es[j].1,es[j].2]) (by simp only[aab];exact⟨_,rfl,bj.2 ⟨hk,bj.2 ⟨hv,by simp[aad]⟩⟩⟩);have A':st1.mem.length+1≤IR.mem.length:=by omega
   refine vr (m0:=st1.mem.length+1) (μ0:=μ') (mem0:=IR.mem) (w0:=w3) hT F' hH3 hT3 (by rw[eX,eX,eX];exact d3) (by rw[fw,fw,fw];exact hM3) A' (.refl A') fun a4 w4 μ4 f1 f2 f3 f4 f5 f6=>?_
   show Code.wpIn (Fr ro) 0 P _ _ _ _
   refine wpIn_mono (hcode ro h0' base μ4 w4 a4 XA f1 f2 f3 f4 f5) ?_;rintro e a5 w5 ⟨s4,μ5,y1,y2,y3,y4,y5,y6,⟨hee,s5,hwk,hI5⟩ | ⟨rfl,hQ⟩⟩
   rotate_left
   ·exact⟨s4,μ5,y1,y2,y3,y4,by omega,hS3.trans ((f6.trans y6).mono (by omega)),hQ⟩
   obtain⟨μ6,z1,z2,z3,z4⟩:=hwk base μ5 w5 a5.tmps y1 y2 y5;have S:=(f6.trans y6).trans z4;have XE:b<st1.mem.length:=(List.getElem?_eq_some_iff.1 hb).1;have YD:∃s',(∃IR μ',aam base μ' IR.mem w5∧aaJ μ' IR.mem.length IR.env a5.tmps∧a5.tmps.size=N∧MOk P base h0' w5 a5.defers∧st1.mem.length<IR.mem.length∧
     Step m0 μ st.mem w μ' IR.mem w5∧μ' st1.mem.length=⟨r,0,0,0⟩∧(μ' b).blk=mb∧w5.heap[r]? =some (.mapIter (some mb) Do.size s' Do.size)∧w5.heap[mb]? =some (.map Do Do.size)∧I s'.toList IR)∧
     (leftOf Do s').size<(leftOf Do seen).size:=by
    refine⟨seen.push E.born,⟨s5,μ6,z1,z2,y3,y4,z3,hS3.trans (S.mono (by have:=c5;omega)),?_,?_,?_,?_,?_⟩,left_shrinks Do seen E hE⟩
    ·rw[S.agree _ (by omega),d7]
    ·rw[S.agree _ (by omega),d8]
    ·rw[S.frame r (by rw[hw3];simpa [setBlock] using hrl) fun x hx=>by obtain⟨sx,q1,q2⟩:=hx;exact xN hH3 hit3 q1 (aae.aaO q2)]
     exact hit3
    ·rw[S.frame mb (Array.getElem?_eq_some_iff.1 hmp3).1 fun x hx=>?_]
     ·exact hmp3
     ·rw[←d8]
      refine hH3.sep x b _ hx i3 (by simp) ?_;rintro rfl;obtain⟨sx,q1,q2⟩:=hx;rw[i3] at q1;cases q1;cases q2
    ·rw[Array.toList_push,hbj];exact hI5
   rcases hee with rfl | rfl
   ·exact YD
   ·simp only[Exit.inBlock,if_true];exact YD
 ·refine aaJ.put (c2.mono (by simp) fun x hx=>vE hx) (by omega) ?_
  simp only[aab,List.length_append,List.length_singleton,dT];exact⟨by omega,trivial⟩
 ·rw[eX];exact c3
 ·rw[fw];exact c4.step c1 p2
 ·simp
 ·rw[dT,hr]
 ·have XE:b<st1.mem.length:=(List.getElem?_eq_some_iff.1 hb).1
  rw[vE XE];exact hmb.symm
 ·rw[hr];exact heap_alloc_new w1 _
 ·rw[gH w1 _ hmbl];exact k1
end
section
variable {P:Program}{T:TypeId→Option TyI}{O:aac}{tp:Bool}{N m0 K:Nat}{lv:Code→List Nat}{Q:Exit→St→Prop}
theorem xv(hm:P.follows .mixedOrders=true)(hT:cH P T)(hO:qS P O){tR tk te:TypeId}(hB:Zw.toList=Zw.toList.dropLast++[oR])(r1:oR.op=.range tR mOp)(r2:oR.dst=some it)(r3:oR.guard=none)(hTR:T tR=some iR)(hdR:iR.desc=.map tk te)(hS:opsS.toList=[oN,oX])(n1:oN.op=.next (.tmp it) false)(n2:oN.dst=some Y7)(n3:oN.guard=none)(x1:oX.op=.extract (.tmp Y7) 0)(x2:oX.dst=some more)(x3:oX.guard=none)(hA:opsA.toList=oE::Zx)(e1:oE.op=.entry (.tmp it))(e2:oE.dst=some Y8)(e3:oE.guard=none)(X7:it<N∧Y7<N∧more<N∧Y8<N)(H':Y7≠it∧more≠it)(WI:dR code=true){s s1:XS}{b:Nat}(Xa:aX T O N m0 Zw Zw.toList.dropLast s=some s1)(hmo:get s1.env mOp=.map b)(hb:s1.mem[b]? =some (.aaF es))(lw wr:List Nat)(V:List Nat→Nat→AV)(M:List Nat→Mem)(Inv:List Nat→Prop)(hwr:wr=Y8::more::Y7::(Zx.filterMap (·.dst)++ab code))(hit:it∉wr)(hrefs:(((it,AV.ptr s1.mem.length 0)::s1.env).all fun e=>(e.2.refs (s1.mem.length+1)).isEmpty)=true)(hM:∀seen,Inv seen→(M seen).length=s1.mem.length+1∧(M seen)[s1.mem.length]? =some .qF∧(M seen)[b]? =some (.aaF es)∧∀x∈M seen,x.refs (s1.mem.length+1)=[])(hV:∀seen t,Inv seen→t∈lw→(V seen t).refs (s1.mem.length+1)=[])(h0:Inv []∧M []=s1.mem++[.qF]∧∀t∈lw,aa ((it,AV.ptr s1.mem.length 0)::s1.env) t=V [] t)(hEnd:∀seen env,Inv seen→aaT wr ((it,AV.ptr s1.mem.length 0)::s1.env) env→(∀t∈lw,aa env t=V seen t)→(∀j,j<es.length→j∈seen)→Q .normal ⟨(more,.bool false)::(Y7,.tuple [.bool false])::env,M seen⟩)(ZU:∀seen env j k v,Inv seen→aaT wr ((it,AV.ptr s1.mem.length 0)::s1.env) env→(∀t∈lw,aa env t=V seen t)→es[j]? =some (k,v)→j∉seen→∃sA e s',aX T O N (s1.mem.length+1) opsA Zx ⟨(Y8,.tuple [k,v])::(more,.bool true)::(Y7,.tuple [.bool true,k,v])::env,M seen,false⟩=some sA∧
   aQ T lv O K N (s1.mem.length+1) tp code sA=some (e,s')∧(((e=.normal∨e=.exit nx)∧Inv (seen++[j])∧(∀t∈lw,aa s'.env t=V (seen++[j]) t)∧s'.mem.take (s1.mem.length+1)=M (seen++[j]))∨(e=.ret∧Q .ret ⟨s'.env,s'.mem⟩))):
  AWP P tp N m0 (.seq (.region idB Zw false) (.block out (.loop (.seq (.region idS opsS false) (.seq (.cond (.tmp more) .skip (.exit out)) (.block nx (.seq (.region idA opsA false) code))))))) ⟨s.env,s.mem⟩ Q:=by
 have hrl:=Bs hrefs;refine Fj (st1:=⟨s1.env,s1.mem⟩) hT hB r1 r2 r3 hTR hdR hS n1 n2 n3 x1 x2 x3 hA e1 e2 e3 X7 H' (iF hO Xa).1 hmo hb
  (fun seen st=>Inv seen∧aaT wr ((it,AV.ptr s1.mem.length 0)::s1.env) st.env∧(∀t∈lw,aa st.env t=V seen t)∧st.mem=M seen) ⟨h0.1,.refl _ _,h0.2.2,h0.2.1.symm⟩ ?_ ?_ ?_
 ·rintro seen st ⟨i1,i2,i3,i4⟩
  obtain⟨j1,j2,j3,_⟩:=hM seen i1;refine⟨?_,by rw[i4];exact j2,by rw[i4];exact j3⟩;rw[i2 it hit];simp[aa]
 ·rintro seen ⟨env,mem⟩ ⟨i1,i2,i3,i4⟩ G'
  have:=hEnd seen env i1 i2 i3 G';simp only at i4 ⊢;rw[i4];exact this
 ·rintro seen ⟨env,mem⟩ j k v ⟨i1,i2,i3,i4⟩ hj hns
  simp only at i2 i3 i4;subst i4;obtain⟨sA,e,s',k1,k2,⟨k3,k4,k5,k6⟩ | ⟨k3,k4⟩⟩:=ZU seen env j k v i1 i2 i3 hj hns
  rotate_left
  ·subst k3
   exact⟨⟨sA.env,sA.mem⟩,(iF hO k1).1,jJ hm hT hO WI k2 (.inr ⟨rfl,k4⟩)⟩
  refine⟨⟨sA.env,sA.mem⟩,(iF hO k1).1,?_⟩;refine AWP.assume fun A' _=>?_
  refine jJ hm hT hO WI k2 (.inl ⟨k3,?_⟩);obtain⟨j1,j2,j3,j4⟩:=hM _ k4;have hlen' :s1.mem.length+1≤s'.mem.length:=by have h1:=congrArg List.length k6;rw[List.length_take,j1] at h1;omega
  have hsame:aaT wr ((it,AV.ptr s1.mem.length 0)::s1.env) s'.env:=by
   have q1:=(kR k1).mono (wr' :=wr) (by intro t ht;rw[hwr];simp[ht]);have q2:=(fq hO k2).mono (wr' :=wr) (by intro t ht;rw[hwr];simp[ht]);intro t ht;rw[q2 t ht,q1 t ht,←i2 t ht];have:t≠Y8∧t≠more∧t≠Y7:=by rw[hwr] at ht;simp only[List.mem_cons,not_or] at ht;exact⟨ht.1,ht.2.1,ht.2.2.1⟩
   simp[aa,Ne.symm this.1,Ne.symm this.2.1,Ne.symm this.2.2]
  refine⟨_,aa7.aaj [] (by simp[Kv]),k4,?_,?_,?_⟩
  ·intro t ht
   simp only[iv];rw[hsame t ht,AV.aax (hrl t)]
  ·intro t ht
   simp only[iv];rw[k5 t ht,AV.aax (hV _ t k4 ht)]
  ·simp only[aaj,aa3,List.map_nil,List.append_nil,k6]
   conv=>rhs;rw[←List.map_id (M (seen++[j]))]
   exact List.map_congr_left fun x hx=>aae.aax (j4 x hx)
end
end Go.Eng
namespace Go.Eng
variable{P:Program}{v:AV}
theorem mB.acG{f:FuncId}{M:Mem}{es1 es2 n k d p t:Nat}{o o' :Bool}{cs1 X8 cs2' :List AV}(h1:M[p]? =some (.cells o es1 cs1))(h2:M[t]? =some (.cells o' es2 cs2'))(hd:cs2'.drop d=X8)(hc1:AV.aag cs1=true)(hc2:AV.aag X8=true)(hv:v.closed=true)(h:mB P f [.agg [.slice 0 0 n none,.slice 1 0 k none]] [.cells false es1 cs1,.cells false es2 X8] v [.cells false es1 cs1,.cells false es2 X8]):
  mB P f [.agg [.slice p 0 n none,.slice t d k none]] M v M:=by
 refine⟨h.1,fun base μ w Vs hG hH hV=>?_⟩;obtain⟨ν,hν⟩:∃ν:Nat→Place,ν=fun i=>if i=0 then μ p else⟨(μ t).blk,(μ t).off+d,(μ t).tot-d,(μ t).es⟩:=⟨_,rfl⟩
 have n0:ν 0=μ p:=by rw[hν];rfl
 have n1:ν 1=⟨(μ t).blk,(μ t).off+d,(μ t).tot-d,(μ t).es⟩:=by rw[hν];rfl
 have YQ:∀b,¬dL [.cells false es1 cs1,.cells false es2 X8] b:=by
  rintro b ⟨s,hs,ho⟩
  match b with
  |0=>simp at hs;subst hs;cases ho
  |1=>simp at hs;subst hs;cases ho
  |b+2=>simp at hs
 have Xh:∀{cs:List AV},AV.aag cs=true→∀(j:Nat) v,cs[j]? =some v→v.closed=true:=by
  intro cs;induction cs with
  |nil=>intro _ j v hj;simp at hj
  |cons c cs ih=>
   intro hc j v hj;simp only[AV.aag,Bool.and_eq_true] at hc;cases j with
   |zero=>simp at hj;subst hj;exact hc.1
   |succ j=>exact ih hc.2 j v (by simpa using hj)
 have hms:aam base ν [.cells false es1 cs1,.cells false es2 X8] w:=by
  refine⟨hH.aai,fun b s hs=>?_,fun b b' s' hb=>absurd hb (YQ b)⟩
  match b with
  |0=>
   simp at hs;subst hs;have:=hH.slot _ _ h1;simp only[aap] at this ⊢;rw[n0];obtain⟨cur,e,fr,g1,g2,g3,g4,_⟩:=this;refine⟨cur,e,fr,g1,g2,g3,fun j u hj=>?_,fun h=>by cases h⟩;obtain⟨V,hV,hr⟩:=g4 j _ hj;exact⟨V,hV,aab.closed (Xh hc1 j u hj) hr⟩
  |1=>
   simp at hs;subst hs;have:=hH.slot _ _ h2;simp only[aap] at this ⊢;rw[n1];obtain⟨cur,e,fr,g1,g2,g3,g4,_⟩:=this;refine⟨cur,e,fr,g1,g2,by rw[←hd,List.length_drop];exact Nat.sub_le_sub_right g3 d,fun j u hj=>?_,fun h=>by cases h⟩;have hj' :cs2'[d+j]? =some u:=by rw[←hd,List.getElem?_drop] at hj;exact hj
   obtain⟨V,hV,hr⟩:=g4 _ _ hj';exact⟨V,by simpa [Nat.add_assoc] using hV,aab.closed (Xh hc2 j u hj) hr⟩
  |b+2=>simp at hs
 have XD:aad ν 2 [.agg [.slice 0 0 n none,.slice 1 0 k none]] Vs:=by simp only[aad,aab] at hV ⊢;obtain⟨U,Ws,rfl,⟨Us,rfl,U1,W1,rfl,⟨_,rfl⟩,U2,W2,rfl,⟨_,rfl⟩,rfl⟩,rfl⟩:=hV;refine⟨_,_,rfl,⟨_,rfl,_,_,rfl,⟨by omega,by rw[n0]⟩,_,_,rfl,⟨by omega,?_⟩,rfl⟩,rfl⟩;rw[n1];simp[iU]
 refine(h.2 base ν w Vs hG hms XD).mono ?_;rintro e w' ⟨V,v',m',μ',rfl,q1,q2,q3,rfl,rfl⟩;have hg:aaC w w' :=⟨q3.size,fun k hk=>q3.frame k hk fun b hb=>absurd hb (YQ b),q3.os,q3.tape,q3.output,q3.drawn⟩;exact⟨V,_,M,μ,rfl,aab.closed hv q1,hg.acZ hH,hg.step (Nat.le_refl _),rfl,rfl⟩
mutual
theorem AV.aa5{k n:Nat}(hn:k≤n):∀{v:AV},v.under k=true→v.refs n=[]
 |.undef,_=>rfl
 |.bool _,_=>rfl
 |.int _ _,_=>rfl
 |.str _,_=>rfl
 |.ptr b o,h=>by simp only[AV.under,decide_eq_true_eq] at h;simp only[AV.refs];rw[if_pos (by omega)]
 |.aar,_=>rfl
 |.slice b o l c,h=>by simp only[AV.under,decide_eq_true_eq] at h;simp only[AV.refs];rw[if_pos (by omega)]
 |.kO,_=>rfl
 |.map b,h=>by simp only[AV.under,decide_eq_true_eq] at h;simp only[AV.refs];rw[if_pos (by omega)]
 |.yield b,h=>by simp only[AV.under,decide_eq_true_eq] at h;simp only[AV.refs];rw[if_pos (by omega)]
 |.aau,_=>rfl
 |.func f cs,h=>by simp only[AV.under] at h;simp only[AV.refs];exact AV.aaG hn h
 |.nilFunc,_=>rfl
 |.iface t v,h=>by simp only[AV.under] at h;simp only[AV.refs];exact AV.aa5 hn h
 |.nilIface,_=>rfl
 |.agg cs,h=>by simp only[AV.under] at h;simp only[AV.refs];exact AV.aaG hn h
 |.tuple cs,h=>by simp only[AV.under] at h;simp only[AV.refs];exact AV.aaG hn h
theorem AV.aaG{k n:Nat}(hn:k≤n):∀{vs:List AV},AV.aah k vs=true→AV.aas n vs=[]
 | [],_=>rfl
 |v::vs,h=>by simp only[AV.aah,Bool.and_eq_true] at h;simp only[AV.aas,AV.aa5 hn h.1,AV.aaG hn h.2,List.append_nil]
end
mutual
theorem AV.aaV{k:Nat}{f:Nat→Bool}(hf:∀b,b<k→f b=true):∀{v:AV},v.under k=true→v.HK f=true
 |.undef,_=>rfl
 |.bool _,_=>rfl
 |.int _ _,_=>rfl
 |.str _,_=>rfl
 |.ptr b o,h=>by simp only[AV.under,decide_eq_true_eq] at h;simp only[AV.HK];exact hf b h
 |.aar,_=>rfl
 |.slice b o l c,h=>by simp only[AV.under,decide_eq_true_eq] at h;simp only[AV.HK];exact hf b h
 |.kO,_=>rfl
 |.map b,h=>by simp only[AV.under,decide_eq_true_eq] at h;simp only[AV.HK];exact hf b h
 |.yield b,h=>by simp only[AV.under,decide_eq_true_eq] at h;simp only[AV.HK];exact hf b h
 |.aau,_=>rfl
 |.func f cs,h=>by simp only[AV.under] at h;simp only[AV.HK];exact AV.aaA hf h
 |.nilFunc,_=>rfl
 |.iface t v,h=>by simp only[AV.under] at h;simp only[AV.HK];exact AV.aaV hf h
 |.nilIface,_=>rfl
 |.agg cs,h=>by simp only[AV.under] at h;simp only[AV.HK];exact AV.aaA hf h
 |.tuple cs,h=>by simp only[AV.under] at h;simp only[AV.HK];exact AV.aaA hf h
theorem AV.aaA{k:Nat}{f:Nat→Bool}(hf:∀b,b<k→f b=true):∀{vs:List AV},AV.aah k vs=true→AV.aaa f vs=true
 | [],_=>rfl
 |v::vs,h=>by simp only[AV.aah,Bool.and_eq_true] at h;simp only[AV.aaa,AV.aaV hf h.1,AV.aaA hf h.2,Bool.and_self]
end
mutual
theorem xa{k n:Nat}(hn:k≤n):∀{v:AV},v.under k=true→v.under n=true
 |.undef,_=>rfl
 |.bool _,_=>rfl
 |.int _ _,_=>rfl
 |.str _,_=>rfl
 |.ptr b o,h=>by simp only[AV.under,decide_eq_true_eq] at h ⊢;omega
 |.aar,_=>rfl
 |.slice b o l c,h=>by simp only[AV.under,decide_eq_true_eq] at h ⊢;omega
 |.kO,_=>rfl
 |.map b,h=>by simp only[AV.under,decide_eq_true_eq] at h ⊢;omega
 |.yield b,h=>by simp only[AV.under,decide_eq_true_eq] at h ⊢;omega
 |.aau,_=>rfl
 |.func f cs,h=>by simp only[AV.under] at h ⊢;exact oS hn h
 |.nilFunc,_=>rfl
 |.iface t v,h=>by simp only[AV.under] at h ⊢;exact xa hn h
 |.nilIface,_=>rfl
 |.agg cs,h=>by simp only[AV.under] at h ⊢;exact oS hn h
 |.tuple cs,h=>by simp only[AV.under] at h ⊢;exact oS hn h
theorem oS{k n:Nat}(hn:k≤n):∀{vs:List AV},AV.aah k vs=true→AV.aah n vs=true
 | [],_=>rfl
 |v::vs,h=>by simp only[AV.aah,Bool.and_eq_true] at h ⊢;exact⟨xa hn h.1,oS hn h.2⟩
end
variable{k:Nat}
theorem fD{vs:List AV}(h:AV.aah k vs=true):(∀n,k≤n→AV.aas n vs=[])∧(∀n,k≤n→AV.aaa (fun b=>decide (b<n)) vs=true):=
 ⟨fun n hn=>AV.aaG hn h,fun n hn=>AV.aaA (fun b hb=>by simp only[decide_eq_true_eq];omega) h⟩
theorem ff(h:v.under k=true):(∀n,k≤n→v.refs n=[])∧(∀n,k≤n→v.HK (fun b=>decide (b<n))=true):=
 ⟨fun n hn=>AV.aa5 hn h,fun n hn=>AV.aaV (fun b hb=>by simp only[decide_eq_true_eq];omega) h⟩
mutual
theorem aab.cut{μ μ' :Nat→Place}{n n' :Nat}:∀{v V V'},aab μ n v V→aab μ' n' v V' →aab μ' n v V'
 |.undef,V,V',_,_=>by simp[aab]
 |.bool b,V,V',_,h=>by simpa [aab] using h
 |.int k i,V,V',_,h=>by simpa [aab] using h
 |.str s,V,V',_,h=>by simpa [aab] using h
 |.ptr b o,V,V',h,h' =>by simp only[aab] at h h' ⊢;exact⟨h.1,h'.2⟩
 |.aar,V,V',_,h=>by simpa [aab] using h
 |.slice b o l c,V,V',h,h' =>by simp only[aab] at h h' ⊢;exact⟨h.1,h'.2⟩
 |.kO,V,V',_,h=>by simpa [aab] using h
 |.map b,V,V',h,h' =>by simp only[aab] at h h' ⊢;exact⟨h.1,h'.2⟩
 |.yield b,V,V',h,h' =>by simp only[aab] at h h' ⊢;exact⟨h.1,h'.2⟩
 |.aau,V,V',_,h=>by simpa [aab] using h
 |.func f cs,V,V',h,h' =>by simp only[aab] at h h' ⊢;obtain⟨Us,rfl,h⟩:=h;obtain⟨Y4,rfl,h'⟩:=h';exact⟨Y4,rfl,aad.cut h h'⟩
 |.nilFunc,V,V',_,h=>by simpa [aab] using h
 |.iface t v,V,V',h,h' =>by simp only[aab] at h h' ⊢;obtain⟨U,rfl,h⟩:=h;obtain⟨U',rfl,h'⟩:=h';exact⟨U',rfl,aab.cut h h'⟩
 |.nilIface,V,V',_,h=>by simpa [aab] using h
 |.agg cs,V,V',h,h' =>by simp only[aab] at h h' ⊢;obtain⟨Us,rfl,h⟩:=h;obtain⟨Y4,rfl,h'⟩:=h';exact⟨Y4,rfl,aad.cut h h'⟩
 |.tuple cs,V,V',h,h' =>by simp only[aab] at h h' ⊢;obtain⟨Us,rfl,h⟩:=h;obtain⟨Y4,rfl,h'⟩:=h';exact⟨Y4,rfl,aad.cut h h'⟩
theorem aad.cut{μ μ' :Nat→Place}{n n' :Nat}:∀{vs Us Y4},aad μ n vs Us→aad μ' n' vs Y4 →aad μ' n vs Y4
 | [],Us,Y4,_,h=>by simpa [aad] using h
 |v::vs,Us,Y4,h,h' =>by simp only[aad] at h h' ⊢;obtain⟨U,Ws,rfl,h1,h2⟩:=h;obtain⟨U',Ws',rfl,Ya,Zq⟩:=h';exact⟨U',Ws',rfl,aab.cut h1 Ya,aad.cut h2 Zq⟩
end
theorem aap.cut{μ μ' :Nat→Place}{n n' base:Nat}{w w' :World}{p p' :Place}{s:aae}(h:aap μ n base w p s)(h' :aap μ' n' base w' p' s):aap μ' n base w' p' s:=by
 cases s with
 |qF=>trivial
 |cells own es cs=>
  simp only[aap] at h h' ⊢;obtain⟨_,_,_,_,_,_,g4,_⟩:=h;obtain⟨cur,e,fr,k1,k2,k3,k4,k5⟩:=h';refine⟨cur,e,fr,k1,k2,k3,fun j v hj=>?_,k5⟩;obtain⟨V,_,r⟩:=g4 j v hj;obtain⟨V',hV',r'⟩:=k4 j v hj;exact⟨V',hV',aab.cut r r'⟩
 |map es=>
  simp only[aap] at h h' ⊢;obtain⟨_,_,_,_,_,g4⟩:=h;obtain⟨Do,FS,k1,k2,k3,k4⟩:=h';refine⟨Do,FS,k1,k2,k3,fun j e hj=>?_⟩;obtain⟨E,_,r⟩:=g4 j e hj;obtain⟨E',WX,r'⟩:=k4 j e hj;exact⟨E',WX,aab.cut r.1 r'.1,aab.cut r.2 r'.2⟩
 |aaF es=>
  simp only[aap] at h h' ⊢;obtain⟨_,_,_,_,_,g4⟩:=h;obtain⟨Do,FS,k1,k2,k3,k4⟩:=h';refine⟨Do,FS,k1,k2,k3,fun j e hj=>?_⟩;obtain⟨E,_,r⟩:=g4 j e hj;obtain⟨E',WX,r'⟩:=k4 j e hj;exact⟨E',WX,aab.cut r.1 r'.1,aab.cut r.2 r'.2⟩
 |loop r=>
  simp only[aap] at h h' ⊢;obtain⟨L,_,_,g⟩:=h;obtain⟨L',k1,k2,k⟩:=h';exact⟨L',k1,k2,k.st,k.abv,k.ps,k.assign,k.body,k.size,fun t=>aab.cut (g.tmps t) (k.tmps t)⟩
variable{args:List AV}{m new:Mem}
theorem mB.forget{f:FuncId}(hv:v.closed=true)(h:mB P f args m v (m++new)):mB P f args m v m:=by
 refine⟨h.1,fun base μ w Vs hG hH hV=>(h.2 base μ w Vs hG hH hV).mono ?_⟩;rintro e w' ⟨V,v',m',μ',rfl,q1,q2,q3,rfl,rfl⟩;have WY:∀{b:Nat}{s:aae},m[b]? =some s→(m++new)[b]? =some s:=fun {b s} hb=>by rw[List.getElem?_append_left (List.getElem?_eq_some_iff.1 hb).1];exact hb
 have Xn:∀{b:Nat},dL m b→dL (m++new) b:=fun ⟨s,h1,h2⟩=>⟨s,WY h1,h2⟩
 exact⟨V,_,m,μ',rfl,aab.closed hv q1,⟨q2.aai,fun b s hb=>(hH.slot b s hb).cut (q2.slot b s (WY hb)),fun b b' s' hb J' =>q2.sep b b' s' (Xn hb) (WY J')⟩,
  ⟨Nat.le_refl _,q3.agree,q3.os,q3.tape,q3.output,q3.size,q3.frame,fun b hb=>q3.owner b (Xn hb),q3.drawn⟩,rfl,rfl⟩
mutual
theorem aab.low{μ:Nat→Place}{n n' :Nat}:∀{v V},v.under n=true→aab μ n' v V→aab μ n v V
 |.undef,V,_,_=>by simp[aab]
 |.bool b,V,_,h=>by simpa [aab] using h
 |.int k i,V,_,h=>by simpa [aab] using h
 |.str s,V,_,h=>by simpa [aab] using h
 |.ptr b o,V,hu,h=>by simp only[AV.under,decide_eq_true_eq] at hu;simp only[aab] at h ⊢;exact⟨hu,h.2⟩
 |.aar,V,_,h=>by simpa [aab] using h
 |.slice b o l c,V,hu,h=>by simp only[AV.under,decide_eq_true_eq] at hu;simp only[aab] at h ⊢;exact⟨hu,h.2⟩
 |.kO,V,_,h=>by simpa [aab] using h
 |.map b,V,hu,h=>by simp only[AV.under,decide_eq_true_eq] at hu;simp only[aab] at h ⊢;exact⟨hu,h.2⟩
 |.yield b,V,hu,h=>by simp only[AV.under,decide_eq_true_eq] at hu;simp only[aab] at h ⊢;exact⟨hu,h.2⟩
 |.aau,V,_,h=>by simpa [aab] using h
 |.func f cs,V,hu,h=>by simp only[AV.under] at hu;simp only[aab] at h ⊢;obtain⟨Us,rfl,h⟩:=h;exact⟨Us,rfl,aad.low hu h⟩
 |.nilFunc,V,_,h=>by simpa [aab] using h
 |.iface t v,V,hu,h=>by simp only[AV.under] at hu;simp only[aab] at h ⊢;obtain⟨U,rfl,h⟩:=h;exact⟨U,rfl,aab.low hu h⟩
 |.nilIface,V,_,h=>by simpa [aab] using h
 |.agg cs,V,hu,h=>by simp only[AV.under] at hu;simp only[aab] at h ⊢;obtain⟨Us,rfl,h⟩:=h;exact⟨Us,rfl,aad.low hu h⟩
 |.tuple cs,V,hu,h=>by simp only[AV.under] at hu;simp only[aab] at h ⊢;obtain⟨Us,rfl,h⟩:=h;exact⟨Us,rfl,aad.low hu h⟩
theorem aad.low{μ:Nat→Place}{n n' :Nat}:∀{vs Us},AV.aah n vs=true→aad μ n' vs Us→aad μ n vs Us
 | [],Us,_,h=>by simpa [aad] using h
 |v::vs,Us,hu,h=>by simp only[AV.aah,Bool.and_eq_true] at hu;simp only[aad] at h ⊢;obtain⟨U,Ws,rfl,h1,h2⟩:=h;exact⟨U,Ws,rfl,aab.low hu.1 h1,aad.low hu.2 h2⟩
end
theorem mB.ab9{f:FuncId}{m1:Mem}(hv:v.closed=true)(hl:m1.length=m.length)(hc:∀(b:Nat) s,m1[b]? =some s→m[b]? =some s∨∃o es cs,s=.cells o es cs∧AV.aah m.length cs=true)(h:mB P f args m v (m1++new)):mB P f args m v m1:=by
 refine⟨h.1,fun base μ w Vs hG hH hV=>(h.2 base μ w Vs hG hH hV).mono ?_⟩;rintro e w' ⟨V,v',m',μ',rfl,q1,q2,q3,rfl,rfl⟩;have WY:∀{b:Nat}{s:aae},m1[b]? =some s→(m1++new)[b]? =some s:=fun {b s} hb=>by rw[List.getElem?_append_left (List.getElem?_eq_some_iff.1 hb).1];exact hb
 have Xn:∀{b:Nat},dL m1 b→dL (m1++new) b:=fun ⟨s,h1,h2⟩=>⟨s,WY h1,h2⟩
 refine⟨V,_,m1,μ',rfl,aab.closed hv q1,⟨q2.aai,fun b s hb=>?_,fun b b' s' hb J' =>q2.sep b b' s' (Xn hb) (WY J')⟩,
  ⟨by rw[hl];exact Nat.le_refl _,q3.agree,q3.os,q3.tape,q3.output,q3.size,q3.frame,fun b hb=>q3.owner b (Xn hb),q3.drawn⟩,rfl,rfl⟩
 rw[hl];rcases hc b s hb with h1 | ⟨o,es,cs,rfl,hu⟩
 ·exact(hH.slot b s h1).cut (q2.slot b s (WY hb))
 ·have:=q2.slot _ _ (WY hb)
  simp only[aap] at this ⊢;obtain⟨cur,e,fr,k1,k2,k3,k4,k5⟩:=this;refine⟨cur,e,fr,k1,k2,k3,fun j v hj=>?_,k5⟩;obtain⟨V',hV',r'⟩:=k4 j v hj;exact⟨V',hV',aab.low (xb hu j v hj) r'⟩
end Go.Eng
