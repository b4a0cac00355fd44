/- See Q54. -/
import Derived.Test.YtgafjliihahjgaaGreatDoorQ01
import Derived.Lib.UnsafeStr
set_option linter.all false
namespace Go.Eng
section
variable {P:Program}{T:TypeId→Option TyI}{μ:Nat→Place}{mem:Mem}{base:Nat}{w:World}
def OpOk(P:Program) (x:Sem Value) (base:Nat) (μ:Nat→Place) (mem:Mem) (w:World) (v:AV) (mem' :Mem):Prop:=
 ∃V w' μ',x.run P w=.ok V w' ∧VRel μ' mem'.length v V∧HRel base μ' mem' w' ∧Step mem.length μ mem w μ' mem' w'
theorem OpOk.of_val{x:Sem Value}{v:AV}(hH:HRel base μ mem w) (h:Val P x w μ mem.length v):OpOk P x base μ mem w v mem:=by obtain⟨V,h1,h2⟩:=h;exact⟨V,w,μ,h1,h2,hH,.refl (Nat.le_refl _)⟩
theorem pE(hH:HRel base μ mem w) (e:TypeId) (Cs:Array Value) (es:Nat) (hes:1000≤es→e+1=es / 1000) (cs:List AV)
  (h:∀(j:Nat) v,cs[j]? =some v→∃V,Cs[j]? =some V∧VRel μ mem.length v V):
  HRel base (upd μ mem.length ⟨w.heap.size,0,Cs.size,es%1000⟩) (mem++[.cells true es cs]) (w.alloc (.cells Cs e))∧
  Step mem.length μ mem w (upd μ mem.length ⟨w.heap.size,0,Cs.size,es%1000⟩) (mem++[.cells true es cs]) (w.alloc (.cells Cs e)):=by
 refine hH.push _ _ _ rfl ?_;simp only[SRel];refine⟨Cs,e,(0,0),heap_alloc_new w _,⟨rfl,hes⟩,?_,fun j v hv=>?_,fun _=>by simp;exact hH.base_le⟩
 ·rcases Nat.eq_zero_or_pos cs.length with h0 | h0
  ·omega
  ·obtain⟨V,hV,_⟩:=h (cs.length-1) cs[cs.length-1] (by simp)
   have:=(Array.getElem?_eq_some_iff.1 hV).1;omega
 ·obtain⟨V,hV,hr⟩:=h j v hv
  exact⟨V,by simpa using hV,hr.mono (Nat.le_succ _) fun b hb=>sZ hb⟩
theorem uK{n:Nat}{cs vs:List AV}{cur Vs:List Value}{o:Nat}(hfit:o+vs.length≤cs.length)
  (h:∀(j:Nat) v,cs[j]? =some v→∃V,cur[j]? =some V∧VRel μ n v V) (hv:VRels μ n vs Vs):
  ∀(j:Nat) v,(cs.take o++vs++cs.drop (o+vs.length))[j]? =some v→∃V,(cur.take o++Vs++cur.drop (o+Vs.length))[j]? =some V∧VRel μ n v V:=by
 have hl:=hv.length;have hle:cs.length≤cur.length:=by
  rcases Nat.eq_zero_or_pos cs.length with h0 | h0
  ·omega
  ·obtain⟨V,hV,_⟩:=h (cs.length-1) cs[cs.length-1] (by simp)
   have:=(List.getElem?_eq_some_iff.1 hV).1;omega
 have e1:(cs.take o).length=o:=by simp;omega
 have e2:(cur.take o).length=o:=by simp;omega
 intro j v hj;rw[List.append_assoc] at hj ⊢;by_cases h1:j<o
 ·rw[List.getElem?_append_left (by omega),List.getElem?_take_of_lt h1] at hj
  rw[List.getElem?_append_left (by omega),List.getElem?_take_of_lt h1];exact h j v hj
 ·rw[List.getElem?_append_right (by omega),e1] at hj
  rw[List.getElem?_append_right (by omega),e2];by_cases h2:j-o<vs.length
  ·rw[List.getElem?_append_left h2] at hj
   rw[List.getElem?_append_left (by omega)];exact hv.get _ v hj
  ·rw[List.getElem?_append_right (by omega),List.getElem?_drop] at hj
   rw[List.getElem?_append_right (by omega),List.getElem?_drop];rw[show o+Vs.length+(j-o-Vs.length)=o+vs.length+(j-o-vs.length) by omega];exact h _ v hj
def Dx(T:TypeId→Option TyI) (e:TypeId) (i:TyI):Bool:=match i.desc with
 |.struct fs=>match fs[0]? with
  |some f=>match T f.type with
   |some k=>match k.desc with
    |.pointer e' =>e' ==e
    |_=>false
   |none=>false
  |none=>false
 |_=>false
def pW(T:TypeId→Option TyI) (mem:Mem) (e:TypeId):Option (AV×Mem):=
 match T e with
 |some i=>some (.ptr mem.length 0,mem++[.cells true (if Dx T e i then 1000*(e+1) else 0) (gO i.zero).cells])
 |none=>none
theorem vn(hH:HRel base μ mem w) (e:TypeId) (es:Nat) (hes:1000≤es→e+1=es / 1000) {cs:List AV}{V:Value}(h:VRels μ mem.length cs V.cells.toList):
  OpOk P (do pure (.pointer (some (←newVar e V)))) base μ mem w (.ptr mem.length 0) (mem++[.cells true es cs]):=by
 obtain⟨h1,h2⟩:=pE hH e V.cells es hes cs (fun j v hv=>by obtain⟨U,hU,hr⟩:=h.get j v hv;exact⟨U,by simpa using hU,hr⟩)
 refine⟨.pointer (some ⟨w.heap.size,0,none⟩),_,_,?_,?_,h1,h2⟩
 ·simp only[newVar,newRow,Sem.run_bind,run_newObj,Result.andThen_ok,Sem.run_pure]
  rfl
 ·simp[VRel,dA]
theorem G3(hT:cA P T) (hH:HRel base μ mem w) {e:TypeId}{v:AV}{mem' :Mem}(h:pW T mem e=some (v,mem')):
  OpOk P (Instr.alloc e true (.tuple #[])) base μ mem w v mem' :=by
 unfold pW at h;split at h
 ·rename_i i hi
  cases h;have:=vn (P:=P) hH e (if Dx T e i then 1000*(e+1) else 0) (by cases Dx T e i with | false=>simp | true=>simp only[if_true];intro _;rw[Nat.mul_div_cancel_left _ (by omega)]) (V:=i.zero) (ik μ mem.length i.zero);obtain⟨V,w',μ',h1,h2⟩:=this;refine⟨V,w',μ',?_,h2⟩;simp only[Instr.alloc,Sem.run_bind,dB hT hi,Result.andThen_ok];exact h1
 ·cases h
def SI(mem:Mem) (x:AV):Option (AV×Mem):=if x.known then some (.ptr mem.length 0,mem++[.cells true 0 x.cells]) else none
theorem MA(hH:HRel base μ mem w) {e:TypeId}{x v:AV}{mem' :Mem}{X:Value}(hx:VRel μ mem.length x X) (h:SI mem x=some (v,mem')):
  OpOk P (Instr.box e X) base μ mem w v mem' :=by
 unfold SI at h;split at h
 ·rename_i hk
  cases h;exact vn (P:=P) hH e 0 (by omega) (hx.cells hk)
 ·cases h
theorem Hd(hT:cA P T) (hH:HRel base μ mem w) {t:TypeId}{x v:AV}{mem' :Mem}{X V:Value}(hx:VRel μ mem.length x X) (hv:VRel μ mem.length v V)
  (h:pX T mem t x v=some mem'):∃w',(Instr.storeAt t X V).run P w=.ok () w' ∧HRel base μ mem' w' ∧Step mem.length μ mem w μ mem' w' :=by
 unfold pX at h;split at h
 ·rename_i i b o ht
  split at h
  ·rename_i es cs hb
   split at h
   ·rename_i hc
    cases h;simp only[Bool.and_eq_true,decide_eq_true_eq,List.all_eq_true] at hc;obtain⟨⟨⟨hk,hsz⟩,hfit⟩,hok⟩:=hc;obtain⟨hbn,rfl⟩:=hx.ptr;have hs:=hH.slot b _ hb;simp only[SRel] at hs;obtain⟨cur,el,fr,g1,g2,g3,g4,g5⟩:=hs;obtain⟨g6,g7,g8,g9⟩:=g5 trivial;subst g7;have hVc:=hv.cells hk;have hVl:V.cells.size=i.size:=by rw[←Array.length_toList,hVc.length,hsz]
    have h1:∀u∈V.cells.toList,u.oneCell' =true:=by
     intro u hu;obtain⟨j,hj⟩:=List.getElem?_of_mem hu;have hj' :j<v.cells.length:=by rw[←hVc.length];exact(List.getElem?_eq_some_iff.1 hj).1
     obtain⟨U,hU,hr⟩:=hVc.get j v.cells[j] (by simp[hj']);rw[hj] at hU;cases hU;exact hr.oneCell (hok _ (by simp))
    have hst:=run_storeCells_at (P:=P) (μ b).blk o el V.cells.toList 0 cur w g1 (by rw[hVc.length,hsz];omega) h1;refine⟨w.setRow (μ b).blk (cur.toList.take (o+0)++V.cells.toList++cur.toList.drop (o+0+V.cells.toList.length)).toArray,?_,hH.write hb (il hb) (fun _=>⟨_,List.getElem?_set_self (List.getElem?_eq_some_iff.1 hb).1,rfl⟩) rfl rfl rfl rfl (by simp[World.setRow]) (fun k hk=>setRow_other w _ k _ hk) ?_⟩
    ·simp only[Instr.storeAt,Instr.sureAddr,Sem.run_bind,Sem.run_pure,Result.andThen_ok,storeVar,cb hT ht,hVl,ne_eq,not_true_eq_false,if_false,g6,Nat.zero_add]
     exact hst
    ·simp only[SRel]
     refine⟨_,el,(0,0),setRow_heap w (μ b).blk cur _ el (0,0) g1,g2,?_,fun j u hu=>?_,fun _=>⟨g6,rfl,?_,g9⟩⟩
     ·simp only[List.length_append,List.length_take,List.length_drop,hsz];omega
     ·rw[g6] at g4
      have:=uK (cs:=cs) (vs:=v.cells) (Vs:=V.cells.toList) (o:=o) (cur:=cur.toList) (by rw[hsz];exact hfit) (fun j v hv=>by simpa using g4 j v hv) hVc j u (by rw[hsz];exact hu);obtain⟨U,hU,hr⟩:=this;refine⟨U,?_,hr⟩;rw[g6];simpa using hU
     ·simp only[List.size_toArray,List.length_append,List.length_take,List.length_drop,Array.length_toList,hVl];omega
   ·cases h
  ·cases h
 ·cases h
end
end Go.Eng
namespace Go.Eng
section
variable {P:Program}{T:TypeId→Option TyI}{μ:Nat→Place}{mem:Mem}{base:Nat}{w:World}
def fM(z:List AV):Nat→List AV
 |0=>[]
 |k+1=>z++fM z k
theorem fT(z:List AV):∀k,(fM z k).length=k*z.length
 |0=>by simp[fM]
 |k+1=>by simp[fM,fT z k,Nat.add_mul,Nat.add_comm]
theorem pH{n:Nat}{z:List AV}{Z:Array Value}(hz:VRels μ n z Z.toList):∀(k:Nat) (j:Nat) v,(fM z k)[j]? =some v→
  ∃V,Z[j%Z.size]! =V∧VRel μ n v V∧j<k*Z.size
 |0,j,v,h=>by simp[fM] at h
 |k+1,j,v,h=>by
  have hl:Z.size=z.length:=by rw[←Array.length_toList,hz.length]
  rw[fM] at h;by_cases hj:j<z.length
  ·rw[List.getElem?_append_left hj] at h
   obtain⟨V,hV,hr⟩:=hz.get j v h;refine⟨V,?_,hr,by rw[hl,Nat.add_mul];omega⟩;rw[Nat.mod_eq_of_lt (by omega)];have:Z[j]? =some V:=by simpa using hV
   simp[getElem!_def,this]
  ·rw[List.getElem?_append_right (by omega)] at h
   obtain⟨V,hV,hr,hb⟩:=pH hz k (j-z.length) v h;refine⟨V,?_,hr,by rw[hl] at hb ⊢;rw[Nat.add_mul];omega⟩;rw[←hV,hl];congr 1;rw[Nat.mod_eq_sub_mod (by omega)]
theorem BO{Z:Array Value}{m j:Nat}(h:j<m):((Array.range m).map (fun i=>Z[i%Z.size]!))[j]? =some (Z[j%Z.size]!):=by simp[h]
def eY(T:TypeId→Option TyI) (mem:Mem) (t:TypeId) (len:Nat) (parts:List (Nat×AV)):Option (AV×Mem):=
 match T t with
 |none=>none
 |some i=>
  match i.desc with
  |.slice e=>
   match T e with
   |none=>none
   |some j=>
    if len*j.size≤16777216∧0<j.size∧j.size<1000 then
     match nl (fun k=>some (k*j.size,j.size)) (fM (gO j.zero).cells len) parts with
     |some cs=>some (.slice mem.length 0 len none,mem++[.cells true j.size cs])
     |none=>none
    else none
  |_=>none
theorem uf(hT:cA P T) (hH:HRel base μ mem w) {t:TypeId}{len:Nat}{parts:List (Nat×AV)}{Parts:List (Nat×Value)}{v:AV}{mem' :Mem}
  (hp:Parts.map (·.1)=parts.map (·.1)) (hv:VRels μ mem.length (parts.map (·.2)) (Parts.map (·.2))) (h:eY T mem t len parts=some (v,mem')):
  OpOk P (Instr.buildSlice t len ⟨Parts⟩) base μ mem w v mem' :=by
 unfold eY at h;cases ht:T t with
 |none=>rw[ht] at h;cases h
 |some i=>
  rw[ht] at h;simp only at h;have hd:=(hT t i ht).desc;split at h
  ·rename_i e hdesc
   rw[hdesc] at hd;split at h
   ·cases h
   ·rename_i j hj
    split at h
    ·rename_i hc
     split at h
     ·rename_i cs hf
      cases h;have hz:=ik μ mem.length j.zero;have hzs:=(hT e j hj).zsize;have hzl:(gO j.zero).cells.length=j.size:=by rw[←hz.length,Array.length_toList,hzs]
      have hrow:VRels μ mem.length (fM (gO j.zero).cells len) ((Array.range (len*j.size)).map (fun i=>j.zero.cells[i%j.zero.cells.size]!)).toList:=by
       refine VRels.of_get (by simp[fT,hzl]) fun q u hu=>?_
       obtain⟨V,h1,h2,h3⟩:=pH hz len q u hu;refine⟨V,?_,h2⟩;have:=BO (Z:=j.zero.cells) (m:=len*j.size) (j:=q) (by rw[hzs] at h3;exact h3);rw[h1] at this;rw[Array.getElem?_toList];exact this
      obtain⟨Cs,hF,hCs⟩:=po hf hrow hp hv;obtain⟨h1,h2⟩:=pE hH e ⟨Cs⟩ j.size (by omega) cs (fun q u hu=>by obtain⟨U,hU,hr⟩:=hCs.get q u hu;exact⟨U,by simpa using hU,hr⟩)
      have hlen:Cs.length=len*j.size:=by
       rw[hCs.length];have:∀{pl:Nat→Option (Nat×Nat)}{ps:List (Nat×AV)}{a b:List AV},nl pl a ps=some b→b.length=a.length:=by
        intro pl ps;induction ps with
        |nil=>intro a b hh;simp only[nl,Option.some.injEq] at hh;rw[hh]
        |cons p ps ih=>
         obtain⟨pi,pv⟩:=p;intro a b hh;rw[nl] at hh;cases hpl:pl pi with
         |none=>rw[hpl] at hh;cases hh
         |some os=>
          obtain⟨off,size⟩:=os;rw[hpl] at hh;simp only at hh;split at hh
          ·rename_i hcc
           simp only[Bool.and_eq_true,decide_eq_true_eq] at hcc;rw[ih hh];simp only[List.length_append,List.length_take,List.length_drop];omega
          ·cases hh
       rw[this hf,fT,hzl]
      refine⟨.slice (some ⟨w.heap.size,0,none⟩) len len,_,_,?_,?_,h1,h2⟩
      ·simp only[Instr.buildSlice,Sem.run_bind,run_underlying hd,Result.andThen_ok,cb hT hj]
       rw[if_neg (by omega)];have hF' :=hF;rw[show(⟨((Array.range (len*j.size)).map (fun i=>j.zero.cells[i%j.zero.cells.size]!)).toList⟩:Array Value)=(Array.range (len*j.size)).map (fun i=>j.zero.cells[i%j.zero.cells.size]!) from rfl] at hF';by_cases h0:len*j.size=0
       ·rw[if_pos h0]
        rw[h0] at hF' ⊢;simp only[Sem.run_bind,Sem.run_pure,Result.andThen_ok,Array.range_zero',Array.map_empty] at hF' ⊢;rw[hF'];simp only[newRow,Sem.run_bind,run_newObj,Result.andThen_ok,Sem.run_pure];rfl
       ·rw[if_neg h0]
        simp only[Sem.run_bind,Sem.run_pure,Result.andThen_ok,dB hT hj];rw[hF'];simp only[newRow,Sem.run_bind,run_newObj,Result.andThen_ok,Sem.run_pure];rfl
      ·simp only[VRel,dA,ib,List.length_append,List.length_singleton]
       refine⟨by omega,?_⟩;simp only[Nat.sub_zero,hlen,List.size_toArray,Nat.mod_eq_of_lt hc.2.2,Nat.mul_div_cancel _ hc.2.1]
     ·cases h
    ·cases h
  ·cases h
end
end Go.Eng
namespace Go.Eng
theorem aj{n:Int}(h0: -9223372036854775808≤n) (h1:n≤9223372036854775807):IntKind.i64.wrap n=n:=by simp only[IntKind.wrap,IntKind.bits,IntKind.signed,Bool.true_and,ge_iff_le,decide_eq_true_eq,Nat.reduceSub];split<;>omega
section
variable {P:Program}{T:TypeId→Option TyI}{μ:Nat→Place}{mem:Mem}{base:Nat}{w:World}
def jj(T:TypeId→Option TyI) (mem:Mem) (t:TypeId) (l c:AV):Option (AV×Mem):=
 match T t with
 |none=>none
 |some i=>
  match i.desc,l,c with
  |.slice e,.int _ l,.int _ c=>
   match T e with
   |none=>none
   |some j=>
    if 0≤l∧l≤c∧(j.bytes:Int)*c≤281474976710656∧c≤281474976710656∧0<j.size∧j.size<1000 then
     some (.slice mem.length 0 l.toNat none,mem++[.cells true j.size (fM (gO j.zero).cells l.toNat)])
    else none
  |_,_,_=>none
theorem wM(hT:cA P T) (hH:HRel base μ mem w) {t:TypeId}{l c v:AV}{L C:Value}{mem' :Mem}
  (hl:VRel μ mem.length l L) (hc:VRel μ mem.length c C) (h:jj T mem t l c=some (v,mem')):
  OpOk P (Instr.makeSlice t L C) base μ mem w v mem' :=by
 unfold jj at h;cases ht:T t with
 |none=>rw[ht] at h;cases h
 |some i=>
  rw[ht] at h;simp only at h;have hd:=(hT t i ht).desc;split at h
  ·rename_i e k1 l k2 c hdesc
   rw[hdesc] at hd;split at h
   ·cases h
   ·rename_i j hj
    split at h
    ·rename_i hcd
     obtain⟨g1,g2,g3,g4,g5,g6⟩:=hcd;cases h;rw[hl.int,hc.int];have hz:=ik μ mem.length j.zero;have hzs:=(hT e j hj).zsize;have hzl:(gO j.zero).cells.length=j.size:=by rw[←hz.length,Array.length_toList,hzs]
     obtain⟨f,hf,hfs,hfb,hfz⟩:=vw hT hj w;have w1:IntKind.i64.wrap l=l:=aj (by omega) (by omega);have w2:IntKind.i64.wrap c=c:=aj (by omega) (by omega);obtain⟨h1,h2⟩:=pE hH e ((Array.range (c.toNat*j.size)).map (fun i=>j.zero.cells[i%j.zero.cells.size]!)) j.size (by omega) (fM (gO j.zero).cells l.toNat) (fun q u hu=>by obtain⟨V,e1,e2,e3⟩:=pH hz _ q u hu;refine⟨V,?_,e2⟩;rw[hzs] at e3;have hle:l.toNat*j.size≤c.toNat*j.size:=Nat.mul_le_mul_right _ (by omega);have:=BO (Z:=j.zero.cells) (m:=c.toNat*j.size) (j:=q) (by omega);rw[e1] at this;exact this)
     refine⟨.slice (some ⟨w.heap.size,0,none⟩) l.toNat c.toNat,_,_,?_,?_,h1,h2⟩
     ·have hb:¬(281474976710656<(f.bytes:Int)*c):=by rw[hfb];omega
      have hb2:¬((f.bytes:Int)*c>2 ^ 48):=by rw[hfb];omega
      have hc0:¬c<0:=by omega
      have hl0:¬l<0:=by omega
      have hlc:¬l>c:=by omega
      simp only[Instr.makeSlice,Sem.run_bind,run_underlying hd,asInt,asIntOf,Sem.run_pure,Result.andThen_ok,hf,w1,w2];have hcond:((decide (c<0)||decide ((f.bytes:Int)*c>2 ^ 48))||decide (l<0)||decide (l>c))=false:=by simp[hc0,hl0,hlc,hb]
      simp only[hcond,Bool.false_eq_true,if_false];have hask:∀n,(askRoom n).run P w=.ok () w:=by intro n;unfold askRoom;split<;>simp[mark,Sem.run]
      simp only[Sem.run_bind,hask,Result.andThen_ok,cb hT hj];by_cases h0:c.toNat*j.size=0
      ·rw[if_pos h0]
       rw[h0];simp only[Sem.run_bind,Sem.run_pure,Result.andThen_ok,Array.range_zero',Array.map_empty,newRow,run_newObj];rfl
      ·rw[if_neg h0]
       simp only[Sem.run_bind,Sem.run_pure,Result.andThen_ok,dB hT hj,newRow,run_newObj];rfl
     ·simp only[VRel,dA,ib,List.length_append,List.length_singleton]
      refine⟨by omega,?_⟩;simp only[Nat.sub_zero,Array.size_map,Array.size_range,Nat.mod_eq_of_lt g6,Nat.mul_div_cancel _ g5]
    ·cases h
  ·cases h
def fc(T:TypeId→Option TyI) (mem:Mem) (size:Nat) (t2:TypeId):AV→Option (Nat×List AV)
 |.nilslice=>some (0,[])
 |.slice b o m _=>match mem[b]? with
  |some (.cells _ _ cs)=>if o+m*size≤cs.length then some (m,(cs.drop o).take (m*size)) else none
  |_=>if m=0 then some (0,[]) else none
 |.str s=>match T t2 with
  |some i=>match i.desc with
   |.string=>if size=1 then some (s.length,s.map fun c=>.int .u8 c.toNat) else none
   |_=>none
  |none=>none
 |_=>none
def uL(i:TyI):Bool:=match i.desc with
 |.slice _=>true
 |.string=>true
 |_=>false
def sV(j:TyI) (e:TypeId):Nat:=match j.desc with
 |.int .u8=>j.size+1000*(e+1)
 |_=>j.size
def ia(T:TypeId→Option TyI) (mem:Mem) (t t2:TypeId) (s x:AV):Option (AV×Mem):=
 match T t with
 |none=>none
 |some i=>
  match i.desc with
  |.slice e=>
   match T e,T t2 with
   |some j,some i2=>
    if j.size=0∨1000≤j.size∨uL i2=false then none else
    match fc T mem j.size t2 x with
    |none=>none
    |some (m,news)=>
     if news.all AV.cellOk=true then
      match s with
      |.nilslice=>
       if m=0 then some (.nilslice,mem)
       else if m*j.bytes≤140737488355328∧m≤140737488355328 then some (.slice mem.length 0 m none,mem++[.cells true (sV j e) news])
       else none
      |.slice b 0 n none=>
       match mem[b]? with
       |some (.cells true es cs)=>
        if (es=j.size∨es=sV j e)∧n*j.size≤cs.length∧(n+m)*j.bytes≤140737488355328∧n+m≤140737488355328 then
         some (.slice mem.length 0 (n+m) none,mem.set b .absent++[.cells true es (cs.take (n*j.size)++news)])
        else none
       |_=>none
      |_=>none
     else none
   |_,_=>none
  |_=>none
theorem qf(hH:HRel base μ mem w) {size:Nat}{t2:TypeId}{x:AV}{X:Value}{m:Nat}{news:List AV}
  (hx:VRel μ mem.length x X) (h:fc T mem size t2 x=some (m,news)):
  ∃Ns,VRels μ mem.length news Ns∧news.length=m*size∧(Builtin.lenOf X).run P w=.ok m w∧
   ∀w',(∀a,w'.cell? a=w.cell? a)→(Builtin.firstCells size m X).run P w' =.ok ⟨Ns⟩ w' :=by
 unfold fc at h;split at h
 ·cases h
  simp only[VRel] at hx;subst hx;exact⟨[],by simp[VRels],by simp,by simp[Builtin.lenOf],fun w' _=>by simp[Builtin.firstCells]⟩
 ·rename_i b o k c
  split at h
  ·rename_i own es cs hb
   split at h
   ·rename_i hle
    cases h;obtain⟨hbn,rfl⟩:=hx.slice;obtain⟨Vs,h1,h2,h3⟩:=hH.cells hb hle;refine⟨Vs,h1,by simp;omega,by simp[Builtin.lenOf],fun w' hw=>?_⟩;exact run_firstCells_some w' size m _ _ _ Vs h2 (fun j v hv=>by rw[hw];exact h3 j v hv)
   ·cases h
  ·split at h
   ·rename_i h0
    cases h;subst h0;obtain⟨hbn,rfl⟩:=hx.slice;refine⟨[],by simp[VRels],by simp,by simp[Builtin.lenOf],fun w' hw=>?_⟩;exact run_firstCells_some w' size 0 _ _ _ [] (by simp) (fun j v hv=>by simp at hv)
   ·cases h
 ·rename_i s
  split at h
  ·split at h
   ·split at h
    ·rename_i hsz
     cases h;subst hsz;rw[hx.str];refine⟨s.map fun c=>.int .u8 c.toNat,?_,by simp,by simp[Builtin.lenOf,pe],fun w' _=>?_⟩
     ·refine VRels.of_get (by simp) fun i v hv=>?_
      simp only[List.getElem?_map,Option.map_eq_some_iff] at hv ⊢;obtain⟨c,hc,rfl⟩:=hv;exact⟨_,⟨c,hc,rfl⟩,by simp[VRel]⟩
     ·simp only[Builtin.firstCells,Sem.run_pure,Result.ok.injEq,and_true]
      have:(ByteArray.mk s.toArray).extract 0 s.length=⟨s.toArray⟩:=by apply ByteArray.ext;apply Array.ext';simp[List.extract]
      rw[this];simp
    ·cases h
   ·cases h
  ·cases h
 ·cases h
end
end Go.Eng
namespace Go.Eng
section
variable {P:Program}{T:TypeId→Option TyI}{μ:Nat→Place}{mem:Mem}{base:Nat}{w:World}
theorem qW(hT:cA P T) {t t2 ty e:TypeId}{j:TyI}(hd:P.underlying t=some (.slice e)) (hj:T e=some j)
  (ht2:(∃e2,P.underlying t2=some (.slice e2))∨P.underlying t2=some .string) (bs:Option Addr) (n c m:Nat) (X:Value) (w:World)
  (hl:(Builtin.lenOf X).run P w=.ok m w) (hfit:n+m≤c):
  (Builtin.append_ #[t,t2] ty #[.slice bs n c,X]).run P w=
   ((Builtin.firstCells j.size m X).run P w).andThen fun new w' =>match bs with
    |some a=>((storeCells (a.add (n*j.size)) new.toList).run P w').andThen fun _ w'' =>.ok (.slice bs (n+m) c) w''
    |none=>.ok (.slice bs (n+m) c) w' :=by
 rcases ht2 with⟨e2,hd2⟩ | hd2<;>
  simp[Builtin.append_,run_underlying hd,run_underlying hd2,cb hT hj,hl,hfit]<;>cases bs<;>simp
theorem yD(hT:cA P T) {t t2 ty e:TypeId}{j:TyI}(hd:P.underlying t=some (.slice e)) (hj:T e=some j)
  (ht2:(∃e2,P.underlying t2=some (.slice e2))∨P.underlying t2=some .string) (bs:Option Addr) (n c m:Nat) (X:Value) (w:World) (Os Ns:List Value)
  (hl:(Builtin.lenOf X).run P w=.ok m w) (hfit:c<n+m) (hb:(n+m)*j.bytes≤140737488355328) (hm:n+m≤140737488355328)
  (hO:(Builtin.firstCells j.size n (.slice bs n c)).run P w.drew=.ok ⟨Os⟩ w.drew)
  (hN:(Builtin.firstCells j.size m X).run P w.drew=.ok ⟨Ns⟩ w.drew):
  ∃nc,n+m≤nc∧(Builtin.append_ #[t,t2] ty #[.slice bs n c,X]).run P w=
   .ok (.slice (some ⟨w.heap.size,0,none⟩) (n+m) nc) (w.drew.alloc (.cells (⟨Os⟩++(⟨Ns⟩++Builtin.zeroCells j.zero.cells (nc-(n+m)))) e)):=by
 obtain⟨f,hf,hfs,hfb,hfz⟩:=(hT e j hj).info;have hnf:¬(n+m≤c):=by omega
 have h63:¬(9223372036854775807<((n:Int)+(m:Int))):=by omega
 have h48:¬(281474976710656<Builtin.nextslicecap (n+m) c*f.bytes):=by have:=growslice_fits hfit (bytes:=f.bytes) (by rw[hfb];exact hb);omega
 have hask:∀n w,(askRoom n).run P w=.ok () w:=by intro n w;unfold askRoom;split<;>simp[mark,Sem.run]
 refine⟨grownCap w (n+m) c e,grownCap_ge w (n+m) c e,?_⟩;rcases ht2 with⟨e2,hd2⟩ | hd2<;>
  simp[Builtin.append_,run_underlying hd,run_underlying hd2,sizeOf,typeInfo,zeroValue,hf,hfs,hfz,hl,hnf,h63,h48,Question.forced,hO,hN,newRow,grownCap,hask]
theorem HRel.drop{b:Nat}{s:Slot}(hH:HRel base μ mem w) (hb:mem[b]? =some s):HRel base μ (mem.set b .absent) w:=by
 have hlt:b<mem.length:=(List.getElem?_eq_some_iff.1 hb).1;have own:∀x,dF (mem.set b .absent) x→dF mem x∧x≠b:=by
  intro x hx;by_cases hxb:x=b
  ·subst hxb
   obtain⟨s0,hc,ho⟩:=hx;rw[List.getElem?_set_self hlt] at hc;cases hc;cases ho
  ·obtain⟨s0,hc,ho⟩:=hx
   rw[List.getElem?_set_ne (Ne.symm hxb)] at hc;exact⟨⟨s0,hc,ho⟩,hxb⟩
 refine⟨hH.base_le,fun x t ht=>?_,fun x x' t hx hx' hne hxx=>?_⟩
 ·rw[List.length_set]
  by_cases hxb:x=b
  ·subst hxb;rw[List.getElem?_set_self hlt] at ht;cases ht;trivial
  ·rw[List.getElem?_set_ne (Ne.symm hxb)] at ht;exact hH.slot x t ht
 ·by_cases hxb:x' =b
  ·subst hxb;rw[List.getElem?_set_self hlt] at hx';cases hx';exact absurd rfl hne
  ·rw[List.getElem?_set_ne (Ne.symm hxb)] at hx'
   exact hH.sep x x' t (own x hx).1 hx' hne hxx
theorem Step.drop{m0:Nat}{b:Nat}{μ:Nat→Place}{mem:Mem}{w:World}(h:m0≤mem.length):Step m0 μ mem w μ (mem.set b .absent) w:=by
 refine⟨by simpa using h,fun _ _=>rfl,rfl,rfl,rfl,Nat.le_refl _,fun _ _ _=>rfl,fun x hx _=>⟨x,?_,rfl⟩,Nat.le_refl _⟩;by_cases hxb:x=b
 ·subst hxb
  by_cases hlt:x<mem.length
  ·obtain⟨s0,hc,ho⟩:=hx
   rw[List.getElem?_set_self hlt] at hc;cases hc;cases ho
  ·obtain⟨s0,hc,ho⟩:=hx
   have:=(List.getElem?_eq_some_iff.1 hc).1;simp at this;omega
 ·obtain⟨s0,hc,ho⟩:=hx
  rw[List.getElem?_set_ne (Ne.symm hxb)] at hc;exact⟨s0,hc,ho⟩
theorem HRel.rename{b es:Nat}{cs cs' :List AV}{w' :World}(hH:HRel base μ mem w) (hb:mem[b]? =some (.cells true es cs))
  (hdr:w'.drawn=w.drawn) (hos:w'.os=w.os) (htape:w'.tape=w.tape) (hout:w'.output=w.output) (hsz:w'.heap.size=w.heap.size)
  (hoth:∀k,k≠(μ b).blk→w'.heap[k]? =w.heap[k]?) (hs:SRel μ mem.length base w' (μ b) (.cells true es cs')):
  HRel base (upd μ mem.length (μ b)) (mem.set b .absent++[.cells true es cs']) w' ∧
  Step mem.length μ mem w (upd μ mem.length (μ b)) (mem.set b .absent++[.cells true es cs']) w' :=by
 have hlt:b<mem.length:=(List.getElem?_eq_some_iff.1 hb).1;have hown:dF mem b:=il hb;have hw:=hH.write (s' :=.cells true es cs') hb hown (fun _=>⟨_,List.getElem?_set_self hlt,rfl⟩) hdr hos htape hout hsz hoth hs;have hμ:∀x,x<mem.length→upd μ mem.length (μ b) x=μ x:=fun x hx=>sZ hx
 have hlen:(mem.set b .absent).length=mem.length:=by simp
 have own:∀x,dF (mem.set b .absent++[.cells true es cs']) x→(x<mem.length∧x≠b∧dF mem x)∨x=mem.length:=by
  intro x hx;by_cases hxl:x<mem.length
  ·refine .inl ⟨hxl,?_⟩
   have hx' :dF (mem.set b .absent) x:=by obtain⟨s0,hc,ho⟩:=hx;rw[List.getElem?_append_left (by omega)] at hc;exact⟨s0,hc,ho⟩
   by_cases hxb:x=b
   ·subst hxb
    obtain⟨s0,hc,ho⟩:=hx';rw[List.getElem?_set_self hlt] at hc;cases hc;cases ho
   ·refine⟨hxb,?_⟩
    obtain⟨s0,hc,ho⟩:=hx';rw[List.getElem?_set_ne (Ne.symm hxb)] at hc;exact⟨s0,hc,ho⟩
  ·refine .inr ?_
   obtain⟨s0,hc,ho⟩:=hx;have:=(List.getElem?_eq_some_iff.1 hc).1;simp at this;omega
 constructor
 ·refine⟨hw.1.base_le,fun x t ht=>?_,fun x x' t hx hx' hne hxx=>?_⟩
  ·rw[List.length_append,List.length_singleton,hlen]
   by_cases hxl:x<mem.length
   ·rw[List.getElem?_append_left (by omega)] at ht
    rw[hμ x hxl];by_cases hxb:x=b
    ·subst hxb;rw[List.getElem?_set_self hlt] at ht;cases ht;trivial
    ·rw[List.getElem?_set_ne (Ne.symm hxb)] at ht
     have:=hw.1.slot x t (by rw[List.getElem?_set_ne (Ne.symm hxb)];exact ht);rw[List.length_set] at this;exact this.mono (Nat.le_succ _) hμ fun _=>rfl
   ·have hxe:x=mem.length:=by have:=(List.getElem?_eq_some_iff.1 ht).1;simp at this;omega
    subst hxe;rw[List.getElem?_append_right (by omega),hlen] at ht;simp at ht;subst ht;rw[dA];exact hs.mono (Nat.le_succ _) hμ fun _=>rfl
  ·have pres:∀y s,(mem.set b .absent++[.cells true es cs'])[y]? =some s→s≠ .absent→(y<mem.length∧y≠b∧mem[y]? =some s)∨y=mem.length:=by
    intro y s hy hns;by_cases hyl:y<mem.length
    ·rw[List.getElem?_append_left (by omega)] at hy
     by_cases hyb:y=b
     ·subst hyb;rw[List.getElem?_set_self hlt] at hy;cases hy;exact absurd rfl hns
     ·rw[List.getElem?_set_ne (Ne.symm hyb)] at hy;exact .inl ⟨hyl,hyb,hy⟩
    ·exact .inr (by have:=(List.getElem?_eq_some_iff.1 hy).1;simp at this;omega)
   rcases own x hx with⟨a1,a2,a3⟩ | rfl<;>rcases pres x' t hx' hne with⟨b1,b2,b3⟩ | rfl
   ·rw[hμ x a1,hμ x' b1];exact hH.sep x x' t a3 b3 hne hxx
   ·rw[hμ x a1,dA];exact hH.sep x b _ a3 hb (by simp) a2
   ·rw[hμ x' b1,dA];exact hH.sep b x' t hown b3 hne (Ne.symm b2)
   ·exact absurd rfl hxx
 ·refine⟨by simp,hμ,hos,htape,hout,by omega,fun k hk hf=>hoth k fun he=>hf b hown he.symm,fun x hx hlt' =>?_,Nat.le_of_eq hdr.symm⟩
  rcases own x hx with⟨a1,_,a3⟩ | rfl
  ·exact⟨x,a3,by rw[hμ x a1]⟩
  ·exact⟨b,hown,by rw[dA]⟩
end
end Go.Eng
namespace Go.Eng
section
variable {P:Program}{T:TypeId→Option TyI}{μ:Nat→Place}{mem:Mem}{base:Nat}{w:World}
theorem HRel.drew(h:HRel base μ mem w):HRel base μ mem w.drew:=h.sameHeap rfl
theorem VRels.all_oneCell{n:Nat}{vs:List AV}{Vs:List Value}(h:VRels μ n vs Vs) (ha:vs.all AV.cellOk=true):∀u∈Vs,u.oneCell' =true:=by
 intro u hu;obtain⟨j,hj⟩:=List.getElem?_of_mem hu;have hlt:j<vs.length:=by rw[←h.length];exact(List.getElem?_eq_some_iff.1 hj).1
 obtain⟨U,hU,hr⟩:=h.get j vs[j] (by simp[hlt]);rw[hj] at hU;cases hU;exact hr.oneCell (List.all_eq_true.1 ha _ (by simp))
theorem Dt{j:TyI}{e:TypeId}(h:j.size<1000):sV j e%1000=j.size∧(1000≤sV j e→e+1=sV j e / 1000):=by
 unfold sV;split
 ·refine⟨by rw[Nat.add_mul_mod_self_left,Nat.mod_eq_of_lt h],fun _=>by rw[Nat.add_mul_div_left _ _ (by omega),Nat.div_eq_of_lt h,Nat.zero_add]⟩
 ·exact⟨Nat.mod_eq_of_lt h,fun h1=>by omega⟩
theorem JX(hH:HRel base μ mem w) {e:TypeId}{size need nc es:Nat}(hes:es%1000=size∧(1000≤es→e+1=es / 1000)) {olds news:List AV}{Os Ns:List Value}{z:Array Value}(h0:0<size) (hz:z.size=size)
  (hO:VRels μ mem.length olds Os) (hN:VRels μ mem.length news Ns) (hl:olds.length+news.length=need*size) (hnc:need≤nc)
  {x:Sem Value}(hx:x.run P w=.ok (.slice (some ⟨w.heap.size,0,none⟩) need nc) (w.drew.alloc (.cells (⟨Os⟩++(⟨Ns⟩++Builtin.zeroCells z (nc-need))) e))):
  OpOk P x base μ mem w (.slice mem.length 0 need none) (mem++[.cells true es (olds++news)]):=by
 have hsz:(⟨Os⟩++(⟨Ns⟩++Builtin.zeroCells z (nc-need)):Array Value).size=nc*size:=by simp only[Array.size_append,List.size_toArray,size_zeroCells,hz,hO.length,hN.length];rw[←Nat.add_assoc,hl,←Nat.add_mul];congr 1;omega
 obtain⟨h1,h2⟩:=pE hH.drew e (⟨Os⟩++(⟨Ns⟩++Builtin.zeroCells z (nc-need))) es hes.2 (olds++news) (fun j v hv=>by obtain⟨U,hU,hr⟩:=(hO.append hN).get j v hv;refine⟨U,?_,hr⟩;have hlt:j<(Os++Ns).length:=(List.getElem?_eq_some_iff.1 hU).1;rw[←Array.append_assoc,Array.getElem?_append_left (by simpa using hlt)];simpa using hU)
 refine⟨_,_,_,hx,?_,h1,?_⟩
 ·simp only[VRel,dA,ib,List.length_append,List.length_singleton,World.size_drew]
  refine⟨by omega,?_⟩;rw[Nat.sub_zero,hsz,hes.1,Nat.mul_div_cancel _ h0]
 ·exact(Step.drew (m0:=mem.length) (Nat.le_refl _)).trans h2
theorem CM(hT:cA P T) (hH:HRel base μ mem w) {t t2 ty:TypeId}{s x v:AV}{S X:Value}{mem' :Mem}
  (hs:VRel μ mem.length s S) (hx:VRel μ mem.length x X) (h:ia T mem t t2 s x=some (v,mem')):
  OpOk P (Builtin.append_ #[t,t2] ty #[S,X]) base μ mem w v mem' :=by
 unfold ia at h;cases ht:T t with
 |none=>rw[ht] at h;cases h
 |some i=>
  rw[ht] at h;simp only at h;have hd:=(hT t i ht).desc;split at h
  ·rename_i e hdesc
   rw[hdesc] at hd;split at h
   ·rename_i j i2 hj hi2
    split at h
    ·cases h
    ·rename_i hcond
     have hd2:=(hT t2 i2 hi2).desc;have ht2:(∃e2,P.underlying t2=some (.slice e2))∨P.underlying t2=some .string:=by
      have hok:uL i2=true:=by
       cases h2:uL i2 with
       |true=>rfl
       |false=>exact absurd (.inr (.inr h2)) hcond
      unfold uL at hok;split at hok
      ·rename_i e2 h2;rw[h2] at hd2;exact .inl ⟨e2,hd2⟩
      ·rename_i h2;rw[h2] at hd2;exact .inr hd2
      ·cases hok
     have hsz:0<j.size:=by
      rcases Nat.eq_zero_or_pos j.size with h0 | h0
      ·exact absurd (.inl h0) hcond
      ·exact h0
     have hsk:j.size<1000:=by
      rcases Nat.lt_or_ge j.size 1000 with h0 | h0
      ·exact h0
      ·exact absurd (.inr (.inl h0)) hcond
     have hzs:=(hT e j hj).zsize;split at h
     ·cases h
     ·rename_i m news hsrc
      split at h
      ·rename_i hall
       obtain⟨Ns,g1,g2,g3,g4⟩:=qf (P:=P) hH hx hsrc;split at h
       ·
        simp only[VRel] at hs;subst hs;split at h
        ·rename_i hm
         cases h;subst hm;have hr:=qW hT (ty:=ty) hd hj ht2 none 0 0 0 X w g3 (Nat.le_refl _);rw[g4 w (fun _=>rfl)] at hr;exact OpOk.of_val hH ⟨_,hr,by simp[VRel]⟩
        ·rename_i hm
         split at h
         ·rename_i hb
          cases h;obtain⟨nc,hnc,hr⟩:=yD hT (ty:=ty) hd hj ht2 none 0 0 m X w [] Ns g3 (by omega) (by simpa using hb.1) (by simpa using hb.2) (by simp[Builtin.firstCells]) (g4 w.drew (fun _=>rfl));simp only[Nat.zero_add] at hr hnc;have:=JX (P:=P) hH (es:=sV j e) (Dt hsk) (olds:=[]) (news:=news) hsz hzs (by simp[VRels]) g1 (by simpa using g2) hnc hr;simpa using this
         ·cases h
       ·rename_i b n
        split at h
        ·rename_i es cs hb
         split at h
         ·rename_i hc
          obtain⟨k1,k2,k3,k4⟩:=hc;cases h;obtain⟨hbn,rfl⟩:=hs.slice;have hsl:=hH.slot b _ hb;simp only[SRel] at hsl;obtain⟨cur,el,fr,s1,s2,s3,s4,s5⟩:=hsl;obtain⟨s6,s7,s8,s9⟩:=s5 trivial;subst s7;have hes:es%1000=j.size∧(1000≤es→e+1=es / 1000):=by
           rcases k1 with rfl | rfl
           ·exact⟨Nat.mod_eq_of_lt hsk,fun h1=>by omega⟩
           ·exact Dt hsk
          have s2' :(μ b).es=j.size:=by rw[s2.1];exact hes.1
          have hcap:ib (μ b) 0 none=(μ b).tot / j.size:=by simp[ib,s2']
          have hoff:(μ b).off+0=0:=by omega
          rw[hoff,hcap];obtain⟨Os,o1,o2,o3⟩:=hH.cells hb (o:=0) (k:=n*j.size) (by omega);simp only[List.drop_zero] at o1;rw[hoff] at o3;have hes0:0<j.size:=hsz;by_cases hfit:n+m≤(μ b).tot / j.size
          ·have hr:=qW hT (ty:=ty) hd hj ht2 (some ⟨(μ b).blk,0,none⟩) n _ m X w g3 hfit
           rw[g4 w (fun _=>rfl)] at hr;have hmul:(n+m)*j.size≤(μ b).tot:=by have:=Nat.mul_le_mul_right j.size hfit;exact Nat.le_trans this (Nat.div_mul_le_self _ _)
           have hNl:Ns.length=m*j.size:=by rw[g1.length,g2,]
           have hst:=run_storeCells_at (P:=P) (μ b).blk (n*j.size) el Ns 0 cur w s1 (by rw[hNl,s8,Nat.add_zero,←Nat.add_mul];exact hmul) (g1.all_oneCell hall);simp only[Result.andThen_ok,Addr.add_lit,Nat.zero_add,hst] at hr;have hlen:cs.length≤cur.size:=by rw[s8];exact s3
           have hs' :SRel μ mem.length base (w.setRow (μ b).blk (cur.toList.take (n*j.size+0)++Ns++cur.toList.drop (n*j.size+0+Ns.length)).toArray) (μ b) (.cells true es (cs.take (n*j.size)++news)):=by
            simp only[SRel];refine⟨_,el,(0,0),setRow_heap w (μ b).blk cur _ el (0,0) s1,s2,?_,fun q u hu=>?_,fun _=>⟨s6,rfl,?_,s9⟩⟩
            ·simp only[List.length_append,List.length_take,g2]
             rw[Nat.add_mul] at hmul;omega
            ·rw[s6,Nat.zero_add]
             have e1:(cs.take (n*j.size)).length=n*j.size:=by simp;omega
             have e2:(cur.toList.take (n*j.size+0)).length=n*j.size:=by simp;omega
             simp only[List.getElem?_toArray,List.append_assoc];by_cases hq:q<n*j.size
             ·rw[List.getElem?_append_left (by omega),List.getElem?_take_of_lt hq] at hu
              rw[List.getElem?_append_left (by omega),List.getElem?_take_of_lt (by omega)];obtain⟨U,hU,hr⟩:=s4 q u hu;rw[s6,Nat.zero_add] at hU;exact⟨U,by simpa using hU,hr⟩
             ·rw[List.getElem?_append_right (by omega),e1] at hu
              rw[List.getElem?_append_right (by omega),e2];obtain⟨U,hU,hr⟩:=g1.get _ u hu;rw[List.getElem?_append_left (List.getElem?_eq_some_iff.1 hU).1];exact⟨U,hU,hr⟩
            ·simp only[List.size_toArray,List.length_append,List.length_take,List.length_drop,Array.length_toList,hNl]
             rw[Nat.add_mul] at hmul;omega
           obtain⟨r1,r2⟩:=hH.rename (w' :=w.setRow (μ b).blk (cur.toList.take (n*j.size+0)++Ns++cur.toList.drop (n*j.size+0+Ns.length)).toArray) hb rfl rfl rfl rfl (by simp[World.setRow]) (fun k hk=>setRow_other w _ k _ hk) hs';refine⟨_,_,_,hr,?_,r1,r2⟩;simp only[VRel,dA,ib,List.length_append,List.length_set,List.length_singleton];refine⟨by omega,?_⟩;rw[s2',s6];rfl
          ·have hO:(Builtin.firstCells j.size n (.slice (some ⟨(μ b).blk,0,none⟩) n ((μ b).tot / j.size))).run P w.drew=.ok ⟨Os⟩ w.drew:=
            run_firstCells_some w.drew j.size n _ _ _ Os (by rw[o2,]) (fun q u hq=>o3 q u hq)
           obtain⟨nc,hnc,hr⟩:=yD hT (ty:=ty) hd hj ht2 (some ⟨(μ b).blk,0,none⟩) n _ m X w Os Ns g3 (by omega) k3 k4 hO (g4 w.drew (fun _=>rfl));have hH2:=hH.drop hb;have hlen:(mem.set b .absent).length=mem.length:=by simp
           have:=JX (P:=P) hH2 (es:=es) hes (olds:=cs.take (n*j.size)) (news:=news) hsz hzs (by rw[hlen];exact o1) (by rw[hlen];exact g1) (by rw[List.length_take,g2,Nat.add_mul];omega) hnc hr;obtain⟨V,w',μ',q1,q2,q3,q4⟩:=this;rw[] at q2 q3 q4;rw[hlen] at q2 q4;exact⟨V,w',μ',q1,q2,q3,(Step.drop (b:=b) (Nat.le_refl _)).trans q4⟩
         ·cases h
        ·cases h
       ·cases h
      ·cases h
   ·cases h
  ·cases h
end
end Go.Eng
namespace Go.Eng
def Pn(T:TypeId→Option TyI) (q:TypeId→AV→Bool) (xs:List AV):List Field→Bool
 | []=>true
 |f::fs=>
  match T f.type with
  |none=>false
  |some i=>match im i xs f.offset with
   |some a=>q f.type a&&Pn T q xs fs
   |none=>false
def HG(q:AV→Bool) (i:TyI) (xs:List AV):List Nat→Bool
 | []=>true
 |j::js=>match im i xs (j*i.size) with
  |some a=>q a&&HG q i xs js
  |none=>false
def jN(T:TypeId→Option TyI):Nat→TypeId→AV→Bool
 |0,_,_=>false
 |d+1,t,x=>
  match T t with
  |none=>false
  |some i=>
   match i.desc,x with
   |.bool,.bool _=>true
   |.int _,.int _ _=>true
   |.string,.str _=>true
   |.struct fs,.agg xs=>Pn T (jN T d) xs fs.toList
   |.array n e,.agg xs=>match T e with
    |some j=>HG (jN T d e) j xs (List.range' 0 n)
    |none=>false
   |_,_=>false
def ig(T:TypeId→Option TyI) (kt:TypeId) (k:AV):List (AV×AV)→Nat→Option (Option (Nat×AV))
 | [],_=>some none
 |e::es,i=>match gT T 20 kt k e.1 with
  |some true=>some (some (i,e.2))
  |some false=>ig T kt k es (i+1)
  |none=>none
def AV.scalarKey:AV→Bool
 |.bool _ | .int _ _ | .str _=>true
 |_=>false
def ix(mem:Mem):AV→Option (List (AV×AV))
 |.nilmap=>some []
 |.map b=>match mem[b]? with
  |some (.map es)=>some es
  |some (.fmap es)=>some es
  |_=>none
 |_=>none
def jx(T:TypeId→Option TyI) (mem:Mem) (t:TypeId) (m k:AV) (ok:Bool):Option AV:=
 match T t with
 |none=>none
 |some i=>
  match i.desc with
  |.map kt et=>
   match T et,ix mem m with
   |some j,some es=>
    if jN T 20 kt k then
     match ig T kt k es 0 with
     |some (some (_,v))=>some (if ok then .tuple [v,.bool true] else v)
     |some none=>some (if ok then .tuple [gO j.zero,.bool false] else gO j.zero)
     |none=>none
    else none
   |_,_=>none
  |_=>none
def dU(T:TypeId→Option TyI) (mem:Mem) (t:TypeId) (m k v:AV):Option Mem:=
 match T t with
 |none=>none
 |some i=>
  match i.desc,m with
  |.map kt _,.map b=>
   match mem[b]? with
   |some (.map es)=>
    if jN T 20 kt k then
     match ig T kt k es 0 with
     |some (some (i,_))=>if k.scalarKey then some (mem.set b (.map (es.set i (k,v)))) else none
     |some none=>some (mem.set b (.map (es++[(k,v)])))
     |none=>none
    else none
   |_=>none
  |_,_=>none
section
variable {P:Program}{T:TypeId→Option TyI}{μ:Nat→Place}{mem:Mem}{base:Nat}{w:World}{n:Nat}
theorem y8(hT:cA P T) {d:Nat}{q:TypeId→AV→Bool}{em:Bool}
  (ih:∀{t:TypeId}{x:AV}{X:Value},q t x=true→VRel μ n x X→∀(w:World),(Instr.checkKey em d t X).run P w=.ok () w)
  {xs:List AV}{Xs:List Value}(hx:VRels μ n xs Xs) (w:World):∀{fs:List Field},Pn T q xs fs=true→
  ((forIn fs PUnit.unit fun f _=>(do
    if f.name ≠ "_" then
     let a ←part f.type ⟨Xs⟩ f.offset
     Instr.checkKey em d f.type a
     pure (ForInStep.yield PUnit.unit)
    else pure (ForInStep.yield PUnit.unit):Sem (ForInStep PUnit))).run P w=.ok PUnit.unit w)
 | [],_=>by simp
 |f::fs,h=>by
  rw[Pn] at h;split at h
  ·cases h
  ·rename_i i ht
   split at h
   ·rename_i a ha
    simp only[Bool.and_eq_true] at h;obtain⟨A,hA,hrA⟩:=gF (P:=P) (μ:=μ) (n:=n) hT ht ha hx w;have h1:=ih h.1 hrA w;have h2:=y8 hT ih hx w h.2;rw[List.forIn_cons];by_cases hname:f.name = "_"
    ·simp only[hname,ne_eq,not_true_eq_false,if_false,pure_bind]
     simp only[ne_eq] at h2;exact h2
    ·simp only[hname,ne_eq,not_false_eq_true,if_true,Sem.run_bind,hA,h1,Result.andThen_ok,Sem.run_pure]
     exact h2
   ·cases h
theorem y7(hT:cA P T) {d:Nat}{e:TypeId}{i:TyI}(hi:T e=some i) {q:AV→Bool}{em:Bool}
  (ih:∀{x:AV}{X:Value},q x=true→VRel μ n x X→∀(w:World),(Instr.checkKey em d e X).run P w=.ok () w)
  {xs:List AV}{Xs:List Value}(hx:VRels μ n xs Xs) (w:World):∀{js:List Nat},HG q i xs js=true→
  ((forIn js PUnit.unit fun j _=>(do
    let s ←sizeOf e
    let a ←part e ⟨Xs⟩ (j*s)
    Instr.checkKey em d e a
    pure (ForInStep.yield PUnit.unit):Sem (ForInStep PUnit))).run P w=.ok PUnit.unit w)
 | [],_=>by simp
 |j::js,h=>by
  rw[HG] at h;split at h
  ·rename_i a ha
   simp only[Bool.and_eq_true] at h;obtain⟨A,hA,hrA⟩:=gF (P:=P) (μ:=μ) (n:=n) hT hi ha hx w;have h1:=ih h.1 hrA w;have h2:=y7 hT hi ih hx w h.2;rw[List.forIn_cons];simp only[Sem.run_bind,cb hT hi,hA,h1,Result.andThen_ok,Sem.run_pure];exact h2
  ·cases h
theorem jz(hT:cA P T) (em:Bool):∀(d:Nat) {t:TypeId}{x:AV}{X:Value},jN T d t x=true→VRel μ n x X→
  ∀(k:Nat) (w:World),(Instr.checkKey em (d+k) t X).run P w=.ok () w
 |0,_,_,_,h,_,_,_=>by simp[jN] at h
 |d+1,t,x,X,h,hx,k,w=>by
  rw[jN] at h;rw[show d+1+k=d+k+1 by omega];cases ht:T t with
  |none=>rw[ht] at h;cases h
  |some i=>
   rw[ht] at h;simp only at h;have hd:=(hT t i ht).desc;split at h
   ·rename_i hdesc;rw[hdesc] at hd;rw[hx.bool,Instr.checkKey];simp[run_underlying hd]
   ·rename_i hdesc;rw[hdesc] at hd;rw[hx.int,Instr.checkKey];simp[run_underlying hd]
   ·rename_i hdesc;rw[hdesc] at hd;rw[hx.str,Instr.checkKey];simp[run_underlying hd]
   ·rename_i fs xs hdesc
    rw[hdesc] at hd;obtain⟨Xs,rfl,hxs⟩:=hx.agg;have:=y8 (em:=em) hT (fun h1 h2 w=>jz hT em d h1 h2 k w) hxs w h;rw[Instr.checkKey];simp only[Sem.run_bind,run_underlying hd,Result.andThen_ok];rw[←Array.forIn_toList];rw[this];rfl
   ·rename_i m e xs hdesc
    rw[hdesc] at hd;split at h
    ·rename_i j hj
     obtain⟨Xs,rfl,hxs⟩:=hx.agg;have:=y7 (em:=em) hT hj (fun h1 h2 w=>jz hT em d h1 h2 k w) hxs w h;rw[Instr.checkKey];simp only[Sem.run_bind,run_underlying hd,Result.andThen_ok];simp only[Std.Legacy.Range.forIn_eq_forIn_range',Std.Legacy.Range.size,Nat.sub_zero,Nat.add_sub_cancel,Nat.div_one];rw[this];rfl
    ·cases h
   ·cases h
def Ky(μ:Nat→Place) (n:Nat):Option (Nat×AV)→Option (Nat×Value)→Prop
 |some (a,v),some (b,V)=>a=b∧VRel μ n v V
 |none,none=>True
 |_,_=>False
theorem na(hT:cA P T) {kt:TypeId}{k:AV}{K:Value}(hk:VRel μ n k K) (w:World):∀{es:List (AV×AV)}{Es:List MapEntry}{i:Nat}{r:Option (Nat×AV)},
  Es.length=es.length→(∀(j:Nat) e,es[j]? =some e→∃E,Es[j]? =some E∧Lf μ n e E)→ig T kt k es i=some r→
  ∃R,(Instr.findAsking kt K Es i).run P w=.ok R w∧Ky μ n r R
 | [],Es,i,r,hl,_,h=>by have:Es=[]:=List.eq_nil_of_length_eq_zero hl;subst this;simp only[ig,Option.some.injEq] at h;subst h;exact⟨none,by simp[Instr.findAsking],trivial⟩
 |e::es,[],i,r,hl,_,h=>by simp at hl
 |e::es,E::Es,i,r,hl,hr,h=>by
  rw[ig] at h;obtain⟨E',h1,h2⟩:=hr 0 e rfl;simp at h1;subst h1;have hrest:∀(j:Nat) e',es[j]? =some e' →∃E',Es[j]? =some E' ∧Lf μ n e' E' :=fun j e' he=>by simpa using hr (j+1) e' (by simpa using he)
  split at h
  ·rename_i heq
   cases h;have:=gC hT 20 heq hk h2.1 9980 w;refine⟨some (i,E.val),?_,rfl,h2.2⟩;simp only[Instr.findAsking,Sem.run_bind];rw[show Op.equal kt K E.key=Op.equalIn (20+9980) kt K E.key from rfl,this];simp
  ·rename_i heq
   have:=gC hT 20 heq hk h2.1 9980 w;obtain⟨R,g1,g2⟩:=na hT hk w (by simpa using hl) hrest h;refine⟨R,?_,g2⟩;simp only[Instr.findAsking,Sem.run_bind];rw[show Op.equal kt K E.key=Op.equalIn (20+9980) kt K E.key from rfl,this];simpa using g1
  ·cases h
theorem p9(hT:cA P T) {kt:TypeId}{kd:TypeDesc}(hkd:P.underlying kt=some kd) {k:AV}{K:Value}(hk:VRel μ n k K) (w:World):
  ∀{es:List (AV×AV)}{Es:List MapEntry}{i:Nat}{r:Option (Nat×AV)}{R:Option (Nat×Value)},
  Es.length=es.length→(∀(j:Nat) e,es[j]? =some e→∃E,Es[j]? =some E∧Lf μ n e E)→ig T kt k es i=some r→Instr.findNow kd K Es i=some R→
  (Instr.findAsking kt K Es i).run P w=.ok R w
 | [],Es,i,r,R,hl,_,_,h=>by have:Es=[]:=List.eq_nil_of_length_eq_zero hl;subst this;simp only[Instr.findNow,Option.some.injEq] at h;subst h;simp[Instr.findAsking]
 |e::es,[],i,r,R,hl,_,_,h=>by simp at hl
 |e::es,E::Es,i,r,R,hl,hr,hf,h=>by
  obtain⟨E',h1,h2⟩:=hr 0 e rfl;simp at h1;subst h1;have hrest:∀(j:Nat) e',es[j]? =some e' →∃E',Es[j]? =some E' ∧Lf μ n e' E' :=fun j e' he=>by simpa using hr (j+1) e' (by simpa using he)
  rw[ig] at hf;have key:∀b,gT T 20 kt k e.1=some b→∀b',Instr.sameNow kd K E.key=some b' →b' =b:=by
   intro b hb b' hb';have he:=gC hT 20 hb hk h2.1 9980 w;unfold Instr.sameNow at hb';split at hb'
   ·rename_i k1 a k2 c hK hE
    split at hb'
    ·rename_i hkk
     cases hb';rw[hE] at he;subst hkk;rw[run_equalIn_int w _ kt _ _ _ _ hkd] at he;cases he;rfl
    ·cases hb'
   ·rename_i a c hK hE
    cases hb';rw[hE] at he;rw[run_equalIn_string w _ kt _ _ hkd] at he;cases he;rw[beq_toListBytes]
   ·rename_i a c hK hE
    cases hb';rw[hE] at he;rw[run_equalIn_bool' w _ kt _ _ hkd] at he;cases he;rfl
   ·cases hb'
  rw[Instr.findNow] at h;have step:∀b,gT T 20 kt k e.1=some b→(Instr.findAsking kt K (E::Es) i).run P w=if b then .ok (some (i,E.val)) w else (Instr.findAsking kt K Es (i+1)).run P w:=by intro b hb;have he:=gC hT 20 hb hk h2.1 9980 w;simp only[Instr.findAsking,Sem.run_bind];rw[show Op.equal kt K E.key=Op.equalIn (20+9980) kt K E.key from rfl,he];cases b<;>simp
  split at hf
  ·rename_i heq
   rw[step _ heq];cases hs:Instr.sameNow kd K E.key with
   |none=>rw[hs] at h;cases h
   |some b' =>
    have:=key _ heq _ hs;subst this;rw[hs] at h;simp only[Option.some.injEq] at h;subst h;simp
  ·rename_i heq
   rw[step _ heq];cases hs:Instr.sameNow kd K E.key with
   |none=>rw[hs] at h;cases h
   |some b' =>
    have:=key _ heq _ hs;subst this;rw[hs] at h;simp only at h;simpa using p9 hT hkd hk w (by simpa using hl) hrest hf h
  ·cases hf
theorem fP(hT:cA P T) {kt:TypeId}{ki:TyI}(hki:T kt=some ki) {k:AV}{K:Value}(hk:VRel μ n k K) {es:List (AV×AV)}{Es:List MapEntry}{r:Option (Nat×AV)}
  (hl:Es.length=es.length) (hr:∀(j:Nat) e,es[j]? =some e→∃E,Es[j]? =some E∧Lf μ n e E) (h:ig T kt k es 0=some r) (w:World):
  ∃R,(Instr.findKey kt K Es).run P w=.ok R w∧Ky μ n r R:=by
 have hkd:=(hT kt ki hki).desc;obtain⟨R,g1,g2⟩:=na hT hk w hl hr h;refine⟨R,?_,g2⟩;simp only[Instr.findKey,Sem.run_bind,run_underlying hkd,Result.andThen_ok];cases hn:Instr.findNow ki.desc K Es 0 with
 |none=>simpa using g1
 |some R' =>
  have:=p9 hT hkd hk w hl hr h hn;rw[this] at g1;cases g1;simp
theorem CN(hT:cA P T) (hH:HRel base μ mem w) {t:TypeId}{m k v:AV}{M K:Value}{ok:Bool}(hm:VRel μ mem.length m M) (hk:VRel μ mem.length k K)
  (h:jx T mem t m k ok=some v):Val P (Instr.lookup t M K ok) w μ mem.length v:=by
 unfold jx at h;cases ht:T t with
 |none=>rw[ht] at h;cases h
 |some i=>
  rw[ht] at h;simp only at h;have hd:=(hT t i ht).desc;split at h
  ·rename_i kt et hdesc
   rw[hdesc] at hd;split at h
   ·rename_i j es hj hes
    split at h
    ·rename_i hok
     have hents:∃Es:Array MapEntry,(M=.map none∧Es= #[]∨∃r c,M=.map (some r)∧(getObj r).run P w=.ok (.map Es c) w)∧Es.toList.length=es.length∧
       ∀(j:Nat) e,es[j]? =some e→∃E,Es.toList[j]? =some E∧Lf μ mem.length e E:=by
      unfold ix at hes;split at hes
      ·cases hes
       simp only[VRel] at hm;subst hm;exact⟨#[],.inl ⟨rfl,rfl⟩,rfl,by simp⟩
      ·rename_i b
       split at hes
       ·rename_i es' hb
        cases hes;simp only[VRel] at hm;obtain⟨_,rfl⟩:=hm;have hs:=hH.slot b _ hb;simp only[SRel] at hs;obtain⟨ents,clock,h1,_,h2,h3⟩:=hs;refine⟨ents,.inr ⟨_,clock,rfl,by simp[getObj,Sem.run,h1]⟩,by simpa using h2,fun j e he=>?_⟩;obtain⟨E,hE,hr⟩:=h3 j e he;exact⟨E,by simpa using hE,hr⟩
       ·rename_i es' hb
        cases hes;simp only[VRel] at hm;obtain⟨_,rfl⟩:=hm;have hs:=hH.slot b _ hb;simp only[SRel] at hs;obtain⟨ents,clock,h1,_,h2,h3⟩:=hs;refine⟨ents,.inr ⟨_,clock,rfl,by simp[getObj,Sem.run,h1]⟩,by simpa using h2,fun j e he=>?_⟩;obtain⟨E,hE,hr⟩:=h3 j e he;exact⟨E,by simpa using hE,hr⟩
       ·cases hes
      ·cases hes
     obtain⟨Es,e1,e2,e3⟩:=hents;have hck:=jz (P:=P) (n:=mem.length) hT Es.isEmpty 20 hok hk 9980 w;have hkt:∃ki,T kt=some ki:=by
      rw[jN] at hok;cases hx:T kt with
      |none=>rw[hx] at hok;cases hok
      |some ki=>exact⟨ki,rfl⟩
     obtain⟨ki,hki⟩:=hkt;split at h
     ·rename_i q v' hf
      cases h;obtain⟨R,g1,g2⟩:=fP hT hki hk e2 e3 hf w;cases R with
      |none=>exact g2.elim
      |some x=>
       obtain⟨_,V⟩:=x;have hv:=g2.2;refine⟨if ok then .tuple #[V,.bool true] else V,?_,?_⟩
       ·rcases e1 with⟨rfl,rfl⟩ | ⟨r,c,rfl,e1⟩
        ·simp only[Instr.lookup,Sem.run_bind,run_underlying hd,Result.andThen_ok,Sem.run_pure]
         rw[show(10000:Nat)=20+9980 from rfl,hck];simp only[Result.andThen_ok,g1,Sem.run_pure,Sem.run_bind]
        ·simp only[Instr.lookup,Sem.run_bind,run_underlying hd,Result.andThen_ok,e1,Sem.run_pure]
         rw[show(10000:Nat)=20+9980 from rfl,hck];simp only[Result.andThen_ok,g1,Sem.run_pure,Sem.run_bind]
       ·cases ok
        ·exact hv
        ·simp only[if_true,VRel];exact⟨[V,.bool true],rfl,aY.2 ⟨hv,aY.2 ⟨by simp[VRel],by simp[VRels]⟩⟩⟩
     ·rename_i hf
      cases h;obtain⟨R,g1,g2⟩:=fP hT hki hk e2 e3 hf w;cases R with
      |some x=>exact g2.elim
      |none=>
       have hv:=ud μ mem.length j.zero;refine⟨if ok then .tuple #[j.zero,.bool false] else j.zero,?_,?_⟩
       ·rcases e1 with⟨rfl,rfl⟩ | ⟨r,c,rfl,e1⟩
        ·simp only[Instr.lookup,Sem.run_bind,run_underlying hd,Result.andThen_ok,Sem.run_pure]
         rw[show(10000:Nat)=20+9980 from rfl,hck];simp only[Result.andThen_ok,g1,Sem.run_pure,Sem.run_bind,dB hT hj]
        ·simp only[Instr.lookup,Sem.run_bind,run_underlying hd,Result.andThen_ok,e1,Sem.run_pure]
         rw[show(10000:Nat)=20+9980 from rfl,hck];simp only[Result.andThen_ok,g1,Sem.run_pure,Sem.run_bind,dB hT hj]
       ·cases ok
        ·exact hv
        ·simp only[if_true,VRel];exact⟨[j.zero,.bool false],rfl,aY.2 ⟨hv,aY.2 ⟨by simp[VRel],by simp[VRels]⟩⟩⟩
     ·cases h
    ·cases h
   ·cases h
  ·cases h
theorem oS{k:AV}{K K' :Value}{e:AV}{b:Bool}{kt:TypeId}(hs:k.scalarKey=true) (hk:VRel μ n k K) (he:VRel μ n e K') (h:gT T 20 kt k e=some b) (hb:b=true):
  Instr.sameBits 10000 K' K=true:=by
 subst hb;rw[gT] at h;cases ht:T kt with
 |none=>rw[ht] at h;cases h
 |some i=>
  rw[ht] at h;simp only at h;split at h
  ·rw[hk.bool,he.bool]
   simp only[Option.some.injEq] at h;simp only[Instr.sameBits];rw[beq_iff_eq] at h ⊢;exact h.symm
  ·split at h
   ·rename_i hkk
    subst hkk;simp only[Option.some.injEq,decide_eq_true_eq] at h;rw[hk.int,he.int,h];simp[Instr.sameBits]
   ·cases h
  ·rw[hk.str,he.str]
   simp only[Option.some.injEq,beq_iff_eq] at h;rw[h];simp only[Instr.sameBits];rw[beq_toListBytes];simp
  ·cases hs
  ·cases hs
  ·cases h
theorem lJ{kt:TypeId}{k:AV}:∀{es:List (AV×AV)}{i q:Nat}{v:AV},ig T kt k es i=some (some (q,v))→∃j e,q=i+j∧es[j]? =some e∧gT T 20 kt k e.1=some true
 | [],i,q,v,h=>by simp[ig] at h
 |e::es,i,q,v,h=>by
  rw[ig] at h;split at h
  ·rename_i heq;cases h;exact⟨0,e,rfl,rfl,heq⟩
  ·obtain⟨j,e',h1,h2,h3⟩:=lJ h
   exact⟨j+1,e',by omega,by simpa using h2,h3⟩
  ·cases h
theorem pF{r:Nat}{o o' :Obj}(h:w.heap[r]? =some o) (ho:∀c e f,o≠ .cells c e f):(setObj r o').run P w=.ok () { w with heap:=w.heap.setIfInBounds r o' }:=by simp only[setObj,Sem.run,h];try (split<;>first | (rename_i hh;cases hh;exact absurd rfl (ho _ _ _)) | rfl | simp_all)
theorem wP(hT:cA P T) (hH:HRel base μ mem w) {t:TypeId}{m k v:AV}{M K V:Value}{mem' :Mem}(hm:VRel μ mem.length m M) (hk:VRel μ mem.length k K) (hv:VRel μ mem.length v V)
  (h:dU T mem t m k v=some mem'):∃w',(Instr.mapUpdate t M K V).run P w=.ok () w' ∧HRel base μ mem' w' ∧Step mem.length μ mem w μ mem' w' :=by
 unfold dU at h;cases ht:T t with
 |none=>rw[ht] at h;cases h
 |some i=>
  rw[ht] at h;simp only at h;have hd:=(hT t i ht).desc;split at h
  ·rename_i kt et b hdesc
   rw[hdesc] at hd;split at h
   ·rename_i es hb
    split at h
    ·rename_i hok
     simp only[VRel] at hm;obtain⟨hbn,rfl⟩:=hm;have hs:=hH.slot b _ hb;simp only[SRel] at hs;obtain⟨ents,clock,h1,h1b,h2,h3⟩:=hs;have hg:(getObj (μ b).blk).run P w=.ok (.map ents clock) w:=by simp[getObj,Sem.run,h1]
     have hck:=jz (P:=P) (n:=mem.length) hT false 20 hok hk 9980 w;have hkt:∃ki,T kt=some ki:=by
      rw[jN] at hok;cases hx:T kt with
      |none=>rw[hx] at hok;cases hok
      |some ki=>exact⟨ki,rfl⟩
     obtain⟨ki,hki⟩:=hkt;have e2:ents.toList.length=es.length:=by simpa using h2
     have e3:∀(j:Nat) e,es[j]? =some e→∃E,ents.toList[j]? =some E∧Lf μ mem.length e E:=fun j e he=>by obtain⟨E,hE,hr⟩:=h3 j e he;exact⟨E,by simpa using hE,hr⟩
     have hlt:(μ b).blk<w.heap.size:=(Array.getElem?_eq_some_iff.1 h1).1;have fin:∀(ents' :Array MapEntry) (clock' :Nat) (es' :List (AV×AV)),AH ents' clock' →ents'.size=es'.length→(∀(j:Nat) e,es'[j]? =some e→∃E,ents'[j]? =some E∧Lf μ mem.length e E)→
       (setObj (μ b).blk (.map ents' clock')).run P w=.ok () { w with heap:=w.heap.setIfInBounds (μ b).blk (.map ents' clock') }∧
       HRel base μ (mem.set b (.map es')) { w with heap:=w.heap.setIfInBounds (μ b).blk (.map ents' clock') }∧Step mem.length μ mem w μ (mem.set b (.map es')) { w with heap:=w.heap.setIfInBounds (μ b).blk (.map ents' clock') }:=by
      intro ents' clock' es' g0 g1 g2;refine⟨pF h1 (by simp),hH.write hb (HW hb) (fun _=>⟨_,List.getElem?_set_self (List.getElem?_eq_some_iff.1 hb).1,rfl⟩) rfl rfl rfl rfl (by simp) (fun q hq=>?_) ?_⟩
      ·simp[Array.getElem?_setIfInBounds_ne (Ne.symm hq)]
      ·simp only[SRel]
       exact⟨ents',clock',by simp[hlt],⟨h1b.1,g0⟩,g1,g2⟩
     split at h
     ·rename_i q v' hf
      split at h
      ·rename_i hsc
       cases h;obtain⟨R,g1,g2⟩:=fP hT hki hk e2 e3 hf w;cases R with
       |none=>exact g2.elim
       |some x=>
        obtain⟨q',V'⟩:=x;obtain⟨rfl,_⟩:=g2;obtain⟨j,e,hq,he,heq⟩:=lJ hf;have hq' :q=j:=by omega
        subst hq';obtain⟨E,hE,hr⟩:=h3 q e he;have hsb:=oS (μ:=μ) (n:=mem.length) hsc hk hr.1 heq rfl;obtain⟨f1,f2,f3⟩:=fin (ents.modify q fun e=>{ e with key:=K,val:=V }) clock (es.set q (k,v)) ⟨by simpa using h1b.2.1,fun j E' hE' =>by
         rw[Array.getElem?_modify] at hE';split at hE'
         ·simp only[Option.map_eq_some_iff] at hE'
          obtain⟨E0,k1,rfl⟩:=hE';exact h1b.2.2 j E0 k1
         ·exact h1b.2.2 j E' hE'⟩ (by simpa using h2) (fun j e' he' =>by
         rw[List.getElem?_set] at he';by_cases hjq:q=j
         ·subst hjq
          have hlt' :q<es.length:=(List.getElem?_eq_some_iff.1 he).1;simp only[if_true,hlt',Option.some.injEq] at he';subst he';exact⟨{ E with key:=K,val:=V },by simp[Array.getElem?_modify,hE],hk,hv⟩
         ·rw[if_neg hjq] at he'
          obtain⟨E',hE',hr'⟩:=h3 j e' he';exact⟨E',by simp[Array.getElem?_modify,hjq,hE'],hr'⟩)
        refine⟨_,?_,f2,f3⟩;simp only[Instr.mapUpdate,Sem.run_bind,run_underlying hd,Result.andThen_ok,hg];rw[show(10000:Nat)=20+9980 from rfl,hck];simp only[Result.andThen_ok,g1,Sem.run_bind];have hstay:(Instr.keyThatStays (((ents[q]?).map (·.key)).getD K) K).run P w=.ok K w:=by unfold Instr.keyThatStays;rw[hE];simp only[Option.map_some,Option.getD_some,hsb,if_true];rfl
        rw[hstay];simpa using f1
      ·cases h
     ·rename_i hf
      cases h;obtain⟨R,g1,g2⟩:=fP hT hki hk e2 e3 hf w;cases R with
      |some x=>exact g2.elim
      |none=>
       obtain⟨f1,f2,f3⟩:=fin (ents.push { key:=K,val:=V,born:=clock }) (clock+1) (es++[(k,v)]) ⟨by simp[h1b.2.1],fun j E' hE' =>by
        rw[Array.getElem?_push] at hE';split at hE'
        ·rename_i hj;cases hE';rw[hj];exact h1b.2.1
        ·exact h1b.2.2 j E' hE'⟩ (by simp[h2]) (fun j e' he' =>by
        by_cases hj:j<es.length
        ·rw[List.getElem?_append_left hj] at he'
         obtain⟨E',hE',hr'⟩:=h3 j e' he';exact⟨E',by rw[Array.getElem?_push,if_neg (by omega)];exact hE',hr'⟩
        ·have hje:j=es.length:=by have:=(List.getElem?_eq_some_iff.1 he').1;simp at this;omega
         subst hje;simp at he';subst he';exact⟨{ key:=K,val:=V,born:=clock },by rw[Array.getElem?_push,if_pos h2.symm],hk,hv⟩)
       refine⟨_,?_,f2,f3⟩;simp only[Instr.mapUpdate,Sem.run_bind,run_underlying hd,Result.andThen_ok,hg];rw[show(10000:Nat)=20+9980 from rfl,hck];simp only[Result.andThen_ok,g1];exact f1
     ·cases h
    ·cases h
   ·cases h
  ·cases h
theorem Di(hH:HRel base μ mem w) {t:TypeId}:OpOk P (Instr.makeMap t none) base μ mem w (.map mem.length) (mem++[.map []]):=by
 obtain⟨h1,h2⟩:=hH.push (.map #[] 0) (.map []) ⟨w.heap.size,0,0,0⟩ rfl (by simp only[SRel];exact⟨#[],0,heap_alloc_new w _,⟨hH.base_le,rfl,by simp⟩,rfl,by simp⟩)
 refine⟨.map (some w.heap.size),_,_,?_,?_,h1,h2⟩
 ·simp only[Instr.makeMap,Sem.run_bind,Sem.run_pure,run_newObj,Result.andThen_ok]
  rfl
 ·simp[VRel,dA]
end
end Go.Eng
namespace Go.Eng
def yK:List AV→Option (List UInt8)
 | []=>some []
 |.int .u8 n::l=>if 0≤n∧n<256 then match yK l with
  |some r=>some (UInt8.ofNat n.toNat::r)
  |none=>none
  else none
 |_::_=>none
def pd(mem:Mem) (x:AV):Option AV:=match x with
 |.slice b o n none=>match mem[b]? with
  |some (.cells _ es cs)=>if 0<n∧0<es%1000∧o+n*(es%1000)≤cs.length then some (.ptr b o) else none
  |_=>none
 |_=>none
def uj(T:TypeId→Option TyI) (mem:Mem) (pt:TypeId) (x l:AV):Option (AV×Mem):=match T pt,x,l with
 |some i,.ptr b 0,.int .i64 n=>match i.desc with
  |.pointer e=>match T e,mem[b]? with
   |some j,some (.cells true es cs)=>
    if j.size=1∧es=1+1000*(e+1)∧0<n∧n≤cs.length∧n≤9223372036854775807 then match yK (cs.take n.toNat) with
     |some s=>some (.str s,mem.set b .absent)
     |none=>none
    else none
   |_,_=>none
  |_=>none
 |_,_,_=>none
theorem SR(a es:Nat) (h:es=1+1000*(a+1)):1000≤es∧es / 1000=a+1∧es%1000=1:=by omega
theorem Bc:∀{l:List AV}{s:List UInt8},yK l=some s→s.length=l.length∧∀(j:Nat) x,s[j]? =some x→l[j]? =some (.int .u8 (x.toNat:Int))
 | [],s,h=>by cases h;exact⟨rfl,fun j x hj=>by simp at hj⟩
 |v::l,s,h=>by
  cases v<;>try (unfold yK at h;cases h;done)
  rename_i k n;cases k<;>try (unfold yK at h;cases h;done)
  unfold yK at h;split at h
  ·rename_i hn
   split at h
   ·rename_i r hr
    cases h;obtain⟨h1,h2⟩:=Bc hr;refine⟨by simp[h1],fun j x hj=>?_⟩;cases j with
    |zero=>
     simp at hj;subst hj;simp only[List.getElem?_cons_zero,Option.some.injEq,AV.int.injEq,true_and];rw[UInt8.toNat_ofNat'];have:n.toNat%256=n.toNat:=Nat.mod_eq_of_lt (by omega);show n=((n.toNat%256:Nat):Int)
     rw[this];omega
    |succ j=>simpa using h2 j x (by simpa using hj)
   ·cases h
  ·cases h
theorem JV(w:World) (a:Addr) (n:Nat):(w.freeze a n).heap.size=w.heap.size:=by unfold World.freeze;split<;>simp
theorem HB(w:World) (a:Addr) (n k:Nat) (h:k≠a.block):(w.freeze a n).heap[k]? =w.heap[k]? :=by
 unfold World.freeze;split
 ·rfl
 ·simp only[Array.getElem?_modify,if_neg (Ne.symm h)]
section
variable {P:Program}{T:TypeId→Option TyI}{μ:Nat→Place}{mem:Mem}{base:Nat}{w:World}
theorem wQ(hH:HRel base μ mem w) {x v:AV}{X:Value}(ts:Array TypeId) (ty:TypeId) (hx:VRel μ mem.length x X) (h:pd mem x=some v):Val P (Builtin.unsafeSliceData_ ts ty #[X]) w μ mem.length v:=by
 unfold pd at h;split at h
 ·rename_i b o n
  split at h
  ·rename_i own es cs hb
   split at h
   ·rename_i hc
    cases h;obtain⟨hbn,rfl⟩:=hx.slice;have hs:=hH.slot b _ hb;simp only[SRel] at hs;obtain⟨cur,el,fr,s1,s2,s3,_,_⟩:=hs;have hcap:ib (μ b) o none≠0:=by
     simp only[ib,s2.1];have:n≤((μ b).tot-o) / (es%1000):=by rw[Nat.le_div_iff_mul_le hc.2.1];omega
     omega
    exact⟨_,Lib.run_unsafeSliceData_row _ _ _ _ _ _ hcap,by simp[VRel,hbn]⟩
   ·cases h
  ·cases h
 ·cases h
theorem CS(hT:cA P T) (hH:HRel base μ mem w) {pt it ty:TypeId}{x l v:AV}{X L:Value}{mem' :Mem}(hx:VRel μ mem.length x X) (hl:VRel μ mem.length l L) (h:uj T mem pt x l=some (v,mem')):
  OpOk P (Builtin.unsafeString_ #[pt,it] ty #[X,L]) base μ mem w v mem' :=by
 unfold uj at h;split at h
 ·rename_i i b n hi
  split at h
  ·rename_i e hd
   split at h
   ·rename_i j es cs hj hb
    split at h
    ·rename_i hc
     obtain⟨c1,c2,c3,c4,c5⟩:=hc;split at h
     ·rename_i s hs
      cases h;obtain⟨g1,g2⟩:=Bc hs;have hX:=hx.ptr;have hL:=hl.int;have hpt:=(hT pt i hi).desc;rw[hd] at hpt;obtain⟨f,hf,hfs,_,_⟩:=(hT e j hj).info;have hcell:P.cellsOf e=1:=by unfold Program.cellsOf;rw[hf];simp[hfs,c1]
      have hsl:=hH.slot b _ hb;simp only[SRel] at hsl;obtain⟨cur,el,fr,s1,s2,s3,s4,s5⟩:=hsl;obtain⟨s6,rfl,s8,s9⟩:=s5 trivial;have hel:el=e:=by obtain⟨q1,q2,_⟩:=SR e es c2;have:=s2.2 q1;rw[q2] at this;exact Nat.succ.inj this
      subst hel;have hlen:s.length=n.toNat:=by rw[g1,List.length_take];omega
      have hn:n=(s.length:Int):=by omega
      rw[hX.2,hL,hn,s6];have hsh:w.shape? (μ b).blk=some (el,cur.size):=by simp[World.shape?,s1]
      have hrun:=Lib.run_unsafeString_row (P:=P) w pt it ty el hpt hcell (μ b).blk cur.size hsh s (by intro e;rw[e] at hlen;simp at hlen;omega) (by rw[s8];omega) (by omega) (fun q u hq=>by
       have h1:=g2 q u hq;have hqn:q<n.toNat:=by rw[←hlen];exact(List.getElem?_eq_some_iff.1 hq).1
       rw[List.getElem?_take_of_lt hqn] at h1;obtain⟨V,hV,hr⟩:=s4 q _ h1;rw[hr.int] at hV;rw[s6,Nat.zero_add] at hV;simp only[Addr.add_lit,World.cell?,s1,Nat.zero_add];exact hV)
      have hne:¬s.length=0:=by omega
      have hw:(w.freeze ⟨(μ b).blk,0,none⟩ s.length).os=w.os∧(w.freeze ⟨(μ b).blk,0,none⟩ s.length).tape=w.tape∧(w.freeze ⟨(μ b).blk,0,none⟩ s.length).output=w.output∧(w.freeze ⟨(μ b).blk,0,none⟩ s.length).drawn=w.drawn:=by unfold World.freeze;rw[if_neg hne];exact⟨rfl,rfl,rfl,rfl⟩
      obtain⟨k1,k2⟩:=hH.write (w' :=w.freeze ⟨(μ b).blk,0,none⟩ s.length) (s' :=.absent) hb (il hb) (fun h=>absurd rfl h) hw.2.2.2 hw.1 hw.2.1 hw.2.2.1 (JV ..) (fun k hk=>HB _ _ _ _ hk) trivial;refine⟨_,_,μ,hrun,by simp[VRel],k1,?_⟩;exact k2
     ·cases h
    ·cases h
   ·cases h
  ·cases h
 ·cases h
end
end Go.Eng
namespace Go.Eng
section
variable {P:Program}{T:TypeId→Option TyI}{μ:Nat→Place}{mem:Mem}{base:Nat}{w:World}
def lA(T:TypeId→Option TyI) (mem:Mem) (s d:TypeId):AV→Option (AV×Mem)
 |.str l=>match T s,T d with
  |some i,some j=>match i.desc,j.desc with
   |.string,.slice e=>match T e with
    |some k=>match k.desc with
     |.int .u8=>some (.slice mem.length 0 l.length none,mem++[.cells false 1 (l.map fun c=>.int .u8 c.toNat)])
     |_=>none
    |none=>none
   |_,_=>none
  |_,_=>none
 |_=>none
theorem HA(w:World) (Cs:Array Value) (e:TypeId) (n:Nat):
  (w.alloc (.cells Cs e)).freeze ⟨w.heap.size,n,none⟩ 1=w.alloc (.cells Cs e (n,n+1)):=by
 unfold World.freeze;rw[if_neg (by decide)];simp only[World.alloc];congr 1;apply Array.ext
 ·simp
 ·intro k h1 h2
  simp only[Array.getElem_modify,Array.getElem_push];by_cases hk:k<w.heap.size
  ·simp[hk];omega
  ·simp at h1
   have:k=w.heap.size:=by omega
   subst this;simp
theorem wI(hT:cA P T) (hH:HRel base μ mem w) {s d:TypeId}{x v:AV}{X:Value}{mem' :Mem}
  (hx:VRel μ mem.length x X) (h:lA T mem s d x=some (v,mem')):
  OpOk P (convert s d X) base μ mem w v mem' :=by
 unfold lA at h;split at h
 ·rename_i l
  split at h
  ·rename_i i j hi hj
   have h1:=(hT s i hi).desc;have h2:=(hT d j hj).desc;split at h
   ·rename_i e hid hjd
    rw[hid] at h1;rw[hjd] at h2;split at h
    ·rename_i k hk
     have h3:=(hT e k hk).desc;split at h
     ·rename_i hkd
      rw[hkd] at h3;cases h;rw[hx.str];let c:=grownCap w l.length 0 e
      have hc:l.length≤c:=grownCap_ge w l.length 0 e;let Cs:Array Value:=(l.map fun c=>Value.int .u8 c.toNat).toArray++Array.replicate (c-l.length) (.int .u8 0)
      have hCs:Cs.size=c:=by simp[Cs];omega
      have hH1:HRel base μ mem w.drew:=hH.sameHeap rfl;obtain⟨g1,g2⟩:=hH1.push (.cells Cs e (Cs.size,Cs.size+1)) (.cells false 1 (l.map fun c=>.int .u8 c.toNat)) ⟨w.heap.size,0,Cs.size,1⟩ rfl (by simp only[SRel];refine⟨Cs,e,(Cs.size,Cs.size+1),heap_alloc_new w.drew _,EsOk.small rfl (by decide),by simp[hCs];exact hc,fun q u hu=>?_,fun h=>by cases h⟩;rw[List.getElem?_map,Option.map_eq_some_iff] at hu;obtain⟨a,ha,rfl⟩:=hu;have hq:=(List.getElem?_eq_some_iff.1 ha).1;refine⟨.int .u8 a.toNat,?_,by simp[VRel]⟩;simp only[Nat.zero_add,Cs];rw[Array.getElem?_append_left (by simpa using hq)];simp[ha])
      refine⟨.slice (some ⟨w.heap.size,0,none⟩) l.length c,w.drew.alloc (.cells Cs e (Cs.size,Cs.size+1)),_,?_,?_,g1,?_⟩
      ·have hf:(Question.appendCap l.length 0 e).forced=false:=by simp[Question.forced]
       have hbs:(ByteArray.mk l.toArray).size=l.length:=pe ..;have hCs' :(ByteArray.mk l.toArray).data.map (fun b=>Value.int .u8 b.toNat)++Array.replicate (c-l.length) (.int .u8 0)=Cs:=by simp[Cs]
       have hsh:(w.drew.alloc (.cells Cs e)).shape? w.heap.size=some (e,Cs.size):=by unfold World.shape?;rw[show(w.drew.alloc (.cells Cs e)).heap[w.heap.size]? =_ from heap_alloc_new w.drew _]
       have hfz:=HA w.drew Cs e Cs.size;have hw:w.drew.heap.size=w.heap.size:=rfl;rw[hw] at hfz;simp only[convert,Sem.run_bind,run_underlying h1,run_underlying h2,run_underlying h3,Result.andThen_ok,Conv.stringToBytes,choose,Sem.run,hf,Bool.false_eq_true,if_false,hbs];change ((newRow e ((ByteArray.mk l.toArray).data.map (fun b=>Value.int .u8 b.toNat)++Array.replicate (c-l.length) (.int .u8 0))).run P w.drew).andThen _=_;rw[hCs'];simp only[newRow,run_newObj,Result.andThen_ok,Sem.run_bind,markStringish,shape,freeze,Sem.run];have hal:({ heap:=w.drew.heap.push (Obj.cells Cs e),tape:=w.drew.tape,drawn:=w.drew.drawn,os:=w.drew.os,output:=w.drew.output }:World)=w.drew.alloc (.cells Cs e):=rfl;simp only[Sem.run_pure,Result.andThen_ok,hal,hw,hsh,Sem.run,hfz];rfl
      ·simp only[VRel,dA,ib,List.length_append,List.length_singleton]
       refine⟨by omega,?_⟩;simp[hCs]
      ·exact(Step.drew (m0:=mem.length) (Nat.le_refl _)).trans g2
     ·cases h
    ·cases h
   ·cases h
  ·cases h
 ·cases h
end
end Go.Eng
namespace Go.Eng
section
variable {P:Program}{T:TypeId→Option TyI}{μ:Nat→Place}{mem:Mem}{base:Nat}{w:World}
def KR:Option TyI→Bool
 |some i=>match i.desc with
  |.int _=>true
  |_=>false
 |none=>false
def Tq(T:TypeId→Option TyI) (t:TypeId) (x:AV):Option AV:=
 match T t with
 |none=>none
 |some i=>match i.desc,x with
  |.slice _,.nilslice=>some (.int .i64 0)
  |_,_=>none
theorem MB(hT:cA P T) {n:Nat}{t ty:TypeId}{x v:AV}{X:Value}(hx:VRel μ n x X) (h:Tq T t x=some v):Val P (Builtin.cap_ #[t] ty #[X]) w μ n v:=by
 unfold Tq at h;cases ht:T t with
 |none=>rw[ht] at h;cases h
 |some i=>
  rw[ht] at h;simp only at h;have hd:=(hT t i ht).desc;split at h
  ·rename_i e hdesc
   rw[hdesc] at hd;cases h;simp only[VRel] at hx;subst hx;refine .int ?_;simp[Builtin.cap_,run_underlying hd,goInt]
  ·cases h
def sn(T:TypeId→Option TyI) (mem:Mem) (t:TypeId) (s x:AV):Option (AV×Mem):=
 match T t with
 |none=>none
 |some i=>
  match i.desc,s,x with
  |.slice e,.nilslice,.int _ n=>
   match T e with
   |some j=>if 0<n∧n*j.bytes≤140737488355328∧n≤140737488355328∧0<j.size∧j.size<1000 then some (.slice mem.length 0 n.toNat none,mem++[.cells true (sV j e) (fM (gO j.zero).cells n.toNat)]) else none
   |none=>none
  |_,_,_=>none
theorem tl{n:Nat}{z:List AV}{Z:Array Value}(hz:VRels μ n z Z.toList) (k:Nat):VRels μ n (fM z k) (Builtin.zeroCells Z k).toList:=by
 have hl:Z.size=z.length:=by rw[←Array.length_toList,hz.length]
 refine VRels.of_get (by rw[Array.length_toList,size_zeroCells,fT,hl]) fun j v hv=>?_
 obtain⟨V,h1,h2,h3⟩:=pH hz k j v hv;refine⟨V,?_,h2⟩;rw[Array.getElem?_toList,←h1];unfold Builtin.zeroCells;have:j<k*Z.size:=h3;simp[this]
theorem Hf(hT:cA P T) {t t2 ty e:TypeId}{j:TyI}(hd:P.underlying t=some (.slice e)) (hj:T e=some j)
  {kd:IntKind}(ht2:P.underlying t2=some (.int kd)) (m:Nat) (k:IntKind) (w:World) (hm0:0<m) (hb:m*j.bytes≤140737488355328) (hm:m≤140737488355328) (hs:0<j.size):
  ∃nc,m≤nc∧(Builtin.append_ #[t,t2] ty #[.slice none 0 0,.int k m]).run P w=
   .ok (.slice (some ⟨w.heap.size,0,none⟩) m nc) (w.drew.alloc (.cells (#[]++(Builtin.zeroCells j.zero.cells m++Builtin.zeroCells j.zero.cells (nc-m))) e)):=by
 obtain⟨f,hf,hfs,hfb,hfz⟩:=(hT e j hj).info;have h63:¬(9223372036854775807<(m:Int)):=by omega
 have w1:IntKind.i64.wrap (m:Int)=m:=aj (by omega) (by omega);have h0:¬((m:Int)<0):=by omega
 have h48a:¬(281474976710656<(m:Int)*(f.bytes:Int)):=by
  rw[hfb];have:(m:Int)*(j.bytes:Int)=((m*j.bytes:Nat):Int):=by simp
  omega
 have h48:¬(281474976710656<Builtin.nextslicecap m 0*f.bytes):=by have:=growslice_fits (need:=m) (old:=0) (bytes:=f.bytes) (by omega) (by rw[hfb];exact hb);omega
 have hms2:¬(m=0):=by omega
 have hask:∀n w,(askRoom n).run P w=.ok () w:=by intro n w;unfold askRoom;split<;>simp[mark,Sem.run]
 refine⟨grownCap w m 0 e,grownCap_ge w m 0 e,?_⟩;simp[Builtin.append_,run_underlying hd,run_underlying ht2,sizeOf,typeInfo,zeroValue,hf,hfs,hfz,asInt,asIntOf,w1,h0,h63,h48,h48a,hms2,Question.forced,Builtin.firstCells,newRow,grownCap,hask];intro h;exact absurd h (by have:=Nat.mul_pos hm0 hs;omega)
theorem As(hT:cA P T) (hH:HRel base μ mem w) {t t2 ty:TypeId}{s x v:AV}{S X:Value}{mem' :Mem}
  (hs:VRel μ mem.length s S) (hx:VRel μ mem.length x X) (hi:KR (T t2)=true) (h:sn T mem t s x=some (v,mem')):
  OpOk P (Builtin.append_ #[t,t2] ty #[S,X]) base μ mem w v mem' :=by
 unfold sn at h;cases ht:T t with
 |none=>rw[ht] at h;cases h
 |some i=>
  rw[ht] at h;simp only at h;have hd:=(hT t i ht).desc;split at h
  ·rename_i e k n hdesc
   rw[hdesc] at hd;split at h
   ·rename_i j hj
    split at h
    ·rename_i hc
     obtain⟨c1,c2,c3,c4,c5⟩:=hc;cases h;obtain⟨kd,hkd⟩:∃kd,P.underlying t2=some (.int kd):=by
      unfold KR at hi;split at hi
      ·rename_i i2 h2
       split at hi
       ·rename_i kd hk
        have:=(hT t2 i2 h2).desc;rw[hk] at this;exact⟨kd,this⟩
       ·cases hi
      ·cases hi
     simp only[VRel] at hs;subst hs;rw[hx.int];obtain⟨m,rfl⟩:∃m:Nat,n=m:=⟨n.toNat,by omega⟩
     have hb:m*j.bytes≤140737488355328:=by
      have:(m:Int)*(j.bytes:Int)=((m*j.bytes:Nat):Int):=by simp
      omega
     obtain⟨nc,hnc,hr⟩:=Hf hT (ty:=ty) hd hj hkd m k w (by omega) hb (by omega) c4;have hz:=ik μ mem.length j.zero;have hzs:=(hT e j hj).zsize;have hzl:(gO j.zero).cells.length=j.size:=by rw[←hz.length,Array.length_toList,hzs]
     have:=JX (P:=P) hH (es:=sV j e) (Dt c5) (olds:=[]) (news:=fM (gO j.zero).cells m) (Os:=[]) (Ns:=(Builtin.zeroCells j.zero.cells m).toList) c4 hzs (by simp[VRels]) (tl hz m) (by simp[fT,hzl]) hnc hr;simpa using this
    ·cases h
   ·cases h
  ·cases h
def G5(T:TypeId→Option TyI) (mem:Mem) (t:TypeId) (x:AV):Option Mem:=
 match T t with
 |none=>none
 |some i=>
  match i.desc,x with
  |.slice _,.nilslice=>some mem
  |.slice e,.slice b o n _=>
   if n=0 then some mem else
   match T e,mem[b]? with
   |some j,some (.cells true es cs)=>
    if o+n*j.size≤cs.length∧(fM (gO j.zero).cells n).all AV.cellOk=true then some (mem.set b (.cells true es (cs.take o++fM (gO j.zero).cells n++cs.drop (o+n*j.size)))) else none
   |_,_=>none
  |_,_=>none
theorem G7(hT:cA P T) (hH:HRel base μ mem w) {t ty:TypeId}{x:AV}{X:Value}{mem' :Mem}(hx:VRel μ mem.length x X) (h:G5 T mem t x=some mem'):
  OpOk P (Builtin.clear_ #[t] ty #[X]) base μ mem w (.tuple []) mem' :=by
 unfold G5 at h;cases ht:T t with
 |none=>rw[ht] at h;cases h
 |some i=>
  rw[ht] at h;simp only at h;have hd:=(hT t i ht).desc;split at h
  ·rename_i e hdesc
   rw[hdesc] at hd;cases h;simp only[VRel] at hx;subst hx;exact⟨.tuple #[],w,μ,by simp[Builtin.clear_,run_underlying hd],by simp[VRel,VRels],hH,.refl (Nat.le_refl _)⟩
  ·rename_i e b o n c hdesc
   rw[hdesc] at hd;obtain⟨hbn,rfl⟩:=hx.slice;split at h
   ·rename_i hn
    cases h;subst hn;exact⟨.tuple #[],w,μ,by simp[Builtin.clear_,run_underlying hd],by simp[VRel,VRels],hH,.refl (Nat.le_refl _)⟩
   ·rename_i hn
    split at h
    ·rename_i j es cs hj hb
     split at h
     ·rename_i hc
      obtain⟨hfit,hall⟩:=hc;cases h;have hs:=hH.slot b _ hb;simp only[SRel] at hs;obtain⟨cur,el,fr,g1,g2,g3,g4,g5⟩:=hs;obtain⟨g6,g7,g8,g9⟩:=g5 trivial;subst g7;have hz:=ik μ mem.length j.zero;have hzs:=(hT e j hj).zsize;have hzl:(gO j.zero).cells.length=j.size:=by rw[←hz.length,Array.length_toList,hzs]
      have hVc:=tl hz n;have hsz:(fM (gO j.zero).cells n).length=n*j.size:=by rw[fT,hzl]
      obtain⟨Zs,hZs⟩:∃Zs,Zs=Builtin.zeroCells j.zero.cells n:=⟨_,rfl⟩
      rw[←hZs] at hVc;have hZl:Zs.size=n*j.size:=by rw[←Array.length_toList,hVc.length,hsz]
      have h1:=hVc.all_oneCell hall;have hst:=run_storeCells_at (P:=P) (μ b).blk o el Zs.toList 0 cur w g1 (by rw[hVc.length,hsz];omega) h1;have hw:=hH.write (w' :=w.setRow (μ b).blk (cur.toList.take (o+0)++Zs.toList++cur.toList.drop (o+0+Zs.toList.length)).toArray) (s' :=.cells true es (cs.take o++fM (gO j.zero).cells n++cs.drop (o+n*j.size)))
       hb (il hb) (fun _=>⟨_,List.getElem?_set_self (List.getElem?_eq_some_iff.1 hb).1,rfl⟩) rfl rfl rfl rfl (by simp[World.setRow]) (fun k hk=>setRow_other w _ k _ hk) ?_
      ·refine⟨.tuple #[],_,μ,?_,by simp[VRel,VRels],hw.1,hw.2⟩
       simp only[Builtin.clear_,List.getElem?_toArray,List.getElem?_cons_zero,Sem.run_bind,run_underlying hd,Result.andThen_ok,g6,Nat.zero_add,dB hT hj,←hZs];rw[hst];rfl
      ·simp only[SRel]
       refine⟨_,el,(0,0),setRow_heap w (μ b).blk cur _ el (0,0) g1,g2,?_,fun q u hu=>?_,fun _=>⟨g6,rfl,?_,g9⟩⟩
       ·simp only[List.length_append,List.length_take,List.length_drop,hsz];omega
       ·rw[g6] at g4
        obtain⟨U,hU,hr⟩:=uK (cs:=cs) (vs:=fM (gO j.zero).cells n) (Vs:=Zs.toList) (o:=o) (cur:=cur.toList) (by rw[hsz];exact hfit) (fun j v hv=>by simpa using g4 j v hv) hVc q u (by rw[hsz];exact hu);refine⟨U,?_,hr⟩;rw[g6];simpa using hU
       ·simp only[List.size_toArray,List.length_append,List.length_take,List.length_drop,Array.length_toList,hZl];omega
     ·cases h
    ·cases h
  ·cases h
end
end Go.Eng
namespace Go.Eng
def ui(T:TypeId→Option TyI) (mem:Mem) (t:TypeId) (x:AV) (lo hi:Option AV):Option (AV×Mem):=
 match T t,x with
 |some i,.slice b o n none=>
  match i.desc with
  |.slice e=>match T e,mem[b]? with
   |some j,some (.cells _ es cs)=>match hi,lo with
    |none,some (.int _ l)=>if l=n∧0<n∧es=j.size∧0<es∧es<1000∧o+n*es≤cs.length then some (.slice mem.length 0 0 none,mem++[.absent]) else none
    |_,_=>none
   |_,_=>none
  |_=>none
 |_,_=>none
section
variable {P:Program}{T:TypeId→Option TyI}{μ:Nat→Place}{mem:Mem}{base:Nat}{w:World}
theorem HRel.absent(h:HRel base μ mem w) (p:Place):HRel base (upd μ mem.length p) (mem++[.absent]) w∧Step mem.length μ mem w (upd μ mem.length p) (mem++[.absent]) w:=by
 have hμ:∀b,b<mem.length→upd μ mem.length p b=μ b:=fun b hb=>sZ hb
 have low:∀{b:Nat}{s:Slot},(mem++[Slot.absent])[b]? =some s→s≠ .absent→b<mem.length∧mem[b]? =some s:=by
  intro b s hs hne;by_cases hlt:b<mem.length
  ·rw[List.getElem?_append_left hlt] at hs;exact⟨hlt,hs⟩
  ·exfalso
   have hbe:b=mem.length:=by have:=(List.getElem?_eq_some_iff.1 hs).1;simp at this;omega
   subst hbe;simp at hs;exact hne hs.symm
 have own:∀{b:Nat},dF (mem++[Slot.absent]) b→b<mem.length∧dF mem b:=by rintro b ⟨s,hs,ho⟩;have:=low hs (Slot.own_ne ho);exact⟨this.1,s,this.2,ho⟩
 refine⟨⟨h.base_le,fun b s hs=>?_,fun b b' s' hb hb' hne hbb=>?_⟩,?_⟩
 ·by_cases hsa:s=.absent
  ·subst hsa;trivial
  ·obtain⟨hlt,hs'⟩:=low hs hsa
   rw[hμ b hlt];exact(h.slot b s hs').mono (by simp) hμ fun _=>rfl
 ·obtain⟨h1,h2⟩:=own hb
  obtain⟨h3,h4⟩:=low hb' hne;rw[hμ b h1,hμ b' h3];exact h.sep b b' s' h2 h4 hne hbb
 ·exact⟨by simp,hμ,rfl,rfl,rfl,Nat.le_refl _,fun _ _ _=>rfl,fun b hb _=>by obtain⟨h1,h2⟩:=own hb;exact⟨b,h2,(congrArg Place.blk (hμ b h1)).symm⟩,Nat.le_refl _⟩
theorem CQ(hT:cA P T) (hH:HRel base μ mem w) {t:TypeId}{x v:AV}{X:Value}{lo hi:Option AV}{Lo Hi:Option Value}{mem' :Mem}
  (hx:VRel μ mem.length x X) (hlo:(lo=none∧Lo=none)∨∃l L,lo=some l∧Lo=some L∧VRel μ mem.length l L)
  (hhi:(hi=none∧Hi=none)∨∃l L,hi=some l∧Hi=some L∧VRel μ mem.length l L) (h:ui T mem t x lo hi=some (v,mem')):
  OpOk P (Instr.sliceAt t X Lo Hi none) base μ mem w v mem' :=by
 unfold ui at h;split at h
 ·rename_i i b o n ht
  split at h
  ·rename_i e hdesc
   have hd:=(hT t i ht).desc;rw[hdesc] at hd;split at h
   ·rename_i j own es cs hj hb
    split at h
    ·rename_i k l
     split at h
     ·rename_i hc
      obtain⟨rfl,g1,g5,g6,g6',g7⟩:=hc;cases h;rcases hhi with⟨_,rfl⟩ | ⟨_,_,h1,_⟩
      ·rcases hlo with⟨h1,_⟩ | ⟨a,L,h1,rfl,hL⟩
       ·cases h1
       ·cases h1
        rw[hL.int];obtain⟨hbn,rfl⟩:=hx.slice;have hs:=hH.slot b _ hb;simp only[SRel] at hs;obtain⟨cur,el,fr,hs1,hs2,hs3,_,_⟩:=hs;have hs2:=hs2.es g6';subst hs2;have hcap:n≤ib (μ b) o none:=by simp only[ib];rw[Nat.le_div_iff_mul_le g6];omega
        obtain⟨c,hcd⟩:∃c,c=ib (μ b) o none:=⟨_,rfl⟩
        rw[←hcd] at hcap ⊢;obtain⟨off,hoff⟩:∃off,off=if c=n then (μ b).off+o else (μ b).off+(o+n*(μ b).es):=⟨_,rfl⟩
        obtain⟨a1,a2⟩:=hH.absent ⟨(μ b).blk,off,(c-n)*(μ b).es,(μ b).es⟩;have hbd:(Instr.sliceBounds true n c (some (.int k (n:Int))) none none).run P w=.ok (n,n,c) w:=by
         have hb0:(0:Int)≤(n:Int):=by omega
         have hb1:(n:Int)≤((n:Nat):Int):=Int.le_refl _;simp[Instr.sliceBounds,bN hb0 hb1]
        refine⟨.slice (some ⟨(μ b).blk,off,none⟩) 0 (c-n),w,_,?_,?_,a1,a2⟩
        ·simp[Instr.sliceAt,Instr.slice,run_underlying hd,hbd,cb hT hj]
         by_cases hcn:c=n
         ·rw[if_pos hcn] at hoff
          simp[hcn,hoff]
         ·rw[if_neg hcn] at hoff
          simp[hcn,hoff,Addr.add_lit,g5,Nat.add_assoc]
        ·simp only[VRel,dA,ib,List.length_append,List.length_singleton,Nat.add_zero,Nat.sub_zero]
         refine⟨by omega,?_⟩;rw[Nat.mul_div_cancel _ g6]
      ·cases h1
     ·cases h
    ·cases h
   ·cases h
  ·cases h
 ·cases h
end
end Go.Eng
namespace Go.Eng
def yC(T:TypeId→Option TyI) (t:TypeId) (x:AV) (lo hi mx:Option AV):Option AV:=
 match T t,x with
 |some i,.slice b o n (some c)=>
  match i.desc with
  |.slice e=>
   match T e,Bk n hi,HJ lo,Bk c mx with
   |some j,some h,some l,some m=>
    if 0≤l∧l≤h∧h≤m∧m≤c∧(mx=none∨hi.isSome=true) then some (.slice b (if m=l then o else o+l.toNat*j.size) (h.toNat-l.toNat) (some (m.toNat-l.toNat))) else none
   |_,_,_,_=>none
  |_=>none
 |_,_=>none
def o8(T:TypeId→Option TyI) (mem:Mem) (t t2:TypeId) (s x:AV):Option (AV×Mem):=
 match T t,s with
 |some i,.slice b 0 n (some c)=>
  match i.desc with
  |.slice e=>
   match T e,T t2,mem[b]? with
   |some j,some i2,some (.cells true es cs)=>
    if j.size=0∨1000≤j.size∨uL i2=false then none else
    match fc T mem j.size t2 x with
    |none=>none
    |some (m,news)=>
     if news.all AV.cellOk=true∧es=j.size∧n+m≤c∧(n+m)*j.size≤cs.length then
      some (.slice b 0 (n+m) (some c),mem.set b (.cells true es (cs.take (n*j.size)++news++cs.drop ((n+m)*j.size)))) else none
   |_,_,_=>none
  |_=>none
 |_,_=>none
section
variable {P:Program}{T:TypeId→Option TyI}{μ:Nat→Place}{mem:Mem}{base:Nat}{w:World}
theorem ss(hT:cA P T) {t:TypeId}{x v:AV}{X:Value}{lo hi mx:Option AV}{Lo Hi Mx:Option Value}
  (hx:VRel μ mem.length x X) (hlo:(lo=none∧Lo=none)∨∃l L,lo=some l∧Lo=some L∧VRel μ mem.length l L)
  (hhi:(hi=none∧Hi=none)∨∃l L,hi=some l∧Hi=some L∧VRel μ mem.length l L)
  (hmx:(mx=none∧Mx=none)∨∃l L,mx=some l∧Mx=some L∧VRel μ mem.length l L) (h:yC T t x lo hi mx=some v):
  Val P (Instr.sliceAt t X Lo Hi Mx) w μ mem.length v:=by
 unfold yC at h;split at h
 ·rename_i i b o n c ht
  have hd:=(hT t i ht).desc;split at h
  ·rename_i e hdesc
   rw[hdesc] at hd;split at h
   ·rename_i j hh ll mm hj e1 e2 e3
    split at h
    ·rename_i hc
     obtain⟨h0,h1,h2,h3,h4⟩:=hc;cases h;obtain⟨hbn,rfl⟩:=hx.slice;have hbd:(Instr.sliceBounds true n c Lo Hi Mx).run P w=.ok (ll.toNat,hh.toNat,mm.toNat) w:=by
      have h1' :ll≤((hh.toNat:Nat):Int):=by omega
      have h1'' :0≤hh:=by omega
      have h2' :hh≤((mm.toNat:Nat):Int):=by omega
      have h2'' :0≤mm:=by omega
      rcases hmx with⟨rfl,rfl⟩ | ⟨m,M,rfl,rfl,hM⟩
      ·simp only[Bk,Option.some.injEq] at e3
       subst e3;rw[Int.toNat_natCast] at h2';rcases hhi with⟨rfl,rfl⟩ | ⟨a,A,rfl,rfl,hA⟩<;>rcases hlo with⟨rfl,rfl⟩ | ⟨b,B,rfl,rfl,hB⟩
       ·simp only[Bk,HJ,Option.some.injEq] at e1 e2;subst e1;subst e2
        simp[Instr.sliceBounds]
       ·cases b<;>simp only[Bk,HJ,reduceCtorEq,Option.some.injEq] at e1 e2
        subst e1;subst e2;rw[hB.int];simp[Instr.sliceBounds,bN h0 h1]
       ·cases a<;>simp only[Bk,HJ,reduceCtorEq,Option.some.injEq] at e1 e2
        subst e1;subst e2;rw[hA.int];simp[Instr.sliceBounds,bN h1'' h2']
       ·cases a<;>simp only[Bk,reduceCtorEq,Option.some.injEq] at e1
        cases b<;>simp only[HJ,reduceCtorEq,Option.some.injEq] at e2;subst e1;subst e2;rw[hA.int,hB.int];simp[Instr.sliceBounds,bN h1'' h2',bN h0 h1']
      ·cases m<;>simp only[Bk,reduceCtorEq,Option.some.injEq] at e3
       subst e3;rw[hM.int];rcases hhi with⟨rfl,rfl⟩ | ⟨a,A,rfl,rfl,hA⟩<;>rcases hlo with⟨rfl,rfl⟩ | ⟨b,B,rfl,rfl,hB⟩
       ·simp at h4
       ·simp at h4
       ·cases a<;>simp only[Bk,HJ,reduceCtorEq,Option.some.injEq] at e1 e2
        subst e1;subst e2;rw[hA.int];simp[Instr.sliceBounds,bN h2'' h3,bN h1'' h2']
       ·cases a<;>simp only[Bk,reduceCtorEq,Option.some.injEq] at e1
        cases b<;>simp only[HJ,reduceCtorEq,Option.some.injEq] at e2;subst e1;subst e2;rw[hA.int,hB.int];simp[Instr.sliceBounds,bN h2'' h3,bN h1'' h2',bN h0 h1']
     refine⟨.slice (some ⟨(μ b).blk,(μ b).off+(if mm=ll then o else o+ll.toNat*j.size),none⟩) (hh.toNat-ll.toNat) (mm.toNat-ll.toNat),?_,by simp only[VRel,ib];exact⟨hbn,trivial⟩⟩;have hml:(mm.toNat=ll.toNat)=(mm=ll):=by rw[eq_iff_iff];omega
     by_cases hml2:mm=ll
     ·simp[Instr.sliceAt,Instr.slice,run_underlying hd,hbd,cb hT hj,hml2,ib]
     ·simp[Instr.sliceAt,Instr.slice,run_underlying hd,hbd,cb hT hj,hml,hml2,ib,Addr.add_lit,Nat.add_assoc]
    ·cases h
   ·cases h
  ·cases h
 ·cases h
theorem Aq(hT:cA P T) (hH:HRel base μ mem w) {t t2 ty:TypeId}{s x v:AV}{S X:Value}{mem' :Mem}
  (hs:VRel μ mem.length s S) (hx:VRel μ mem.length x X) (h:o8 T mem t t2 s x=some (v,mem')):
  OpOk P (Builtin.append_ #[t,t2] ty #[S,X]) base μ mem w v mem' :=by
 unfold o8 at h;split at h
 ·rename_i i b n c ht
  have hd:=(hT t i ht).desc;split at h
  ·rename_i e hdesc
   rw[hdesc] at hd;split at h
   ·rename_i j i2 es cs hj hi2 hb
    split at h
    ·cases h
    ·rename_i hcond
     have hd2:=(hT t2 i2 hi2).desc;have ht2:(∃e2,P.underlying t2=some (.slice e2))∨P.underlying t2=some .string:=by
      have hok:uL i2=true:=by
       cases h2:uL i2 with
       |true=>rfl
       |false=>exact absurd (.inr (.inr h2)) hcond
      unfold uL at hok;split at hok
      ·rename_i e2 h2;rw[h2] at hd2;exact .inl ⟨e2,hd2⟩
      ·rename_i h2;rw[h2] at hd2;exact .inr hd2
      ·cases hok
     have hsk:j.size<1000:=by
      rcases Nat.lt_or_ge j.size 1000 with h0 | h0
      ·exact h0
      ·exact absurd (.inr (.inl h0)) hcond
     split at h
     ·cases h
     ·rename_i m news hsrc
      split at h
      ·rename_i hc
       obtain⟨hall,rfl,hfit,hroom⟩:=hc;cases h;obtain⟨Ns,g1,g2,g3,g4⟩:=qf (P:=P) hH hx hsrc;obtain⟨hbn,rfl⟩:=hs.slice;have hsl:=hH.slot b _ hb;simp only[SRel] at hsl;obtain⟨cur,el,fr,s1,s2,s3,s4,s5⟩:=hsl;obtain⟨s6,s7,s8,s9⟩:=s5 trivial;subst s7;have hoff:(μ b).off+0=0:=by omega
       have hr:=qW hT (ty:=ty) hd hj ht2 (some ⟨(μ b).blk,0,none⟩) n c m X w g3 hfit;rw[g4 w (fun _=>rfl)] at hr;have hNl:Ns.length=m*j.size:=by rw[g1.length,g2]
       have hmul:n*j.size+m*j.size=(n+m)*j.size:=(Nat.add_mul _ _ _).symm;have hlen:cs.length≤cur.size:=by rw[s8];exact s3
       have hst:=run_storeCells_at (P:=P) (μ b).blk (n*j.size) el Ns 0 cur w s1 (by rw[hNl,Nat.add_zero,hmul];omega) (g1.all_oneCell hall);simp only[Result.andThen_ok,Addr.add_lit,Nat.zero_add,hst] at hr;have hw:=hH.write (w' :=w.setRow (μ b).blk (cur.toList.take (n*j.size+0)++Ns++cur.toList.drop (n*j.size+0+Ns.length)).toArray) (s' :=.cells true j.size (cs.take (n*j.size)++news++cs.drop ((n+m)*j.size)))
        hb (il hb) (fun _=>⟨_,List.getElem?_set_self (List.getElem?_eq_some_iff.1 hb).1,rfl⟩) rfl rfl rfl rfl (by simp[World.setRow]) (fun k hk=>setRow_other w _ k _ hk) ?_
       ·refine⟨.slice (some ⟨(μ b).blk,0,none⟩) (n+m) c,_,μ,?_,?_,hw.1,hw.2⟩
        ·rw[←hr]
         simp only[ib,hoff]
        ·simp only[VRel,ib,hoff,List.length_set]
         exact⟨hbn,trivial⟩
       ·simp only[SRel]
        refine⟨_,el,(0,0),setRow_heap w (μ b).blk cur _ el (0,0) s1,s2,?_,fun q u hu=>?_,fun _=>⟨s6,rfl,?_,s9⟩⟩
        ·simp only[List.length_append,List.length_take,List.length_drop,g2];omega
        ·rw[s6] at s4
         rw[show(n+m)*j.size=n*j.size+news.length by rw[g2,hmul]] at hu;obtain⟨U,hU,hr⟩:=uK (cs:=cs) (vs:=news) (Vs:=Ns) (o:=n*j.size) (cur:=cur.toList) (by rw[g2,hmul];exact hroom) (fun j v hv=>by simpa using s4 j v hv) g1 q u hu;refine⟨U,?_,hr⟩;rw[s6];simpa using hU
        ·simp only[List.size_toArray,List.length_append,List.length_take,List.length_drop,Array.length_toList,hNl];omega
      ·cases h
   ·cases h
  ·cases h
 ·cases h
end
end Go.Eng
namespace Go.Eng
def og(T:TypeId→Option TyI) (mem:Mem) (t:TypeId) (m k:AV):Option (AV×Mem):=
 match T t with
 |none=>none
 |some i=>
  match i.desc,m with
  |.map kt et,.map b=>
   match T et,mem[b]? with
   |some j,some (.map es)=>
    if jN T 20 kt k then
     match ig T kt k es 0 with
     |some (some (q,v))=>if k.scalarKey then some (.tuple [v,.int .i64 q],mem.set b (.map (es.set q (k,v)))) else none
     |some none=>some (.tuple [gO j.zero,.int .i64 es.length],mem.set b (.map (es++[(k,gO j.zero)])))
     |none=>none
    else none
   |_,_=>none
  |_,_=>none
def jv(mem:Mem) (m s v:AV):Option Mem:=
 match m,s with
 |.map b,.int _ (.ofNat q)=>match mem[b]? with
  |some (.map es)=>match es[q]? with
   |some e=>some (mem.set b (.map (es.set q (e.1,v))))
   |none=>none
  |_=>none
 |_,_=>none
section
variable {P:Program}{T:TypeId→Option TyI}{μ:Nat→Place}{mem:Mem}{base:Nat}{w:World}{n:Nat}
theorem Hx{kt:TypeId}{k:AV}:∀{es:List (AV×AV)}{i q:Nat}{v:AV},ig T kt k es i=some (some (q,v))→(es[q-i]?).map (·.2)=some v
 | [],i,q,v,h=>by simp[ig] at h
 |e::es,i,q,v,h=>by
  have hs:=lJ h;rw[ig] at h;split at h
  ·cases h;simp
  ·have:=Hx h
   obtain⟨j,e',h1,h2,h3⟩:=lJ h;subst h1;rw[show i+1+j-(i+1)=j by omega] at this;rw[show i+1+j-i=j+1 by omega];simpa using this
  ·cases h
theorem ze(hH:HRel base μ mem w) {b clock clock' :Nat}{es es' :List (AV×AV)}{ents ents' :Array MapEntry}(hb:mem[b]? =some (.map es)) (h1:w.heap[(μ b).blk]? =some (.map ents clock)) (h1b:base≤(μ b).blk)
  (g0:AH ents' clock') (g1:ents'.size=es'.length) (g2:∀(j:Nat) e,es'[j]? =some e→∃E,ents'[j]? =some E∧Lf μ mem.length e E):
  (setObj (μ b).blk (.map ents' clock')).run P w=.ok () { w with heap:=w.heap.setIfInBounds (μ b).blk (.map ents' clock') }∧
  HRel base μ (mem.set b (.map es')) { w with heap:=w.heap.setIfInBounds (μ b).blk (.map ents' clock') }∧Step mem.length μ mem w μ (mem.set b (.map es')) { w with heap:=w.heap.setIfInBounds (μ b).blk (.map ents' clock') }:=by
 have hlt:(μ b).blk<w.heap.size:=(Array.getElem?_eq_some_iff.1 h1).1;refine⟨pF h1 (by simp),hH.write hb (HW hb) (fun _=>⟨_,List.getElem?_set_self (List.getElem?_eq_some_iff.1 hb).1,rfl⟩) rfl rfl rfl rfl (by simp) (fun q hq=>?_) ?_⟩
 ·simp[Array.getElem?_setIfInBounds_ne (Ne.symm hq)]
 ·simp only[SRel]
  exact⟨ents',clock',by simp[hlt],⟨h1b,g0⟩,g1,g2⟩
theorem Nr{ents:Array MapEntry}{clock i:Nat}(h:AH ents clock) (hi:i<ents.size):ents.findIdx? (fun e=>(e.born:Int)==(i:Int))=some i:=by
 rw[Array.findIdx?_eq_some_iff_getElem];refine⟨hi,?_,?_⟩
 ·have:=h.2 i ents[i] (by simp)
  simp[this]
 ·intro j hj
  have:=h.2 j ents[j] (by simp);simp[this];omega
theorem uh(hH:HRel base μ mem w) {t:TypeId}{m s v:AV}{M S V:Value}{mem' :Mem}(hm:VRel μ mem.length m M) (hs:VRel μ mem.length s S) (hv:VRel μ mem.length v V)
  (h:jv mem m s v=some mem'):∃w',(Instr.entryStore t M S V).run P w=.ok () w' ∧HRel base μ mem' w' ∧Step mem.length μ mem w μ mem' w' :=by
 unfold jv at h;split at h
 ·rename_i b k q
  split at h
  ·rename_i es hb
   split at h
   ·rename_i e he
    cases h;simp only[VRel] at hm;obtain⟨_,rfl⟩:=hm;have hsl:=hH.slot b _ hb;simp only[SRel] at hsl;obtain⟨ents,clock,h1,h1b,h2,h3⟩:=hsl;have hg:(getObj (μ b).blk).run P w=.ok (.map ents clock) w:=by simp[getObj,Sem.run,h1]
    have hq:q<es.length:=(List.getElem?_eq_some_iff.1 he).1;have hf:=Nr h1b.2 (i:=q) (by omega);obtain⟨f1,f2,f3⟩:=ze (P:=P) hH (es' :=es.set q (e.1,v)) (ents' :=ents.modify q fun e=>{ e with val:=V }) (clock' :=clock) hb h1 h1b.1 ⟨by simpa using h1b.2.1,fun j E' hE' =>by
     rw[Array.getElem?_modify] at hE';split at hE'
     ·simp only[Option.map_eq_some_iff] at hE'
      obtain⟨E0,k1,rfl⟩:=hE';exact h1b.2.2 j E0 k1
     ·exact h1b.2.2 j E' hE'⟩ (by simpa using h2) (fun j e' he' =>by
     rw[List.getElem?_set] at he';by_cases hjq:q=j
     ·subst hjq
      simp only[if_true,hq,Option.some.injEq] at he';subst he';obtain⟨E,hE,hr⟩:=h3 q e he;exact⟨{ E with val:=V },by simp[Array.getElem?_modify,hE],hr.1,hv⟩
     ·rw[if_neg hjq] at he'
      obtain⟨E',hE',hr'⟩:=h3 j e' he';exact⟨E',by simp[Array.getElem?_modify,hjq,hE'],hr'⟩)
    refine⟨_,?_,f2,f3⟩;rw[hs.int];have hf' :ents.findIdx? (fun e=>(e.born:Int)==Int.ofNat q)=some q:=hf;simp only[Instr.entryStore,Sem.run_bind,Result.andThen_ok,hg,asInt,asIntOf,Sem.run_pure,hf'];exact f1
   ·cases h
  ·cases h
 ·cases h
theorem yB(hT:cA P T) (hH:HRel base μ mem w) {t:TypeId}{m k v:AV}{M K:Value}{mem' :Mem}(hm:VRel μ mem.length m M) (hk:VRel μ mem.length k K)
  (h:og T mem t m k=some (v,mem')):OpOk P (Instr.mapEntry t M K) base μ mem w v mem' :=by
 unfold og at h;cases ht:T t with
 |none=>rw[ht] at h;cases h
 |some i=>
  rw[ht] at h;simp only at h;have hd:=(hT t i ht).desc;split at h
  ·rename_i kt et b hdesc
   rw[hdesc] at hd;split at h
   ·rename_i j es hj hb
    split at h
    ·rename_i hok
     simp only[VRel] at hm;obtain⟨hbn,rfl⟩:=hm;have hs:=hH.slot b _ hb;simp only[SRel] at hs;obtain⟨ents,clock,h1,h1b,h2,h3⟩:=hs;have hg:(getObj (μ b).blk).run P w=.ok (.map ents clock) w:=by simp[getObj,Sem.run,h1]
     have hck:=jz (P:=P) (n:=mem.length) hT false 20 hok hk 9980 w;have hkt:∃ki,T kt=some ki:=by
      rw[jN] at hok;cases hx:T kt with
      |none=>rw[hx] at hok;cases hok
      |some ki=>exact⟨ki,rfl⟩
     obtain⟨ki,hki⟩:=hkt;have e2:ents.toList.length=es.length:=by simpa using h2
     have e3:∀(j:Nat) e,es[j]? =some e→∃E,ents.toList[j]? =some E∧Lf μ mem.length e E:=fun j e he=>by obtain⟨E,hE,hr⟩:=h3 j e he;exact⟨E,by simpa using hE,hr⟩
     split at h
     ·rename_i q v' hf
      split at h
      ·rename_i hsc
       cases h;obtain⟨R,g1,g2⟩:=fP hT hki hk e2 e3 hf w;cases R with
       |none=>exact g2.elim
       |some x=>
        obtain⟨q',V'⟩:=x;obtain⟨rfl,hv⟩:=g2;obtain⟨j',e,hq,he,heq⟩:=lJ hf;have hq' :q=j' :=by omega
        subst hq';obtain⟨E,hE,hr⟩:=h3 q e he;have hsb:=oS (μ:=μ) (n:=mem.length) hsc hk hr.1 heq rfl;have hlt' :q<es.length:=(List.getElem?_eq_some_iff.1 he).1;have hev:e.2=v' :=by have:=Hx hf;rw[Nat.sub_zero] at this;rw[he] at this;simpa using this
        obtain⟨f1,f2,f3⟩:=ze (P:=P) hH (es' :=es.set q (k,v')) (ents' :=ents.modify q fun e=>{ e with key:=K }) (clock' :=clock) hb h1 h1b.1 ⟨by simpa using h1b.2.1,fun j E' hE' =>by
         rw[Array.getElem?_modify] at hE';split at hE'
         ·simp only[Option.map_eq_some_iff] at hE'
          obtain⟨E0,k1,rfl⟩:=hE';exact h1b.2.2 j E0 k1
         ·exact h1b.2.2 j E' hE'⟩ (by simpa using h2) (fun j e' he' =>by
         rw[List.getElem?_set] at he';by_cases hjq:q=j
         ·subst hjq
          simp only[if_true,hlt',Option.some.injEq] at he';subst he';exact⟨{ E with key:=K },by simp[Array.getElem?_modify,hE],hk,by rw[←hev];exact hr.2⟩
         ·rw[if_neg hjq] at he'
          obtain⟨E',hE',hr'⟩:=h3 j e' he';exact⟨E',by simp[Array.getElem?_modify,hjq,hE'],hr'⟩)
        refine⟨.tuple #[V',goInt q],_,μ,?_,?_,f2,f3⟩
        ·simp only[Instr.mapEntry,Sem.run_bind,run_underlying hd,Result.andThen_ok,hg]
         rw[show(10000:Nat)=20+9980 from rfl,hck];simp only[Result.andThen_ok,g1,Sem.run_bind];have hstay:(Instr.keyThatStays (((ents[q]?).map (·.key)).getD K) K).run P w=.ok K w:=by unfold Instr.keyThatStays;rw[hE];simp only[Option.map_some,Option.getD_some,hsb,if_true];rfl
         rw[hstay];simp only[Result.andThen_ok,f1,Sem.run_pure];rw[hE];simp only[Option.map_some,Option.getD_some,h1b.2.2 q E hE]
        ·simp only[List.length_set,VRel]
         exact⟨[V',goInt q],rfl,aY.2 ⟨hv,aY.2 ⟨by simp[VRel,goInt],by simp[VRels]⟩⟩⟩
      ·cases h
     ·rename_i hf
      cases h;obtain⟨R,g1,g2⟩:=fP hT hki hk e2 e3 hf w;cases R with
      |some x=>exact g2.elim
      |none=>
       have hz:=ud μ mem.length j.zero;obtain⟨f1,f2,f3⟩:=ze (P:=P) hH (es' :=es++[(k,gO j.zero)]) (ents' :=ents.push { key:=K,val:=j.zero,born:=clock }) (clock' :=clock+1) hb h1 h1b.1 ⟨by simp[h1b.2.1],fun j E' hE' =>by
        rw[Array.getElem?_push] at hE';split at hE'
        ·rename_i hj;cases hE';rw[hj];exact h1b.2.1
        ·exact h1b.2.2 j E' hE'⟩ (by simp[h2]) (fun j' e' he' =>by
        by_cases hj' :j' <es.length
        ·rw[List.getElem?_append_left hj'] at he'
         obtain⟨E',hE',hr'⟩:=h3 j' e' he';exact⟨E',by rw[Array.getElem?_push,if_neg (by omega)];exact hE',hr'⟩
        ·have hje:j' =es.length:=by have:=(List.getElem?_eq_some_iff.1 he').1;simp at this;omega
         subst hje;simp at he';subst he';exact⟨{ key:=K,val:=j.zero,born:=clock },by rw[Array.getElem?_push,if_pos h2.symm],hk,hz⟩)
       refine⟨.tuple #[j.zero,goInt clock],_,μ,?_,?_,f2,f3⟩
       ·simp only[Instr.mapEntry,Sem.run_bind,run_underlying hd,Result.andThen_ok,hg]
        rw[show(10000:Nat)=20+9980 from rfl,hck];simp only[Result.andThen_ok,g1,Sem.run_bind,dB hT hj,f1,Sem.run_pure]
       ·simp only[List.length_set,VRel]
        exact⟨[j.zero,goInt clock],rfl,aY.2 ⟨hz,aY.2 ⟨by simp[VRel,goInt,h1b.2.1,h2],by simp[VRels]⟩⟩⟩
     ·cases h
    ·cases h
   ·cases h
  ·cases h
end
end Go.Eng
namespace Go.Eng
def aUn(op:UnOp) (x:AV):Option AV:=
 match op,x with
 |.not,.bool b=>some (.bool (!b))
 |.neg,.int k n=>some (.int k (k.wrap (0-n)))
 |_,_=>none
def aOp(T:TypeId→Option TyI) (env:Env) (mem:Mem) (op:Op):Option (AV×Mem):=
 match op with
 |.move x=>some (get env x,mem)
 |.assign x=>some (get env x,mem)
 |.pick c a b=>match get env c with
  |.bool t=>some (if t then get env a else get env b,mem)
  |_=>none
 |.alloc e=>pW T mem e
 |.box _ x=>SI mem (get env x)
 |.build t ps=>match bO T t (ps.toList.map fun p=>(p.1,get env p.2)) with
  |some v=>some (v,mem)
  |none=>none
 |.buildSlice t n ps=>eY T mem t n (ps.toList.map fun p=>(p.1,get env p.2))
 |.load t a=>match ME T mem t (get env a) with
  |some v=>some (v,mem)
  |none=>none
 |.store t a x=>match pX T mem t (get env a) (get env x) with
  |some m=>some (.undef,m)
  |none=>none
 |.nilCheck x=>match get env x with
  |.ptr b o=>some (.ptr b o,mem)
  |.func f cs=>some (.func f cs,mem)
  |_=>none
 |.binOp op t x y _=>match Tp T op t (oz x) (oz y) (get env x) (get env y) with
  |some v=>some (v,mem)
  |none=>none
 |.unOp op _ x=>match aUn op (get env x) with
  |some v=>some (v,mem)
  |none=>none
 |.convert s d x=>match w9 T s d (get env x) with
  |some v=>some (v,mem)
  |none=>lA T mem s d (get env x)
 |.makeFunc (.func f) first capt=>if first.size=0 then some (.func f (SJ env capt),mem) else none
 |.makeSlice t l c=>jj T mem t (get env l) (get env c)
 |.slice t x lo hi none=>match KF T mem t (get env x) (lo.map (get env)) (hi.map (get env)) with
  |some v=>some (v,mem)
  |none=>match ui T mem t (get env x) (lo.map (get env)) (hi.map (get env)) with
   |some r=>some r
   |none=>match yC T t (get env x) (lo.map (get env)) (hi.map (get env)) none with
    |some v=>some (v,mem)
    |none=>none
 |.slice t x lo hi (some mx)=>match yC T t (get env x) (lo.map (get env)) (hi.map (get env)) (some (get env mx)) with
  |some v=>some (v,mem)
  |none=>none
 |.fieldAddr t x f=>match o9 T t (get env x) f with
  |some v=>some (v,mem)
  |none=>none
 |.field t x f=>match lB T t (get env x) f with
  |some v=>some (v,mem)
  |none=>none
 |.indexAddr t x i=>match pc T t (get env x) (get env i) with
  |some v=>some (v,mem)
  |none=>none
 |.index t x i=>match KE T t (get env x) (get env i) with
  |some v=>some (v,mem)
  |none=>none
 |.makeMap _ none=>some (.map mem.length,mem++[.map []])
 |.lookup t m k ok=>match jx T mem t (get env m) (get env k) ok with
  |some v=>some (v,mem)
  |none=>none
 |.mapUpdate t m k x=>match dU T mem t (get env m) (get env k) (get env x) with
  |some m=>some (.undef,m)
  |none=>none
 |.mapEntry t m k=>og T mem t (get env m) (get env k)
 |.entryStore _ m s x=>match jv mem (get env m) (get env s) (get env x) with
  |some m=>some (.undef,m)
  |none=>none
 |.extract t i=>match get env t with
  |.tuple cs=>match cs[i]? with
   |some v=>some (v,mem)
   |none=>none
  |_=>none
 |.call { callee:=.builtin .len,args:=⟨[x]⟩,argTypes:=⟨[t]⟩ }=>match jw T t mem (get env x) with
  |some v=>some (v,mem)
  |none=>none
 |.call { callee:=.builtin .append,args:=⟨[s,x]⟩,argTypes:=⟨[t,t2]⟩ }=>if KR (T t2) then sn T mem t (get env s) (get env x) else
  match ia T mem t t2 (get env s) (get env x) with
  |some r=>some r
  |none=>o8 T mem t t2 (get env s) (get env x)
 |.call { callee:=.builtin .cap,args:=⟨[x]⟩,argTypes:=⟨[t]⟩ }=>match Tq T t (get env x) with
  |some v=>some (v,mem)
  |none=>none
 |.call { callee:=.builtin .clear,args:=⟨[x]⟩,argTypes:=⟨[t]⟩ }=>match G5 T mem t (get env x) with
  |some m=>some (.tuple [],m)
  |none=>none
 |.call { callee:=.builtin .unsafeSliceData,args:=⟨[x]⟩,argTypes:=_ }=>match pd mem (get env x) with
  |some v=>some (v,mem)
  |none=>none
 |.call { callee:=.builtin .unsafeString,args:=⟨[x,y]⟩,argTypes:=⟨[pt,_]⟩ }=>uj T mem pt (get env x) (get env y)
 |.call { callee:=.builtin .min,args:=⟨[x,y]⟩,argTypes:=_ }=>match get env x,get env y with
  |.int k a,.int k' b=>if k=k' then some (.int k (if b<a then b else a),mem) else none
  |.str a,.str b=>some (.str (if Op.bytesLess a b||a==b then a else b),mem)
  |_,_=>none
 |.call { callee:=.builtin .max,args:=⟨[x,y]⟩,argTypes:=_ }=>match get env x,get env y with
  |.int k a,.int k' b=>if k=k' then some (.int k (if a<b then b else a),mem) else none
  |.str a,.str b=>some (.str (if Op.bytesLess a b then b else a),mem)
  |_,_=>none
 |_=>none
end Go.Eng
