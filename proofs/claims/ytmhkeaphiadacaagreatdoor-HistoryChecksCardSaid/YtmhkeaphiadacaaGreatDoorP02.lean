/- See P53. -/
import Derived.Test.YtmhkeaphiadacaaGreatDoorP01
import Derived.Lib.UnsafeStr
set_option linter.all false
namespace Go.Eng
variable{V X:Value}{cs:List AV}{mem' :Mem}{v x:AV}
section
variable {P:Program}{T:TypeId→Option TyI}{μ:Nat→Place}{mem:Mem}{base:Nat}{w:World}
def abi(P:Program) (x:Sem Value) (base:Nat) (μ:Nat→Place) (mem:Mem) (w:World) (v:AV) (mem' :Mem):Prop:=
 ∃V w' μ',x.run P w=.ok V w' ∧aab μ' mem'.length v V∧aam base μ' mem' w' ∧Step mem.length μ mem w μ' mem' w'
theorem abi.aav{x:Sem Value}(hH:aam base μ mem w)(h:Val P x w μ mem.length v):abi P x base μ mem w v mem:=by obtain⟨V,h1,h2⟩:=h;exact⟨V,w,μ,h1,h2,hH,.refl (Nat.le_refl _)⟩
theorem sb(hH:aam base μ mem w)(e:TypeId)(Cs:Array Value)(es:Nat)(XV:1000≤es→e+1=es / 1000)(cs:List AV)(h:∀(j:Nat) v,cs[j]? =some v→∃V,Cs[j]? =some V∧aab μ mem.length v V):
  aam base (upd μ mem.length ⟨w.heap.size,0,Cs.size,es%1000⟩) (mem++[.cells true es cs]) (w.alloc (.cells Cs e))∧
  Step mem.length μ mem w (upd μ mem.length ⟨w.heap.size,0,Cs.size,es%1000⟩) (mem++[.cells true es cs]) (w.alloc (.cells Cs e)):=by
 refine hH.push _ _ _ rfl ?_;simp only[aap];refine⟨Cs,e,(0,0),heap_alloc_new w _,⟨rfl,XV⟩,?_,fun j v hv=>?_,fun _=>by simp;exact hH.aai⟩
 ·rcases Nat.eq_zero_or_pos cs.length with h0 | h0
  ·omega
  ·obtain⟨V,hV,_⟩:=h (cs.length-1) cs[cs.length-1] (by simp)
   have:=(Array.getElem?_eq_some_iff.1 hV).1;omega
 ·obtain⟨V,hV,hr⟩:=h j v hv
  exact⟨V,by simpa using hV,hr.mono (Nat.le_succ _) fun b hb=>vE hb⟩
theorem wZ{n:Nat}{vs:List AV}{cur Vs:List Value}{o:Nat}(Xj:o+vs.length≤cs.length)(h:∀(j:Nat) v,cs[j]? =some v→∃V,cur[j]? =some V∧aab μ n v V)(hv:aad μ n vs Vs):
  ∀(j:Nat) v,(cs.take o++vs++cs.drop (o+vs.length))[j]? =some v→∃V,(cur.take o++Vs++cur.drop (o+Vs.length))[j]? =some V∧aab μ n v V:=by
 have hl:=hv.length;have Xr:cs.length≤cur.length:=by
  rcases Nat.eq_zero_or_pos cs.length with h0 | h0
  ·omega
  ·obtain⟨V,hV,_⟩:=h (cs.length-1) cs[cs.length-1] (by simp)
   have:=(List.getElem?_eq_some_iff.1 hV).1;omega
 have e1:(cs.take o).length=o:=by simp;omega
 have e2:(cur.take o).length=o:=by simp;omega
 intro j v hj;rw[List.append_assoc] at hj ⊢;by_cases h1:j<o
 ·rw[List.getElem?_append_left (by omega),List.getElem?_take_of_lt h1] at hj
  rw[List.getElem?_append_left (by omega),List.getElem?_take_of_lt h1];exact h j v hj
 ·rw[List.getElem?_append_right (by omega),e1] at hj
  rw[List.getElem?_append_right (by omega),e2];by_cases h2:j-o<vs.length
  ·rw[List.getElem?_append_left h2] at hj
   rw[List.getElem?_append_left (by omega)];exact hv.get _ v hj
  ·rw[List.getElem?_append_right (by omega),List.getElem?_drop] at hj
   rw[List.getElem?_append_right (by omega),List.getElem?_drop];rw[show o+Vs.length+(j-o-Vs.length)=o+vs.length+(j-o-vs.length) by omega];exact h _ v hj
def FQ(T:TypeId→Option TyI) (e:TypeId) (i:TyI):Bool:=match i.desc with
 |.struct fs=>match fs[0]? with
  |some f=>match T f.type with
   |some k=>match k.desc with
    |.pointer e' =>e' ==e
    |_=>false
   |none=>false
  |none=>false
 |_=>false
def kk(T:TypeId→Option TyI) (mem:Mem) (e:TypeId):Option (AV×Mem):=
 match T e with
 |some i=>some (.ptr mem.length 0,mem++[.cells true (if FQ T e i then 1000*(e+1) else 0) (iL i.zero).cells])
 |none=>none
theorem xM(hH:aam base μ mem w)(e:TypeId)(es:Nat)(XV:1000≤es→e+1=es / 1000)(h:aad μ mem.length cs V.cells.toList):
  abi P (do pure (.pointer (some (←newVar e V)))) base μ mem w (.ptr mem.length 0) (mem++[.cells true es cs]):=by
 obtain⟨h1,h2⟩:=sb hH e V.cells es XV cs (fun j v hv=>by obtain⟨U,hU,hr⟩:=h.get j v hv;exact⟨U,by simpa using hU,hr⟩)
 refine⟨.pointer (some ⟨w.heap.size,0,none⟩),_,_,?_,?_,h1,h2⟩
 ·simp only[newVar,newRow,Sem.run_bind,run_newObj,Result.andThen_ok,Sem.run_pure]
  rfl
 ·simp[aab,dT]
theorem JS(hT:cH P T)(hH:aam base μ mem w){e:TypeId}(h:kk T mem e=some (v,mem')):
  abi P (Instr.alloc e true (.tuple #[])) base μ mem w v mem' :=by
 unfold kk at h;split at h
 ·rename_i i hi
  cases h;have:=xM (P:=P) hH e (if FQ T e i then 1000*(e+1) else 0) (by cases FQ T e i with | false=>simp | true=>simp only[if_true];intro _;rw[Nat.mul_div_cancel_left _ (by omega)]) (V:=i.zero) (jh μ mem.length i.zero);obtain⟨V,w',μ',h1,h2⟩:=this;refine⟨V,w',μ',?_,h2⟩;simp only[Instr.alloc,Sem.run_bind,dU hT hi,Result.andThen_ok];exact h1
 ·cases h
def Vk(mem:Mem) (x:AV):Option (AV×Mem):=if x.known then some (.ptr mem.length 0,mem++[.cells true 0 x.cells]) else none
theorem Pw(hH:aam base μ mem w){e:TypeId}(hx:aab μ mem.length x X)(h:Vk mem x=some (v,mem')):
  abi P (Instr.box e X) base μ mem w v mem' :=by
 unfold Vk at h;split at h
 ·rename_i hk
  cases h;exact xM (P:=P) hH e 0 (by omega) (hx.cells hk)
 ·cases h
theorem J2(hT:cH P T)(hH:aam base μ mem w){t:TypeId}(hx:aab μ mem.length x X)(hv:aab μ mem.length v V)(h:ko T mem t x v=some mem'):∃w',(Instr.storeAt t X V).run P w=.ok () w' ∧aam base μ mem' w' ∧Step mem.length μ mem w μ mem' w' :=by
 unfold ko at h;split at h
 ·rename_i i b o ht
  split at h
  ·rename_i es cs hb
   split at h
   ·rename_i hc
    cases h;simp only[Bool.and_eq_true,decide_eq_true_eq,List.all_eq_true] at hc;obtain⟨⟨⟨hk,Xd⟩,Xj⟩,WN⟩:=hc;obtain⟨XR,rfl⟩:=hx.ptr;have hs:=hH.slot b _ hb;simp only[aap] at hs;obtain⟨cur,el,fr,g1,g2,g3,g4,g5⟩:=hs;obtain⟨g6,g7,g8,g9⟩:=g5 trivial;subst g7;have ZN:=hv.cells hk;have hVl:V.cells.size=i.size:=by rw[←Array.length_toList,ZN.length,Xd]
    have h1:∀u∈V.cells.toList,u.oneCell' =true:=by
     intro u hu;obtain⟨j,hj⟩:=List.getElem?_of_mem hu;have hj' :j<v.cells.length:=by rw[←ZN.length];exact(List.getElem?_eq_some_iff.1 hj).1
     obtain⟨U,hU,hr⟩:=ZN.get j v.cells[j] (by simp[hj']);rw[hj] at hU;cases hU;exact hr.abz (WN _ (by simp))
    have WI:=run_storeCells_at (P:=P) (μ b).blk o el V.cells.toList 0 cur w g1 (by rw[ZN.length,Xd];omega) h1;refine⟨w.setRow (μ b).blk (cur.toList.take (o+0)++V.cells.toList++cur.toList.drop (o+0+V.cells.toList.length)).toArray,?_,hH.write hb (ji hb) (fun _=>⟨_,List.getElem?_set_self (List.getElem?_eq_some_iff.1 hb).1,rfl⟩) rfl rfl rfl rfl (by simp[World.setRow]) (fun k hk=>setRow_other w _ k _ hk) ?_⟩
    ·simp only[Instr.storeAt,Instr.sureAddr,Sem.run_bind,Sem.run_pure,Result.andThen_ok,storeVar,cA hT ht,hVl,ne_eq,not_true_eq_false,if_false,g6,Nat.zero_add]
     exact WI
    ·simp only[aap]
     refine⟨_,el,(0,0),setRow_heap w (μ b).blk cur _ el (0,0) g1,g2,?_,fun j u hu=>?_,fun _=>⟨g6,rfl,?_,g9⟩⟩
     ·simp only[List.length_append,List.length_take,List.length_drop,Xd];omega
     ·rw[g6] at g4
      have:=wZ (cs:=cs) (vs:=v.cells) (Vs:=V.cells.toList) (o:=o) (cur:=cur.toList) (by rw[Xd];exact Xj) (fun j v hv=>by simpa using g4 j v hv) ZN j u (by rw[Xd];exact hu);obtain⟨U,hU,hr⟩:=this;refine⟨U,?_,hr⟩;rw[g6];simpa using hU
     ·simp only[List.size_toArray,List.length_append,List.length_take,List.length_drop,Array.length_toList,hVl];omega
   ·cases h
  ·cases h
 ·cases h
end
end Go.Eng
namespace Go.Eng
section
variable {P:Program}{T:TypeId→Option TyI}{μ:Nat→Place}{mem:Mem}{base:Nat}{w:World}
def gA(z:List AV):Nat→List AV
 |0=>[]
 |k+1=>z++gA z k
theorem gL(z:List AV):∀k,(gA z k).length=k*z.length
 |0=>by simp[gA]
 |k+1=>by simp[gA,gL z k,Nat.add_mul,Nat.add_comm]
theorem sf{n:Nat}{z:List AV}{Z:Array Value}(hz:aad μ n z Z.toList):∀(k:Nat) (j:Nat) v,(gA z k)[j]? =some v→
  ∃V,Z[j%Z.size]! =V∧aab μ n v V∧j<k*Z.size
 |0,j,v,h=>by simp[gA] at h
 |k+1,j,v,h=>by
  have hl:Z.size=z.length:=by rw[←Array.length_toList,hz.length]
  rw[gA] at h;by_cases hj:j<z.length
  ·rw[List.getElem?_append_left hj] at h
   obtain⟨V,hV,hr⟩:=hz.get j v h;refine⟨V,?_,hr,by rw[hl,Nat.add_mul];omega⟩;rw[Nat.mod_eq_of_lt (by omega)];have:Z[j]? =some V:=by simpa using hV
   simp[getElem!_def,this]
  ·rw[List.getElem?_append_right (by omega)] at h
   obtain⟨V,hV,hr,hb⟩:=sf hz k (j-z.length) v h;refine⟨V,?_,hr,by rw[hl] at hb ⊢;rw[Nat.add_mul];omega⟩;rw[←hV,hl];congr 1;rw[Nat.mod_eq_sub_mod (by omega)]
theorem DQ{Z:Array Value}{m j:Nat}(h:j<m):((Array.range m).map (fun i=>Z[i%Z.size]!))[j]? =some (Z[j%Z.size]!):=by simp[h]
def fH(T:TypeId→Option TyI) (mem:Mem) (t:TypeId) (len:Nat) (parts:List (Nat×AV)):Option (AV×Mem):=
 match T t with
 |none=>none
 |some i=>
  match i.desc with
  |.slice e=>
   match T e with
   |none=>none
   |some j=>
    if len*j.size≤16777216∧0<j.size∧j.size<1000 then
     match kB (fun k=>some (k*j.size,j.size)) (gA (iL j.zero).cells len) parts with
     |some cs=>some (.slice mem.length 0 len none,mem++[.cells true j.size cs])
     |none=>none
    else none
  |_=>none
theorem wq(hT:cH P T)(hH:aam base μ mem w){t:TypeId}{len:Nat}{parts:List (Nat×AV)}{Parts:List (Nat×Value)}{v:AV}{mem' :Mem}(hp:Parts.map (·.1)=parts.map (·.1))(hv:aad μ mem.length (parts.map (·.2)) (Parts.map (·.2)))(h:fH T mem t len parts=some (v,mem')):
  abi P (Instr.buildSlice t len ⟨Parts⟩) base μ mem w v mem' :=by
 unfold fH at h;cases ht:T t with
 |none=>rw[ht] at h;cases h
 |some i=>
  rw[ht] at h;simp only at h;have hd:=(hT t i ht).desc;split at h
  ·rename_i e B'
   rw[B'] at hd;split at h
   ·cases h
   ·rename_i j hj
    split at h
    ·rename_i hc
     split at h
     ·rename_i cs hf
      cases h;have hz:=jh μ mem.length j.zero;have hzs:=(hT e j hj).abB;have hzl:(iL j.zero).cells.length=j.size:=by rw[←hz.length,Array.length_toList,hzs]
      have Zo:aad μ mem.length (gA (iL j.zero).cells len) ((Array.range (len*j.size)).map (fun i=>j.zero.cells[i%j.zero.cells.size]!)).toList:=by
       refine aad.abe (by simp[gL,hzl]) fun q u hu=>?_
       obtain⟨V,h1,h2,h3⟩:=sf hz len q u hu;refine⟨V,?_,h2⟩;have:=DQ (Z:=j.zero.cells) (m:=len*j.size) (j:=q) (by rw[hzs] at h3;exact h3);rw[h1] at this;rw[Array.getElem?_toList];exact this
      obtain⟨Cs,hF,hCs⟩:=rX hf Zo hp hv;obtain⟨h1,h2⟩:=sb hH e ⟨Cs⟩ j.size (by omega) cs (fun q u hu=>by obtain⟨U,hU,hr⟩:=hCs.get q u hu;exact⟨U,by simpa using hU,hr⟩)
      have A':Cs.length=len*j.size:=by
       rw[hCs.length];have:∀{pl:Nat→Option (Nat×Nat)}{ps:List (Nat×AV)}{a b:List AV},kB pl a ps=some b→b.length=a.length:=by
        intro pl ps;induction ps with
        |nil=>intro a b hh;simp only[kB,Option.some.injEq] at hh;rw[hh]
        |cons p ps ih=>
         obtain⟨pi,pv⟩:=p;intro a b hh;rw[kB] at hh;cases Xk:pl pi with
         |none=>rw[Xk] at hh;cases hh
         |some os=>
          obtain⟨off,size⟩:=os;rw[Xk] at hh;simp only at hh;split at hh
          ·rename_i hcc
           simp only[Bool.and_eq_true,decide_eq_true_eq] at hcc;rw[ih hh];simp only[List.length_append,List.length_take,List.length_drop];omega
          ·cases hh
       rw[this hf,gL,hzl]
      refine⟨.slice (some ⟨w.heap.size,0,none⟩) len len,_,_,?_,?_,h1,h2⟩
      ·simp only[Instr.buildSlice,Sem.run_bind,run_underlying hd,Result.andThen_ok,cA hT hj]
       rw[if_neg (by omega)];have hF' :=hF;rw[show(⟨((Array.range (len*j.size)).map (fun i=>j.zero.cells[i%j.zero.cells.size]!)).toList⟩:Array Value)=(Array.range (len*j.size)).map (fun i=>j.zero.cells[i%j.zero.cells.size]!) from rfl] at hF';by_cases h0:len*j.size=0
       ·rw[if_pos h0]
        rw[h0] at hF' ⊢;simp only[Sem.run_bind,Sem.run_pure,Result.andThen_ok,Array.range_zero',Array.map_empty] at hF' ⊢;rw[hF'];simp only[newRow,Sem.run_bind,run_newObj,Result.andThen_ok,Sem.run_pure];rfl
       ·rw[if_neg h0]
        simp only[Sem.run_bind,Sem.run_pure,Result.andThen_ok,dU hT hj];rw[hF'];simp only[newRow,Sem.run_bind,run_newObj,Result.andThen_ok,Sem.run_pure];rfl
      ·simp only[aab,dT,iU,List.length_append,List.length_singleton]
       refine⟨by omega,?_⟩;simp only[Nat.sub_zero,A',List.size_toArray,Nat.mod_eq_of_lt hc.2.2,Nat.mul_div_cancel _ hc.2.1]
     ·cases h
    ·cases h
  ·cases h
end
end Go.Eng
namespace Go.Eng
theorem ai{n:Int}(h0: -9223372036854775808≤n)(h1:n≤9223372036854775807):IntKind.i64.wrap n=n:=by simp only[IntKind.wrap,IntKind.bits,IntKind.signed,Bool.true_and,ge_iff_le,decide_eq_true_eq,Nat.reduceSub];split<;>omega
section
variable {P:Program}{T:TypeId→Option TyI}{μ:Nat→Place}{mem:Mem}{base:Nat}{w:World}
def jR(T:TypeId→Option TyI) (mem:Mem) (t:TypeId) (l c:AV):Option (AV×Mem):=
 match T t with
 |none=>none
 |some i=>
  match i.desc,l,c with
  |.slice e,.int _ l,.int _ c=>
   match T e with
   |none=>none
   |some j=>
    if 0≤l∧l≤c∧(j.bytes:Int)*c≤281474976710656∧c≤281474976710656∧0<j.size∧j.size<1000 then
     some (.slice mem.length 0 l.toNat none,mem++[.cells true j.size (gA (iL j.zero).cells l.toNat)])
    else none
  |_,_,_=>none
theorem yR(hT:cH P T)(hH:aam base μ mem w){t:TypeId}{l c v:AV}{L C:Value}{mem' :Mem}(hl:aab μ mem.length l L)(hc:aab μ mem.length c C)(h:jR T mem t l c=some (v,mem')):
  abi P (Instr.makeSlice t L C) base μ mem w v mem' :=by
 unfold jR at h;cases ht:T t with
 |none=>rw[ht] at h;cases h
 |some i=>
  rw[ht] at h;simp only at h;have hd:=(hT t i ht).desc;split at h
  ·rename_i e k1 l k2 c B'
   rw[B'] at hd;split at h
   ·cases h
   ·rename_i j hj
    split at h
    ·rename_i hcd
     obtain⟨g1,g2,g3,g4,g5,g6⟩:=hcd;cases h;rw[hl.int,hc.int];have hz:=jh μ mem.length j.zero;have hzs:=(hT e j hj).abB;have hzl:(iL j.zero).cells.length=j.size:=by rw[←hz.length,Array.length_toList,hzs]
     obtain⟨f,hf,hfs,hfb,hfz⟩:=xW hT hj w;have w1:IntKind.i64.wrap l=l:=ai (by omega) (by omega);have w2:IntKind.i64.wrap c=c:=ai (by omega) (by omega);obtain⟨h1,h2⟩:=sb hH e ((Array.range (c.toNat*j.size)).map (fun i=>j.zero.cells[i%j.zero.cells.size]!)) j.size (by omega) (gA (iL j.zero).cells l.toNat) (fun q u hu=>by obtain⟨V,e1,e2,e3⟩:=sf hz _ q u hu;refine⟨V,?_,e2⟩;rw[hzs] at e3;have Xr:l.toNat*j.size≤c.toNat*j.size:=Nat.mul_le_mul_right _ (by omega);have:=DQ (Z:=j.zero.cells) (m:=c.toNat*j.size) (j:=q) (by omega);rw[e1] at this;exact this)
     refine⟨.slice (some ⟨w.heap.size,0,none⟩) l.toNat c.toNat,_,_,?_,?_,h1,h2⟩
     ·have hb:¬(281474976710656<(f.bytes:Int)*c):=by rw[hfb];omega
      have WE:¬((f.bytes:Int)*c>2 ^ 48):=by rw[hfb];omega
      have hc0:¬c<0:=by omega
      have hl0:¬l<0:=by omega
      have hlc:¬l>c:=by omega
      simp only[Instr.makeSlice,Sem.run_bind,run_underlying hd,asInt,asIntOf,Sem.run_pure,Result.andThen_ok,hf,w1,w2];have I':((decide (c<0)||decide ((f.bytes:Int)*c>2 ^ 48))||decide (l<0)||decide (l>c))=false:=by simp[hc0,hl0,hlc,hb]
      simp only[I',Bool.false_eq_true,if_false];have hask:∀n,(askRoom n).run P w=.ok () w:=by intro n;unfold askRoom;split<;>simp[mark,Sem.run]
      simp only[Sem.run_bind,hask,Result.andThen_ok,cA hT hj];by_cases h0:c.toNat*j.size=0
      ·rw[if_pos h0]
       rw[h0];simp only[Sem.run_bind,Sem.run_pure,Result.andThen_ok,Array.range_zero',Array.map_empty,newRow,run_newObj];rfl
      ·rw[if_neg h0]
       simp only[Sem.run_bind,Sem.run_pure,Result.andThen_ok,dU hT hj,newRow,run_newObj];rfl
     ·simp only[aab,dT,iU,List.length_append,List.length_singleton]
      refine⟨by omega,?_⟩;simp only[Nat.sub_zero,Array.size_map,Array.size_range,Nat.mod_eq_of_lt g6,Nat.mul_div_cancel _ g5]
    ·cases h
  ·cases h
def il(T:TypeId→Option TyI) (mem:Mem) (size:Nat) (t2:TypeId):AV→Option (Nat×List AV)
 |.kO=>some (0,[])
 |.slice b o m _=>match mem[b]? with
  |some (.cells _ _ cs)=>if o+m*size≤cs.length then some (m,(cs.drop o).take (m*size)) else none
  |_=>if m=0 then some (0,[]) else none
 |.str s=>match T t2 with
  |some i=>match i.desc with
   |.string=>if size=1 then some (s.length,s.map fun c=>.int .u8 c.toNat) else none
   |_=>none
  |none=>none
 |_=>none
def w9(i:TyI):Bool:=match i.desc with
 |.slice _=>true
 |.string=>true
 |_=>false
def vx(j:TyI) (e:TypeId):Nat:=match j.desc with
 |.int .u8=>j.size+1000*(e+1)
 |_=>j.size
def gq(T:TypeId→Option TyI) (mem:Mem) (t t2:TypeId) (s x:AV):Option (AV×Mem):=
 match T t with
 |none=>none
 |some i=>
  match i.desc with
  |.slice e=>
   match T e,T t2 with
   |some j,some i2=>
    if j.size=0∨1000≤j.size∨w9 i2=false then none else
    match il T mem j.size t2 x with
    |none=>none
    |some (m,news)=>
     if news.all AV.qK=true then
      match s with
      |.kO=>
       if m=0 then some (.kO,mem)
       else if m*j.bytes≤140737488355328∧m≤140737488355328 then some (.slice mem.length 0 m none,mem++[.cells true (vx j e) news])
       else none
      |.slice b 0 n none=>
       match mem[b]? with
       |some (.cells true es cs)=>
        if (es=j.size∨es=vx j e)∧n*j.size≤cs.length∧(n+m)*j.bytes≤140737488355328∧n+m≤140737488355328 then
         some (.slice mem.length 0 (n+m) none,mem.set b .qF++[.cells true es (cs.take (n*j.size)++news)])
        else none
       |_=>none
      |_=>none
     else none
   |_,_=>none
  |_=>none
theorem sI(hH:aam base μ mem w){size:Nat}{t2:TypeId}{x:AV}{X:Value}{m:Nat}{news:List AV}(hx:aab μ mem.length x X)(h:il T mem size t2 x=some (m,news)):
  ∃Ns,aad μ mem.length news Ns∧news.length=m*size∧(Builtin.lenOf X).run P w=.ok m w∧
   ∀w',(∀a,w'.cell? a=w.cell? a)→(Builtin.firstCells size m X).run P w' =.ok ⟨Ns⟩ w' :=by
 unfold il at h;split at h
 ·cases h
  simp only[aab] at hx;subst hx;exact⟨[],by simp[aad],by simp,by simp[Builtin.lenOf],fun w' _=>by simp[Builtin.firstCells]⟩
 ·rename_i b o k c
  split at h
  ·rename_i own es cs hb
   split at h
   ·rename_i Xr
    cases h;obtain⟨XR,rfl⟩:=hx.slice;obtain⟨Vs,h1,h2,h3⟩:=hH.cells hb Xr;refine⟨Vs,h1,by simp;omega,by simp[Builtin.lenOf],fun w' hw=>?_⟩;exact run_firstCells_some w' size m _ _ _ Vs h2 (fun j v hv=>by rw[hw];exact h3 j v hv)
   ·cases h
  ·split at h
   ·rename_i h0
    cases h;subst h0;obtain⟨XR,rfl⟩:=hx.slice;refine⟨[],by simp[aad],by simp,by simp[Builtin.lenOf],fun w' hw=>?_⟩;exact run_firstCells_some w' size 0 _ _ _ [] (by simp) (fun j v hv=>by simp at hv)
   ·cases h
 ·rename_i s
  split at h
  ·split at h
   ·split at h
    ·rename_i Xd
     cases h;subst Xd;rw[hx.str];refine⟨s.map fun c=>.int .u8 c.toNat,?_,by simp,by simp[Builtin.lenOf,rR],fun w' _=>?_⟩
     ·refine aad.abe (by simp) fun i v hv=>?_
      simp only[List.getElem?_map,Option.map_eq_some_iff] at hv ⊢;obtain⟨c,hc,rfl⟩:=hv;exact⟨_,⟨c,hc,rfl⟩,by simp[aab]⟩
     ·simp only[Builtin.firstCells,Sem.run_pure,Result.ok.injEq,and_true]
      have:(ByteArray.mk s.toArray).extract 0 s.length=⟨s.toArray⟩:=by apply ByteArray.ext;apply Array.ext';simp[List.extract]
      rw[this];simp
    ·cases h
   ·cases h
  ·cases h
 ·cases h
end
end Go.Eng
namespace Go.Eng
variable{b:Nat}{j:TyI}
section
variable {P:Program}{T:TypeId→Option TyI}{μ:Nat→Place}{mem:Mem}{base:Nat}{w:World}
section
variable (hT:cH P T){t t2 ty e:TypeId}(hd:P.underlying t=some (.slice e))(hj:T e=some j)(Z6:(∃e2,P.underlying t2=some (.slice e2))∨P.underlying t2=some .string)(bs:Option Addr)
include hT t t2 ty e hd hj Z6 bs
theorem tU(n c m:Nat)(X:Value)(w:World)(hl:(Builtin.lenOf X).run P w=.ok m w)(Xj:n+m≤c):
  (Builtin.append_ #[t,t2] ty #[.slice bs n c,X]).run P w=
   ((Builtin.firstCells j.size m X).run P w).andThen fun new w' =>match bs with
    |some a=>((storeCells (a.add (n*j.size)) new.toList).run P w').andThen fun _ w'' =>.ok (.slice bs (n+m) c) w''
    |none=>.ok (.slice bs (n+m) c) w' :=by
 rcases Z6 with⟨e2,hd2⟩ | hd2<;>
  simp[Builtin.append_,run_underlying hd,run_underlying hd2,cA hT hj,hl,Xj]<;>cases bs<;>simp
theorem AL(n c m:Nat)(X:Value)(w:World)(Os Ns:List Value)(hl:(Builtin.lenOf X).run P w=.ok m w)(Xj:c<n+m)(hb:(n+m)*j.bytes≤140737488355328)(hm:n+m≤140737488355328)(hO:(Builtin.firstCells j.size n (.slice bs n c)).run P w.drew=.ok ⟨Os⟩ w.drew)(hN:(Builtin.firstCells j.size m X).run P w.drew=.ok ⟨Ns⟩ w.drew):
  ∃nc,n+m≤nc∧(Builtin.append_ #[t,t2] ty #[.slice bs n c,X]).run P w=
   .ok (.slice (some ⟨w.heap.size,0,none⟩) (n+m) nc) (w.drew.alloc (.cells (⟨Os⟩++(⟨Ns⟩++Builtin.zeroCells j.zero.cells (nc-(n+m)))) e)):=by
 obtain⟨f,hf,hfs,hfb,hfz⟩:=(hT e j hj).info;have hnf:¬(n+m≤c):=by omega
 have h63:¬(9223372036854775807<((n:Int)+(m:Int))):=by omega
 have h48:¬(281474976710656<Builtin.nextslicecap (n+m) c*f.bytes):=by have:=growslice_fits Xj (bytes:=f.bytes) (by rw[hfb];exact hb);omega
 have hask:∀n w,(askRoom n).run P w=.ok () w:=by intro n w;unfold askRoom;split<;>simp[mark,Sem.run]
 refine⟨grownCap w (n+m) c e,grownCap_ge w (n+m) c e,?_⟩;rcases Z6 with⟨e2,hd2⟩ | hd2<;>
  simp[Builtin.append_,run_underlying hd,run_underlying hd2,sizeOf,typeInfo,zeroValue,hf,hfs,hfz,hl,hnf,h63,h48,Question.forced,hO,hN,newRow,grownCap,hask]
end
theorem aam.drop{s:aae}(hH:aam base μ mem w)(hb:mem[b]? =some s):aam base μ (mem.set b .qF) w:=by
 have AC:b<mem.length:=(List.getElem?_eq_some_iff.1 hb).1;have own:∀x,dL (mem.set b .qF) x→dL mem x∧x≠b:=by
  intro x hx;by_cases hxb:x=b
  ·subst hxb
   obtain⟨s0,hc,ho⟩:=hx;rw[List.getElem?_set_self AC] at hc;cases hc;cases ho
  ·obtain⟨s0,hc,ho⟩:=hx
   rw[List.getElem?_set_ne (Ne.symm hxb)] at hc;exact⟨⟨s0,hc,ho⟩,hxb⟩
 refine⟨hH.aai,fun x t ht=>?_,fun x x' t hx YN H' hxx=>?_⟩
 ·rw[List.length_set]
  by_cases hxb:x=b
  ·subst hxb;rw[List.getElem?_set_self AC] at ht;cases ht;trivial
  ·rw[List.getElem?_set_ne (Ne.symm hxb)] at ht;exact hH.slot x t ht
 ·by_cases hxb:x' =b
  ·subst hxb;rw[List.getElem?_set_self AC] at YN;cases YN;exact absurd rfl H'
  ·rw[List.getElem?_set_ne (Ne.symm hxb)] at YN
   exact hH.sep x x' t (own x hx).1 YN H' hxx
theorem Step.drop{m0:Nat}{μ:Nat→Place}{mem:Mem}{w:World}(h:m0≤mem.length):Step m0 μ mem w μ (mem.set b .qF) w:=by
 refine⟨by simpa using h,fun _ _=>rfl,rfl,rfl,rfl,Nat.le_refl _,fun _ _ _=>rfl,fun x hx _=>⟨x,?_,rfl⟩,Nat.le_refl _⟩;by_cases hxb:x=b
 ·subst hxb
  by_cases AC:x<mem.length
  ·obtain⟨s0,hc,ho⟩:=hx
   rw[List.getElem?_set_self AC] at hc;cases hc;cases ho
  ·obtain⟨s0,hc,ho⟩:=hx
   have:=(List.getElem?_eq_some_iff.1 hc).1;simp at this;omega
 ·obtain⟨s0,hc,ho⟩:=hx
  rw[List.getElem?_set_ne (Ne.symm hxb)] at hc;exact⟨s0,hc,ho⟩
theorem aam.rename{es:Nat}{cs WU :List AV}{w' :World}(hH:aam base μ mem w)(hb:mem[b]? =some (.cells true es cs))(hdr:w'.drawn=w.drawn)(hos:w'.os=w.os)(Z2:w'.tape=w.tape)(hout:w'.output=w.output)(Xd:w'.heap.size=w.heap.size)(hoth:∀k,k≠(μ b).blk→w'.heap[k]? =w.heap[k]?)(hs:aap μ mem.length base w' (μ b) (.cells true es WU)):
  aam base (upd μ mem.length (μ b)) (mem.set b .qF++[.cells true es WU]) w' ∧
  Step mem.length μ mem w (upd μ mem.length (μ b)) (mem.set b .qF++[.cells true es WU]) w' :=by
 have AC:b<mem.length:=(List.getElem?_eq_some_iff.1 hb).1;have Xn:dL mem b:=ji hb;have hw:=hH.write (s' :=.cells true es WU) hb Xn (fun _=>⟨_,List.getElem?_set_self AC,rfl⟩) hdr hos Z2 hout Xd hoth hs;have hμ:∀x,x<mem.length→upd μ mem.length (μ b) x=μ x:=fun x hx=>vE hx
 have A':(mem.set b .qF).length=mem.length:=by simp
 have own:∀x,dL (mem.set b .qF++[.cells true es WU]) x→(x<mem.length∧x≠b∧dL mem x)∨x=mem.length:=by
  intro x hx;by_cases hxl:x<mem.length
  ·refine .inl ⟨hxl,?_⟩
   have YN :dL (mem.set b .qF) x:=by obtain⟨s0,hc,ho⟩:=hx;rw[List.getElem?_append_left (by omega)] at hc;exact⟨s0,hc,ho⟩
   by_cases hxb:x=b
   ·subst hxb
    obtain⟨s0,hc,ho⟩:=YN;rw[List.getElem?_set_self AC] at hc;cases hc;cases ho
   ·refine⟨hxb,?_⟩
    obtain⟨s0,hc,ho⟩:=YN;rw[List.getElem?_set_ne (Ne.symm hxb)] at hc;exact⟨s0,hc,ho⟩
  ·refine .inr ?_
   obtain⟨s0,hc,ho⟩:=hx;have:=(List.getElem?_eq_some_iff.1 hc).1;simp at this;omega
 constructor
 ·refine⟨hw.1.aai,fun x t ht=>?_,fun x x' t hx YN H' hxx=>?_⟩
  ·rw[List.length_append,List.length_singleton,A']
   by_cases hxl:x<mem.length
   ·rw[List.getElem?_append_left (by omega)] at ht
    rw[hμ x hxl];by_cases hxb:x=b
    ·subst hxb;rw[List.getElem?_set_self AC] at ht;cases ht;trivial
    ·rw[List.getElem?_set_ne (Ne.symm hxb)] at ht
     have:=hw.1.slot x t (by rw[List.getElem?_set_ne (Ne.symm hxb)];exact ht);rw[List.length_set] at this;exact this.mono (Nat.le_succ _) hμ fun _=>rfl
   ·have hxe:x=mem.length:=by have:=(List.getElem?_eq_some_iff.1 ht).1;simp at this;omega
    subst hxe;rw[List.getElem?_append_right (by omega),A'] at ht;simp at ht;subst ht;rw[dT];exact hs.mono (Nat.le_succ _) hμ fun _=>rfl
  ·have pres:∀y s,(mem.set b .qF++[.cells true es WU])[y]? =some s→s≠ .qF→(y<mem.length∧y≠b∧mem[y]? =some s)∨y=mem.length:=by
    intro y s hy hns;by_cases hyl:y<mem.length
    ·rw[List.getElem?_append_left (by omega)] at hy
     by_cases hyb:y=b
     ·subst hyb;rw[List.getElem?_set_self AC] at hy;cases hy;exact absurd rfl hns
     ·rw[List.getElem?_set_ne (Ne.symm hyb)] at hy;exact .inl ⟨hyl,hyb,hy⟩
    ·exact .inr (by have:=(List.getElem?_eq_some_iff.1 hy).1;simp at this;omega)
   rcases own x hx with⟨a1,a2,a3⟩ | rfl<;>rcases pres x' t YN H' with⟨b1,b2,b3⟩ | rfl
   ·rw[hμ x a1,hμ x' b1];exact hH.sep x x' t a3 b3 H' hxx
   ·rw[hμ x a1,dT];exact hH.sep x b _ a3 hb (by simp) a2
   ·rw[hμ x' b1,dT];exact hH.sep b x' t Xn b3 H' (Ne.symm b2)
   ·exact absurd rfl hxx
 ·refine⟨by simp,hμ,hos,Z2,hout,by omega,fun k hk hf=>hoth k fun he=>hf b Xn he.symm,fun x hx WD =>?_,Nat.le_of_eq hdr.symm⟩
  rcases own x hx with⟨a1,_,a3⟩ | rfl
  ·exact⟨x,a3,by rw[hμ x a1]⟩
  ·exact⟨b,Xn,by rw[dT]⟩
end
end Go.Eng
namespace Go.Eng
section
variable {P:Program}{T:TypeId→Option TyI}{μ:Nat→Place}{mem:Mem}{base:Nat}{w:World}
theorem aam.drew(h:aam base μ mem w):aam base μ mem w.drew:=h.abh rfl
theorem aad.aa0{n:Nat}{vs:List AV}{Vs:List Value}(h:aad μ n vs Vs)(ha:vs.all AV.qK=true):∀u∈Vs,u.oneCell' =true:=by
 intro u hu;obtain⟨j,hj⟩:=List.getElem?_of_mem hu;have AC:j<vs.length:=by rw[←h.length];exact(List.getElem?_eq_some_iff.1 hj).1
 obtain⟨U,hU,hr⟩:=h.get j vs[j] (by simp[AC]);rw[hj] at hU;cases hU;exact hr.abz (List.all_eq_true.1 ha _ (by simp))
theorem FL{j:TyI}{e:TypeId}(h:j.size<1000):vx j e%1000=j.size∧(1000≤vx j e→e+1=vx j e / 1000):=by
 unfold vx;split
 ·refine⟨by rw[Nat.add_mul_mod_self_left,Nat.mod_eq_of_lt h],fun _=>by rw[Nat.add_mul_div_left _ _ (by omega),Nat.div_eq_of_lt h,Nat.zero_add]⟩
 ·exact⟨Nat.mod_eq_of_lt h,fun h1=>by omega⟩
theorem MX(hH:aam base μ mem w){e:TypeId}{size need nc es:Nat}(XV:es%1000=size∧(1000≤es→e+1=es / 1000)){olds news:List AV}{Os Ns:List Value}{z:Array Value}(h0:0<size)(hz:z.size=size)(hO:aad μ mem.length olds Os)(hN:aad μ mem.length news Ns)(hl:olds.length+news.length=need*size)(hnc:need≤nc){x:Sem Value}(hx:x.run P w=.ok (.slice (some ⟨w.heap.size,0,none⟩) need nc) (w.drew.alloc (.cells (⟨Os⟩++(⟨Ns⟩++Builtin.zeroCells z (nc-need))) e))):
  abi P x base μ mem w (.slice mem.length 0 need none) (mem++[.cells true es (olds++news)]):=by
 have Xd:(⟨Os⟩++(⟨Ns⟩++Builtin.zeroCells z (nc-need)):Array Value).size=nc*size:=by simp only[Array.size_append,List.size_toArray,size_zeroCells,hz,hO.length,hN.length];rw[←Nat.add_assoc,hl,←Nat.add_mul];congr 1;omega
 obtain⟨h1,h2⟩:=sb hH.drew e (⟨Os⟩++(⟨Ns⟩++Builtin.zeroCells z (nc-need))) es XV.2 (olds++news) (fun j v hv=>by obtain⟨U,hU,hr⟩:=(hO.append hN).get j v hv;refine⟨U,?_,hr⟩;have AC:j<(Os++Ns).length:=(List.getElem?_eq_some_iff.1 hU).1;rw[←Array.append_assoc,Array.getElem?_append_left (by simpa using AC)];simpa using hU)
 refine⟨_,_,_,hx,?_,h1,?_⟩
 ·simp only[aab,dT,iU,List.length_append,List.length_singleton,World.size_drew]
  refine⟨by omega,?_⟩;rw[Nat.sub_zero,Xd,XV.1,Nat.mul_div_cancel _ h0]
 ·exact(Step.drew (m0:=mem.length) (Nat.le_refl _)).trans h2
theorem E8(hT:cH P T)(hH:aam base μ mem w){t t2 ty:TypeId}{s x v:AV}{S X:Value}{mem' :Mem}(hs:aab μ mem.length s S)(hx:aab μ mem.length x X)(h:gq T mem t t2 s x=some (v,mem')):
  abi P (Builtin.append_ #[t,t2] ty #[S,X]) base μ mem w v mem' :=by
 unfold gq at h;cases ht:T t with
 |none=>rw[ht] at h;cases h
 |some i=>
  rw[ht] at h;simp only at h;have hd:=(hT t i ht).desc;split at h
  ·rename_i e B'
   rw[B'] at hd;split at h
   ·rename_i j i2 hj ZP
    split at h
    ·cases h
    ·rename_i I'
     have hd2:=(hT t2 i2 ZP).desc;have Z6:(∃e2,P.underlying t2=some (.slice e2))∨P.underlying t2=some .string:=by
      have WN:w9 i2=true:=by
       cases h2:w9 i2 with
       |true=>rfl
       |false=>exact absurd (.inr (.inr h2)) I'
      unfold w9 at WN;split at WN
      ·rename_i e2 h2;rw[h2] at hd2;exact .inl ⟨e2,hd2⟩
      ·rename_i h2;rw[h2] at hd2;exact .inr hd2
      ·cases WN
     have Xd:0<j.size:=by
      rcases Nat.eq_zero_or_pos j.size with h0 | h0
      ·exact absurd (.inl h0) I'
      ·exact h0
     have hsk:j.size<1000:=by
      rcases Nat.lt_or_ge j.size 1000 with h0 | h0
      ·exact h0
      ·exact absurd (.inr (.inl h0)) I'
     have hzs:=(hT e j hj).abB;split at h
     ·cases h
     ·rename_i m news hsrc
      split at h
      ·rename_i G'
       obtain⟨Ns,g1,g2,g3,g4⟩:=sI (P:=P) hH hx hsrc;split at h
       ·
        simp only[aab] at hs;subst hs;split at h
        ·rename_i hm
         cases h;subst hm;have hr:=tU hT (ty:=ty) hd hj Z6 none 0 0 0 X w g3 (Nat.le_refl _);rw[g4 w (fun _=>rfl)] at hr;exact abi.aav hH ⟨_,hr,by simp[aab]⟩
        ·rename_i hm
         split at h
         ·rename_i hb
          cases h;obtain⟨nc,hnc,hr⟩:=AL hT (ty:=ty) hd hj Z6 none 0 0 m X w [] Ns g3 (by omega) (by simpa using hb.1) (by simpa using hb.2) (by simp[Builtin.firstCells]) (g4 w.drew (fun _=>rfl));simp only[Nat.zero_add] at hr hnc;have:=MX (P:=P) hH (es:=vx j e) (FL hsk) (olds:=[]) (news:=news) Xd hzs (by simp[aad]) g1 (by simpa using g2) hnc hr;simpa using this
         ·cases h
       ·rename_i b n
        split at h
        ·rename_i es cs hb
         split at h
         ·rename_i hc
          obtain⟨k1,k2,k3,k4⟩:=hc;cases h;obtain⟨XR,rfl⟩:=hs.slice;have YC:=hH.slot b _ hb;simp only[aap] at YC;obtain⟨cur,el,fr,s1,s2,s3,s4,s5⟩:=YC;obtain⟨s6,s7,s8,s9⟩:=s5 trivial;subst s7;have XV:es%1000=j.size∧(1000≤es→e+1=es / 1000):=by
           rcases k1 with rfl | rfl
           ·exact⟨Nat.mod_eq_of_lt hsk,fun h1=>by omega⟩
           ·exact FL hsk
          have s2' :(μ b).es=j.size:=by rw[s2.1];exact XV.1
          have YY:iU (μ b) 0 none=(μ b).tot / j.size:=by simp[iU,s2']
          have YJ:(μ b).off+0=0:=by omega
          rw[YJ,YY];obtain⟨Os,o1,o2,o3⟩:=hH.cells hb (o:=0) (k:=n*j.size) (by omega);simp only[List.drop_zero] at o1;rw[YJ] at o3;have hes0:0<j.size:=Xd;by_cases Xj:n+m≤(μ b).tot / j.size
          ·have hr:=tU hT (ty:=ty) hd hj Z6 (some ⟨(μ b).blk,0,none⟩) n _ m X w g3 Xj
           rw[g4 w (fun _=>rfl)] at hr;have ZQ:(n+m)*j.size≤(μ b).tot:=by have:=Nat.mul_le_mul_right j.size Xj;exact Nat.le_trans this (Nat.div_mul_le_self _ _)
           have hNl:Ns.length=m*j.size:=by rw[g1.length,g2,]
           have WI:=run_storeCells_at (P:=P) (μ b).blk (n*j.size) el Ns 0 cur w s1 (by rw[hNl,s8,Nat.add_zero,←Nat.add_mul];exact ZQ) (g1.aa0 G');simp only[Result.andThen_ok,Addr.add_lit,Nat.zero_add,WI] at hr;have A':cs.length≤cur.size:=by rw[s8];exact s3
           have Zp :aap μ mem.length base (w.setRow (μ b).blk (cur.toList.take (n*j.size+0)++Ns++cur.toList.drop (n*j.size+0+Ns.length)).toArray) (μ b) (.cells true es (cs.take (n*j.size)++news)):=by
            simp only[aap];refine⟨_,el,(0,0),setRow_heap w (μ b).blk cur _ el (0,0) s1,s2,?_,fun q u hu=>?_,fun _=>⟨s6,rfl,?_,s9⟩⟩
            ·simp only[List.length_append,List.length_take,g2]
             rw[Nat.add_mul] at ZQ;omega
            ·rw[s6,Nat.zero_add]
             have e1:(cs.take (n*j.size)).length=n*j.size:=by simp;omega
             have e2:(cur.toList.take (n*j.size+0)).length=n*j.size:=by simp;omega
             simp only[List.getElem?_toArray,List.append_assoc];by_cases hq:q<n*j.size
             ·rw[List.getElem?_append_left (by omega),List.getElem?_take_of_lt hq] at hu
              rw[List.getElem?_append_left (by omega),List.getElem?_take_of_lt (by omega)];obtain⟨U,hU,hr⟩:=s4 q u hu;rw[s6,Nat.zero_add] at hU;exact⟨U,by simpa using hU,hr⟩
             ·rw[List.getElem?_append_right (by omega),e1] at hu
              rw[List.getElem?_append_right (by omega),e2];obtain⟨U,hU,hr⟩:=g1.get _ u hu;rw[List.getElem?_append_left (List.getElem?_eq_some_iff.1 hU).1];exact⟨U,hU,hr⟩
            ·simp only[List.size_toArray,List.length_append,List.length_take,List.length_drop,Array.length_toList,hNl]
             rw[Nat.add_mul] at ZQ;omega
           obtain⟨r1,r2⟩:=hH.rename (w' :=w.setRow (μ b).blk (cur.toList.take (n*j.size+0)++Ns++cur.toList.drop (n*j.size+0+Ns.length)).toArray) hb rfl rfl rfl rfl (by simp[World.setRow]) (fun k hk=>setRow_other w _ k _ hk) Zp;refine⟨_,_,_,hr,?_,r1,r2⟩;simp only[aab,dT,iU,List.length_append,List.length_set,List.length_singleton];refine⟨by omega,?_⟩;rw[s2',s6];rfl
          ·have hO:(Builtin.firstCells j.size n (.slice (some ⟨(μ b).blk,0,none⟩) n ((μ b).tot / j.size))).run P w.drew=.ok ⟨Os⟩ w.drew:=
            run_firstCells_some w.drew j.size n _ _ _ Os (by rw[o2,]) (fun q u hq=>o3 q u hq)
           obtain⟨nc,hnc,hr⟩:=AL hT (ty:=ty) hd hj Z6 (some ⟨(μ b).blk,0,none⟩) n _ m X w Os Ns g3 (by omega) k3 k4 hO (g4 w.drew (fun _=>rfl));have hH2:=hH.drop hb;have A':(mem.set b .qF).length=mem.length:=by simp
           have:=MX (P:=P) hH2 (es:=es) XV (olds:=cs.take (n*j.size)) (news:=news) Xd hzs (by rw[A'];exact o1) (by rw[A'];exact g1) (by rw[List.length_take,g2,Nat.add_mul];omega) hnc hr;obtain⟨V,w',μ',q1,q2,q3,q4⟩:=this;rw[] at q2 q3 q4;rw[A'] at q2 q4;exact⟨V,w',μ',q1,q2,q3,(Step.drop (b:=b) (Nat.le_refl _)).trans q4⟩
         ·cases h
        ·cases h
       ·cases h
      ·cases h
   ·cases h
  ·cases h
end
end Go.Eng
namespace Go.Eng
def RN(T:TypeId→Option TyI) (q:TypeId→AV→Bool) (xs:List AV):List Field→Bool
 | []=>true
 |f::fs=>
  match T f.type with
  |none=>false
  |some i=>match fR i xs f.offset with
   |some a=>q f.type a&&RN T q xs fs
   |none=>false
def wM(q:AV→Bool) (i:TyI) (xs:List AV):List Nat→Bool
 | []=>true
 |j::js=>match fR i xs (j*i.size) with
  |some a=>q a&&wM q i xs js
  |none=>false
def jf(T:TypeId→Option TyI):Nat→TypeId→AV→Bool
 |0,_,_=>false
 |d+1,t,x=>
  match T t with
  |none=>false
  |some i=>
   match i.desc,x with
   |.bool,.bool _=>true
   |.int _,.int _ _=>true
   |.string,.str _=>true
   |.struct fs,.agg xs=>RN T (jf T d) xs fs.toList
   |.array n e,.agg xs=>match T e with
    |some j=>wM (jf T d e) j xs (List.range' 0 n)
    |none=>false
   |_,_=>false
def jc(T:TypeId→Option TyI) (kt:TypeId) (k:AV):List (AV×AV)→Nat→Option (Option (Nat×AV))
 | [],_=>some none
 |e::es,i=>match iI T 20 kt k e.1 with
  |some true=>some (some (i,e.2))
  |some false=>jc T kt k es (i+1)
  |none=>none
def AV.aa1:AV→Bool
 |.bool _ | .int _ _ | .str _=>true
 |_=>false
def fI(mem:Mem):AV→Option (List (AV×AV))
 |.aau=>some []
 |.map b=>match mem[b]? with
  |some (.map es)=>some es
  |some (.aaF es)=>some es
  |_=>none
 |_=>none
def gO(T:TypeId→Option TyI) (mem:Mem) (t:TypeId) (m k:AV) (ok:Bool):Option AV:=
 match T t with
 |none=>none
 |some i=>
  match i.desc with
  |.map kt et=>
   match T et,fI mem m with
   |some j,some es=>
    if jf T 20 kt k then
     match jc T kt k es 0 with
     |some (some (_,v))=>some (if ok then .tuple [v,.bool true] else v)
     |some none=>some (if ok then .tuple [iL j.zero,.bool false] else iL j.zero)
     |none=>none
    else none
   |_,_=>none
  |_=>none
def dq(T:TypeId→Option TyI) (mem:Mem) (t:TypeId) (m k v:AV):Option Mem:=
 match T t with
 |none=>none
 |some i=>
  match i.desc,m with
  |.map kt _,.map b=>
   match mem[b]? with
   |some (.map es)=>
    if jf T 20 kt k then
     match jc T kt k es 0 with
     |some (some (i,_))=>if k.aa1 then some (mem.set b (.map (es.set i (k,v)))) else none
     |some none=>some (mem.set b (.map (es++[(k,v)])))
     |none=>none
    else none
   |_=>none
  |_,_=>none
variable{K:Value}{k:AV}
section
variable {P:Program}{T:TypeId→Option TyI}{μ:Nat→Place}{mem:Mem}{base:Nat}{w:World}{n:Nat}
theorem Bb(hT:cH P T) {d:Nat}{q:TypeId→AV→Bool}{em:Bool}
  (ih:∀{t:TypeId}{x:AV}{X:Value},q t x=true→aab μ n x X→∀(w:World),(Instr.checkKey em d t X).run P w=.ok () w)
  {xs:List AV}{Xs:List Value}(hx:aad μ n xs Xs) (w:World):∀{fs:List Field},RN T q xs fs=true→
  ((forIn fs PUnit.unit fun f _=>(do
    if f.name ≠ "_" then
     let a ←part f.type ⟨Xs⟩ f.offset
     Instr.checkKey em d f.type a
     pure (ForInStep.yield PUnit.unit)
    else pure (ForInStep.yield PUnit.unit):Sem (ForInStep PUnit))).run P w=.ok PUnit.unit w)
 | [],_=>by simp
 |f::fs,h=>by
  rw[RN] at h;split at h
  ·cases h
  ·rename_i i ht
   split at h
   ·rename_i a ha
    simp only[Bool.and_eq_true] at h;obtain⟨A,hA,hrA⟩:=iE (P:=P) (μ:=μ) (n:=n) hT ht ha hx w;have h1:=ih h.1 hrA w;have h2:=Bb hT ih hx w h.2;rw[List.forIn_cons];by_cases Z4:f.name = "_"
    ·simp only[Z4,ne_eq,not_true_eq_false,if_false,pure_bind]
     simp only[ne_eq] at h2;exact h2
    ·simp only[Z4,ne_eq,not_false_eq_true,if_true,Sem.run_bind,hA,h1,Result.andThen_ok,Sem.run_pure]
     exact h2
   ·cases h
theorem Ba(hT:cH P T) {d:Nat}{e:TypeId}{i:TyI}(hi:T e=some i) {q:AV→Bool}{em:Bool}
  (ih:∀{x:AV}{X:Value},q x=true→aab μ n x X→∀(w:World),(Instr.checkKey em d e X).run P w=.ok () w)
  {xs:List AV}{Xs:List Value}(hx:aad μ n xs Xs) (w:World):∀{js:List Nat},wM q i xs js=true→
  ((forIn js PUnit.unit fun j _=>(do
    let s ←sizeOf e
    let a ←part e ⟨Xs⟩ (j*s)
    Instr.checkKey em d e a
    pure (ForInStep.yield PUnit.unit):Sem (ForInStep PUnit))).run P w=.ok PUnit.unit w)
 | [],_=>by simp
 |j::js,h=>by
  rw[wM] at h;split at h
  ·rename_i a ha
   simp only[Bool.and_eq_true] at h;obtain⟨A,hA,hrA⟩:=iE (P:=P) (μ:=μ) (n:=n) hT hi ha hx w;have h1:=ih h.1 hrA w;have h2:=Ba hT hi ih hx w h.2;rw[List.forIn_cons];simp only[Sem.run_bind,cA hT hi,hA,h1,Result.andThen_ok,Sem.run_pure];exact h2
  ·cases h
theorem kD(hT:cH P T) (em:Bool):∀(d:Nat) {t:TypeId}{x:AV}{X:Value},jf T d t x=true→aab μ n x X→
  ∀(k:Nat) (w:World),(Instr.checkKey em (d+k) t X).run P w=.ok () w
 |0,_,_,_,h,_,_,_=>by simp[jf] at h
 |d+1,t,x,X,h,hx,k,w=>by
  rw[jf] at h;rw[show d+1+k=d+k+1 by omega];cases ht:T t with
  |none=>rw[ht] at h;cases h
  |some i=>
   rw[ht] at h;simp only at h;have hd:=(hT t i ht).desc;split at h
   ·rename_i B';rw[B'] at hd;rw[hx.bool,Instr.checkKey];simp[run_underlying hd]
   ·rename_i B';rw[B'] at hd;rw[hx.int,Instr.checkKey];simp[run_underlying hd]
   ·rename_i B';rw[B'] at hd;rw[hx.str,Instr.checkKey];simp[run_underlying hd]
   ·rename_i fs xs B'
    rw[B'] at hd;obtain⟨Xs,rfl,hxs⟩:=hx.agg;have:=Bb (em:=em) hT (fun h1 h2 w=>kD hT em d h1 h2 k w) hxs w h;rw[Instr.checkKey];simp only[Sem.run_bind,run_underlying hd,Result.andThen_ok];rw[←Array.forIn_toList];rw[this];rfl
   ·rename_i m e xs B'
    rw[B'] at hd;split at h
    ·rename_i j hj
     obtain⟨Xs,rfl,hxs⟩:=hx.agg;have:=Ba (em:=em) hT hj (fun h1 h2 w=>kD hT em d h1 h2 k w) hxs w h;rw[Instr.checkKey];simp only[Sem.run_bind,run_underlying hd,Result.andThen_ok];simp only[Std.Legacy.Range.forIn_eq_forIn_range',Std.Legacy.Range.size,Nat.sub_zero,Nat.add_sub_cancel,Nat.div_one];rw[this];rfl
    ·cases h
   ·cases h
def Nw(μ:Nat→Place) (n:Nat):Option (Nat×AV)→Option (Nat×Value)→Prop
 |some (a,v),some (b,V)=>a=b∧aab μ n v V
 |none,none=>True
 |_,_=>False
theorem pf(hT:cH P T) {kt:TypeId}{k:AV}{K:Value}(hk:aab μ n k K) (w:World):∀{es:List (AV×AV)}{Es:List MapEntry}{i:Nat}{r:Option (Nat×AV)},
  Es.length=es.length→(∀(j:Nat) e,es[j]? =some e→∃E,Es[j]? =some E∧Oe μ n e E)→jc T kt k es i=some r→
  ∃R,(Instr.findAsking kt K Es i).run P w=.ok R w∧Nw μ n r R
 | [],Es,i,r,hl,_,h=>by have:Es=[]:=List.eq_nil_of_length_eq_zero hl;subst this;simp only[jc,Option.some.injEq] at h;subst h;exact⟨none,by simp[Instr.findAsking],trivial⟩
 |e::es,[],i,r,hl,_,h=>by simp at hl
 |e::es,E::Es,i,r,hl,hr,h=>by
  rw[jc] at h;obtain⟨E',h1,h2⟩:=hr 0 e rfl;simp at h1;subst h1;have WG:∀(j:Nat) e',es[j]? =some e' →∃E',Es[j]? =some E' ∧Oe μ n e' E' :=fun j e' he=>by simpa using hr (j+1) e' (by simpa using he)
  split at h
  ·rename_i S'
   cases h;have:=iC hT 20 S' hk h2.1 9980 w;refine⟨some (i,E.val),?_,rfl,h2.2⟩;simp only[Instr.findAsking,Sem.run_bind];rw[show Op.equal kt K E.key=Op.equalIn (20+9980) kt K E.key from rfl,this];simp
  ·rename_i S'
   have:=iC hT 20 S' hk h2.1 9980 w;obtain⟨R,g1,g2⟩:=pf hT hk w (by simpa using hl) WG h;refine⟨R,?_,g2⟩;simp only[Instr.findAsking,Sem.run_bind];rw[show Op.equal kt K E.key=Op.equalIn (20+9980) kt K E.key from rfl,this];simpa using g1
  ·cases h
theorem sF(hT:cH P T) {kt:TypeId}{kd:TypeDesc}(hkd:P.underlying kt=some kd) {k:AV}{K:Value}(hk:aab μ n k K) (w:World):
  ∀{es:List (AV×AV)}{Es:List MapEntry}{i:Nat}{r:Option (Nat×AV)}{R:Option (Nat×Value)},
  Es.length=es.length→(∀(j:Nat) e,es[j]? =some e→∃E,Es[j]? =some E∧Oe μ n e E)→jc T kt k es i=some r→Instr.findNow kd K Es i=some R→
  (Instr.findAsking kt K Es i).run P w=.ok R w
 | [],Es,i,r,R,hl,_,_,h=>by have:Es=[]:=List.eq_nil_of_length_eq_zero hl;subst this;simp only[Instr.findNow,Option.some.injEq] at h;subst h;simp[Instr.findAsking]
 |e::es,[],i,r,R,hl,_,_,h=>by simp at hl
 |e::es,E::Es,i,r,R,hl,hr,hf,h=>by
  obtain⟨E',h1,h2⟩:=hr 0 e rfl;simp at h1;subst h1;have WG:∀(j:Nat) e',es[j]? =some e' →∃E',Es[j]? =some E' ∧Oe μ n e' E' :=fun j e' he=>by simpa using hr (j+1) e' (by simpa using he)
  rw[jc] at hf;have key:∀b,iI T 20 kt k e.1=some b→∀b',Instr.sameNow kd K E.key=some b' →b' =b:=by
   intro b hb b' J';have he:=iC hT 20 hb hk h2.1 9980 w;unfold Instr.sameNow at J';split at J'
   ·rename_i k1 a k2 c hK hE
    split at J'
    ·rename_i hkk
     cases J';rw[hE] at he;subst hkk;rw[run_equalIn_int w _ kt _ _ _ _ hkd] at he;cases he;rfl
    ·cases J'
   ·rename_i a c hK hE
    cases J';rw[hE] at he;rw[run_equalIn_string w _ kt _ _ hkd] at he;cases he;rw[beq_toListBytes]
   ·rename_i a c hK hE
    cases J';rw[hE] at he;rw[run_equalIn_bool' w _ kt _ _ hkd] at he;cases he;rfl
   ·cases J'
  rw[Instr.findNow] at h;have step:∀b,iI T 20 kt k e.1=some b→(Instr.findAsking kt K (E::Es) i).run P w=if b then .ok (some (i,E.val)) w else (Instr.findAsking kt K Es (i+1)).run P w:=by intro b hb;have he:=iC hT 20 hb hk h2.1 9980 w;simp only[Instr.findAsking,Sem.run_bind];rw[show Op.equal kt K E.key=Op.equalIn (20+9980) kt K E.key from rfl,he];cases b<;>simp
  split at hf
  ·rename_i S'
   rw[step _ S'];cases hs:Instr.sameNow kd K E.key with
   |none=>rw[hs] at h;cases h
   |some b' =>
    have:=key _ S' _ hs;subst this;rw[hs] at h;simp only[Option.some.injEq] at h;subst h;simp
  ·rename_i S'
   rw[step _ S'];cases hs:Instr.sameNow kd K E.key with
   |none=>rw[hs] at h;cases h
   |some b' =>
    have:=key _ S' _ hs;subst this;rw[hs] at h;simp only at h;simpa using sF hT hkd hk w (by simpa using hl) WG hf h
  ·cases hf
theorem gG(hT:cH P T){kt:TypeId}{ki:TyI}(hki:T kt=some ki)(hk:aab μ n k K){es:List (AV×AV)}{Es:List MapEntry}{r:Option (Nat×AV)}(hl:Es.length=es.length)(hr:∀(j:Nat) e,es[j]? =some e→∃E,Es[j]? =some E∧Oe μ n e E)(h:jc T kt k es 0=some r)(w:World):
  ∃R,(Instr.findKey kt K Es).run P w=.ok R w∧Nw μ n r R:=by
 have hkd:=(hT kt ki hki).desc;obtain⟨R,g1,g2⟩:=pf hT hk w hl hr h;refine⟨R,?_,g2⟩;simp only[Instr.findKey,Sem.run_bind,run_underlying hkd,Result.andThen_ok];cases hn:Instr.findNow ki.desc K Es 0 with
 |none=>simpa using g1
 |some R' =>
  have:=sF hT hkd hk w hl hr h hn;rw[this] at g1;cases g1;simp
theorem E9(hT:cH P T)(hH:aam base μ mem w){t:TypeId}{m k v:AV}{M:Value}{ok:Bool}(hm:aab μ mem.length m M)(hk:aab μ mem.length k K)(h:gO T mem t m k ok=some v):Val P (Instr.lookup t M K ok) w μ mem.length v:=by
 unfold gO at h;cases ht:T t with
 |none=>rw[ht] at h;cases h
 |some i=>
  rw[ht] at h;simp only at h;have hd:=(hT t i ht).desc;split at h
  ·rename_i kt et B'
   rw[B'] at hd;split at h
   ·rename_i j es hj XV
    split at h
    ·rename_i WN
     have hents:∃Es:Array MapEntry,(M=.map none∧Es= #[]∨∃r c,M=.map (some r)∧(getObj r).run P w=.ok (.map Es c) w)∧Es.toList.length=es.length∧
       ∀(j:Nat) e,es[j]? =some e→∃E,Es.toList[j]? =some E∧Oe μ mem.length e E:=by
      unfold fI at XV;split at XV
      ·cases XV
       simp only[aab] at hm;subst hm;exact⟨#[],.inl ⟨rfl,rfl⟩,rfl,by simp⟩
      ·rename_i b
       split at XV
       ·rename_i Xt hb
        cases XV;simp only[aab] at hm;obtain⟨_,rfl⟩:=hm;have hs:=hH.slot b _ hb;simp only[aap] at hs;obtain⟨Do,FS,h1,_,h2,h3⟩:=hs;refine⟨Do,.inr ⟨_,FS,rfl,by simp[getObj,Sem.run,h1]⟩,by simpa using h2,fun j e he=>?_⟩;obtain⟨E,hE,hr⟩:=h3 j e he;exact⟨E,by simpa using hE,hr⟩
       ·rename_i Xt hb
        cases XV;simp only[aab] at hm;obtain⟨_,rfl⟩:=hm;have hs:=hH.slot b _ hb;simp only[aap] at hs;obtain⟨Do,FS,h1,_,h2,h3⟩:=hs;refine⟨Do,.inr ⟨_,FS,rfl,by simp[getObj,Sem.run,h1]⟩,by simpa using h2,fun j e he=>?_⟩;obtain⟨E,hE,hr⟩:=h3 j e he;exact⟨E,by simpa using hE,hr⟩
       ·cases XV
      ·cases XV
     obtain⟨Es,e1,e2,e3⟩:=hents;have ZE:=kD (P:=P) (n:=mem.length) hT Es.isEmpty 20 WN hk 9980 w;have YZ:∃ki,T kt=some ki:=by
      rw[jf] at WN;cases hx:T kt with
      |none=>rw[hx] at WN;cases WN
      |some ki=>exact⟨ki,rfl⟩
     obtain⟨ki,hki⟩:=YZ;split at h
     ·rename_i q v' hf
      cases h;obtain⟨R,g1,g2⟩:=gG hT hki hk e2 e3 hf w;cases R with
      |none=>exact g2.elim
      |some x=>
       obtain⟨_,V⟩:=x;have hv:=g2.2;refine⟨if ok then .tuple #[V,.bool true] else V,?_,?_⟩
       ·rcases e1 with⟨rfl,rfl⟩ | ⟨r,c,rfl,e1⟩
        ·simp only[Instr.lookup,Sem.run_bind,run_underlying hd,Result.andThen_ok,Sem.run_pure]
         rw[show(10000:Nat)=20+9980 from rfl,ZE];simp only[Result.andThen_ok,g1,Sem.run_pure,Sem.run_bind]
        ·simp only[Instr.lookup,Sem.run_bind,run_underlying hd,Result.andThen_ok,e1,Sem.run_pure]
         rw[show(10000:Nat)=20+9980 from rfl,ZE];simp only[Result.andThen_ok,g1,Sem.run_pure,Sem.run_bind]
       ·cases ok
        ·exact hv
        ·simp only[if_true,aab];exact⟨[V,.bool true],rfl,bj.2 ⟨hv,bj.2 ⟨by simp[aab],by simp[aad]⟩⟩⟩
     ·rename_i hf
      cases h;obtain⟨R,g1,g2⟩:=gG hT hki hk e2 e3 hf w;cases R with
      |some x=>exact g2.elim
      |none=>
       have hv:=wm μ mem.length j.zero;refine⟨if ok then .tuple #[j.zero,.bool false] else j.zero,?_,?_⟩
       ·rcases e1 with⟨rfl,rfl⟩ | ⟨r,c,rfl,e1⟩
        ·simp only[Instr.lookup,Sem.run_bind,run_underlying hd,Result.andThen_ok,Sem.run_pure]
         rw[show(10000:Nat)=20+9980 from rfl,ZE];simp only[Result.andThen_ok,g1,Sem.run_pure,Sem.run_bind,dU hT hj]
        ·simp only[Instr.lookup,Sem.run_bind,run_underlying hd,Result.andThen_ok,e1,Sem.run_pure]
         rw[show(10000:Nat)=20+9980 from rfl,ZE];simp only[Result.andThen_ok,g1,Sem.run_pure,Sem.run_bind,dU hT hj]
       ·cases ok
        ·exact hv
        ·simp only[if_true,aab];exact⟨[j.zero,.bool false],rfl,bj.2 ⟨hv,bj.2 ⟨by simp[aab],by simp[aad]⟩⟩⟩
     ·cases h
    ·cases h
   ·cases h
  ·cases h
theorem rn{K' :Value}{e:AV}{b:Bool}{kt:TypeId}(hs:k.aa1=true)(hk:aab μ n k K)(he:aab μ n e K')(h:iI T 20 kt k e=some b)(hb:b=true):
  Instr.sameBits 10000 K' K=true:=by
 subst hb;rw[iI] at h;cases ht:T kt with
 |none=>rw[ht] at h;cases h
 |some i=>
  rw[ht] at h;simp only at h;split at h
  ·rw[hk.bool,he.bool]
   simp only[Option.some.injEq] at h;simp only[Instr.sameBits];rw[beq_iff_eq] at h ⊢;exact h.symm
  ·split at h
   ·rename_i hkk
    subst hkk;simp only[Option.some.injEq,decide_eq_true_eq] at h;rw[hk.int,he.int,h];simp[Instr.sameBits]
   ·cases h
  ·rw[hk.str,he.str]
   simp only[Option.some.injEq,beq_iff_eq] at h;rw[h];simp only[Instr.sameBits];rw[beq_toListBytes];simp
  ·cases hs
  ·cases hs
  ·cases h
theorem nh{kt:TypeId}{k:AV}:∀{es:List (AV×AV)}{i q:Nat}{v:AV},jc T kt k es i=some (some (q,v))→∃j e,q=i+j∧es[j]? =some e∧iI T 20 kt k e.1=some true
 | [],i,q,v,h=>by simp[jc] at h
 |e::es,i,q,v,h=>by
  rw[jc] at h;split at h
  ·rename_i S';cases h;exact⟨0,e,rfl,rfl,S'⟩
  ·obtain⟨j,e',h1,h2,h3⟩:=nh h
   exact⟨j+1,e',by omega,by simpa using h2,h3⟩
  ·cases h
theorem sd{r:Nat}{o o' :Obj}(h:w.heap[r]? =some o)(ho:∀c e f,o≠ .cells c e f):(setObj r o').run P w=.ok () { w with heap:=w.heap.setIfInBounds r o' }:=by simp only[setObj,Sem.run,h];try (split<;>first | (rename_i hh;cases hh;exact absurd rfl (ho _ _ _)) | rfl | simp_all)
theorem yT(hT:cH P T)(hH:aam base μ mem w){t:TypeId}{m k v:AV}{M K V:Value}{mem' :Mem}(hm:aab μ mem.length m M)(hk:aab μ mem.length k K)(hv:aab μ mem.length v V)(h:dq T mem t m k v=some mem'):∃w',(Instr.mapUpdate t M K V).run P w=.ok () w' ∧aam base μ mem' w' ∧Step mem.length μ mem w μ mem' w' :=by
 unfold dq at h;cases ht:T t with
 |none=>rw[ht] at h;cases h
 |some i=>
  rw[ht] at h;simp only at h;have hd:=(hT t i ht).desc;split at h
  ·rename_i kt et b B'
   rw[B'] at hd;split at h
   ·rename_i es hb
    split at h
    ·rename_i WN
     simp only[aab] at hm;obtain⟨XR,rfl⟩:=hm;have hs:=hH.slot b _ hb;simp only[aap] at hs;obtain⟨Do,FS,h1,XQ,h2,h3⟩:=hs;have hg:(getObj (μ b).blk).run P w=.ok (.map Do FS) w:=by simp[getObj,Sem.run,h1]
     have ZE:=kD (P:=P) (n:=mem.length) hT false 20 WN hk 9980 w;have YZ:∃ki,T kt=some ki:=by
      rw[jf] at WN;cases hx:T kt with
      |none=>rw[hx] at WN;cases WN
      |some ki=>exact⟨ki,rfl⟩
     obtain⟨ki,hki⟩:=YZ;have e2:Do.toList.length=es.length:=by simpa using h2
     have e3:∀(j:Nat) e,es[j]? =some e→∃E,Do.toList[j]? =some E∧Oe μ mem.length e E:=fun j e he=>by obtain⟨E,hE,hr⟩:=h3 j e he;exact⟨E,by simpa using hE,hr⟩
     have AC:(μ b).blk<w.heap.size:=(Array.getElem?_eq_some_iff.1 h1).1;have YD:∀(WJ :Array MapEntry) (WH :Nat) (Xt :List (AV×AV)),CG WJ WH →WJ.size=Xt.length→(∀(j:Nat) e,Xt[j]? =some e→∃E,WJ[j]? =some E∧Oe μ mem.length e E)→
       (setObj (μ b).blk (.map WJ WH)).run P w=.ok () { w with heap:=w.heap.setIfInBounds (μ b).blk (.map WJ WH) }∧
       aam base μ (mem.set b (.map Xt)) { w with heap:=w.heap.setIfInBounds (μ b).blk (.map WJ WH) }∧Step mem.length μ mem w μ (mem.set b (.map Xt)) { w with heap:=w.heap.setIfInBounds (μ b).blk (.map WJ WH) }:=by
      intro WJ WH Xt g0 g1 g2;refine⟨sd h1 (by simp),hH.write hb (KH hb) (fun _=>⟨_,List.getElem?_set_self (List.getElem?_eq_some_iff.1 hb).1,rfl⟩) rfl rfl rfl rfl (by simp) (fun q hq=>?_) ?_⟩
      ·simp[Array.getElem?_setIfInBounds_ne (Ne.symm hq)]
      ·simp only[aap]
       exact⟨WJ,WH,by simp[AC],⟨XQ.1,g0⟩,g1,g2⟩
     split at h
     ·rename_i q v' hf
      split at h
      ·rename_i hsc
       cases h;obtain⟨R,g1,g2⟩:=gG hT hki hk e2 e3 hf w;cases R with
       |none=>exact g2.elim
       |some x=>
        obtain⟨q',V'⟩:=x;obtain⟨rfl,_⟩:=g2;obtain⟨j,e,hq,he,S'⟩:=nh hf;have Zl :q=j:=by omega
        subst Zl;obtain⟨E,hE,hr⟩:=h3 q e he;have hsb:=rn (μ:=μ) (n:=mem.length) hsc hk hr.1 S' rfl;obtain⟨f1,f2,f3⟩:=YD (Do.modify q fun e=>{ e with key:=K,val:=V }) FS (es.set q (k,v)) ⟨by simpa using XQ.2.1,fun j E' WX =>by
         rw[Array.getElem?_modify] at WX;split at WX
         ·simp only[Option.map_eq_some_iff] at WX
          obtain⟨E0,k1,rfl⟩:=WX;exact XQ.2.2 j E0 k1
         ·exact XQ.2.2 j E' WX⟩ (by simpa using h2) (fun j e' XK =>by
         rw[List.getElem?_set] at XK;by_cases hjq:q=j
         ·subst hjq
          have WD :q<es.length:=(List.getElem?_eq_some_iff.1 he).1;simp only[if_true,WD,Option.some.injEq] at XK;subst XK;exact⟨{ E with key:=K,val:=V },by simp[Array.getElem?_modify,hE],hk,hv⟩
         ·rw[if_neg hjq] at XK
          obtain⟨E',WX,hr'⟩:=h3 j e' XK;exact⟨E',by simp[Array.getElem?_modify,hjq,WX],hr'⟩)
        refine⟨_,?_,f2,f3⟩;simp only[Instr.mapUpdate,Sem.run_bind,run_underlying hd,Result.andThen_ok,hg];rw[show(10000:Nat)=20+9980 from rfl,ZE];simp only[Result.andThen_ok,g1,Sem.run_bind];have hstay:(Instr.keyThatStays (((Do[q]?).map (·.key)).getD K) K).run P w=.ok K w:=by unfold Instr.keyThatStays;rw[hE];simp only[Option.map_some,Option.getD_some,hsb,if_true];rfl
        rw[hstay];simpa using f1
      ·cases h
     ·rename_i hf
      cases h;obtain⟨R,g1,g2⟩:=gG hT hki hk e2 e3 hf w;cases R with
      |some x=>exact g2.elim
      |none=>
       obtain⟨f1,f2,f3⟩:=YD (Do.push { key:=K,val:=V,born:=FS }) (FS+1) (es++[(k,v)]) ⟨by simp[XQ.2.1],fun j E' WX =>by
        rw[Array.getElem?_push] at WX;split at WX
        ·rename_i hj;cases WX;rw[hj];exact XQ.2.1
        ·exact XQ.2.2 j E' WX⟩ (by simp[h2]) (fun j e' XK =>by
        by_cases hj:j<es.length
        ·rw[List.getElem?_append_left hj] at XK
         obtain⟨E',WX,hr'⟩:=h3 j e' XK;exact⟨E',by rw[Array.getElem?_push,if_neg (by omega)];exact WX,hr'⟩
        ·have YI:j=es.length:=by have:=(List.getElem?_eq_some_iff.1 XK).1;simp at this;omega
         subst YI;simp at XK;subst XK;exact⟨{ key:=K,val:=V,born:=FS },by rw[Array.getElem?_push,if_pos h2.symm],hk,hv⟩)
       refine⟨_,?_,f2,f3⟩;simp only[Instr.mapUpdate,Sem.run_bind,run_underlying hd,Result.andThen_ok,hg];rw[show(10000:Nat)=20+9980 from rfl,ZE];simp only[Result.andThen_ok,g1];exact f1
     ·cases h
    ·cases h
   ·cases h
  ·cases h
theorem FD(hH:aam base μ mem w){t:TypeId}:abi P (Instr.makeMap t none) base μ mem w (.map mem.length) (mem++[.map []]):=by
 obtain⟨h1,h2⟩:=hH.push (.map #[] 0) (.map []) ⟨w.heap.size,0,0,0⟩ rfl (by simp only[aap];exact⟨#[],0,heap_alloc_new w _,⟨hH.aai,rfl,by simp⟩,rfl,by simp⟩)
 refine⟨.map (some w.heap.size),_,_,?_,?_,h1,h2⟩
 ·simp only[Instr.makeMap,Sem.run_bind,Sem.run_pure,run_newObj,Result.andThen_ok]
  rfl
 ·simp[aab,dT]
end
end Go.Eng
namespace Go.Eng
def AQ:List AV→Option (List UInt8)
 | []=>some []
 |.int .u8 n::l=>if 0≤n∧n<256 then match AQ l with
  |some r=>some (UInt8.ofNat n.toNat::r)
  |none=>none
  else none
 |_::_=>none
def rO(mem:Mem) (x:AV):Option AV:=match x with
 |.slice b o n none=>match mem[b]? with
  |some (.cells _ es cs)=>if 0<n∧0<es%1000∧o+n*(es%1000)≤cs.length then some (.ptr b o) else none
  |_=>none
 |_=>none
def wC(T:TypeId→Option TyI) (mem:Mem) (pt:TypeId) (x l:AV):Option (AV×Mem):=match T pt,x,l with
 |some i,.ptr b 0,.int .i64 n=>match i.desc with
  |.pointer e=>match T e,mem[b]? with
   |some j,some (.cells true es cs)=>
    if j.size=1∧es=1+1000*(e+1)∧0<n∧n≤cs.length∧n≤9223372036854775807 then match AQ (cs.take n.toNat) with
     |some s=>some (.str s,mem.set b .qF)
     |none=>none
    else none
   |_,_=>none
  |_=>none
 |_,_,_=>none
theorem Vz(a es:Nat)(h:es=1+1000*(a+1)):1000≤es∧es / 1000=a+1∧es%1000=1:=by omega
theorem Dj:∀{l:List AV}{s:List UInt8},AQ l=some s→s.length=l.length∧∀(j:Nat) x,s[j]? =some x→l[j]? =some (.int .u8 (x.toNat:Int))
 | [],s,h=>by cases h;exact⟨rfl,fun j x hj=>by simp at hj⟩
 |v::l,s,h=>by
  cases v<;>try (unfold AQ at h;cases h;done)
  rename_i k n;cases k<;>try (unfold AQ at h;cases h;done)
  unfold AQ at h;split at h
  ·rename_i hn
   split at h
   ·rename_i r hr
    cases h;obtain⟨h1,h2⟩:=Dj hr;refine⟨by simp[h1],fun j x hj=>?_⟩;cases j with
    |zero=>
     simp at hj;subst hj;simp only[List.getElem?_cons_zero,Option.some.injEq,AV.int.injEq,true_and];rw[UInt8.toNat_ofNat'];have:n.toNat%256=n.toNat:=Nat.mod_eq_of_lt (by omega);show n=((n.toNat%256:Nat):Int)
     rw[this];omega
    |succ j=>simpa using h2 j x (by simpa using hj)
   ·cases h
  ·cases h
theorem MW(w:World)(a:Addr)(n:Nat):(w.freeze a n).heap.size=w.heap.size:=by unfold World.freeze;split<;>simp
theorem Kr(w:World)(a:Addr)(n k:Nat)(h:k≠a.block):(w.freeze a n).heap[k]? =w.heap[k]? :=by
 unfold World.freeze;split
 ·rfl
 ·simp only[Array.getElem?_modify,if_neg (Ne.symm h)]
section
variable {P:Program}{T:TypeId→Option TyI}{μ:Nat→Place}{mem:Mem}{base:Nat}{w:World}
theorem yU(hH:aam base μ mem w){x v:AV}{X:Value}(ts:Array TypeId)(ty:TypeId)(hx:aab μ mem.length x X)(h:rO mem x=some v):Val P (Builtin.unsafeSliceData_ ts ty #[X]) w μ mem.length v:=by
 unfold rO at h;split at h
 ·rename_i b o n
  split at h
  ·rename_i own es cs hb
   split at h
   ·rename_i hc
    cases h;obtain⟨XR,rfl⟩:=hx.slice;have hs:=hH.slot b _ hb;simp only[aap] at hs;obtain⟨cur,el,fr,s1,s2,s3,_,_⟩:=hs;have YY:iU (μ b) o none≠0:=by
     simp only[iU,s2.1];have:n≤((μ b).tot-o) / (es%1000):=by rw[Nat.le_div_iff_mul_le hc.2.1];omega
     omega
    exact⟨_,Lib.run_unsafeSliceData_row _ _ _ _ _ _ YY,by simp[aab,XR]⟩
   ·cases h
  ·cases h
 ·cases h
theorem Fe(hT:cH P T)(hH:aam base μ mem w){pt it ty:TypeId}{x l v:AV}{X L:Value}{mem' :Mem}(hx:aab μ mem.length x X)(hl:aab μ mem.length l L)(h:wC T mem pt x l=some (v,mem')):
  abi P (Builtin.unsafeString_ #[pt,it] ty #[X,L]) base μ mem w v mem' :=by
 unfold wC at h;split at h
 ·rename_i i b n hi
  split at h
  ·rename_i e hd
   split at h
   ·rename_i j es cs hj hb
    split at h
    ·rename_i hc
     obtain⟨c1,c2,c3,c4,c5⟩:=hc;split at h
     ·rename_i s hs
      cases h;obtain⟨g1,g2⟩:=Dj hs;have hX:=hx.ptr;have hL:=hl.int;have hpt:=(hT pt i hi).desc;rw[hd] at hpt;obtain⟨f,hf,hfs,_,_⟩:=(hT e j hj).info;have WK:P.cellsOf e=1:=by unfold Program.cellsOf;rw[hf];simp[hfs,c1]
      have YC:=hH.slot b _ hb;simp only[aap] at YC;obtain⟨cur,el,fr,s1,s2,s3,s4,s5⟩:=YC;obtain⟨s6,rfl,s8,s9⟩:=s5 trivial;have hel:el=e:=by obtain⟨q1,q2,_⟩:=Vz e es c2;have:=s2.2 q1;rw[q2] at this;exact Nat.succ.inj this
      subst hel;have A':s.length=n.toNat:=by rw[g1,List.length_take];omega
      have hn:n=(s.length:Int):=by omega
      rw[hX.2,hL,hn,s6];have Y0:w.shape? (μ b).blk=some (el,cur.size):=by simp[World.shape?,s1]
      have W9:=Lib.run_unsafeString_row (P:=P) w pt it ty el hpt WK (μ b).blk cur.size Y0 s (by intro e;rw[e] at A';simp at A';omega) (by rw[s8];omega) (by omega) (fun q u hq=>by
       have h1:=g2 q u hq;have hqn:q<n.toNat:=by rw[←A'];exact(List.getElem?_eq_some_iff.1 hq).1
       rw[List.getElem?_take_of_lt hqn] at h1;obtain⟨V,hV,hr⟩:=s4 q _ h1;rw[hr.int] at hV;rw[s6,Nat.zero_add] at hV;simp only[Addr.add_lit,World.cell?,s1,Nat.zero_add];exact hV)
      have H':¬s.length=0:=by omega
      have hw:(w.freeze ⟨(μ b).blk,0,none⟩ s.length).os=w.os∧(w.freeze ⟨(μ b).blk,0,none⟩ s.length).tape=w.tape∧(w.freeze ⟨(μ b).blk,0,none⟩ s.length).output=w.output∧(w.freeze ⟨(μ b).blk,0,none⟩ s.length).drawn=w.drawn:=by unfold World.freeze;rw[if_neg H'];exact⟨rfl,rfl,rfl,rfl⟩
      obtain⟨k1,k2⟩:=hH.write (w' :=w.freeze ⟨(μ b).blk,0,none⟩ s.length) (s' :=.qF) hb (ji hb) (fun h=>absurd rfl h) hw.2.2.2 hw.1 hw.2.1 hw.2.2.1 (MW ..) (fun k hk=>Kr _ _ _ _ hk) trivial;refine⟨_,_,μ,W9,by simp[aab],k1,?_⟩;exact k2
     ·cases h
    ·cases h
   ·cases h
  ·cases h
 ·cases h
end
end Go.Eng
namespace Go.Eng
section
variable {P:Program}{T:TypeId→Option TyI}{μ:Nat→Place}{mem:Mem}{base:Nat}{w:World}
def mW(T:TypeId→Option TyI) (mem:Mem) (s d:TypeId):AV→Option (AV×Mem)
 |.str l=>match T s,T d with
  |some i,some j=>match i.desc,j.desc with
   |.string,.slice e=>match T e with
    |some k=>match k.desc with
     |.int .u8=>some (.slice mem.length 0 l.length none,mem++[.cells false 1 (l.map fun c=>.int .u8 c.toNat)])
     |_=>none
    |none=>none
   |_,_=>none
  |_,_=>none
 |_=>none
theorem Kq(w:World)(Cs:Array Value)(e:TypeId)(n:Nat):
  (w.alloc (.cells Cs e)).freeze ⟨w.heap.size,n,none⟩ 1=w.alloc (.cells Cs e (n,n+1)):=by
 unfold World.freeze;rw[if_neg (by decide)];simp only[World.alloc];congr 1;apply Array.ext
 ·simp
 ·intro k h1 h2
  simp only[Array.getElem_modify,Array.getElem_push];by_cases hk:k<w.heap.size
  ·simp[hk];omega
  ·simp at h1
   have:k=w.heap.size:=by omega
   subst this;simp
theorem yN(hT:cH P T)(hH:aam base μ mem w){s d:TypeId}{x v:AV}{X:Value}{mem' :Mem}(hx:aab μ mem.length x X)(h:mW T mem s d x=some (v,mem')):
  abi P (convert s d X) base μ mem w v mem' :=by
 unfold mW at h;split at h
 ·rename_i l
  split at h
  ·rename_i i j hi hj
   have h1:=(hT s i hi).desc;have h2:=(hT d j hj).desc;split at h
   ·rename_i e hid hjd
    rw[hid] at h1;rw[hjd] at h2;split at h
    ·rename_i k hk
     have h3:=(hT e k hk).desc;split at h
     ·rename_i hkd
      rw[hkd] at h3;cases h;rw[hx.str];let c:=grownCap w l.length 0 e
      have hc:l.length≤c:=grownCap_ge w l.length 0 e;let Cs:Array Value:=(l.map fun c=>Value.int .u8 c.toNat).toArray++Array.replicate (c-l.length) (.int .u8 0)
      have hCs:Cs.size=c:=by simp[Cs];omega
      have hH1:aam base μ mem w.drew:=hH.abh rfl;obtain⟨g1,g2⟩:=hH1.push (.cells Cs e (Cs.size,Cs.size+1)) (.cells false 1 (l.map fun c=>.int .u8 c.toNat)) ⟨w.heap.size,0,Cs.size,1⟩ rfl (by simp only[aap];refine⟨Cs,e,(Cs.size,Cs.size+1),heap_alloc_new w.drew _,acv.small rfl (by decide),by simp[hCs];exact hc,fun q u hu=>?_,fun h=>by cases h⟩;rw[List.getElem?_map,Option.map_eq_some_iff] at hu;obtain⟨a,ha,rfl⟩:=hu;have hq:=(List.getElem?_eq_some_iff.1 ha).1;refine⟨.int .u8 a.toNat,?_,by simp[aab]⟩;simp only[Nat.zero_add,Cs];rw[Array.getElem?_append_left (by simpa using hq)];simp[ha])
      refine⟨.slice (some ⟨w.heap.size,0,none⟩) l.length c,w.drew.alloc (.cells Cs e (Cs.size,Cs.size+1)),_,?_,?_,g1,?_⟩
      ·have hf:(Question.appendCap l.length 0 e).forced=false:=by simp[Question.forced]
       have PP:(ByteArray.mk l.toArray).size=l.length:=rR ..;have hCs' :(ByteArray.mk l.toArray).data.map (fun b=>Value.int .u8 b.toNat)++Array.replicate (c-l.length) (.int .u8 0)=Cs:=by simp[Cs]
       have Y0:(w.drew.alloc (.cells Cs e)).shape? w.heap.size=some (e,Cs.size):=by unfold World.shape?;rw[show(w.drew.alloc (.cells Cs e)).heap[w.heap.size]? =_ from heap_alloc_new w.drew _]
       have hfz:=Kq w.drew Cs e Cs.size;have hw:w.drew.heap.size=w.heap.size:=rfl;rw[hw] at hfz;simp only[convert,Sem.run_bind,run_underlying h1,run_underlying h2,run_underlying h3,Result.andThen_ok,Conv.stringToBytes,choose,Sem.run,hf,Bool.false_eq_true,if_false,PP];change ((newRow e ((ByteArray.mk l.toArray).data.map (fun b=>Value.int .u8 b.toNat)++Array.replicate (c-l.length) (.int .u8 0))).run P w.drew).andThen _=_;rw[hCs'];simp only[newRow,run_newObj,Result.andThen_ok,Sem.run_bind,markStringish,shape,freeze,Sem.run];have hal:({ heap:=w.drew.heap.push (Obj.cells Cs e),tape:=w.drew.tape,drawn:=w.drew.drawn,os:=w.drew.os,output:=w.drew.output }:World)=w.drew.alloc (.cells Cs e):=rfl;simp only[Sem.run_pure,Result.andThen_ok,hal,hw,Y0,Sem.run,hfz];rfl
      ·simp only[aab,dT,iU,List.length_append,List.length_singleton]
       refine⟨by omega,?_⟩;simp[hCs]
      ·exact(Step.drew (m0:=mem.length) (Nat.le_refl _)).trans g2
     ·cases h
    ·cases h
   ·cases h
  ·cases h
 ·cases h
end
end Go.Eng
namespace Go.Eng
variable{n:Nat}
section
variable {P:Program}{T:TypeId→Option TyI}{μ:Nat→Place}{mem:Mem}{base:Nat}{w:World}
def NU:Option TyI→Bool
 |some i=>match i.desc with
  |.int _=>true
  |_=>false
 |none=>false
def VZ(T:TypeId→Option TyI) (t:TypeId) (x:AV):Option AV:=
 match T t with
 |none=>none
 |some i=>match i.desc,x with
  |.slice _,.kO=>some (.int .i64 0)
  |_,_=>none
theorem Px(hT:cH P T){t ty:TypeId}{x v:AV}{X:Value}(hx:aab μ n x X)(h:VZ T t x=some v):Val P (Builtin.cap_ #[t] ty #[X]) w μ n v:=by
 unfold VZ at h;cases ht:T t with
 |none=>rw[ht] at h;cases h
 |some i=>
  rw[ht] at h;simp only at h;have hd:=(hT t i ht).desc;split at h
  ·rename_i e B'
   rw[B'] at hd;cases h;simp only[aab] at hx;subst hx;refine .int ?_;simp[Builtin.cap_,run_underlying hd,goInt]
  ·cases h
def uX(T:TypeId→Option TyI) (mem:Mem) (t:TypeId) (s x:AV):Option (AV×Mem):=
 match T t with
 |none=>none
 |some i=>
  match i.desc,s,x with
  |.slice e,.kO,.int _ n=>
   match T e with
   |some j=>if 0<n∧n*j.bytes≤140737488355328∧n≤140737488355328∧0<j.size∧j.size<1000 then some (.slice mem.length 0 n.toNat none,mem++[.cells true (vx j e) (gA (iL j.zero).cells n.toNat)]) else none
   |none=>none
  |_,_,_=>none
theorem vI{z:List AV}{Z:Array Value}(hz:aad μ n z Z.toList)(k:Nat):aad μ n (gA z k) (Builtin.zeroCells Z k).toList:=by
 have hl:Z.size=z.length:=by rw[←Array.length_toList,hz.length]
 refine aad.abe (by rw[Array.length_toList,size_zeroCells,gL,hl]) fun j v hv=>?_
 obtain⟨V,h1,h2,h3⟩:=sf hz k j v hv;refine⟨V,?_,h2⟩;rw[Array.getElem?_toList,←h1];unfold Builtin.zeroCells;have:j<k*Z.size:=h3;simp[this]
theorem J6(hT:cH P T){t t2 ty e:TypeId}{j:TyI}(hd:P.underlying t=some (.slice e))(hj:T e=some j){kd:IntKind}(Z6:P.underlying t2=some (.int kd))(m:Nat)(k:IntKind)(w:World)(Xe:0<m)(hb:m*j.bytes≤140737488355328)(hm:m≤140737488355328)(hs:0<j.size):
  ∃nc,m≤nc∧(Builtin.append_ #[t,t2] ty #[.slice none 0 0,.int k m]).run P w=
   .ok (.slice (some ⟨w.heap.size,0,none⟩) m nc) (w.drew.alloc (.cells (#[]++(Builtin.zeroCells j.zero.cells m++Builtin.zeroCells j.zero.cells (nc-m))) e)):=by
 obtain⟨f,hf,hfs,hfb,hfz⟩:=(hT e j hj).info;have h63:¬(9223372036854775807<(m:Int)):=by omega
 have w1:IntKind.i64.wrap (m:Int)=m:=ai (by omega) (by omega);have h0:¬((m:Int)<0):=by omega
 have h48a:¬(281474976710656<(m:Int)*(f.bytes:Int)):=by
  rw[hfb];have:(m:Int)*(j.bytes:Int)=((m*j.bytes:Nat):Int):=by simp
  omega
 have h48:¬(281474976710656<Builtin.nextslicecap m 0*f.bytes):=by have:=growslice_fits (need:=m) (old:=0) (bytes:=f.bytes) (by omega) (by rw[hfb];exact hb);omega
 have hms2:¬(m=0):=by omega
 have hask:∀n w,(askRoom n).run P w=.ok () w:=by intro n w;unfold askRoom;split<;>simp[mark,Sem.run]
 refine⟨grownCap w m 0 e,grownCap_ge w m 0 e,?_⟩;simp[Builtin.append_,run_underlying hd,run_underlying Z6,sizeOf,typeInfo,zeroValue,hf,hfs,hfz,asInt,asIntOf,w1,h0,h63,h48,h48a,hms2,Question.forced,Builtin.firstCells,newRow,grownCap,hask];intro h;exact absurd h (by have:=Nat.mul_pos Xe hs;omega)
theorem Ct(hT:cH P T)(hH:aam base μ mem w){t t2 ty:TypeId}{s x v:AV}{S X:Value}{mem' :Mem}(hs:aab μ mem.length s S)(hx:aab μ mem.length x X)(hi:NU (T t2)=true)(h:uX T mem t s x=some (v,mem')):
  abi P (Builtin.append_ #[t,t2] ty #[S,X]) base μ mem w v mem' :=by
 unfold uX at h;cases ht:T t with
 |none=>rw[ht] at h;cases h
 |some i=>
  rw[ht] at h;simp only at h;have hd:=(hT t i ht).desc;split at h
  ·rename_i e k n B'
   rw[B'] at hd;split at h
   ·rename_i j hj
    split at h
    ·rename_i hc
     obtain⟨c1,c2,c3,c4,c5⟩:=hc;cases h;obtain⟨kd,hkd⟩:∃kd,P.underlying t2=some (.int kd):=by
      unfold NU at hi;split at hi
      ·rename_i i2 h2
       split at hi
       ·rename_i kd hk
        have:=(hT t2 i2 h2).desc;rw[hk] at this;exact⟨kd,this⟩
       ·cases hi
      ·cases hi
     simp only[aab] at hs;subst hs;rw[hx.int];obtain⟨m,rfl⟩:∃m:Nat,n=m:=⟨n.toNat,by omega⟩
     have hb:m*j.bytes≤140737488355328:=by
      have:(m:Int)*(j.bytes:Int)=((m*j.bytes:Nat):Int):=by simp
      omega
     obtain⟨nc,hnc,hr⟩:=J6 hT (ty:=ty) hd hj hkd m k w (by omega) hb (by omega) c4;have hz:=jh μ mem.length j.zero;have hzs:=(hT e j hj).abB;have hzl:(iL j.zero).cells.length=j.size:=by rw[←hz.length,Array.length_toList,hzs]
     have:=MX (P:=P) hH (es:=vx j e) (FL c5) (olds:=[]) (news:=gA (iL j.zero).cells m) (Os:=[]) (Ns:=(Builtin.zeroCells j.zero.cells m).toList) c4 hzs (by simp[aad]) (vI hz m) (by simp[gL,hzl]) hnc hr;simpa using this
    ·cases h
   ·cases h
  ·cases h
def JU(T:TypeId→Option TyI) (mem:Mem) (t:TypeId) (x:AV):Option Mem:=
 match T t with
 |none=>none
 |some i=>
  match i.desc,x with
  |.slice _,.kO=>some mem
  |.slice e,.slice b o n _=>
   if n=0 then some mem else
   match T e,mem[b]? with
   |some j,some (.cells true es cs)=>
    if o+n*j.size≤cs.length∧(gA (iL j.zero).cells n).all AV.qK=true then some (mem.set b (.cells true es (cs.take o++gA (iL j.zero).cells n++cs.drop (o+n*j.size)))) else none
   |_,_=>none
  |_,_=>none
theorem JW(hT:cH P T)(hH:aam base μ mem w){t ty:TypeId}{x:AV}{X:Value}{mem' :Mem}(hx:aab μ mem.length x X)(h:JU T mem t x=some mem'):
  abi P (Builtin.clear_ #[t] ty #[X]) base μ mem w (.tuple []) mem' :=by
 unfold JU at h;cases ht:T t with
 |none=>rw[ht] at h;cases h
 |some i=>
  rw[ht] at h;simp only at h;have hd:=(hT t i ht).desc;split at h
  ·rename_i e B'
   rw[B'] at hd;cases h;simp only[aab] at hx;subst hx;exact⟨.tuple #[],w,μ,by simp[Builtin.clear_,run_underlying hd],by simp[aab,aad],hH,.refl (Nat.le_refl _)⟩
  ·rename_i e b o n c B'
   rw[B'] at hd;obtain⟨XR,rfl⟩:=hx.slice;split at h
   ·rename_i hn
    cases h;subst hn;exact⟨.tuple #[],w,μ,by simp[Builtin.clear_,run_underlying hd],by simp[aab,aad],hH,.refl (Nat.le_refl _)⟩
   ·rename_i hn
    split at h
    ·rename_i j es cs hj hb
     split at h
     ·rename_i hc
      obtain⟨Xj,G'⟩:=hc;cases h;have hs:=hH.slot b _ hb;simp only[aap] at hs;obtain⟨cur,el,fr,g1,g2,g3,g4,g5⟩:=hs;obtain⟨g6,g7,g8,g9⟩:=g5 trivial;subst g7;have hz:=jh μ mem.length j.zero;have hzs:=(hT e j hj).abB;have hzl:(iL j.zero).cells.length=j.size:=by rw[←hz.length,Array.length_toList,hzs]
      have ZN:=vI hz n;have Xd:(gA (iL j.zero).cells n).length=n*j.size:=by rw[gL,hzl]
      obtain⟨Zs,hZs⟩:∃Zs,Zs=Builtin.zeroCells j.zero.cells n:=⟨_,rfl⟩
      rw[←hZs] at ZN;have hZl:Zs.size=n*j.size:=by rw[←Array.length_toList,ZN.length,Xd]
      have h1:=ZN.aa0 G';have WI:=run_storeCells_at (P:=P) (μ b).blk o el Zs.toList 0 cur w g1 (by rw[ZN.length,Xd];omega) h1;have hw:=hH.write (w' :=w.setRow (μ b).blk (cur.toList.take (o+0)++Zs.toList++cur.toList.drop (o+0+Zs.toList.length)).toArray) (s' :=.cells true es (cs.take o++gA (iL j.zero).cells n++cs.drop (o+n*j.size)))
       hb (ji hb) (fun _=>⟨_,List.getElem?_set_self (List.getElem?_eq_some_iff.1 hb).1,rfl⟩) rfl rfl rfl rfl (by simp[World.setRow]) (fun k hk=>setRow_other w _ k _ hk) ?_
      ·refine⟨.tuple #[],_,μ,?_,by simp[aab,aad],hw.1,hw.2⟩
       simp only[Builtin.clear_,List.getElem?_toArray,List.getElem?_cons_zero,Sem.run_bind,run_underlying hd,Result.andThen_ok,g6,Nat.zero_add,dU hT hj,←hZs];rw[WI];rfl
      ·simp only[aap]
       refine⟨_,el,(0,0),setRow_heap w (μ b).blk cur _ el (0,0) g1,g2,?_,fun q u hu=>?_,fun _=>⟨g6,rfl,?_,g9⟩⟩
       ·simp only[List.length_append,List.length_take,List.length_drop,Xd];omega
       ·rw[g6] at g4
        obtain⟨U,hU,hr⟩:=wZ (cs:=cs) (vs:=gA (iL j.zero).cells n) (Vs:=Zs.toList) (o:=o) (cur:=cur.toList) (by rw[Xd];exact Xj) (fun j v hv=>by simpa using g4 j v hv) ZN q u (by rw[Xd];exact hu);refine⟨U,?_,hr⟩;rw[g6];simpa using hU
       ·simp only[List.size_toArray,List.length_append,List.length_take,List.length_drop,Array.length_toList,hZl];omega
     ·cases h
    ·cases h
  ·cases h
end
end Go.Eng
namespace Go.Eng
def wB(T:TypeId→Option TyI) (mem:Mem) (t:TypeId) (x:AV) (lo hi:Option AV):Option (AV×Mem):=
 match T t,x with
 |some i,.slice b o n none=>
  match i.desc with
  |.slice e=>match T e,mem[b]? with
   |some j,some (.cells _ es cs)=>match hi,lo with
    |none,some (.int _ l)=>if l=n∧0<n∧es=j.size∧0<es∧es<1000∧o+n*es≤cs.length then some (.slice mem.length 0 0 none,mem++[.qF]) else none
    |_,_=>none
   |_,_=>none
  |_=>none
 |_,_=>none
section
variable {P:Program}{T:TypeId→Option TyI}{μ:Nat→Place}{mem:Mem}{base:Nat}{w:World}
theorem aam.qF(h:aam base μ mem w)(p:Place):aam base (upd μ mem.length p) (mem++[.qF]) w∧Step mem.length μ mem w (upd μ mem.length p) (mem++[.qF]) w:=by
 have hμ:∀b,b<mem.length→upd μ mem.length p b=μ b:=fun b hb=>vE hb
 have low:∀{b:Nat}{s:aae},(mem++[aae.qF])[b]? =some s→s≠ .qF→b<mem.length∧mem[b]? =some s:=by
  intro b s hs H';by_cases AC:b<mem.length
  ·rw[List.getElem?_append_left AC] at hs;exact⟨AC,hs⟩
  ·exfalso
   have hbe:b=mem.length:=by have:=(List.getElem?_eq_some_iff.1 hs).1;simp at this;omega
   subst hbe;simp at hs;exact H' hs.symm
 have own:∀{b:Nat},dL (mem++[aae.qF]) b→b<mem.length∧dL mem b:=by rintro b ⟨s,hs,ho⟩;have:=low hs (aae.aaO ho);exact⟨this.1,s,this.2,ho⟩
 refine⟨⟨h.aai,fun b s hs=>?_,fun b b' s' hb J' H' XE=>?_⟩,?_⟩
 ·by_cases hsa:s=.qF
  ·subst hsa;trivial
  ·obtain⟨AC,Zp⟩:=low hs hsa
   rw[hμ b AC];exact(h.slot b s Zp).mono (by simp) hμ fun _=>rfl
 ·obtain⟨h1,h2⟩:=own hb
  obtain⟨h3,h4⟩:=low J' H';rw[hμ b h1,hμ b' h3];exact h.sep b b' s' h2 h4 H' XE
 ·exact⟨by simp,hμ,rfl,rfl,rfl,Nat.le_refl _,fun _ _ _=>rfl,fun b hb _=>by obtain⟨h1,h2⟩:=own hb;exact⟨b,h2,(congrArg Place.blk (hμ b h1)).symm⟩,Nat.le_refl _⟩
theorem Fb(hT:cH P T)(hH:aam base μ mem w){t:TypeId}{x v:AV}{X:Value}{lo hi:Option AV}{Lo Hi:Option Value}{mem' :Mem}(hx:aab μ mem.length x X)(hlo:(lo=none∧Lo=none)∨∃l L,lo=some l∧Lo=some L∧aab μ mem.length l L)(hhi:(hi=none∧Hi=none)∨∃l L,hi=some l∧Hi=some L∧aab μ mem.length l L)(h:wB T mem t x lo hi=some (v,mem')):
  abi P (Instr.sliceAt t X Lo Hi none) base μ mem w v mem' :=by
 unfold wB at h;split at h
 ·rename_i i b o n ht
  split at h
  ·rename_i e B'
   have hd:=(hT t i ht).desc;rw[B'] at hd;split at h
   ·rename_i j own es cs hj hb
    split at h
    ·rename_i k l
     split at h
     ·rename_i hc
      obtain⟨rfl,g1,g5,g6,g6',g7⟩:=hc;cases h;rcases hhi with⟨_,rfl⟩ | ⟨_,_,h1,_⟩
      ·rcases hlo with⟨h1,_⟩ | ⟨a,L,h1,rfl,hL⟩
       ·cases h1
       ·cases h1
        rw[hL.int];obtain⟨XR,rfl⟩:=hx.slice;have hs:=hH.slot b _ hb;simp only[aap] at hs;obtain⟨cur,el,fr,Zn,Yj,hs3,_,_⟩:=hs;have Yj:=Yj.es g6';subst Yj;have YY:n≤iU (μ b) o none:=by simp only[iU];rw[Nat.le_div_iff_mul_le g6];omega
        obtain⟨c,hcd⟩:∃c,c=iU (μ b) o none:=⟨_,rfl⟩
        rw[←hcd] at YY ⊢;obtain⟨off,YJ⟩:∃off,off=if c=n then (μ b).off+o else (μ b).off+(o+n*(μ b).es):=⟨_,rfl⟩
        obtain⟨a1,a2⟩:=hH.qF ⟨(μ b).blk,off,(c-n)*(μ b).es,(μ b).es⟩;have X7:(Instr.sliceBounds true n c (some (.int k (n:Int))) none none).run P w=.ok (n,n,c) w:=by
         have WS:(0:Int)≤(n:Int):=by omega
         have hb1:(n:Int)≤((n:Nat):Int):=Int.le_refl _;simp[Instr.sliceBounds,bW WS hb1]
        refine⟨.slice (some ⟨(μ b).blk,off,none⟩) 0 (c-n),w,_,?_,?_,a1,a2⟩
        ·simp[Instr.sliceAt,Instr.slice,run_underlying hd,X7,cA hT hj]
         by_cases hcn:c=n
         ·rw[if_pos hcn] at YJ
          simp[hcn,YJ]
         ·rw[if_neg hcn] at YJ
          simp[hcn,YJ,Addr.add_lit,g5,Nat.add_assoc]
        ·simp only[aab,dT,iU,List.length_append,List.length_singleton,Nat.add_zero,Nat.sub_zero]
         refine⟨by omega,?_⟩;rw[Nat.mul_div_cancel _ g6]
      ·cases h1
     ·cases h
    ·cases h
   ·cases h
  ·cases h
 ·cases h
end
end Go.Eng
namespace Go.Eng
def AK(T:TypeId→Option TyI) (t:TypeId) (x:AV) (lo hi mx:Option AV):Option AV:=
 match T t,x with
 |some i,.slice b o n (some c)=>
  match i.desc with
  |.slice e=>
   match T e,Dq n hi,Kx lo,Dq c mx with
   |some j,some h,some l,some m=>
    if 0≤l∧l≤h∧h≤m∧m≤c∧(mx=none∨hi.isSome=true) then some (.slice b (if m=l then o else o+l.toNat*j.size) (h.toNat-l.toNat) (some (m.toNat-l.toNat))) else none
   |_,_,_,_=>none
  |_=>none
 |_,_=>none
def rK(T:TypeId→Option TyI) (mem:Mem) (t t2:TypeId) (s x:AV):Option (AV×Mem):=
 match T t,s with
 |some i,.slice b 0 n (some c)=>
  match i.desc with
  |.slice e=>
   match T e,T t2,mem[b]? with
   |some j,some i2,some (.cells true es cs)=>
    if j.size=0∨1000≤j.size∨w9 i2=false then none else
    match il T mem j.size t2 x with
    |none=>none
    |some (m,news)=>
     if news.all AV.qK=true∧es=j.size∧n+m≤c∧(n+m)*j.size≤cs.length then
      some (.slice b 0 (n+m) (some c),mem.set b (.cells true es (cs.take (n*j.size)++news++cs.drop ((n+m)*j.size)))) else none
   |_,_,_=>none
  |_=>none
 |_,_=>none
section
variable {P:Program}{T:TypeId→Option TyI}{μ:Nat→Place}{mem:Mem}{base:Nat}{w:World}
theorem u9(hT:cH P T){t:TypeId}{x v:AV}{X:Value}{lo hi mx:Option AV}{Lo Hi Mx:Option Value}(hx:aab μ mem.length x X)(hlo:(lo=none∧Lo=none)∨∃l L,lo=some l∧Lo=some L∧aab μ mem.length l L)(hhi:(hi=none∧Hi=none)∨∃l L,hi=some l∧Hi=some L∧aab μ mem.length l L)(hmx:(mx=none∧Mx=none)∨∃l L,mx=some l∧Mx=some L∧aab μ mem.length l L)(h:AK T t x lo hi mx=some v):
  Val P (Instr.sliceAt t X Lo Hi Mx) w μ mem.length v:=by
 unfold AK at h;split at h
 ·rename_i i b o n c ht
  have hd:=(hT t i ht).desc;split at h
  ·rename_i e B'
   rw[B'] at hd;split at h
   ·rename_i j hh ll mm hj e1 e2 e3
    split at h
    ·rename_i hc
     obtain⟨h0,h1,h2,h3,h4⟩:=hc;cases h;obtain⟨XR,rfl⟩:=hx.slice;have X7:(Instr.sliceBounds true n c Lo Hi Mx).run P w=.ok (ll.toNat,hh.toNat,mm.toNat) w:=by
      have Ya :ll≤((hh.toNat:Nat):Int):=by omega
      have ZO :0≤hh:=by omega
      have Zq :hh≤((mm.toNat:Nat):Int):=by omega
      have h2'' :0≤mm:=by omega
      rcases hmx with⟨rfl,rfl⟩ | ⟨m,M,rfl,rfl,hM⟩
      ·simp only[Dq,Option.some.injEq] at e3
       subst e3;rw[Int.toNat_natCast] at Zq;rcases hhi with⟨rfl,rfl⟩ | ⟨a,A,rfl,rfl,hA⟩<;>rcases hlo with⟨rfl,rfl⟩ | ⟨b,B,rfl,rfl,hB⟩
       ·simp only[Dq,Kx,Option.some.injEq] at e1 e2;subst e1;subst e2
        simp[Instr.sliceBounds]
       ·cases b<;>simp only[Dq,Kx,reduceCtorEq,Option.some.injEq] at e1 e2
        subst e1;subst e2;rw[hB.int];simp[Instr.sliceBounds,bW h0 h1]
       ·cases a<;>simp only[Dq,Kx,reduceCtorEq,Option.some.injEq] at e1 e2
        subst e1;subst e2;rw[hA.int];simp[Instr.sliceBounds,bW ZO Zq]
       ·cases a<;>simp only[Dq,reduceCtorEq,Option.some.injEq] at e1
        cases b<;>simp only[Kx,reduceCtorEq,Option.some.injEq] at e2;subst e1;subst e2;rw[hA.int,hB.int];simp[Instr.sliceBounds,bW ZO Zq,bW h0 Ya]
      ·cases m<;>simp only[Dq,reduceCtorEq,Option.some.injEq] at e3
       subst e3;rw[hM.int];rcases hhi with⟨rfl,rfl⟩ | ⟨a,A,rfl,rfl,hA⟩<;>rcases hlo with⟨rfl,rfl⟩ | ⟨b,B,rfl,rfl,hB⟩
       ·simp at h4
       ·simp at h4
       ·cases a<;>simp only[Dq,Kx,reduceCtorEq,Option.some.injEq] at e1 e2
        subst e1;subst e2;rw[hA.int];simp[Instr.sliceBounds,bW h2'' h3,bW ZO Zq]
       ·cases a<;>simp only[Dq,reduceCtorEq,Option.some.injEq] at e1
        cases b<;>simp only[Kx,reduceCtorEq,Option.some.injEq] at e2;subst e1;subst e2;rw[hA.int,hB.int];simp[Instr.sliceBounds,bW h2'' h3,bW ZO Zq,bW h0 Ya]
     refine⟨.slice (some ⟨(μ b).blk,(μ b).off+(if mm=ll then o else o+ll.toNat*j.size),none⟩) (hh.toNat-ll.toNat) (mm.toNat-ll.toNat),?_,by simp only[aab,iU];exact⟨XR,trivial⟩⟩;have Z7:(mm.toNat=ll.toNat)=(mm=ll):=by rw[eq_iff_iff];omega
     by_cases hml2:mm=ll
     ·simp[Instr.sliceAt,Instr.slice,run_underlying hd,X7,cA hT hj,hml2,iU]
     ·simp[Instr.sliceAt,Instr.slice,run_underlying hd,X7,cA hT hj,Z7,hml2,iU,Addr.add_lit,Nat.add_assoc]
    ·cases h
   ·cases h
  ·cases h
 ·cases h
theorem Cq(hT:cH P T)(hH:aam base μ mem w){t t2 ty:TypeId}{s x v:AV}{S X:Value}{mem' :Mem}(hs:aab μ mem.length s S)(hx:aab μ mem.length x X)(h:rK T mem t t2 s x=some (v,mem')):
  abi P (Builtin.append_ #[t,t2] ty #[S,X]) base μ mem w v mem' :=by
 unfold rK at h;split at h
 ·rename_i i b n c ht
  have hd:=(hT t i ht).desc;split at h
  ·rename_i e B'
   rw[B'] at hd;split at h
   ·rename_i j i2 es cs hj ZP hb
    split at h
    ·cases h
    ·rename_i I'
     have hd2:=(hT t2 i2 ZP).desc;have Z6:(∃e2,P.underlying t2=some (.slice e2))∨P.underlying t2=some .string:=by
      have WN:w9 i2=true:=by
       cases h2:w9 i2 with
       |true=>rfl
       |false=>exact absurd (.inr (.inr h2)) I'
      unfold w9 at WN;split at WN
      ·rename_i e2 h2;rw[h2] at hd2;exact .inl ⟨e2,hd2⟩
      ·rename_i h2;rw[h2] at hd2;exact .inr hd2
      ·cases WN
     have hsk:j.size<1000:=by
      rcases Nat.lt_or_ge j.size 1000 with h0 | h0
      ·exact h0
      ·exact absurd (.inr (.inl h0)) I'
     split at h
     ·cases h
     ·rename_i m news hsrc
      split at h
      ·rename_i hc
       obtain⟨G',rfl,Xj,hroom⟩:=hc;cases h;obtain⟨Ns,g1,g2,g3,g4⟩:=sI (P:=P) hH hx hsrc;obtain⟨XR,rfl⟩:=hs.slice;have YC:=hH.slot b _ hb;simp only[aap] at YC;obtain⟨cur,el,fr,s1,s2,s3,s4,s5⟩:=YC;obtain⟨s6,s7,s8,s9⟩:=s5 trivial;subst s7;have YJ:(μ b).off+0=0:=by omega
       have hr:=tU hT (ty:=ty) hd hj Z6 (some ⟨(μ b).blk,0,none⟩) n c m X w g3 Xj;rw[g4 w (fun _=>rfl)] at hr;have hNl:Ns.length=m*j.size:=by rw[g1.length,g2]
       have ZQ:n*j.size+m*j.size=(n+m)*j.size:=(Nat.add_mul _ _ _).symm;have A':cs.length≤cur.size:=by rw[s8];exact s3
       have WI:=run_storeCells_at (P:=P) (μ b).blk (n*j.size) el Ns 0 cur w s1 (by rw[hNl,Nat.add_zero,ZQ];omega) (g1.aa0 G');simp only[Result.andThen_ok,Addr.add_lit,Nat.zero_add,WI] at hr;have hw:=hH.write (w' :=w.setRow (μ b).blk (cur.toList.take (n*j.size+0)++Ns++cur.toList.drop (n*j.size+0+Ns.length)).toArray) (s' :=.cells true j.size (cs.take (n*j.size)++news++cs.drop ((n+m)*j.size)))
        hb (ji hb) (fun _=>⟨_,List.getElem?_set_self (List.getElem?_eq_some_iff.1 hb).1,rfl⟩) rfl rfl rfl rfl (by simp[World.setRow]) (fun k hk=>setRow_other w _ k _ hk) ?_
       ·refine⟨.slice (some ⟨(μ b).blk,0,none⟩) (n+m) c,_,μ,?_,?_,hw.1,hw.2⟩
        ·rw[←hr]
         simp only[iU,YJ]
        ·simp only[aab,iU,YJ,List.length_set]
         exact⟨XR,trivial⟩
       ·simp only[aap]
        refine⟨_,el,(0,0),setRow_heap w (μ b).blk cur _ el (0,0) s1,s2,?_,fun q u hu=>?_,fun _=>⟨s6,rfl,?_,s9⟩⟩
        ·simp only[List.length_append,List.length_take,List.length_drop,g2];omega
        ·rw[s6] at s4
         rw[show(n+m)*j.size=n*j.size+news.length by rw[g2,ZQ]] at hu;obtain⟨U,hU,hr⟩:=wZ (cs:=cs) (vs:=news) (Vs:=Ns) (o:=n*j.size) (cur:=cur.toList) (by rw[g2,ZQ];exact hroom) (fun j v hv=>by simpa using s4 j v hv) g1 q u hu;refine⟨U,?_,hr⟩;rw[s6];simpa using hU
        ·simp only[List.size_toArray,List.length_append,List.length_take,List.length_drop,Array.length_toList,hNl];omega
      ·cases h
   ·cases h
  ·cases h
 ·cases h
end
end Go.Eng
namespace Go.Eng
def qB(T:TypeId→Option TyI) (mem:Mem) (t:TypeId) (m k:AV):Option (AV×Mem):=
 match T t with
 |none=>none
 |some i=>
  match i.desc,m with
  |.map kt et,.map b=>
   match T et,mem[b]? with
   |some j,some (.map es)=>
    if jf T 20 kt k then
     match jc T kt k es 0 with
     |some (some (q,v))=>if k.aa1 then some (.tuple [v,.int .i64 q],mem.set b (.map (es.set q (k,v)))) else none
     |some none=>some (.tuple [iL j.zero,.int .i64 es.length],mem.set b (.map (es++[(k,iL j.zero)])))
     |none=>none
    else none
   |_,_=>none
  |_,_=>none
def km(mem:Mem) (m s v:AV):Option Mem:=
 match m,s with
 |.map b,.int _ (.ofNat q)=>match mem[b]? with
  |some (.map es)=>match es[q]? with
   |some e=>some (mem.set b (.map (es.set q (e.1,v))))
   |none=>none
  |_=>none
 |_,_=>none
variable{Do:Array MapEntry}
section
variable {P:Program}{T:TypeId→Option TyI}{μ:Nat→Place}{mem:Mem}{base:Nat}{w:World}{n:Nat}
theorem Km{kt:TypeId}{k:AV}:∀{es:List (AV×AV)}{i q:Nat}{v:AV},jc T kt k es i=some (some (q,v))→(es[q-i]?).map (·.2)=some v
 | [],i,q,v,h=>by simp[jc] at h
 |e::es,i,q,v,h=>by
  have hs:=nh h;rw[jc] at h;split at h
  ·cases h;simp
  ·have:=Km h
   obtain⟨j,e',h1,h2,h3⟩:=nh h;subst h1;rw[show i+1+j-(i+1)=j by omega] at this;rw[show i+1+j-i=j+1 by omega];simpa using this
  ·cases h
theorem Bf(hH:aam base μ mem w){b FS WH :Nat}{es Xt :List (AV×AV)}{WJ :Array MapEntry}(hb:mem[b]? =some (.map es))(h1:w.heap[(μ b).blk]? =some (.map Do FS))(XQ:base≤(μ b).blk)(g0:CG WJ WH)(g1:WJ.size=Xt.length)(g2:∀(j:Nat) e,Xt[j]? =some e→∃E,WJ[j]? =some E∧Oe μ mem.length e E):
  (setObj (μ b).blk (.map WJ WH)).run P w=.ok () { w with heap:=w.heap.setIfInBounds (μ b).blk (.map WJ WH) }∧
  aam base μ (mem.set b (.map Xt)) { w with heap:=w.heap.setIfInBounds (μ b).blk (.map WJ WH) }∧Step mem.length μ mem w μ (mem.set b (.map Xt)) { w with heap:=w.heap.setIfInBounds (μ b).blk (.map WJ WH) }:=by
 have AC:(μ b).blk<w.heap.size:=(Array.getElem?_eq_some_iff.1 h1).1;refine⟨sd h1 (by simp),hH.write hb (KH hb) (fun _=>⟨_,List.getElem?_set_self (List.getElem?_eq_some_iff.1 hb).1,rfl⟩) rfl rfl rfl rfl (by simp) (fun q hq=>?_) ?_⟩
 ·simp[Array.getElem?_setIfInBounds_ne (Ne.symm hq)]
 ·simp only[aap]
  exact⟨WJ,WH,by simp[AC],⟨XQ,g0⟩,g1,g2⟩
theorem Qj{FS i:Nat}(h:CG Do FS)(hi:i<Do.size):Do.findIdx? (fun e=>(e.born:Int)==(i:Int))=some i:=by
 rw[Array.findIdx?_eq_some_iff_getElem];refine⟨hi,?_,?_⟩
 ·have:=h.2 i Do[i] (by simp)
  simp[this]
 ·intro j hj
  have:=h.2 j Do[j] (by simp);simp[this];omega
theorem wA(hH:aam base μ mem w){t:TypeId}{m s v:AV}{M S V:Value}{mem' :Mem}(hm:aab μ mem.length m M)(hs:aab μ mem.length s S)(hv:aab μ mem.length v V)(h:km mem m s v=some mem'):∃w',(Instr.entryStore t M S V).run P w=.ok () w' ∧aam base μ mem' w' ∧Step mem.length μ mem w μ mem' w' :=by
 unfold km at h;split at h
 ·rename_i b k q
  split at h
  ·rename_i es hb
   split at h
   ·rename_i e he
    cases h;simp only[aab] at hm;obtain⟨_,rfl⟩:=hm;have YC:=hH.slot b _ hb;simp only[aap] at YC;obtain⟨Do,FS,h1,XQ,h2,h3⟩:=YC;have hg:(getObj (μ b).blk).run P w=.ok (.map Do FS) w:=by simp[getObj,Sem.run,h1]
    have hq:q<es.length:=(List.getElem?_eq_some_iff.1 he).1;have hf:=Qj XQ.2 (i:=q) (by omega);obtain⟨f1,f2,f3⟩:=Bf (P:=P) hH (Xt :=es.set q (e.1,v)) (WJ :=Do.modify q fun e=>{ e with val:=V }) (WH :=FS) hb h1 XQ.1 ⟨by simpa using XQ.2.1,fun j E' WX =>by
     rw[Array.getElem?_modify] at WX;split at WX
     ·simp only[Option.map_eq_some_iff] at WX
      obtain⟨E0,k1,rfl⟩:=WX;exact XQ.2.2 j E0 k1
     ·exact XQ.2.2 j E' WX⟩ (by simpa using h2) (fun j e' XK =>by
     rw[List.getElem?_set] at XK;by_cases hjq:q=j
     ·subst hjq
      simp only[if_true,hq,Option.some.injEq] at XK;subst XK;obtain⟨E,hE,hr⟩:=h3 q e he;exact⟨{ E with val:=V },by simp[Array.getElem?_modify,hE],hr.1,hv⟩
     ·rw[if_neg hjq] at XK
      obtain⟨E',WX,hr'⟩:=h3 j e' XK;exact⟨E',by simp[Array.getElem?_modify,hjq,WX],hr'⟩)
    refine⟨_,?_,f2,f3⟩;rw[hs.int];have hf' :Do.findIdx? (fun e=>(e.born:Int)==Int.ofNat q)=some q:=hf;simp only[Instr.entryStore,Sem.run_bind,Result.andThen_ok,hg,asInt,asIntOf,Sem.run_pure,hf'];exact f1
   ·cases h
  ·cases h
 ·cases h
theorem AJ(hT:cH P T)(hH:aam base μ mem w){t:TypeId}{m k v:AV}{M K:Value}{mem' :Mem}(hm:aab μ mem.length m M)(hk:aab μ mem.length k K)(h:qB T mem t m k=some (v,mem')):abi P (Instr.mapEntry t M K) base μ mem w v mem' :=by
 unfold qB at h;cases ht:T t with
 |none=>rw[ht] at h;cases h
 |some i=>
  rw[ht] at h;simp only at h;have hd:=(hT t i ht).desc;split at h
  ·rename_i kt et b B'
   rw[B'] at hd;split at h
   ·rename_i j es hj hb
    split at h
    ·rename_i WN
     simp only[aab] at hm;obtain⟨XR,rfl⟩:=hm;have hs:=hH.slot b _ hb;simp only[aap] at hs;obtain⟨Do,FS,h1,XQ,h2,h3⟩:=hs;have hg:(getObj (μ b).blk).run P w=.ok (.map Do FS) w:=by simp[getObj,Sem.run,h1]
     have ZE:=kD (P:=P) (n:=mem.length) hT false 20 WN hk 9980 w;have YZ:∃ki,T kt=some ki:=by
      rw[jf] at WN;cases hx:T kt with
      |none=>rw[hx] at WN;cases WN
      |some ki=>exact⟨ki,rfl⟩
     obtain⟨ki,hki⟩:=YZ;have e2:Do.toList.length=es.length:=by simpa using h2
     have e3:∀(j:Nat) e,es[j]? =some e→∃E,Do.toList[j]? =some E∧Oe μ mem.length e E:=fun j e he=>by obtain⟨E,hE,hr⟩:=h3 j e he;exact⟨E,by simpa using hE,hr⟩
     split at h
     ·rename_i q v' hf
      split at h
      ·rename_i hsc
       cases h;obtain⟨R,g1,g2⟩:=gG hT hki hk e2 e3 hf w;cases R with
       |none=>exact g2.elim
       |some x=>
        obtain⟨q',V'⟩:=x;obtain⟨rfl,hv⟩:=g2;obtain⟨j',e,hq,he,S'⟩:=nh hf;have Zl :q=j' :=by omega
        subst Zl;obtain⟨E,hE,hr⟩:=h3 q e he;have hsb:=rn (μ:=μ) (n:=mem.length) hsc hk hr.1 S' rfl;have WD :q<es.length:=(List.getElem?_eq_some_iff.1 he).1;have WQ:e.2=v' :=by have:=Km hf;rw[Nat.sub_zero] at this;rw[he] at this;simpa using this
        obtain⟨f1,f2,f3⟩:=Bf (P:=P) hH (Xt :=es.set q (k,v')) (WJ :=Do.modify q fun e=>{ e with key:=K }) (WH :=FS) hb h1 XQ.1 ⟨by simpa using XQ.2.1,fun j E' WX =>by
         rw[Array.getElem?_modify] at WX;split at WX
         ·simp only[Option.map_eq_some_iff] at WX
          obtain⟨E0,k1,rfl⟩:=WX;exact XQ.2.2 j E0 k1
         ·exact XQ.2.2 j E' WX⟩ (by simpa using h2) (fun j e' XK =>by
         rw[List.getElem?_set] at XK;by_cases hjq:q=j
         ·subst hjq
          simp only[if_true,WD,Option.some.injEq] at XK;subst XK;exact⟨{ E with key:=K },by simp[Array.getElem?_modify,hE],hk,by rw[←WQ];exact hr.2⟩
         ·rw[if_neg hjq] at XK
          obtain⟨E',WX,hr'⟩:=h3 j e' XK;exact⟨E',by simp[Array.getElem?_modify,hjq,WX],hr'⟩)
        refine⟨.tuple #[V',goInt q],_,μ,?_,?_,f2,f3⟩
        ·simp only[Instr.mapEntry,Sem.run_bind,run_underlying hd,Result.andThen_ok,hg]
         rw[show(10000:Nat)=20+9980 from rfl,ZE];simp only[Result.andThen_ok,g1,Sem.run_bind];have hstay:(Instr.keyThatStays (((Do[q]?).map (·.key)).getD K) K).run P w=.ok K w:=by unfold Instr.keyThatStays;rw[hE];simp only[Option.map_some,Option.getD_some,hsb,if_true];rfl
         rw[hstay];simp only[Result.andThen_ok,f1,Sem.run_pure];rw[hE];simp only[Option.map_some,Option.getD_some,XQ.2.2 q E hE]
        ·simp only[List.length_set,aab]
         exact⟨[V',goInt q],rfl,bj.2 ⟨hv,bj.2 ⟨by simp[aab,goInt],by simp[aad]⟩⟩⟩
      ·cases h
     ·rename_i hf
      cases h;obtain⟨R,g1,g2⟩:=gG hT hki hk e2 e3 hf w;cases R with
      |some x=>exact g2.elim
      |none=>
       have hz:=wm μ mem.length j.zero;obtain⟨f1,f2,f3⟩:=Bf (P:=P) hH (Xt :=es++[(k,iL j.zero)]) (WJ :=Do.push { key:=K,val:=j.zero,born:=FS }) (WH :=FS+1) hb h1 XQ.1 ⟨by simp[XQ.2.1],fun j E' WX =>by
        rw[Array.getElem?_push] at WX;split at WX
        ·rename_i hj;cases WX;rw[hj];exact XQ.2.1
        ·exact XQ.2.2 j E' WX⟩ (by simp[h2]) (fun j' e' XK =>by
        by_cases hj' :j' <es.length
        ·rw[List.getElem?_append_left hj'] at XK
         obtain⟨E',WX,hr'⟩:=h3 j' e' XK;exact⟨E',by rw[Array.getElem?_push,if_neg (by omega)];exact WX,hr'⟩
        ·have YI:j' =es.length:=by have:=(List.getElem?_eq_some_iff.1 XK).1;simp at this;omega
         subst YI;simp at XK;subst XK;exact⟨{ key:=K,val:=j.zero,born:=FS },by rw[Array.getElem?_push,if_pos h2.symm],hk,hz⟩)
       refine⟨.tuple #[j.zero,goInt FS],_,μ,?_,?_,f2,f3⟩
       ·simp only[Instr.mapEntry,Sem.run_bind,run_underlying hd,Result.andThen_ok,hg]
        rw[show(10000:Nat)=20+9980 from rfl,ZE];simp only[Result.andThen_ok,g1,Sem.run_bind,dU hT hj,f1,Sem.run_pure]
       ·simp only[List.length_set,aab]
        exact⟨[j.zero,goInt FS],rfl,bj.2 ⟨hz,bj.2 ⟨by simp[aab,goInt,XQ.2.1,h2],by simp[aad]⟩⟩⟩
     ·cases h
    ·cases h
   ·cases h
  ·cases h
end
end Go.Eng
namespace Go.Eng
def aUn(op:UnOp) (x:AV):Option AV:=
 match op,x with
 |.not,.bool b=>some (.bool (!b))
 |.neg,.int k n=>some (.int k (k.wrap (0-n)))
 |_,_=>none
def aOp(T:TypeId→Option TyI) (env:Env) (mem:Mem) (op:Op):Option (AV×Mem):=
 match op with
 |.move x=>some (get env x,mem)
 |.assign x=>some (get env x,mem)
 |.pick c a b=>match get env c with
  |.bool t=>some (if t then get env a else get env b,mem)
  |_=>none
 |.alloc e=>kk T mem e
 |.box _ x=>Vk mem (get env x)
 |.build t ps=>match bO T t (ps.toList.map fun p=>(p.1,get env p.2)) with
  |some v=>some (v,mem)
  |none=>none
 |.buildSlice t n ps=>fH T mem t n (ps.toList.map fun p=>(p.1,get env p.2))
 |.load t a=>match PA T mem t (get env a) with
  |some v=>some (v,mem)
  |none=>none
 |.store t a x=>match ko T mem t (get env a) (get env x) with
  |some m=>some (.undef,m)
  |none=>none
 |.nilCheck x=>match get env x with
  |.ptr b o=>some (.ptr b o,mem)
  |.func f cs=>some (.func f cs,mem)
  |_=>none
 |.binOp op t x y _=>match VY T op t (qO x) (qO y) (get env x) (get env y) with
  |some v=>some (v,mem)
  |none=>none
 |.unOp op _ x=>match aUn op (get env x) with
  |some v=>some (v,mem)
  |none=>none
 |.convert s d x=>match zi T s d (get env x) with
  |some v=>some (v,mem)
  |none=>mW T mem s d (get env x)
 |.makeFunc (.func f) first capt=>if first.size=0 then some (.func f (Vl env capt),mem) else none
 |.makeSlice t l c=>jR T mem t (get env l) (get env c)
 |.slice t x lo hi none=>match ND T mem t (get env x) (lo.map (get env)) (hi.map (get env)) with
  |some v=>some (v,mem)
  |none=>match wB T mem t (get env x) (lo.map (get env)) (hi.map (get env)) with
   |some r=>some r
   |none=>match AK T t (get env x) (lo.map (get env)) (hi.map (get env)) none with
    |some v=>some (v,mem)
    |none=>none
 |.slice t x lo hi (some mx)=>match AK T t (get env x) (lo.map (get env)) (hi.map (get env)) (some (get env mx)) with
  |some v=>some (v,mem)
  |none=>none
 |.fieldAddr t x f=>match rL T t (get env x) f with
  |some v=>some (v,mem)
  |none=>none
 |.field t x f=>match lY T t (get env x) f with
  |some v=>some (v,mem)
  |none=>none
 |.indexAddr t x i=>match rN T t (get env x) (get env i) with
  |some v=>some (v,mem)
  |none=>none
 |.index t x i=>match NC T t (get env x) (get env i) with
  |some v=>some (v,mem)
  |none=>none
 |.makeMap _ none=>some (.map mem.length,mem++[.map []])
 |.lookup t m k ok=>match gO T mem t (get env m) (get env k) ok with
  |some v=>some (v,mem)
  |none=>none
 |.mapUpdate t m k x=>match dq T mem t (get env m) (get env k) (get env x) with
  |some m=>some (.undef,m)
  |none=>none
 |.mapEntry t m k=>qB T mem t (get env m) (get env k)
 |.entryStore _ m s x=>match km mem (get env m) (get env s) (get env x) with
  |some m=>some (.undef,m)
  |none=>none
 |.extract t i=>match get env t with
  |.tuple cs=>match cs[i]? with
   |some v=>some (v,mem)
   |none=>none
  |_=>none
 |.call { callee:=.builtin .len,args:=⟨[x]⟩,argTypes:=⟨[t]⟩ }=>match dY T t mem (get env x) with
  |some v=>some (v,mem)
  |none=>none
 |.call { callee:=.builtin .append,args:=⟨[s,x]⟩,argTypes:=⟨[t,t2]⟩ }=>if NU (T t2) then uX T mem t (get env s) (get env x) else
  match gq T mem t t2 (get env s) (get env x) with
  |some r=>some r
  |none=>rK T mem t t2 (get env s) (get env x)
 |.call { callee:=.builtin .cap,args:=⟨[x]⟩,argTypes:=⟨[t]⟩ }=>match VZ T t (get env x) with
  |some v=>some (v,mem)
  |none=>none
 |.call { callee:=.builtin .clear,args:=⟨[x]⟩,argTypes:=⟨[t]⟩ }=>match JU T mem t (get env x) with
  |some m=>some (.tuple [],m)
  |none=>none
 |.call { callee:=.builtin .unsafeSliceData,args:=⟨[x]⟩,argTypes:=_ }=>match rO mem (get env x) with
  |some v=>some (v,mem)
  |none=>none
 |.call { callee:=.builtin .unsafeString,args:=⟨[x,y]⟩,argTypes:=⟨[pt,_]⟩ }=>wC T mem pt (get env x) (get env y)
 |.call { callee:=.builtin .min,args:=⟨[x,y]⟩,argTypes:=_ }=>match get env x,get env y with
  |.int k a,.int k' b=>if k=k' then some (.int k (if b<a then b else a),mem) else none
  |.str a,.str b=>some (.str (if Op.bytesLess a b||a==b then a else b),mem)
  |_,_=>none
 |.call { callee:=.builtin .max,args:=⟨[x,y]⟩,argTypes:=_ }=>match get env x,get env y with
  |.int k a,.int k' b=>if k=k' then some (.int k (if a<b then b else a),mem) else none
  |.str a,.str b=>some (.str (if Op.bytesLess a b then b else a),mem)
  |_,_=>none
 |_=>none
end Go.Eng
