/- See K51. -/
import Derived.Test.YtffdedmakncfmaaGreatDoorK01
import Derived.Lib.UnsafeStr
import Derived.RangeFuncLeaves
import Derived.OrdersIn
import Derived.TacticsIn
import Derived.Lib.ItoaNum
import Derived.Lib.LaidTab
set_option linter.all false
namespace Go.Eng
section
variable {P:Program}{T:TypeId→Option TyI}{μ:Nat→Place}{mem:Mem}{base:Nat}{w:World}
def OpOk(P:Program) (x:Sem Value) (base:Nat) (μ:Nat→Place) (mem:Mem) (w:World) (v:AV) (mem' :Mem):Prop:=
 ∃V w' μ',x.run P w=.ok V w' ∧VRel μ' mem'.length v V∧HRel base μ' mem' w' ∧Step mem.length μ mem w μ' mem' w'
theorem OpOk.of_val{x:Sem Value}{v:AV}(hH:HRel base μ mem w) (h:Val P x w μ mem.length v):OpOk P x base μ mem w v mem:=by
 obtain⟨V,h1,h2⟩:=h
 exact⟨V,w,μ,h1,h2,hH,.refl (Nat.le_refl _)⟩
theorem pY(hH:HRel base μ mem w) (e:TypeId) (Cs:Array Value) (es:Nat) (hes:1000≤es→e+1=es / 1000) (cs:List AV)
  (h:∀(j:Nat) v,cs[j]? =some v→∃V,Cs[j]? =some V∧VRel μ mem.length v V):
  HRel base (upd μ mem.length ⟨w.heap.size,0,Cs.size,es%1000⟩) (mem++[.cells true es cs]) (w.alloc (.cells Cs e))∧
  Step mem.length μ mem w (upd μ mem.length ⟨w.heap.size,0,Cs.size,es%1000⟩) (mem++[.cells true es cs]) (w.alloc (.cells Cs e)):=by
 refine hH.push _ _ _ rfl ?_
 simp only[SRel]
 refine⟨Cs,e,(0,0),heap_alloc_new w _,⟨rfl,hes⟩,?_,fun j v hv=>?_,fun _=>by simp;exact hH.base_le⟩
 ·rcases Nat.eq_zero_or_pos cs.length with h0 | h0
  ·omega
  ·obtain⟨V,hV,_⟩:=h (cs.length-1) cs[cs.length-1] (by simp)
   have:=(Array.getElem?_eq_some_iff.1 hV).1
   omega
 ·obtain⟨V,hV,hr⟩:=h j v hv
  exact⟨V,by simpa using hV,hr.mono (Nat.le_succ _) fun b hb=>tL hb⟩
theorem ve{n:Nat}{cs vs:List AV}{cur Vs:List Value}{o:Nat}(hfit:o+vs.length≤cs.length)
  (h:∀(j:Nat) v,cs[j]? =some v→∃V,cur[j]? =some V∧VRel μ n v V) (hv:VRels μ n vs Vs):
  ∀(j:Nat) v,(cs.take o++vs++cs.drop (o+vs.length))[j]? =some v→∃V,(cur.take o++Vs++cur.drop (o+Vs.length))[j]? =some V∧VRel μ n v V:=by
 have hl:=hv.length
 have hle:cs.length≤cur.length:=by
  rcases Nat.eq_zero_or_pos cs.length with h0 | h0
  ·omega
  ·obtain⟨V,hV,_⟩:=h (cs.length-1) cs[cs.length-1] (by simp)
   have:=(List.getElem?_eq_some_iff.1 hV).1
   omega
 have e1:(cs.take o).length=o:=by simp;omega
 have e2:(cur.take o).length=o:=by simp;omega
 intro j v hj
 rw[List.append_assoc] at hj ⊢
 by_cases h1:j<o
 ·rw[List.getElem?_append_left (by omega),List.getElem?_take_of_lt h1] at hj
  rw[List.getElem?_append_left (by omega),List.getElem?_take_of_lt h1]
  exact h j v hj
 ·rw[List.getElem?_append_right (by omega),e1] at hj
  rw[List.getElem?_append_right (by omega),e2]
  by_cases h2:j-o<vs.length
  ·rw[List.getElem?_append_left h2] at hj
   rw[List.getElem?_append_left (by omega)]
   exact hv.get _ v hj
  ·rw[List.getElem?_append_right (by omega),List.getElem?_drop] at hj
   rw[List.getElem?_append_right (by omega),List.getElem?_drop]
   rw[show o+Vs.length+(j-o-Vs.length)=o+vs.length+(j-o-vs.length) by omega]
   exact h _ v hj
def C8(T:TypeId→Option TyI) (e:TypeId) (i:TyI):Bool:=match i.desc with
 |.struct fs=>match fs[0]? with
  |some f=>match T f.type with
   |some k=>match k.desc with
    |.pointer e' =>e' ==e
    |_=>false
   |none=>false
  |none=>false
 |_=>false
def qo(T:TypeId→Option TyI) (mem:Mem) (e:TypeId):Option (AV×Mem):=
 match T e with
 |some i=>some (.ptr mem.length 0,mem++[.cells true (if C8 T e i then 1000*(e+1) else 0) (gw i.zero).cells])
 |none=>none
theorem vO(hH:HRel base μ mem w) (e:TypeId) (es:Nat) (hes:1000≤es→e+1=es / 1000) {cs:List AV}{V:Value}(h:VRels μ mem.length cs V.cells.toList):
  OpOk P (do pure (.pointer (some (←newVar e V)))) base μ mem w (.ptr mem.length 0) (mem++[.cells true es cs]):=by
 obtain⟨h1,h2⟩:=pY hH e V.cells es hes cs (fun j v hv=>by
  obtain⟨U,hU,hr⟩:=h.get j v hv
  exact⟨U,by simpa using hU,hr⟩)
 refine⟨.pointer (some ⟨w.heap.size,0,none⟩),_,_,?_,?_,h1,h2⟩
 ·simp only[newVar,newRow,Sem.run_bind,run_newObj,Result.andThen_ok,Sem.run_pure]
  rfl
 ·simp[VRel,dr]
theorem Gk(hT:cf P T) (hH:HRel base μ mem w) {e:TypeId}{v:AV}{mem' :Mem}(h:qo T mem e=some (v,mem')):
  OpOk P (Instr.alloc e true (.tuple #[])) base μ mem w v mem' :=by
 unfold qo at h
 split at h
 ·rename_i i hi
  cases h
  have:=vO (P:=P) hH e (if C8 T e i then 1000*(e+1) else 0) (by cases C8 T e i with | false=>simp | true=>simp only[if_true];intro _;rw[Nat.mul_div_cancel_left _ (by omega)]) (V:=i.zero) (gS μ mem.length i.zero)
  obtain⟨V,w',μ',h1,h2⟩:=this
  refine⟨V,w',μ',?_,h2⟩
  simp only[Instr.alloc,Sem.run_bind,dv hT hi,Result.andThen_ok]
  exact h1
 ·cases h
def Rs(mem:Mem) (x:AV):Option (AV×Mem):=if x.known then some (.ptr mem.length 0,mem++[.cells true 0 x.cells]) else none
theorem LC(hH:HRel base μ mem w) {e:TypeId}{x v:AV}{mem' :Mem}{X:Value}(hx:VRel μ mem.length x X) (h:Rs mem x=some (v,mem')):
  OpOk P (Instr.box e X) base μ mem w v mem' :=by
 unfold Rs at h
 split at h
 ·rename_i hk
  cases h
  exact vO (P:=P) hH e 0 (by omega) (hx.cells hk)
 ·cases h
theorem Gv(hT:cf P T) (hH:HRel base μ mem w) {t:TypeId}{x v:AV}{mem' :Mem}{X V:Value}(hx:VRel μ mem.length x X) (hv:VRel μ mem.length v V)
  (h:qp T mem t x v=some mem'):∃w',(Instr.storeAt t X V).run P w=.ok () w' ∧HRel base μ mem' w' ∧Step mem.length μ mem w μ mem' w' :=by
 unfold qp at h
 split at h
 ·rename_i i b o ht
  split at h
  ·rename_i es cs hb
   split at h
   ·rename_i hc
    cases h
    simp only[Bool.and_eq_true,decide_eq_true_eq,List.all_eq_true] at hc
    obtain⟨⟨⟨hk,hsz⟩,hfit⟩,hok⟩:=hc
    obtain⟨hbn,rfl⟩:=hx.ptr
    have hs:=hH.slot b _ hb
    simp only[SRel] at hs
    obtain⟨cur,el,fr,g1,g2,g3,g4,g5⟩:=hs
    obtain⟨g6,g7,g8,g9⟩:=g5 trivial
    subst g7
    have hVc:=hv.cells hk
    have hVl:V.cells.size=i.size:=by rw[←Array.length_toList,hVc.length,hsz]
    have h1:∀u∈V.cells.toList,u.oneCell' =true:=by
     intro u hu
     obtain⟨j,hj⟩:=List.getElem?_of_mem hu
     have hj' :j<v.cells.length:=by rw[←hVc.length];exact(List.getElem?_eq_some_iff.1 hj).1
     obtain⟨U,hU,hr⟩:=hVc.get j v.cells[j] (by simp[hj'])
     rw[hj] at hU;cases hU
     exact hr.oneCell (hok _ (by simp))
    have hst:=run_storeCells_at (P:=P) (μ b).blk o el V.cells.toList 0 cur w g1 (by rw[hVc.length,hsz];omega) h1
    refine⟨w.setRow (μ b).blk (cur.toList.take (o+0)++V.cells.toList++cur.toList.drop (o+0+V.cells.toList.length)).toArray,?_,hH.write hb (gT hb) (fun _=>⟨_,List.getElem?_set_self (List.getElem?_eq_some_iff.1 hb).1,rfl⟩) rfl rfl rfl rfl (by simp[World.setRow]) (fun k hk=>setRow_other w _ k _ hk) ?_⟩
    ·simp only[Instr.storeAt,Instr.sureAddr,Sem.run_bind,Sem.run_pure,Result.andThen_ok,storeVar,bX hT ht,hVl,ne_eq,not_true_eq_false,if_false,g6,Nat.zero_add]
     exact hst
    ·simp only[SRel]
     refine⟨_,el,(0,0),setRow_heap w (μ b).blk cur _ el (0,0) g1,g2,?_,fun j u hu=>?_,fun _=>⟨g6,rfl,?_,g9⟩⟩
     ·simp only[List.length_append,List.length_take,List.length_drop,hsz];omega
     ·rw[g6] at g4
      have:=ve (cs:=cs) (vs:=v.cells) (Vs:=V.cells.toList) (o:=o) (cur:=cur.toList) (by rw[hsz];exact hfit) (fun j v hv=>by simpa using g4 j v hv) hVc j u (by rw[hsz];exact hu)
      obtain⟨U,hU,hr⟩:=this
      refine⟨U,?_,hr⟩
      rw[g6]
      simpa using hU
     ·simp only[List.size_toArray,List.length_append,List.length_take,List.length_drop,Array.length_toList,hVl];omega
   ·cases h
  ·cases h
 ·cases h
end
end Go.Eng
namespace Go.Eng
section
variable {P:Program}{T:TypeId→Option TyI}{μ:Nat→Place}{mem:Mem}{base:Nat}{w:World}
def eH(z:List AV):Nat→List AV
 |0=>[]
 |k+1=>z++eH z k
theorem fy(z:List AV):∀k,(eH z k).length=k*z.length
 |0=>by simp[eH]
 |k+1=>by simp[eH,fy z k,Nat.add_mul,Nat.add_comm]
theorem qd{n:Nat}{z:List AV}{Z:Array Value}(hz:VRels μ n z Z.toList):∀(k:Nat) (j:Nat) v,(eH z k)[j]? =some v→
  ∃V,Z[j%Z.size]! =V∧VRel μ n v V∧j<k*Z.size
 |0,j,v,h=>by simp[eH] at h
 |k+1,j,v,h=>by
  have hl:Z.size=z.length:=by rw[←Array.length_toList,hz.length]
  rw[eH] at h
  by_cases hj:j<z.length
  ·rw[List.getElem?_append_left hj] at h
   obtain⟨V,hV,hr⟩:=hz.get j v h
   refine⟨V,?_,hr,by rw[hl,Nat.add_mul];omega⟩
   rw[Nat.mod_eq_of_lt (by omega)]
   have:Z[j]? =some V:=by simpa using hV
   simp[getElem!_def,this]
  ·rw[List.getElem?_append_right (by omega)] at h
   obtain⟨V,hV,hr,hb⟩:=qd hz k (j-z.length) v h
   refine⟨V,?_,hr,by rw[hl] at hb ⊢;rw[Nat.add_mul];omega⟩
   rw[←hV,hl]
   congr 1
   rw[Nat.mod_eq_sub_mod (by omega)]
theorem BB{Z:Array Value}{m j:Nat}(h:j<m):((Array.range m).map (fun i=>Z[i%Z.size]!))[j]? =some (Z[j%Z.size]!):=by
 simp[h]
def ej(T:TypeId→Option TyI) (mem:Mem) (t:TypeId) (len:Nat) (parts:List (Nat×AV)):Option (AV×Mem):=
 match T t with
 |none=>none
 |some i=>
  match i.desc with
  |.slice e=>
   match T e with
   |none=>none
   |some j=>
    if len*j.size≤16777216∧0<j.size∧j.size<1000 then
     match mQ (fun k=>some (k*j.size,j.size)) (eH (gw j.zero).cells len) parts with
     |some cs=>some (.slice mem.length 0 len none,mem++[.cells true j.size cs])
     |none=>none
    else none
  |_=>none
theorem uy(hT:cf P T) (hH:HRel base μ mem w) {t:TypeId}{len:Nat}{parts:List (Nat×AV)}{Parts:List (Nat×Value)}{v:AV}{mem' :Mem}
  (hp:Parts.map (·.1)=parts.map (·.1)) (hv:VRels μ mem.length (parts.map (·.2)) (Parts.map (·.2))) (h:ej T mem t len parts=some (v,mem')):
  OpOk P (Instr.buildSlice t len ⟨Parts⟩) base μ mem w v mem' :=by
 unfold ej at h
 cases ht:T t with
 |none=>rw[ht] at h;cases h
 |some i=>
  rw[ht] at h
  simp only at h
  have hd:=(hT t i ht).desc
  split at h
  ·rename_i e hdesc
   rw[hdesc] at hd
   split at h
   ·cases h
   ·rename_i j hj
    split at h
    ·rename_i hc
     split at h
     ·rename_i cs hf
      cases h
      have hz:=gS μ mem.length j.zero
      have hzs:=(hT e j hj).zsize
      have hzl:(gw j.zero).cells.length=j.size:=by rw[←hz.length,Array.length_toList,hzs]
      have hrow:VRels μ mem.length (eH (gw j.zero).cells len) ((Array.range (len*j.size)).map (fun i=>j.zero.cells[i%j.zero.cells.size]!)).toList:=by
       refine VRels.of_get (by simp[fy,hzl]) fun q u hu=>?_
       obtain⟨V,h1,h2,h3⟩:=qd hz len q u hu
       refine⟨V,?_,h2⟩
       have:=BB (Z:=j.zero.cells) (m:=len*j.size) (j:=q) (by rw[hzs] at h3;exact h3)
       rw[h1] at this
       rw[Array.getElem?_toList]
       exact this
      obtain⟨Cs,hF,hCs⟩:=pM hf hrow hp hv
      obtain⟨h1,h2⟩:=pY hH e ⟨Cs⟩ j.size (by omega) cs (fun q u hu=>by
       obtain⟨U,hU,hr⟩:=hCs.get q u hu
       exact⟨U,by simpa using hU,hr⟩)
      have hlen:Cs.length=len*j.size:=by
       rw[hCs.length]
       have:∀{pl:Nat→Option (Nat×Nat)}{ps:List (Nat×AV)}{a b:List AV},mQ pl a ps=some b→b.length=a.length:=by
        intro pl ps
        induction ps with
        |nil=>intro a b hh;simp only[mQ,Option.some.injEq] at hh;rw[hh]
        |cons p ps ih=>
         obtain⟨pi,pv⟩:=p
         intro a b hh
         rw[mQ] at hh
         cases hpl:pl pi with
         |none=>rw[hpl] at hh;cases hh
         |some os=>
          obtain⟨off,size⟩:=os
          rw[hpl] at hh
          simp only at hh
          split at hh
          ·rename_i hcc
           simp only[Bool.and_eq_true,decide_eq_true_eq] at hcc
           rw[ih hh]
           simp only[List.length_append,List.length_take,List.length_drop]
           omega
          ·cases hh
       rw[this hf,fy,hzl]
      refine⟨.slice (some ⟨w.heap.size,0,none⟩) len len,_,_,?_,?_,h1,h2⟩
      ·simp only[Instr.buildSlice,Sem.run_bind,run_underlying hd,Result.andThen_ok,bX hT hj]
       rw[if_neg (by omega)]
       have hF' :=hF
       rw[show(⟨((Array.range (len*j.size)).map (fun i=>j.zero.cells[i%j.zero.cells.size]!)).toList⟩:Array Value)=(Array.range (len*j.size)).map (fun i=>j.zero.cells[i%j.zero.cells.size]!) from rfl] at hF'
       by_cases h0:len*j.size=0
       ·rw[if_pos h0]
        rw[h0] at hF' ⊢
        simp only[Sem.run_bind,Sem.run_pure,Result.andThen_ok,Array.range_zero',Array.map_empty] at hF' ⊢
        rw[hF']
        simp only[newRow,Sem.run_bind,run_newObj,Result.andThen_ok,Sem.run_pure]
        rfl
       ·rw[if_neg h0]
        simp only[Sem.run_bind,Sem.run_pure,Result.andThen_ok,dv hT hj]
        rw[hF']
        simp only[newRow,Sem.run_bind,run_newObj,Result.andThen_ok,Sem.run_pure]
        rfl
      ·simp only[VRel,dr,iz,List.length_append,List.length_singleton]
       refine⟨by omega,?_⟩
       simp only[Nat.sub_zero,hlen,List.size_toArray,Nat.mod_eq_of_lt hc.2.2,Nat.mul_div_cancel _ hc.2.1]
     ·cases h
    ·cases h
  ·cases h
end
end Go.Eng
namespace Go.Eng
theorem ag{n:Int}(h0: -9223372036854775808≤n) (h1:n≤9223372036854775807):IntKind.i64.wrap n=n:=by
 simp only[IntKind.wrap,IntKind.bits,IntKind.signed,Bool.true_and,ge_iff_le,decide_eq_true_eq,Nat.reduceSub]
 split<;>omega
theorem bR{n:Int}(h0:0≤n) (h1:n≤18446744073709551615):IntKind.u64.wrap n=n:=by
 simp only[IntKind.wrap,IntKind.bits,IntKind.signed,Bool.false_and,Bool.false_eq_true,if_false]
 omega
section
variable {P:Program}{T:TypeId→Option TyI}{μ:Nat→Place}{mem:Mem}{base:Nat}{w:World}
def iW(T:TypeId→Option TyI) (mem:Mem) (t:TypeId) (l c:AV):Option (AV×Mem):=
 match T t with
 |none=>none
 |some i=>
  match i.desc,l,c with
  |.slice e,.int _ l,.int _ c=>
   match T e with
   |none=>none
   |some j=>
    if 0≤l∧l≤c∧(j.bytes:Int)*c≤281474976710656∧c≤281474976710656∧0<j.size∧j.size<1000 then
     some (.slice mem.length 0 l.toNat none,mem++[.cells true j.size (eH (gw j.zero).cells l.toNat)])
    else none
  |_,_,_=>none
theorem w9(hT:cf P T) (hH:HRel base μ mem w) {t:TypeId}{l c v:AV}{L C:Value}{mem' :Mem}
  (hl:VRel μ mem.length l L) (hc:VRel μ mem.length c C) (h:iW T mem t l c=some (v,mem')):
  OpOk P (Instr.makeSlice t L C) base μ mem w v mem' :=by
 unfold iW at h
 cases ht:T t with
 |none=>rw[ht] at h;cases h
 |some i=>
  rw[ht] at h
  simp only at h
  have hd:=(hT t i ht).desc
  split at h
  ·rename_i e k1 l k2 c hdesc
   rw[hdesc] at hd
   split at h
   ·cases h
   ·rename_i j hj
    split at h
    ·rename_i hcd
     obtain⟨g1,g2,g3,g4,g5,g6⟩:=hcd
     cases h
     rw[hl.int,hc.int]
     have hz:=gS μ mem.length j.zero
     have hzs:=(hT e j hj).zsize
     have hzl:(gw j.zero).cells.length=j.size:=by rw[←hz.length,Array.length_toList,hzs]
     obtain⟨f,hf,hfs,hfb,hfz⟩:=vV hT hj w
     have w1:IntKind.i64.wrap l=l:=ag (by omega) (by omega)
     have w2:IntKind.i64.wrap c=c:=ag (by omega) (by omega)
     obtain⟨h1,h2⟩:=pY hH e ((Array.range (c.toNat*j.size)).map (fun i=>j.zero.cells[i%j.zero.cells.size]!)) j.size (by omega) (eH (gw j.zero).cells l.toNat) (fun q u hu=>by
      obtain⟨V,e1,e2,e3⟩:=qd hz _ q u hu
      refine⟨V,?_,e2⟩
      rw[hzs] at e3
      have hle:l.toNat*j.size≤c.toNat*j.size:=Nat.mul_le_mul_right _ (by omega)
      have:=BB (Z:=j.zero.cells) (m:=c.toNat*j.size) (j:=q) (by omega)
      rw[e1] at this
      exact this)
     refine⟨.slice (some ⟨w.heap.size,0,none⟩) l.toNat c.toNat,_,_,?_,?_,h1,h2⟩
     ·have hb:¬(281474976710656<(f.bytes:Int)*c):=by rw[hfb];omega
      have hb2:¬((f.bytes:Int)*c>2 ^ 48):=by rw[hfb];omega
      have hc0:¬c<0:=by omega
      have hl0:¬l<0:=by omega
      have hlc:¬l>c:=by omega
      simp only[Instr.makeSlice,Sem.run_bind,run_underlying hd,asInt,asIntOf,Sem.run_pure,Result.andThen_ok,hf,w1,w2]
      have hcond:((decide (c<0)||decide ((f.bytes:Int)*c>2 ^ 48))||decide (l<0)||decide (l>c))=false:=by
       simp[hc0,hl0,hlc,hb]
      simp only[hcond,Bool.false_eq_true,if_false]
      have hask:∀n,(askRoom n).run P w=.ok () w:=by intro n;unfold askRoom;split<;>simp[mark,Sem.run]
      simp only[Sem.run_bind,hask,Result.andThen_ok,bX hT hj]
      by_cases h0:c.toNat*j.size=0
      ·rw[if_pos h0]
       rw[h0]
       simp only[Sem.run_bind,Sem.run_pure,Result.andThen_ok,Array.range_zero',Array.map_empty,newRow,run_newObj]
       rfl
      ·rw[if_neg h0]
       simp only[Sem.run_bind,Sem.run_pure,Result.andThen_ok,dv hT hj,newRow,run_newObj]
       rfl
     ·simp only[VRel,dr,iz,List.length_append,List.length_singleton]
      refine⟨by omega,?_⟩
      simp only[Nat.sub_zero,Array.size_map,Array.size_range,Nat.mod_eq_of_lt g6,Nat.mul_div_cancel _ g5]
    ·cases h
  ·cases h
def kf(T:TypeId→Option TyI) (mem:Mem) (size:Nat) (t2:TypeId):AV→Option (Nat×List AV)
 |.nilslice=>some (0,[])
 |.slice b o m _=>match mem[b]? with
  |some (.cells _ _ cs)=>if o+m*size≤cs.length then some (m,(cs.drop o).take (m*size)) else none
  |_=>if m=0 then some (0,[]) else none
 |.str s=>match T t2 with
  |some i=>match i.desc with
   |.string=>if size=1 then some (s.length,s.map fun c=>.int .u8 c.toNat) else none
   |_=>none
  |none=>none
 |_=>none
def xn(i:TyI):Bool:=match i.desc with
 |.slice _=>true
 |.string=>true
 |_=>false
def uZ(j:TyI) (e:TypeId):Nat:=match j.desc with
 |.int .u8=>j.size+1000*(e+1)
 |_=>j.size
def mh(T:TypeId→Option TyI) (mem:Mem) (t t2:TypeId) (s x:AV):Option (AV×Mem):=
 match T t with
 |none=>none
 |some i=>
  match i.desc with
  |.slice e=>
   match T e,T t2 with
   |some j,some i2=>
    if j.size=0∨1000≤j.size∨xn i2=false then none else
    match kf T mem j.size t2 x with
    |none=>none
    |some (m,news)=>
     if news.all AV.cellOk=true then
      match s with
      |.nilslice=>
       if m=0 then some (.nilslice,mem)
       else if m*j.bytes≤140737488355328∧m≤140737488355328 then some (.slice mem.length 0 m none,mem++[.cells true (uZ j e) news])
       else none
      |.slice b 0 n none=>
       match mem[b]? with
       |some (.cells true es cs)=>
        if (es=j.size∨es=uZ j e)∧n*j.size≤cs.length∧(n+m)*j.bytes≤140737488355328∧n+m≤140737488355328 then
         some (.slice mem.length 0 (n+m) none,mem.set b .absent++[.cells true es (cs.take (n*j.size)++news)])
        else none
       |_=>none
      |_=>none
     else none
   |_,_=>none
  |_=>none
theorem qu(hH:HRel base μ mem w) {size:Nat}{t2:TypeId}{x:AV}{X:Value}{m:Nat}{news:List AV}
  (hx:VRel μ mem.length x X) (h:kf T mem size t2 x=some (m,news)):
  ∃Ns,VRels μ mem.length news Ns∧news.length=m*size∧(Builtin.lenOf X).run P w=.ok m w∧
   ∀w',(∀a,w'.cell? a=w.cell? a)→(Builtin.firstCells size m X).run P w' =.ok ⟨Ns⟩ w' :=by
 unfold kf at h
 split at h
 ·cases h
  simp only[VRel] at hx;subst hx
  exact⟨[],by simp[VRels],by simp,by simp[Builtin.lenOf],fun w' _=>by simp[Builtin.firstCells]⟩
 ·rename_i b o k c
  split at h
  ·rename_i own es cs hb
   split at h
   ·rename_i hle
    cases h
    obtain⟨hbn,rfl⟩:=hx.slice
    obtain⟨Vs,h1,h2,h3⟩:=hH.cells hb hle
    refine⟨Vs,h1,by simp;omega,by simp[Builtin.lenOf],fun w' hw=>?_⟩
    exact run_firstCells_some w' size m _ _ _ Vs h2 (fun j v hv=>by rw[hw];exact h3 j v hv)
   ·cases h
  ·split at h
   ·rename_i h0
    cases h
    subst h0
    obtain⟨hbn,rfl⟩:=hx.slice
    refine⟨[],by simp[VRels],by simp,by simp[Builtin.lenOf],fun w' hw=>?_⟩
    exact run_firstCells_some w' size 0 _ _ _ [] (by simp) (fun j v hv=>by simp at hv)
   ·cases h
 ·rename_i s
  split at h
  ·split at h
   ·split at h
    ·rename_i hsz
     cases h
     subst hsz
     rw[hx.str]
     refine⟨s.map fun c=>.int .u8 c.toNat,?_,by simp,by simp[Builtin.lenOf,pr],fun w' _=>?_⟩
     ·refine VRels.of_get (by simp) fun i v hv=>?_
      simp only[List.getElem?_map,Option.map_eq_some_iff] at hv ⊢
      obtain⟨c,hc,rfl⟩:=hv
      exact⟨_,⟨c,hc,rfl⟩,by simp[VRel]⟩
     ·simp only[Builtin.firstCells,Sem.run_pure,Result.ok.injEq,and_true]
      have:(ByteArray.mk s.toArray).extract 0 s.length=⟨s.toArray⟩:=by
       apply ByteArray.ext;apply Array.ext';simp[List.extract]
      rw[this]
      simp
    ·cases h
   ·cases h
  ·cases h
 ·cases h
end
end Go.Eng
namespace Go.Eng
section
variable {P:Program}{T:TypeId→Option TyI}{μ:Nat→Place}{mem:Mem}{base:Nat}{w:World}
theorem rC(hT:cf P T) {t t2 ty e:TypeId}{j:TyI}(hd:P.underlying t=some (.slice e)) (hj:T e=some j)
  (ht2:(∃e2,P.underlying t2=some (.slice e2))∨P.underlying t2=some .string) (bs:Option Addr) (n c m:Nat) (X:Value) (w:World)
  (hl:(Builtin.lenOf X).run P w=.ok m w) (hfit:n+m≤c):
  (Builtin.append_ #[t,t2] ty #[.slice bs n c,X]).run P w=
   ((Builtin.firstCells j.size m X).run P w).andThen fun new w' =>match bs with
    |some a=>((storeCells (a.add (n*j.size)) new.toList).run P w').andThen fun _ w'' =>.ok (.slice bs (n+m) c) w''
    |none=>.ok (.slice bs (n+m) c) w' :=by
 rcases ht2 with⟨e2,hd2⟩ | hd2<;>
  simp[Builtin.append_,run_underlying hd,run_underlying hd2,bX hT hj,hl,hfit]<;>cases bs<;>simp
theorem yM(hT:cf P T) {t t2 ty e:TypeId}{j:TyI}(hd:P.underlying t=some (.slice e)) (hj:T e=some j)
  (ht2:(∃e2,P.underlying t2=some (.slice e2))∨P.underlying t2=some .string) (bs:Option Addr) (n c m:Nat) (X:Value) (w:World) (Os Ns:List Value)
  (hl:(Builtin.lenOf X).run P w=.ok m w) (hfit:c<n+m) (hb:(n+m)*j.bytes≤140737488355328) (hm:n+m≤140737488355328)
  (hO:(Builtin.firstCells j.size n (.slice bs n c)).run P w.drew=.ok ⟨Os⟩ w.drew)
  (hN:(Builtin.firstCells j.size m X).run P w.drew=.ok ⟨Ns⟩ w.drew):
  ∃nc,n+m≤nc∧(Builtin.append_ #[t,t2] ty #[.slice bs n c,X]).run P w=
   .ok (.slice (some ⟨w.heap.size,0,none⟩) (n+m) nc) (w.drew.alloc (.cells (⟨Os⟩++(⟨Ns⟩++Builtin.zeroCells j.zero.cells (nc-(n+m)))) e)):=by
 obtain⟨f,hf,hfs,hfb,hfz⟩:=(hT e j hj).info
 have hnf:¬(n+m≤c):=by omega
 have h63:¬(9223372036854775807<((n:Int)+(m:Int))):=by omega
 have h48:¬(281474976710656<Builtin.nextslicecap (n+m) c*f.bytes):=by
  have:=growslice_fits hfit (bytes:=f.bytes) (by rw[hfb];exact hb)
  omega
 have hask:∀n w,(askRoom n).run P w=.ok () w:=by intro n w;unfold askRoom;split<;>simp[mark,Sem.run]
 refine⟨grownCap w (n+m) c e,grownCap_ge w (n+m) c e,?_⟩
 rcases ht2 with⟨e2,hd2⟩ | hd2<;>
  simp[Builtin.append_,run_underlying hd,run_underlying hd2,sizeOf,typeInfo,zeroValue,hf,hfs,hfz,hl,hnf,h63,h48,Question.forced,hO,hN,newRow,grownCap,hask]
theorem HRel.drop{b:Nat}{s:Slot}(hH:HRel base μ mem w) (hb:mem[b]? =some s):HRel base μ (mem.set b .absent) w:=by
 have hlt:b<mem.length:=(List.getElem?_eq_some_iff.1 hb).1
 have own:∀x,dn (mem.set b .absent) x→dn mem x∧x≠b:=by
  intro x hx
  by_cases hxb:x=b
  ·subst hxb
   obtain⟨s0,hc,ho⟩:=hx
   rw[List.getElem?_set_self hlt] at hc;cases hc;cases ho
  ·obtain⟨s0,hc,ho⟩:=hx
   rw[List.getElem?_set_ne (Ne.symm hxb)] at hc;exact⟨⟨s0,hc,ho⟩,hxb⟩
 refine⟨hH.base_le,fun x t ht=>?_,fun x x' t hx hx' hne hxx=>?_⟩
 ·rw[List.length_set]
  by_cases hxb:x=b
  ·subst hxb;rw[List.getElem?_set_self hlt] at ht;cases ht;trivial
  ·rw[List.getElem?_set_ne (Ne.symm hxb)] at ht;exact hH.slot x t ht
 ·by_cases hxb:x' =b
  ·subst hxb;rw[List.getElem?_set_self hlt] at hx';cases hx';exact absurd rfl hne
  ·rw[List.getElem?_set_ne (Ne.symm hxb)] at hx'
   exact hH.sep x x' t (own x hx).1 hx' hne hxx
theorem Step.drop{m0:Nat}{b:Nat}{μ:Nat→Place}{mem:Mem}{w:World}(h:m0≤mem.length):Step m0 μ mem w μ (mem.set b .absent) w:=by
 refine⟨by simpa using h,fun _ _=>rfl,rfl,rfl,rfl,Nat.le_refl _,fun _ _ _=>rfl,fun x hx _=>⟨x,?_,rfl⟩,Nat.le_refl _⟩
 by_cases hxb:x=b
 ·subst hxb
  by_cases hlt:x<mem.length
  ·obtain⟨s0,hc,ho⟩:=hx
   rw[List.getElem?_set_self hlt] at hc;cases hc;cases ho
  ·obtain⟨s0,hc,ho⟩:=hx
   have:=(List.getElem?_eq_some_iff.1 hc).1;simp at this;omega
 ·obtain⟨s0,hc,ho⟩:=hx
  rw[List.getElem?_set_ne (Ne.symm hxb)] at hc;exact⟨s0,hc,ho⟩
theorem HRel.rename{b es:Nat}{cs cs' :List AV}{w' :World}(hH:HRel base μ mem w) (hb:mem[b]? =some (.cells true es cs))
  (hdr:w'.drawn=w.drawn) (hos:w'.os=w.os) (htape:w'.tape=w.tape) (hout:w'.output=w.output) (hsz:w'.heap.size=w.heap.size)
  (hoth:∀k,k≠(μ b).blk→w'.heap[k]? =w.heap[k]?) (hs:SRel μ mem.length base w' (μ b) (.cells true es cs')):
  HRel base (upd μ mem.length (μ b)) (mem.set b .absent++[.cells true es cs']) w' ∧
  Step mem.length μ mem w (upd μ mem.length (μ b)) (mem.set b .absent++[.cells true es cs']) w' :=by
 have hlt:b<mem.length:=(List.getElem?_eq_some_iff.1 hb).1
 have hown:dn mem b:=gT hb
 have hw:=hH.write (s' :=.cells true es cs') hb hown (fun _=>⟨_,List.getElem?_set_self hlt,rfl⟩) hdr hos htape hout hsz hoth hs
 have hμ:∀x,x<mem.length→upd μ mem.length (μ b) x=μ x:=fun x hx=>tL hx
 have hlen:(mem.set b .absent).length=mem.length:=by simp
 have own:∀x,dn (mem.set b .absent++[.cells true es cs']) x→(x<mem.length∧x≠b∧dn mem x)∨x=mem.length:=by
  intro x hx
  by_cases hxl:x<mem.length
  ·refine .inl ⟨hxl,?_⟩
   have hx' :dn (mem.set b .absent) x:=by
    obtain⟨s0,hc,ho⟩:=hx
    rw[List.getElem?_append_left (by omega)] at hc;exact⟨s0,hc,ho⟩
   by_cases hxb:x=b
   ·subst hxb
    obtain⟨s0,hc,ho⟩:=hx'
    rw[List.getElem?_set_self hlt] at hc;cases hc;cases ho
   ·refine⟨hxb,?_⟩
    obtain⟨s0,hc,ho⟩:=hx'
    rw[List.getElem?_set_ne (Ne.symm hxb)] at hc;exact⟨s0,hc,ho⟩
  ·refine .inr ?_
   obtain⟨s0,hc,ho⟩:=hx
   have:=(List.getElem?_eq_some_iff.1 hc).1;simp at this;omega
 constructor
 ·refine⟨hw.1.base_le,fun x t ht=>?_,fun x x' t hx hx' hne hxx=>?_⟩
  ·rw[List.length_append,List.length_singleton,hlen]
   by_cases hxl:x<mem.length
   ·rw[List.getElem?_append_left (by omega)] at ht
    rw[hμ x hxl]
    by_cases hxb:x=b
    ·subst hxb;rw[List.getElem?_set_self hlt] at ht;cases ht;trivial
    ·rw[List.getElem?_set_ne (Ne.symm hxb)] at ht
     have:=hw.1.slot x t (by rw[List.getElem?_set_ne (Ne.symm hxb)];exact ht)
     rw[List.length_set] at this
     exact this.mono (Nat.le_succ _) hμ fun _=>rfl
   ·have hxe:x=mem.length:=by have:=(List.getElem?_eq_some_iff.1 ht).1;simp at this;omega
    subst hxe
    rw[List.getElem?_append_right (by omega),hlen] at ht
    simp at ht;subst ht
    rw[dr]
    exact hs.mono (Nat.le_succ _) hμ fun _=>rfl
  ·have pres:∀y s,(mem.set b .absent++[.cells true es cs'])[y]? =some s→s≠ .absent→(y<mem.length∧y≠b∧mem[y]? =some s)∨y=mem.length:=by
    intro y s hy hns
    by_cases hyl:y<mem.length
    ·rw[List.getElem?_append_left (by omega)] at hy
     by_cases hyb:y=b
     ·subst hyb;rw[List.getElem?_set_self hlt] at hy;cases hy;exact absurd rfl hns
     ·rw[List.getElem?_set_ne (Ne.symm hyb)] at hy;exact .inl ⟨hyl,hyb,hy⟩
    ·exact .inr (by have:=(List.getElem?_eq_some_iff.1 hy).1;simp at this;omega)
   rcases own x hx with⟨a1,a2,a3⟩ | rfl<;>rcases pres x' t hx' hne with⟨b1,b2,b3⟩ | rfl
   ·rw[hμ x a1,hμ x' b1];exact hH.sep x x' t a3 b3 hne hxx
   ·rw[hμ x a1,dr];exact hH.sep x b _ a3 hb (by simp) a2
   ·rw[hμ x' b1,dr];exact hH.sep b x' t hown b3 hne (Ne.symm b2)
   ·exact absurd rfl hxx
 ·refine⟨by simp,hμ,hos,htape,hout,by omega,fun k hk hf=>hoth k fun he=>hf b hown he.symm,fun x hx hlt' =>?_,Nat.le_of_eq hdr.symm⟩
  rcases own x hx with⟨a1,_,a3⟩ | rfl
  ·exact⟨x,a3,by rw[hμ x a1]⟩
  ·exact⟨b,hown,by rw[dr]⟩
end
end Go.Eng
namespace Go.Eng
section
variable {P:Program}{T:TypeId→Option TyI}{μ:Nat→Place}{mem:Mem}{base:Nat}{w:World}
theorem HRel.drew(h:HRel base μ mem w):HRel base μ mem w.drew:=h.sameHeap rfl
theorem VRels.all_oneCell{n:Nat}{vs:List AV}{Vs:List Value}(h:VRels μ n vs Vs) (ha:vs.all AV.cellOk=true):∀u∈Vs,u.oneCell' =true:=by
 intro u hu
 obtain⟨j,hj⟩:=List.getElem?_of_mem hu
 have hlt:j<vs.length:=by rw[←h.length];exact(List.getElem?_eq_some_iff.1 hj).1
 obtain⟨U,hU,hr⟩:=h.get j vs[j] (by simp[hlt])
 rw[hj] at hU;cases hU
 exact hr.oneCell (List.all_eq_true.1 ha _ (by simp))
theorem CW{j:TyI}{e:TypeId}(h:j.size<1000):uZ j e%1000=j.size∧(1000≤uZ j e→e+1=uZ j e / 1000):=by
 unfold uZ
 split
 ·refine⟨by rw[Nat.add_mul_mod_self_left,Nat.mod_eq_of_lt h],fun _=>by rw[Nat.add_mul_div_left _ _ (by omega),Nat.div_eq_of_lt h,Nat.zero_add]⟩
 ·exact⟨Nat.mod_eq_of_lt h,fun h1=>by omega⟩
theorem I9(hH:HRel base μ mem w) {e:TypeId}{size need nc es:Nat}(hes:es%1000=size∧(1000≤es→e+1=es / 1000)) {olds news:List AV}{Os Ns:List Value}{z:Array Value}(h0:0<size) (hz:z.size=size)
  (hO:VRels μ mem.length olds Os) (hN:VRels μ mem.length news Ns) (hl:olds.length+news.length=need*size) (hnc:need≤nc)
  {x:Sem Value}(hx:x.run P w=.ok (.slice (some ⟨w.heap.size,0,none⟩) need nc) (w.drew.alloc (.cells (⟨Os⟩++(⟨Ns⟩++Builtin.zeroCells z (nc-need))) e))):
  OpOk P x base μ mem w (.slice mem.length 0 need none) (mem++[.cells true es (olds++news)]):=by
 have hsz:(⟨Os⟩++(⟨Ns⟩++Builtin.zeroCells z (nc-need)):Array Value).size=nc*size:=by
  simp only[Array.size_append,List.size_toArray,size_zeroCells,hz,hO.length,hN.length]
  rw[←Nat.add_assoc,hl,←Nat.add_mul]
  congr 1;omega
 obtain⟨h1,h2⟩:=pY hH.drew e (⟨Os⟩++(⟨Ns⟩++Builtin.zeroCells z (nc-need))) es hes.2 (olds++news) (fun j v hv=>by
  obtain⟨U,hU,hr⟩:=(hO.append hN).get j v hv
  refine⟨U,?_,hr⟩
  have hlt:j<(Os++Ns).length:=(List.getElem?_eq_some_iff.1 hU).1
  rw[←Array.append_assoc,Array.getElem?_append_left (by simpa using hlt)]
  simpa using hU)
 refine⟨_,_,_,hx,?_,h1,?_⟩
 ·simp only[VRel,dr,iz,List.length_append,List.length_singleton,World.size_drew]
  refine⟨by omega,?_⟩
  rw[Nat.sub_zero,hsz,hes.1,Nat.mul_div_cancel _ h0]
 ·exact(Step.drew (m0:=mem.length) (Nat.le_refl _)).trans h2
theorem Cq(hT:cf P T) (hH:HRel base μ mem w) {t t2 ty:TypeId}{s x v:AV}{S X:Value}{mem' :Mem}
  (hs:VRel μ mem.length s S) (hx:VRel μ mem.length x X) (h:mh T mem t t2 s x=some (v,mem')):
  OpOk P (Builtin.append_ #[t,t2] ty #[S,X]) base μ mem w v mem' :=by
 unfold mh at h
 cases ht:T t with
 |none=>rw[ht] at h;cases h
 |some i=>
  rw[ht] at h
  simp only at h
  have hd:=(hT t i ht).desc
  split at h
  ·rename_i e hdesc
   rw[hdesc] at hd
   split at h
   ·rename_i j i2 hj hi2
    split at h
    ·cases h
    ·rename_i hcond
     have hd2:=(hT t2 i2 hi2).desc
     have ht2:(∃e2,P.underlying t2=some (.slice e2))∨P.underlying t2=some .string:=by
      have hok:xn i2=true:=by
       cases h2:xn i2 with
       |true=>rfl
       |false=>exact absurd (.inr (.inr h2)) hcond
      unfold xn at hok
      split at hok
      ·rename_i e2 h2;rw[h2] at hd2;exact .inl ⟨e2,hd2⟩
      ·rename_i h2;rw[h2] at hd2;exact .inr hd2
      ·cases hok
     have hsz:0<j.size:=by
      rcases Nat.eq_zero_or_pos j.size with h0 | h0
      ·exact absurd (.inl h0) hcond
      ·exact h0
     have hsk:j.size<1000:=by
      rcases Nat.lt_or_ge j.size 1000 with h0 | h0
      ·exact h0
      ·exact absurd (.inr (.inl h0)) hcond
     have hzs:=(hT e j hj).zsize
     split at h
     ·cases h
     ·rename_i m news hsrc
      split at h
      ·rename_i hall
       obtain⟨Ns,g1,g2,g3,g4⟩:=qu (P:=P) hH hx hsrc
       split at h
       ·
        simp only[VRel] at hs;subst hs
        split at h
        ·rename_i hm
         cases h;subst hm
         have hr:=rC hT (ty:=ty) hd hj ht2 none 0 0 0 X w g3 (Nat.le_refl _)
         rw[g4 w (fun _=>rfl)] at hr
         exact OpOk.of_val hH ⟨_,hr,by simp[VRel]⟩
        ·rename_i hm
         split at h
         ·rename_i hb
          cases h
          obtain⟨nc,hnc,hr⟩:=yM hT (ty:=ty) hd hj ht2 none 0 0 m X w [] Ns g3 (by omega) (by simpa using hb.1) (by simpa using hb.2) (by simp[Builtin.firstCells]) (g4 w.drew (fun _=>rfl))
          simp only[Nat.zero_add] at hr hnc
          have:=I9 (P:=P) hH (es:=uZ j e) (CW hsk) (olds:=[]) (news:=news) hsz hzs (by simp[VRels]) g1 (by simpa using g2) hnc hr
          simpa using this
         ·cases h
       ·rename_i b n
        split at h
        ·rename_i es cs hb
         split at h
         ·rename_i hc
          obtain⟨k1,k2,k3,k4⟩:=hc
          cases h
          obtain⟨hbn,rfl⟩:=hs.slice
          have hsl:=hH.slot b _ hb
          simp only[SRel] at hsl
          obtain⟨cur,el,fr,s1,s2,s3,s4,s5⟩:=hsl
          obtain⟨s6,s7,s8,s9⟩:=s5 trivial
          subst s7
          have hes:es%1000=j.size∧(1000≤es→e+1=es / 1000):=by
           rcases k1 with rfl | rfl
           ·exact⟨Nat.mod_eq_of_lt hsk,fun h1=>by omega⟩
           ·exact CW hsk
          have s2' :(μ b).es=j.size:=by rw[s2.1];exact hes.1
          have hcap:iz (μ b) 0 none=(μ b).tot / j.size:=by simp[iz,s2']
          have hoff:(μ b).off+0=0:=by omega
          rw[hoff,hcap]
          obtain⟨Os,o1,o2,o3⟩:=hH.cells hb (o:=0) (k:=n*j.size) (by omega)
          simp only[List.drop_zero] at o1
          rw[hoff] at o3
          have hes0:0<j.size:=hsz
          by_cases hfit:n+m≤(μ b).tot / j.size
          ·have hr:=rC hT (ty:=ty) hd hj ht2 (some ⟨(μ b).blk,0,none⟩) n _ m X w g3 hfit
           rw[g4 w (fun _=>rfl)] at hr
           have hmul:(n+m)*j.size≤(μ b).tot:=by
            have:=Nat.mul_le_mul_right j.size hfit
            exact Nat.le_trans this (Nat.div_mul_le_self _ _)
           have hNl:Ns.length=m*j.size:=by rw[g1.length,g2,]
           have hst:=run_storeCells_at (P:=P) (μ b).blk (n*j.size) el Ns 0 cur w s1 (by rw[hNl,s8,Nat.add_zero,←Nat.add_mul];exact hmul) (g1.all_oneCell hall)
           simp only[Result.andThen_ok,Addr.add_lit,Nat.zero_add,hst] at hr
           have hlen:cs.length≤cur.size:=by rw[s8];exact s3
           have hs' :SRel μ mem.length base (w.setRow (μ b).blk (cur.toList.take (n*j.size+0)++Ns++cur.toList.drop (n*j.size+0+Ns.length)).toArray) (μ b) (.cells true es (cs.take (n*j.size)++news)):=by
            simp only[SRel]
            refine⟨_,el,(0,0),setRow_heap w (μ b).blk cur _ el (0,0) s1,s2,?_,fun q u hu=>?_,fun _=>⟨s6,rfl,?_,s9⟩⟩
            ·simp only[List.length_append,List.length_take,g2]
             rw[Nat.add_mul] at hmul;omega
            ·rw[s6,Nat.zero_add]
             have e1:(cs.take (n*j.size)).length=n*j.size:=by simp;omega
             have e2:(cur.toList.take (n*j.size+0)).length=n*j.size:=by simp;omega
             simp only[List.getElem?_toArray,List.append_assoc]
             by_cases hq:q<n*j.size
             ·rw[List.getElem?_append_left (by omega),List.getElem?_take_of_lt hq] at hu
              rw[List.getElem?_append_left (by omega),List.getElem?_take_of_lt (by omega)]
              obtain⟨U,hU,hr⟩:=s4 q u hu
              rw[s6,Nat.zero_add] at hU
              exact⟨U,by simpa using hU,hr⟩
             ·rw[List.getElem?_append_right (by omega),e1] at hu
              rw[List.getElem?_append_right (by omega),e2]
              obtain⟨U,hU,hr⟩:=g1.get _ u hu
              rw[List.getElem?_append_left (List.getElem?_eq_some_iff.1 hU).1]
              exact⟨U,hU,hr⟩
            ·simp only[List.size_toArray,List.length_append,List.length_take,List.length_drop,Array.length_toList,hNl]
             rw[Nat.add_mul] at hmul;omega
           obtain⟨r1,r2⟩:=hH.rename (w' :=w.setRow (μ b).blk (cur.toList.take (n*j.size+0)++Ns++cur.toList.drop (n*j.size+0+Ns.length)).toArray) hb rfl rfl rfl rfl (by simp[World.setRow]) (fun k hk=>setRow_other w _ k _ hk) hs'
           refine⟨_,_,_,hr,?_,r1,r2⟩
           simp only[VRel,dr,iz,List.length_append,List.length_set,List.length_singleton]
           refine⟨by omega,?_⟩
           rw[s2',s6]
           rfl
          ·have hO:(Builtin.firstCells j.size n (.slice (some ⟨(μ b).blk,0,none⟩) n ((μ b).tot / j.size))).run P w.drew=.ok ⟨Os⟩ w.drew:=
            run_firstCells_some w.drew j.size n _ _ _ Os (by rw[o2,]) (fun q u hq=>o3 q u hq)
           obtain⟨nc,hnc,hr⟩:=yM hT (ty:=ty) hd hj ht2 (some ⟨(μ b).blk,0,none⟩) n _ m X w Os Ns g3 (by omega) k3 k4 hO (g4 w.drew (fun _=>rfl))
           have hH2:=hH.drop hb
           have hlen:(mem.set b .absent).length=mem.length:=by simp
           have:=I9 (P:=P) hH2 (es:=es) hes (olds:=cs.take (n*j.size)) (news:=news) hsz hzs (by rw[hlen];exact o1) (by rw[hlen];exact g1) (by rw[List.length_take,g2,Nat.add_mul];omega) hnc hr
           obtain⟨V,w',μ',q1,q2,q3,q4⟩:=this
           rw[] at q2 q3 q4
           rw[hlen] at q2 q4
           exact⟨V,w',μ',q1,q2,q3,(Step.drop (b:=b) (Nat.le_refl _)).trans q4⟩
         ·cases h
        ·cases h
       ·cases h
      ·cases h
   ·cases h
  ·cases h
end
end Go.Eng
namespace Go.Eng
def NY(T:TypeId→Option TyI) (q:TypeId→AV→Bool) (xs:List AV):List Field→Bool
 | []=>true
 |f::fs=>
  match T f.type with
  |none=>false
  |some i=>match gD i xs f.offset with
   |some a=>q f.type a&&NY T q xs fs
   |none=>false
def GY(q:AV→Bool) (i:TyI) (xs:List AV):List Nat→Bool
 | []=>true
 |j::js=>match gD i xs (j*i.size) with
  |some a=>q a&&GY q i xs js
  |none=>false
def jG(T:TypeId→Option TyI):Nat→TypeId→AV→Bool
 |0,_,_=>false
 |d+1,t,x=>
  match T t with
  |none=>false
  |some i=>
   match i.desc,x with
   |.bool,.bool _=>true
   |.int _,.int _ _=>true
   |.string,.str _=>true
   |.struct fs,.agg xs=>NY T (jG T d) xs fs.toList
   |.array n e,.agg xs=>match T e with
    |some j=>GY (jG T d e) j xs (List.range' 0 n)
    |none=>false
   |_,_=>false
def gN(T:TypeId→Option TyI) (kt:TypeId) (k:AV):List (AV×AV)→Nat→Option (Option (Nat×AV))
 | [],_=>some none
 |e::es,i=>match iH T 20 kt k e.1 with
  |some true=>some (some (i,e.2))
  |some false=>gN T kt k es (i+1)
  |none=>none
def AV.scalarKey:AV→Bool
 |.bool _ | .int _ _ | .str _=>true
 |_=>false
def ig(mem:Mem):AV→Option (List (AV×AV))
 |.nilmap=>some []
 |.map b=>match mem[b]? with
  |some (.map es)=>some es
  |some (.fmap es)=>some es
  |_=>none
 |_=>none
def jl(T:TypeId→Option TyI) (mem:Mem) (t:TypeId) (m k:AV) (ok:Bool):Option AV:=
 match T t with
 |none=>none
 |some i=>
  match i.desc with
  |.map kt et=>
   match T et,ig mem m with
   |some j,some es=>
    if jG T 20 kt k then
     match gN T kt k es 0 with
     |some (some (_,v))=>some (if ok then .tuple [v,.bool true] else v)
     |some none=>some (if ok then .tuple [gw j.zero,.bool false] else gw j.zero)
     |none=>none
    else none
   |_,_=>none
  |_=>none
def dI(T:TypeId→Option TyI) (mem:Mem) (t:TypeId) (m k v:AV):Option Mem:=
 match T t with
 |none=>none
 |some i=>
  match i.desc,m with
  |.map kt _,.map b=>
   match mem[b]? with
   |some (.map es)=>
    if jG T 20 kt k then
     match gN T kt k es 0 with
     |some (some (i,_))=>if k.scalarKey then some (mem.set b (.map (es.set i (k,v)))) else none
     |some none=>some (mem.set b (.map (es++[(k,v)])))
     |none=>none
    else none
   |_=>none
  |_,_=>none
section
variable {P:Program}{T:TypeId→Option TyI}{μ:Nat→Place}{mem:Mem}{base:Nat}{w:World}{n:Nat}
theorem zd(hT:cf P T) {d:Nat}{q:TypeId→AV→Bool}{em:Bool}
  (ih:∀{t:TypeId}{x:AV}{X:Value},q t x=true→VRel μ n x X→∀(w:World),(Instr.checkKey em d t X).run P w=.ok () w)
  {xs:List AV}{Xs:List Value}(hx:VRels μ n xs Xs) (w:World):∀{fs:List Field},NY T q xs fs=true→
  ((forIn fs PUnit.unit fun f _=>(do
    if f.name ≠ "_" then
     let a ←part f.type ⟨Xs⟩ f.offset
     Instr.checkKey em d f.type a
     pure (ForInStep.yield PUnit.unit)
    else pure (ForInStep.yield PUnit.unit):Sem (ForInStep PUnit))).run P w=.ok PUnit.unit w)
 | [],_=>by simp
 |f::fs,h=>by
  rw[NY] at h
  split at h
  ·cases h
  ·rename_i i ht
   split at h
   ·rename_i a ha
    simp only[Bool.and_eq_true] at h
    obtain⟨A,hA,hrA⟩:=gi (P:=P) (μ:=μ) (n:=n) hT ht ha hx w
    have h1:=ih h.1 hrA w
    have h2:=zd hT ih hx w h.2
    rw[List.forIn_cons]
    by_cases hname:f.name = "_"
    ·simp only[hname,ne_eq,not_true_eq_false,if_false,pure_bind]
     simp only[ne_eq] at h2
     exact h2
    ·simp only[hname,ne_eq,not_false_eq_true,if_true,Sem.run_bind,hA,h1,Result.andThen_ok,Sem.run_pure]
     exact h2
   ·cases h
theorem zc(hT:cf P T) {d:Nat}{e:TypeId}{i:TyI}(hi:T e=some i) {q:AV→Bool}{em:Bool}
  (ih:∀{x:AV}{X:Value},q x=true→VRel μ n x X→∀(w:World),(Instr.checkKey em d e X).run P w=.ok () w)
  {xs:List AV}{Xs:List Value}(hx:VRels μ n xs Xs) (w:World):∀{js:List Nat},GY q i xs js=true→
  ((forIn js PUnit.unit fun j _=>(do
    let s ←sizeOf e
    let a ←part e ⟨Xs⟩ (j*s)
    Instr.checkKey em d e a
    pure (ForInStep.yield PUnit.unit):Sem (ForInStep PUnit))).run P w=.ok PUnit.unit w)
 | [],_=>by simp
 |j::js,h=>by
  rw[GY] at h
  split at h
  ·rename_i a ha
   simp only[Bool.and_eq_true] at h
   obtain⟨A,hA,hrA⟩:=gi (P:=P) (μ:=μ) (n:=n) hT hi ha hx w
   have h1:=ih h.1 hrA w
   have h2:=zc hT hi ih hx w h.2
   rw[List.forIn_cons]
   simp only[Sem.run_bind,bX hT hi,hA,h1,Result.andThen_ok,Sem.run_pure]
   exact h2
  ·cases h
theorem jr(hT:cf P T) (em:Bool):∀(d:Nat) {t:TypeId} {x:AV} {X:Value},jG T d t x=true→VRel μ n x X→
  ∀(k:Nat) (w:World),(Instr.checkKey em (d+k) t X).run P w=.ok () w
 |0,_,_,_,h,_,_,_=>by simp[jG] at h
 |d+1,t,x,X,h,hx,k,w=>by
  rw[jG] at h
  rw[show d+1+k=d+k+1 by omega]
  cases ht:T t with
  |none=>rw[ht] at h;cases h
  |some i=>
   rw[ht] at h
   simp only at h
   have hd:=(hT t i ht).desc
   split at h
   ·rename_i hdesc;rw[hdesc] at hd;rw[hx.bool,Instr.checkKey];simp[run_underlying hd]
   ·rename_i hdesc;rw[hdesc] at hd;rw[hx.int,Instr.checkKey];simp[run_underlying hd]
   ·rename_i hdesc;rw[hdesc] at hd;rw[hx.str,Instr.checkKey];simp[run_underlying hd]
   ·rename_i fs xs hdesc
    rw[hdesc] at hd
    obtain⟨Xs,rfl,hxs⟩:=hx.agg
    have:=zd (em:=em) hT (fun h1 h2 w=>jr hT em d h1 h2 k w) hxs w h
    rw[Instr.checkKey]
    simp only[Sem.run_bind,run_underlying hd,Result.andThen_ok]
    rw[←Array.forIn_toList]
    rw[this]
    rfl
   ·rename_i m e xs hdesc
    rw[hdesc] at hd
    split at h
    ·rename_i j hj
     obtain⟨Xs,rfl,hxs⟩:=hx.agg
     have:=zc (em:=em) hT hj (fun h1 h2 w=>jr hT em d h1 h2 k w) hxs w h
     rw[Instr.checkKey]
     simp only[Sem.run_bind,run_underlying hd,Result.andThen_ok]
     simp only[Std.Legacy.Range.forIn_eq_forIn_range',Std.Legacy.Range.size,Nat.sub_zero,Nat.add_sub_cancel,Nat.div_one]
     rw[this]
     rfl
    ·cases h
   ·cases h
def JF(μ:Nat→Place) (n:Nat):Option (Nat×AV)→Option (Nat×Value)→Prop
 |some (a,v),some (b,V)=>a=b∧VRel μ n v V
 |none,none=>True
 |_,_=>False
theorem mK(hT:cf P T) {kt:TypeId}{k:AV}{K:Value}(hk:VRel μ n k K) (w:World):∀{es:List (AV×AV)} {Es:List MapEntry} {i:Nat} {r:Option (Nat×AV)},
  Es.length=es.length→(∀(j:Nat) e,es[j]? =some e→∃E,Es[j]? =some E∧Ku μ n e E)→gN T kt k es i=some r→
  ∃R,(Instr.findAsking kt K Es i).run P w=.ok R w∧JF μ n r R
 | [],Es,i,r,hl,_,h=>by
  have:Es=[]:=List.eq_nil_of_length_eq_zero hl
  subst this
  simp only[gN,Option.some.injEq] at h
  subst h
  exact⟨none,by simp[Instr.findAsking],trivial⟩
 |e::es,[],i,r,hl,_,h=>by simp at hl
 |e::es,E::Es,i,r,hl,hr,h=>by
  rw[gN] at h
  obtain⟨E',h1,h2⟩:=hr 0 e rfl
  simp at h1;subst h1
  have hrest:∀(j:Nat) e',es[j]? =some e' →∃E',Es[j]? =some E' ∧Ku μ n e' E' :=fun j e' he=>by simpa using hr (j+1) e' (by simpa using he)
  split at h
  ·rename_i heq
   cases h
   have:=gd hT 20 heq hk h2.1 9980 w
   refine⟨some (i,E.val),?_,rfl,h2.2⟩
   simp only[Instr.findAsking,Sem.run_bind]
   rw[show Op.equal kt K E.key=Op.equalIn (20+9980) kt K E.key from rfl,this]
   simp
  ·rename_i heq
   have:=gd hT 20 heq hk h2.1 9980 w
   obtain⟨R,g1,g2⟩:=mK hT hk w (by simpa using hl) hrest h
   refine⟨R,?_,g2⟩
   simp only[Instr.findAsking,Sem.run_bind]
   rw[show Op.equal kt K E.key=Op.equalIn (20+9980) kt K E.key from rfl,this]
   simpa using g1
  ·cases h
theorem qs(hT:cf P T) {kt:TypeId}{kd:TypeDesc}(hkd:P.underlying kt=some kd) {k:AV}{K:Value}(hk:VRel μ n k K) (w:World):
  ∀{es:List (AV×AV)}{Es:List MapEntry}{i:Nat}{r:Option (Nat×AV)}{R:Option (Nat×Value)},
  Es.length=es.length→(∀(j:Nat) e,es[j]? =some e→∃E,Es[j]? =some E∧Ku μ n e E)→gN T kt k es i=some r→Instr.findNow kd K Es i=some R→
  (Instr.findAsking kt K Es i).run P w=.ok R w
 | [],Es,i,r,R,hl,_,_,h=>by
  have:Es=[]:=List.eq_nil_of_length_eq_zero hl
  subst this
  simp only[Instr.findNow,Option.some.injEq] at h
  subst h
  simp[Instr.findAsking]
 |e::es,[],i,r,R,hl,_,_,h=>by simp at hl
 |e::es,E::Es,i,r,R,hl,hr,hf,h=>by
  obtain⟨E',h1,h2⟩:=hr 0 e rfl
  simp at h1;subst h1
  have hrest:∀(j:Nat) e',es[j]? =some e' →∃E',Es[j]? =some E' ∧Ku μ n e' E' :=fun j e' he=>by simpa using hr (j+1) e' (by simpa using he)
  rw[gN] at hf
  have key:∀b,iH T 20 kt k e.1=some b→∀b',Instr.sameNow kd K E.key=some b' →b' =b:=by
   intro b hb b' hb'
   have he:=gd hT 20 hb hk h2.1 9980 w
   unfold Instr.sameNow at hb'
   split at hb'
   ·rename_i k1 a k2 c hK hE
    split at hb'
    ·rename_i hkk
     cases hb'
     rw[hE] at he
     subst hkk
     rw[run_equalIn_int w _ kt _ _ _ _ hkd] at he
     cases he;rfl
    ·cases hb'
   ·rename_i a c hK hE
    cases hb'
    rw[hE] at he
    rw[run_equalIn_string w _ kt _ _ hkd] at he
    cases he
    rw[beq_toListBytes]
   ·rename_i a c hK hE
    cases hb'
    rw[hE] at he
    rw[run_equalIn_bool' w _ kt _ _ hkd] at he
    cases he;rfl
   ·cases hb'
  rw[Instr.findNow] at h
  have step:∀b,iH T 20 kt k e.1=some b→(Instr.findAsking kt K (E::Es) i).run P w=if b then .ok (some (i,E.val)) w else (Instr.findAsking kt K Es (i+1)).run P w:=by
   intro b hb
   have he:=gd hT 20 hb hk h2.1 9980 w
   simp only[Instr.findAsking,Sem.run_bind]
   rw[show Op.equal kt K E.key=Op.equalIn (20+9980) kt K E.key from rfl,he]
   cases b<;>simp
  split at hf
  ·rename_i heq
   rw[step _ heq]
   cases hs:Instr.sameNow kd K E.key with
   |none=>rw[hs] at h;cases h
   |some b' =>
    have:=key _ heq _ hs
    subst this
    rw[hs] at h
    simp only[Option.some.injEq] at h
    subst h
    simp
  ·rename_i heq
   rw[step _ heq]
   cases hs:Instr.sameNow kd K E.key with
   |none=>rw[hs] at h;cases h
   |some b' =>
    have:=key _ heq _ hs
    subst this
    rw[hs] at h
    simp only at h
    simpa using qs hT hkd hk w (by simpa using hl) hrest hf h
  ·cases hf
theorem fq(hT:cf P T) {kt:TypeId}{ki:TyI}(hki:T kt=some ki) {k:AV}{K:Value}(hk:VRel μ n k K) {es:List (AV×AV)}{Es:List MapEntry}{r:Option (Nat×AV)}
  (hl:Es.length=es.length) (hr:∀(j:Nat) e,es[j]? =some e→∃E,Es[j]? =some E∧Ku μ n e E) (h:gN T kt k es 0=some r) (w:World):
  ∃R,(Instr.findKey kt K Es).run P w=.ok R w∧JF μ n r R:=by
 have hkd:=(hT kt ki hki).desc
 obtain⟨R,g1,g2⟩:=mK hT hk w hl hr h
 refine⟨R,?_,g2⟩
 simp only[Instr.findKey,Sem.run_bind,run_underlying hkd,Result.andThen_ok]
 cases hn:Instr.findNow ki.desc K Es 0 with
 |none=>simpa using g1
 |some R' =>
  have:=qs hT hkd hk w hl hr h hn
  rw[this] at g1
  cases g1
  simp
theorem Cr(hT:cf P T) (hH:HRel base μ mem w) {t:TypeId}{m k v:AV}{M K:Value}{ok:Bool}(hm:VRel μ mem.length m M) (hk:VRel μ mem.length k K)
  (h:jl T mem t m k ok=some v):Val P (Instr.lookup t M K ok) w μ mem.length v:=by
 unfold jl at h
 cases ht:T t with
 |none=>rw[ht] at h;cases h
 |some i=>
  rw[ht] at h
  simp only at h
  have hd:=(hT t i ht).desc
  split at h
  ·rename_i kt et hdesc
   rw[hdesc] at hd
   split at h
   ·rename_i j es hj hes
    split at h
    ·rename_i hok
     have hents:∃Es:Array MapEntry,(M=.map none∧Es= #[]∨∃r c,M=.map (some r)∧(getObj r).run P w=.ok (.map Es c) w)∧Es.toList.length=es.length∧
       ∀(j:Nat) e,es[j]? =some e→∃E,Es.toList[j]? =some E∧Ku μ mem.length e E:=by
      unfold ig at hes
      split at hes
      ·cases hes
       simp only[VRel] at hm;subst hm
       exact⟨#[],.inl ⟨rfl,rfl⟩,rfl,by simp⟩
      ·rename_i b
       split at hes
       ·rename_i es' hb
        cases hes
        simp only[VRel] at hm
        obtain⟨_,rfl⟩:=hm
        have hs:=hH.slot b _ hb
        simp only[SRel] at hs
        obtain⟨ents,clock,h1,_,h2,h3⟩:=hs
        refine⟨ents,.inr ⟨_,clock,rfl,by simp[getObj,Sem.run,h1]⟩,by simpa using h2,fun j e he=>?_⟩
        obtain⟨E,hE,hr⟩:=h3 j e he
        exact⟨E,by simpa using hE,hr⟩
       ·rename_i es' hb
        cases hes
        simp only[VRel] at hm
        obtain⟨_,rfl⟩:=hm
        have hs:=hH.slot b _ hb
        simp only[SRel] at hs
        obtain⟨ents,clock,h1,_,h2,h3⟩:=hs
        refine⟨ents,.inr ⟨_,clock,rfl,by simp[getObj,Sem.run,h1]⟩,by simpa using h2,fun j e he=>?_⟩
        obtain⟨E,hE,hr⟩:=h3 j e he
        exact⟨E,by simpa using hE,hr⟩
       ·cases hes
      ·cases hes
     obtain⟨Es,e1,e2,e3⟩:=hents
     have hck:=jr (P:=P) (n:=mem.length) hT Es.isEmpty 20 hok hk 9980 w
     have hkt:∃ki,T kt=some ki:=by
      rw[jG] at hok
      cases hx:T kt with
      |none=>rw[hx] at hok;cases hok
      |some ki=>exact⟨ki,rfl⟩
     obtain⟨ki,hki⟩:=hkt
     split at h
     ·rename_i q v' hf
      cases h
      obtain⟨R,g1,g2⟩:=fq hT hki hk e2 e3 hf w
      cases R with
      |none=>exact g2.elim
      |some x=>
       obtain⟨_,V⟩:=x
       have hv:=g2.2
       refine⟨if ok then .tuple #[V,.bool true] else V,?_,?_⟩
       ·rcases e1 with⟨rfl,rfl⟩ | ⟨r,c,rfl,e1⟩
        ·simp only[Instr.lookup,Sem.run_bind,run_underlying hd,Result.andThen_ok,Sem.run_pure]
         rw[show(10000:Nat)=20+9980 from rfl,hck]
         simp only[Result.andThen_ok,g1,Sem.run_pure,Sem.run_bind]
        ·simp only[Instr.lookup,Sem.run_bind,run_underlying hd,Result.andThen_ok,e1,Sem.run_pure]
         rw[show(10000:Nat)=20+9980 from rfl,hck]
         simp only[Result.andThen_ok,g1,Sem.run_pure,Sem.run_bind]
       ·cases ok
        ·exact hv
        ·simp only[if_true,VRel];exact⟨[V,.bool true],rfl,bl.2 ⟨hv,bl.2 ⟨by simp[VRel],by simp[VRels]⟩⟩⟩
     ·rename_i hf
      cases h
      obtain⟨R,g1,g2⟩:=fq hT hki hk e2 e3 hf w
      cases R with
      |some x=>exact g2.elim
      |none=>
       have hv:=uw μ mem.length j.zero
       refine⟨if ok then .tuple #[j.zero,.bool false] else j.zero,?_,?_⟩
       ·rcases e1 with⟨rfl,rfl⟩ | ⟨r,c,rfl,e1⟩
        ·simp only[Instr.lookup,Sem.run_bind,run_underlying hd,Result.andThen_ok,Sem.run_pure]
         rw[show(10000:Nat)=20+9980 from rfl,hck]
         simp only[Result.andThen_ok,g1,Sem.run_pure,Sem.run_bind,dv hT hj]
        ·simp only[Instr.lookup,Sem.run_bind,run_underlying hd,Result.andThen_ok,e1,Sem.run_pure]
         rw[show(10000:Nat)=20+9980 from rfl,hck]
         simp only[Result.andThen_ok,g1,Sem.run_pure,Sem.run_bind,dv hT hj]
       ·cases ok
        ·exact hv
        ·simp only[if_true,VRel];exact⟨[j.zero,.bool false],rfl,bl.2 ⟨hv,bl.2 ⟨by simp[VRel],by simp[VRels]⟩⟩⟩
     ·cases h
    ·cases h
   ·cases h
  ·cases h
theorem pc{k:AV}{K K' :Value}{e:AV}{b:Bool}{kt:TypeId}(hs:k.scalarKey=true) (hk:VRel μ n k K) (he:VRel μ n e K') (h:iH T 20 kt k e=some b) (hb:b=true):
  Instr.sameBits 10000 K' K=true:=by
 subst hb
 rw[iH] at h
 cases ht:T kt with
 |none=>rw[ht] at h;cases h
 |some i=>
  rw[ht] at h
  simp only at h
  split at h
  ·rw[hk.bool,he.bool]
   simp only[Option.some.injEq] at h
   simp only[Instr.sameBits]
   rw[beq_iff_eq] at h ⊢
   exact h.symm
  ·split at h
   ·rename_i hkk
    subst hkk
    simp only[Option.some.injEq,decide_eq_true_eq] at h
    rw[hk.int,he.int,h]
    simp[Instr.sameBits]
   ·cases h
  ·rw[hk.str,he.str]
   simp only[Option.some.injEq,beq_iff_eq] at h
   rw[h]
   simp only[Instr.sameBits]
   rw[beq_toListBytes]
   simp
  ·cases hs
  ·cases hs
  ·cases h
theorem kM{kt:TypeId}{k:AV}:∀{es:List (AV×AV)} {i q:Nat} {v:AV},gN T kt k es i=some (some (q,v))→∃j e,q=i+j∧es[j]? =some e∧iH T 20 kt k e.1=some true
 | [],i,q,v,h=>by simp[gN] at h
 |e::es,i,q,v,h=>by
  rw[gN] at h
  split at h
  ·rename_i heq;cases h;exact⟨0,e,rfl,rfl,heq⟩
  ·obtain⟨j,e',h1,h2,h3⟩:=kM h
   exact⟨j+1,e',by omega,by simpa using h2,h3⟩
  ·cases h
theorem p9{r:Nat}{o o' :Obj}(h:w.heap[r]? =some o) (ho:∀c e f,o≠ .cells c e f):(setObj r o').run P w=.ok () { w with heap:=w.heap.setIfInBounds r o' }:=by
 simp only[setObj,Sem.run,h]
 try (split<;>first | (rename_i hh;cases hh;exact absurd rfl (ho _ _ _)) | rfl | simp_all)
theorem xb(hT:cf P T) (hH:HRel base μ mem w) {t:TypeId}{m k v:AV}{M K V:Value}{mem' :Mem}(hm:VRel μ mem.length m M) (hk:VRel μ mem.length k K) (hv:VRel μ mem.length v V)
  (h:dI T mem t m k v=some mem'):∃w',(Instr.mapUpdate t M K V).run P w=.ok () w' ∧HRel base μ mem' w' ∧Step mem.length μ mem w μ mem' w' :=by
 unfold dI at h
 cases ht:T t with
 |none=>rw[ht] at h;cases h
 |some i=>
  rw[ht] at h
  simp only at h
  have hd:=(hT t i ht).desc
  split at h
  ·rename_i kt et b hdesc
   rw[hdesc] at hd
   split at h
   ·rename_i es hb
    split at h
    ·rename_i hok
     simp only[VRel] at hm
     obtain⟨hbn,rfl⟩:=hm
     have hs:=hH.slot b _ hb
     simp only[SRel] at hs
     obtain⟨ents,clock,h1,h1b,h2,h3⟩:=hs
     have hg:(getObj (μ b).blk).run P w=.ok (.map ents clock) w:=by simp[getObj,Sem.run,h1]
     have hck:=jr (P:=P) (n:=mem.length) hT false 20 hok hk 9980 w
     have hkt:∃ki,T kt=some ki:=by
      rw[jG] at hok
      cases hx:T kt with
      |none=>rw[hx] at hok;cases hok
      |some ki=>exact⟨ki,rfl⟩
     obtain⟨ki,hki⟩:=hkt
     have e2:ents.toList.length=es.length:=by simpa using h2
     have e3:∀(j:Nat) e,es[j]? =some e→∃E,ents.toList[j]? =some E∧Ku μ mem.length e E:=fun j e he=>by
      obtain⟨E,hE,hr⟩:=h3 j e he
      exact⟨E,by simpa using hE,hr⟩
     have hlt:(μ b).blk<w.heap.size:=(Array.getElem?_eq_some_iff.1 h1).1
     have fin:∀(ents' :Array MapEntry) (clock' :Nat) (es' :List (AV×AV)),AW ents' clock' →ents'.size=es'.length→(∀(j:Nat) e,es'[j]? =some e→∃E,ents'[j]? =some E∧Ku μ mem.length e E)→
       (setObj (μ b).blk (.map ents' clock')).run P w=.ok () { w with heap:=w.heap.setIfInBounds (μ b).blk (.map ents' clock') }∧
       HRel base μ (mem.set b (.map es')) { w with heap:=w.heap.setIfInBounds (μ b).blk (.map ents' clock') }∧Step mem.length μ mem w μ (mem.set b (.map es')) { w with heap:=w.heap.setIfInBounds (μ b).blk (.map ents' clock') }:=by
      intro ents' clock' es' g0 g1 g2
      refine⟨p9 h1 (by simp),hH.write hb (He hb) (fun _=>⟨_,List.getElem?_set_self (List.getElem?_eq_some_iff.1 hb).1,rfl⟩) rfl rfl rfl rfl (by simp) (fun q hq=>?_) ?_⟩
      ·simp[Array.getElem?_setIfInBounds_ne (Ne.symm hq)]
      ·simp only[SRel]
       exact⟨ents',clock',by simp[hlt],⟨h1b.1,g0⟩,g1,g2⟩
     split at h
     ·rename_i q v' hf
      split at h
      ·rename_i hsc
       cases h
       obtain⟨R,g1,g2⟩:=fq hT hki hk e2 e3 hf w
       cases R with
       |none=>exact g2.elim
       |some x=>
        obtain⟨q',V'⟩:=x
        obtain⟨rfl,_⟩:=g2
        obtain⟨j,e,hq,he,heq⟩:=kM hf
        have hq' :q=j:=by omega
        subst hq'
        obtain⟨E,hE,hr⟩:=h3 q e he
        have hsb:=pc (μ:=μ) (n:=mem.length) hsc hk hr.1 heq rfl
        obtain⟨f1,f2,f3⟩:=fin (ents.modify q fun e=>{ e with key:=K,val:=V }) clock (es.set q (k,v)) ⟨by simpa using h1b.2.1,fun j E' hE' =>by
         rw[Array.getElem?_modify] at hE'
         split at hE'
         ·simp only[Option.map_eq_some_iff] at hE'
          obtain⟨E0,k1,rfl⟩:=hE'
          exact h1b.2.2 j E0 k1
         ·exact h1b.2.2 j E' hE'⟩ (by simpa using h2) (fun j e' he' =>by
         rw[List.getElem?_set] at he'
         by_cases hjq:q=j
         ·subst hjq
          have hlt' :q<es.length:=(List.getElem?_eq_some_iff.1 he).1
          simp only[if_true,hlt',Option.some.injEq] at he'
          subst he'
          exact⟨{ E with key:=K,val:=V },by simp[Array.getElem?_modify,hE],hk,hv⟩
         ·rw[if_neg hjq] at he'
          obtain⟨E',hE',hr'⟩:=h3 j e' he'
          exact⟨E',by simp[Array.getElem?_modify,hjq,hE'],hr'⟩)
        refine⟨_,?_,f2,f3⟩
        simp only[Instr.mapUpdate,Sem.run_bind,run_underlying hd,Result.andThen_ok,hg]
        rw[show(10000:Nat)=20+9980 from rfl,hck]
        simp only[Result.andThen_ok,g1,Sem.run_bind]
        have hstay:(Instr.keyThatStays (((ents[q]?).map (·.key)).getD K) K).run P w=.ok K w:=by
         unfold Instr.keyThatStays
         rw[hE]
         simp only[Option.map_some,Option.getD_some,hsb,if_true]
         rfl
        rw[hstay]
        simpa using f1
      ·cases h
     ·rename_i hf
      cases h
      obtain⟨R,g1,g2⟩:=fq hT hki hk e2 e3 hf w
      cases R with
      |some x=>exact g2.elim
      |none=>
       obtain⟨f1,f2,f3⟩:=fin (ents.push { key:=K,val:=V,born:=clock }) (clock+1) (es++[(k,v)]) ⟨by simp[h1b.2.1],fun j E' hE' =>by
        rw[Array.getElem?_push] at hE'
        split at hE'
        ·rename_i hj;cases hE';rw[hj];exact h1b.2.1
        ·exact h1b.2.2 j E' hE'⟩ (by simp[h2]) (fun j e' he' =>by
        by_cases hj:j<es.length
        ·rw[List.getElem?_append_left hj] at he'
         obtain⟨E',hE',hr'⟩:=h3 j e' he'
         exact⟨E',by rw[Array.getElem?_push,if_neg (by omega)];exact hE',hr'⟩
        ·have hje:j=es.length:=by have:=(List.getElem?_eq_some_iff.1 he').1;simp at this;omega
         subst hje
         simp at he';subst he'
         exact⟨{ key:=K,val:=V,born:=clock },by rw[Array.getElem?_push,if_pos h2.symm],hk,hv⟩)
       refine⟨_,?_,f2,f3⟩
       simp only[Instr.mapUpdate,Sem.run_bind,run_underlying hd,Result.andThen_ok,hg]
       rw[show(10000:Nat)=20+9980 from rfl,hck]
       simp only[Result.andThen_ok,g1]
       exact f1
     ·cases h
    ·cases h
   ·cases h
  ·cases h
theorem CK(hH:HRel base μ mem w) {t:TypeId}:OpOk P (Instr.makeMap t none) base μ mem w (.map mem.length) (mem++[.map []]):=by
 obtain⟨h1,h2⟩:=hH.push (.map #[] 0) (.map []) ⟨w.heap.size,0,0,0⟩ rfl (by
  simp only[SRel]
  exact⟨#[],0,heap_alloc_new w _,⟨hH.base_le,rfl,by simp⟩,rfl,by simp⟩)
 refine⟨.map (some w.heap.size),_,_,?_,?_,h1,h2⟩
 ·simp only[Instr.makeMap,Sem.run_bind,Sem.run_pure,run_newObj,Result.andThen_ok]
  rfl
 ·simp[VRel,dr]
end
end Go.Eng
namespace Go.Eng
def gk:List AV→Option (List UInt8)
 | []=>some []
 |.int .u8 n::l=>if 0≤n∧n<256 then match gk l with
  |some r=>some (UInt8.ofNat n.toNat::r)
  |none=>none
  else none
 |_::_=>none
def pq(mem:Mem) (x:AV):Option AV:=match x with
 |.slice b o n none=>match mem[b]? with
  |some (.cells _ es cs)=>if 0<n∧0<es%1000∧o+n*(es%1000)≤cs.length then some (.ptr b o) else none
  |_=>none
 |_=>none
def uC(T:TypeId→Option TyI) (mem:Mem) (pt:TypeId) (x l:AV):Option (AV×Mem):=match T pt,x,l with
 |some i,.ptr b 0,.int .i64 n=>match i.desc with
  |.pointer e=>match T e,mem[b]? with
   |some j,some (.cells true es cs)=>
    if j.size=1∧es=1+1000*(e+1)∧0<n∧n≤cs.length∧n≤9223372036854775807 then match gk (cs.take n.toNat) with
     |some s=>some (.str s,mem.set b .absent)
     |none=>none
    else none
   |_,_=>none
  |_=>none
 |_,_,_=>none
theorem RB(a es:Nat) (h:es=1+1000*(a+1)):1000≤es∧es / 1000=a+1∧es%1000=1:=by omega
theorem A7:∀{l:List AV} {s:List UInt8},gk l=some s→s.length=l.length∧∀(j:Nat) x,s[j]? =some x→l[j]? =some (.int .u8 (x.toNat:Int))
 | [],s,h=>by cases h;exact⟨rfl,fun j x hj=>by simp at hj⟩
 |v::l,s,h=>by
  cases v<;>try (unfold gk at h;cases h;done)
  rename_i k n
  cases k<;>try (unfold gk at h;cases h;done)
  unfold gk at h
  split at h
  ·rename_i hn
   split at h
   ·rename_i r hr
    cases h
    obtain⟨h1,h2⟩:=A7 hr
    refine⟨by simp[h1],fun j x hj=>?_⟩
    cases j with
    |zero=>
     simp at hj;subst hj
     simp only[List.getElem?_cons_zero,Option.some.injEq,AV.int.injEq,true_and]
     rw[UInt8.toNat_ofNat']
     have:n.toNat%256=n.toNat:=Nat.mod_eq_of_lt (by omega)
     show n=((n.toNat%256:Nat):Int)
     rw[this];omega
    |succ j=>simpa using h2 j x (by simpa using hj)
   ·cases h
  ·cases h
theorem I8(w:World) (a:Addr) (n:Nat):(w.freeze a n).heap.size=w.heap.size:=by
 unfold World.freeze;split<;>simp
theorem GU(w:World) (a:Addr) (n k:Nat) (h:k≠a.block):(w.freeze a n).heap[k]? =w.heap[k]? :=by
 unfold World.freeze;split
 ·rfl
 ·simp only[Array.getElem?_modify,if_neg (Ne.symm h)]
section
variable {P:Program}{T:TypeId→Option TyI}{μ:Nat→Place}{mem:Mem}{base:Nat}{w:World}
theorem xc(hH:HRel base μ mem w) {x v:AV}{X:Value}(ts:Array TypeId) (ty:TypeId) (hx:VRel μ mem.length x X) (h:pq mem x=some v):Val P (Builtin.unsafeSliceData_ ts ty #[X]) w μ mem.length v:=by
 unfold pq at h
 split at h
 ·rename_i b o n
  split at h
  ·rename_i own es cs hb
   split at h
   ·rename_i hc
    cases h
    obtain⟨hbn,rfl⟩:=hx.slice
    have hs:=hH.slot b _ hb
    simp only[SRel] at hs
    obtain⟨cur,el,fr,s1,s2,s3,_,_⟩:=hs
    have hcap:iz (μ b) o none≠0:=by
     simp only[iz,s2.1]
     have:n≤((μ b).tot-o) / (es%1000):=by
      rw[Nat.le_div_iff_mul_le hc.2.1];omega
     omega
    exact⟨_,Lib.run_unsafeSliceData_row _ _ _ _ _ _ hcap,by simp[VRel,hbn]⟩
   ·cases h
  ·cases h
 ·cases h
theorem Cw(hT:cf P T) (hH:HRel base μ mem w) {pt it ty:TypeId}{x l v:AV}{X L:Value}{mem' :Mem}(hx:VRel μ mem.length x X) (hl:VRel μ mem.length l L) (h:uC T mem pt x l=some (v,mem')):
  OpOk P (Builtin.unsafeString_ #[pt,it] ty #[X,L]) base μ mem w v mem' :=by
 unfold uC at h
 split at h
 ·rename_i i b n hi
  split at h
  ·rename_i e hd
   split at h
   ·rename_i j es cs hj hb
    split at h
    ·rename_i hc
     obtain⟨c1,c2,c3,c4,c5⟩:=hc
     split at h
     ·rename_i s hs
      cases h
      obtain⟨g1,g2⟩:=A7 hs
      have hX:=hx.ptr
      have hL:=hl.int
      have hpt:=(hT pt i hi).desc
      rw[hd] at hpt
      obtain⟨f,hf,hfs,_,_⟩:=(hT e j hj).info
      have hcell:P.cellsOf e=1:=by unfold Program.cellsOf;rw[hf];simp[hfs,c1]
      have hsl:=hH.slot b _ hb
      simp only[SRel] at hsl
      obtain⟨cur,el,fr,s1,s2,s3,s4,s5⟩:=hsl
      obtain⟨s6,rfl,s8,s9⟩:=s5 trivial
      have hel:el=e:=by
       obtain⟨q1,q2,_⟩:=RB e es c2
       have:=s2.2 q1
       rw[q2] at this
       exact Nat.succ.inj this
      subst hel
      have hlen:s.length=n.toNat:=by rw[g1,List.length_take];omega
      have hn:n=(s.length:Int):=by omega
      rw[hX.2,hL,hn,s6]
      have hsh:w.shape? (μ b).blk=some (el,cur.size):=by simp[World.shape?,s1]
      have hrun:=Lib.run_unsafeString_row (P:=P) w pt it ty el hpt hcell (μ b).blk cur.size hsh s (by intro e;rw[e] at hlen;simp at hlen;omega) (by rw[s8];omega) (by omega) (fun q u hq=>by
       have h1:=g2 q u hq
       have hqn:q<n.toNat:=by rw[←hlen];exact(List.getElem?_eq_some_iff.1 hq).1
       rw[List.getElem?_take_of_lt hqn] at h1
       obtain⟨V,hV,hr⟩:=s4 q _ h1
       rw[hr.int] at hV
       rw[s6,Nat.zero_add] at hV
       simp only[Addr.add_lit,World.cell?,s1,Nat.zero_add]
       exact hV)
      have hne:¬s.length=0:=by omega
      have hw:(w.freeze ⟨(μ b).blk,0,none⟩ s.length).os=w.os∧(w.freeze ⟨(μ b).blk,0,none⟩ s.length).tape=w.tape∧(w.freeze ⟨(μ b).blk,0,none⟩ s.length).output=w.output∧(w.freeze ⟨(μ b).blk,0,none⟩ s.length).drawn=w.drawn:=by
       unfold World.freeze;rw[if_neg hne];exact⟨rfl,rfl,rfl,rfl⟩
      obtain⟨k1,k2⟩:=hH.write (w' :=w.freeze ⟨(μ b).blk,0,none⟩ s.length) (s' :=.absent) hb (gT hb) (fun h=>absurd rfl h) hw.2.2.2 hw.1 hw.2.1 hw.2.2.1 (I8 ..) (fun k hk=>GU _ _ _ _ hk) trivial
      refine⟨_,_,μ,hrun,by simp[VRel],k1,?_⟩
      exact k2
     ·cases h
    ·cases h
   ·cases h
  ·cases h
 ·cases h
end
end Go.Eng
namespace Go.Eng
section
variable {P:Program}{T:TypeId→Option TyI}{μ:Nat→Place}{mem:Mem}{base:Nat}{w:World}
def kG(T:TypeId→Option TyI) (mem:Mem) (s d:TypeId):AV→Option (AV×Mem)
 |.str l=>match T s,T d with
  |some i,some j=>match i.desc,j.desc with
   |.string,.slice e=>match T e with
    |some k=>match k.desc with
     |.int .u8=>some (.slice mem.length 0 l.length none,mem++[.cells false 1 (l.map fun c=>.int .u8 c.toNat)])
     |_=>none
    |none=>none
   |_,_=>none
  |_,_=>none
 |_=>none
theorem GS(w:World) (Cs:Array Value) (e:TypeId) (n:Nat):
  (w.alloc (.cells Cs e)).freeze ⟨w.heap.size,n,none⟩ 1=w.alloc (.cells Cs e (n,n+1)):=by
 unfold World.freeze
 rw[if_neg (by decide)]
 simp only[World.alloc]
 congr 1
 apply Array.ext
 ·simp
 ·intro k h1 h2
  simp only[Array.getElem_modify,Array.getElem_push]
  by_cases hk:k<w.heap.size
  ·simp[hk];omega
  ·simp at h1
   have:k=w.heap.size:=by omega
   subst this
   simp
theorem wW(hT:cf P T) (hH:HRel base μ mem w) {s d:TypeId}{x v:AV}{X:Value}{mem' :Mem}
  (hx:VRel μ mem.length x X) (h:kG T mem s d x=some (v,mem')):
  OpOk P (convert s d X) base μ mem w v mem' :=by
 unfold kG at h
 split at h
 ·rename_i l
  split at h
  ·rename_i i j hi hj
   have h1:=(hT s i hi).desc
   have h2:=(hT d j hj).desc
   split at h
   ·rename_i e hid hjd
    rw[hid] at h1
    rw[hjd] at h2
    split at h
    ·rename_i k hk
     have h3:=(hT e k hk).desc
     split at h
     ·rename_i hkd
      rw[hkd] at h3
      cases h
      rw[hx.str]
      let c:=grownCap w l.length 0 e
      have hc:l.length≤c:=grownCap_ge w l.length 0 e
      let Cs:Array Value:=(l.map fun c=>Value.int .u8 c.toNat).toArray++Array.replicate (c-l.length) (.int .u8 0)
      have hCs:Cs.size=c:=by simp[Cs];omega
      have hH1:HRel base μ mem w.drew:=hH.sameHeap rfl
      obtain⟨g1,g2⟩:=hH1.push (.cells Cs e (Cs.size,Cs.size+1)) (.cells false 1 (l.map fun c=>.int .u8 c.toNat)) ⟨w.heap.size,0,Cs.size,1⟩ rfl (by
       simp only[SRel]
       refine⟨Cs,e,(Cs.size,Cs.size+1),heap_alloc_new w.drew _,EsOk.small rfl (by decide),by simp[hCs];exact hc,fun q u hu=>?_,fun h=>by cases h⟩
       rw[List.getElem?_map,Option.map_eq_some_iff] at hu
       obtain⟨a,ha,rfl⟩:=hu
       have hq:=(List.getElem?_eq_some_iff.1 ha).1
       refine⟨.int .u8 a.toNat,?_,by simp[VRel]⟩
       simp only[Nat.zero_add,Cs]
       rw[Array.getElem?_append_left (by simpa using hq)]
       simp[ha])
      refine⟨.slice (some ⟨w.heap.size,0,none⟩) l.length c,w.drew.alloc (.cells Cs e (Cs.size,Cs.size+1)),_,?_,?_,g1,?_⟩
      ·have hf:(Question.appendCap l.length 0 e).forced=false:=by simp[Question.forced]
       have hbs:(ByteArray.mk l.toArray).size=l.length:=pr ..
       have hCs' :(ByteArray.mk l.toArray).data.map (fun b=>Value.int .u8 b.toNat)++Array.replicate (c-l.length) (.int .u8 0)=Cs:=by simp[Cs]
       have hsh:(w.drew.alloc (.cells Cs e)).shape? w.heap.size=some (e,Cs.size):=by
        unfold World.shape?
        rw[show(w.drew.alloc (.cells Cs e)).heap[w.heap.size]? =_ from heap_alloc_new w.drew _]
       have hfz:=GS w.drew Cs e Cs.size
       have hw:w.drew.heap.size=w.heap.size:=rfl
       rw[hw] at hfz
       simp only[convert,Sem.run_bind,run_underlying h1,run_underlying h2,run_underlying h3,Result.andThen_ok,Conv.stringToBytes,choose,Sem.run,hf,Bool.false_eq_true,if_false,hbs]
       change ((newRow e ((ByteArray.mk l.toArray).data.map (fun b=>Value.int .u8 b.toNat)++Array.replicate (c-l.length) (.int .u8 0))).run P w.drew).andThen _=_
       rw[hCs']
       simp only[newRow,run_newObj,Result.andThen_ok,Sem.run_bind,markStringish,shape,freeze,Sem.run]
       have hal:({ heap:=w.drew.heap.push (Obj.cells Cs e),tape:=w.drew.tape,drawn:=w.drew.drawn,os:=w.drew.os,output:=w.drew.output }:World)=w.drew.alloc (.cells Cs e):=rfl
       simp only[Sem.run_pure,Result.andThen_ok,hal,hw,hsh,Sem.run,hfz]
       rfl
      ·simp only[VRel,dr,iz,List.length_append,List.length_singleton]
       refine⟨by omega,?_⟩
       simp[hCs]
      ·exact(Step.drew (m0:=mem.length) (Nat.le_refl _)).trans g2
     ·cases h
    ·cases h
   ·cases h
  ·cases h
 ·cases h
end
end Go.Eng
namespace Go.Eng
section
variable {P:Program}{T:TypeId→Option TyI}{μ:Nat→Place}{mem:Mem}{base:Nat}{w:World}
def J2:Option TyI→Bool
 |some i=>match i.desc with
  |.int _=>true
  |_=>false
 |none=>false
def R7(T:TypeId→Option TyI) (t:TypeId) (x:AV):Option AV:=
 match T t with
 |none=>none
 |some i=>match i.desc,x with
  |.slice _,.nilslice=>some (.int .i64 0)
  |_,_=>none
theorem LD(hT:cf P T) {n:Nat}{t ty:TypeId}{x v:AV}{X:Value}(hx:VRel μ n x X) (h:R7 T t x=some v):Val P (Builtin.cap_ #[t] ty #[X]) w μ n v:=by
 unfold R7 at h
 cases ht:T t with
 |none=>rw[ht] at h;cases h
 |some i=>
  rw[ht] at h
  simp only at h
  have hd:=(hT t i ht).desc
  split at h
  ·rename_i e hdesc
   rw[hdesc] at hd
   cases h
   simp only[VRel] at hx;subst hx
   refine .int ?_
   simp[Builtin.cap_,run_underlying hd,goInt]
  ·cases h
def sG(T:TypeId→Option TyI) (mem:Mem) (t:TypeId) (s x:AV):Option (AV×Mem):=
 match T t with
 |none=>none
 |some i=>
  match i.desc,s,x with
  |.slice e,.nilslice,.int _ n=>
   match T e with
   |some j=>if 0<n∧n*j.bytes≤140737488355328∧n≤140737488355328∧0<j.size∧j.size<1000 then some (.slice mem.length 0 n.toNat none,mem++[.cells true (uZ j e) (eH (gw j.zero).cells n.toNat)]) else none
   |none=>none
  |_,_,_=>none
theorem tP{n:Nat}{z:List AV}{Z:Array Value}(hz:VRels μ n z Z.toList) (k:Nat):VRels μ n (eH z k) (Builtin.zeroCells Z k).toList:=by
 have hl:Z.size=z.length:=by rw[←Array.length_toList,hz.length]
 refine VRels.of_get (by rw[Array.length_toList,size_zeroCells,fy,hl]) fun j v hv=>?_
 obtain⟨V,h1,h2,h3⟩:=qd hz k j v hv
 refine⟨V,?_,h2⟩
 rw[Array.getElem?_toList,←h1]
 unfold Builtin.zeroCells
 have:j<k*Z.size:=h3
 simp[this]
theorem Gz(hT:cf P T) {t t2 ty e:TypeId}{j:TyI}(hd:P.underlying t=some (.slice e)) (hj:T e=some j)
  {kd:IntKind}(ht2:P.underlying t2=some (.int kd)) (m:Nat) (k:IntKind) (w:World) (hm0:0<m) (hb:m*j.bytes≤140737488355328) (hm:m≤140737488355328) (hs:0<j.size):
  ∃nc,m≤nc∧(Builtin.append_ #[t,t2] ty #[.slice none 0 0,.int k m]).run P w=
   .ok (.slice (some ⟨w.heap.size,0,none⟩) m nc) (w.drew.alloc (.cells (#[]++(Builtin.zeroCells j.zero.cells m++Builtin.zeroCells j.zero.cells (nc-m))) e)):=by
 obtain⟨f,hf,hfs,hfb,hfz⟩:=(hT e j hj).info
 have h63:¬(9223372036854775807<(m:Int)):=by omega
 have w1:IntKind.i64.wrap (m:Int)=m:=ag (by omega) (by omega)
 have h0:¬((m:Int)<0):=by omega
 have h48a:¬(281474976710656<(m:Int)*(f.bytes:Int)):=by
  rw[hfb]
  have:(m:Int)*(j.bytes:Int)=((m*j.bytes:Nat):Int):=by simp
  omega
 have h48:¬(281474976710656<Builtin.nextslicecap m 0*f.bytes):=by
  have:=growslice_fits (need:=m) (old:=0) (bytes:=f.bytes) (by omega) (by rw[hfb];exact hb)
  omega
 have hms2:¬(m=0):=by omega
 have hask:∀n w,(askRoom n).run P w=.ok () w:=by intro n w;unfold askRoom;split<;>simp[mark,Sem.run]
 refine⟨grownCap w m 0 e,grownCap_ge w m 0 e,?_⟩
 simp[Builtin.append_,run_underlying hd,run_underlying ht2,sizeOf,typeInfo,zeroValue,hf,hfs,hfz,asInt,asIntOf,w1,h0,h63,h48,h48a,hms2,Question.forced,Builtin.firstCells,newRow,grownCap,hask]
 intro h;exact absurd h (by have:=Nat.mul_pos hm0 hs;omega)
theorem AE(hT:cf P T) (hH:HRel base μ mem w) {t t2 ty:TypeId}{s x v:AV}{S X:Value}{mem' :Mem}
  (hs:VRel μ mem.length s S) (hx:VRel μ mem.length x X) (hi:J2 (T t2)=true) (h:sG T mem t s x=some (v,mem')):
  OpOk P (Builtin.append_ #[t,t2] ty #[S,X]) base μ mem w v mem' :=by
 unfold sG at h
 cases ht:T t with
 |none=>rw[ht] at h;cases h
 |some i=>
  rw[ht] at h
  simp only at h
  have hd:=(hT t i ht).desc
  split at h
  ·rename_i e k n hdesc
   rw[hdesc] at hd
   split at h
   ·rename_i j hj
    split at h
    ·rename_i hc
     obtain⟨c1,c2,c3,c4,c5⟩:=hc
     cases h
     obtain⟨kd,hkd⟩:∃kd,P.underlying t2=some (.int kd):=by
      unfold J2 at hi
      split at hi
      ·rename_i i2 h2
       split at hi
       ·rename_i kd hk
        have:=(hT t2 i2 h2).desc
        rw[hk] at this
        exact⟨kd,this⟩
       ·cases hi
      ·cases hi
     simp only[VRel] at hs;subst hs
     rw[hx.int]
     obtain⟨m,rfl⟩:∃m:Nat,n=m:=⟨n.toNat,by omega⟩
     have hb:m*j.bytes≤140737488355328:=by
      have:(m:Int)*(j.bytes:Int)=((m*j.bytes:Nat):Int):=by simp
      omega
     obtain⟨nc,hnc,hr⟩:=Gz hT (ty:=ty) hd hj hkd m k w (by omega) hb (by omega) c4
     have hz:=gS μ mem.length j.zero
     have hzs:=(hT e j hj).zsize
     have hzl:(gw j.zero).cells.length=j.size:=by rw[←hz.length,Array.length_toList,hzs]
     have:=I9 (P:=P) hH (es:=uZ j e) (CW c5) (olds:=[]) (news:=eH (gw j.zero).cells m) (Os:=[]) (Ns:=(Builtin.zeroCells j.zero.cells m).toList) c4 hzs (by simp[VRels]) (tP hz m) (by simp[fy,hzl]) hnc hr
     simpa using this
    ·cases h
   ·cases h
  ·cases h
def Gm(T:TypeId→Option TyI) (mem:Mem) (t:TypeId) (x:AV):Option Mem:=
 match T t with
 |none=>none
 |some i=>
  match i.desc,x with
  |.slice _,.nilslice=>some mem
  |.slice e,.slice b o n _=>
   if n=0 then some mem else
   match T e,mem[b]? with
   |some j,some (.cells true es cs)=>
    if o+n*j.size≤cs.length∧(eH (gw j.zero).cells n).all AV.cellOk=true then some (mem.set b (.cells true es (cs.take o++eH (gw j.zero).cells n++cs.drop (o+n*j.size)))) else none
   |_,_=>none
  |_,_=>none
theorem Gp(hT:cf P T) (hH:HRel base μ mem w) {t ty:TypeId}{x:AV}{X:Value}{mem' :Mem}(hx:VRel μ mem.length x X) (h:Gm T mem t x=some mem'):
  OpOk P (Builtin.clear_ #[t] ty #[X]) base μ mem w (.tuple []) mem' :=by
 unfold Gm at h
 cases ht:T t with
 |none=>rw[ht] at h;cases h
 |some i=>
  rw[ht] at h
  simp only at h
  have hd:=(hT t i ht).desc
  split at h
  ·rename_i e hdesc
   rw[hdesc] at hd
   cases h
   simp only[VRel] at hx;subst hx
   exact⟨.tuple #[],w,μ,by simp[Builtin.clear_,run_underlying hd],by simp[VRel,VRels],hH,.refl (Nat.le_refl _)⟩
  ·rename_i e b o n c hdesc
   rw[hdesc] at hd
   obtain⟨hbn,rfl⟩:=hx.slice
   split at h
   ·rename_i hn
    cases h
    subst hn
    exact⟨.tuple #[],w,μ,by simp[Builtin.clear_,run_underlying hd],by simp[VRel,VRels],hH,.refl (Nat.le_refl _)⟩
   ·rename_i hn
    split at h
    ·rename_i j es cs hj hb
     split at h
     ·rename_i hc
      obtain⟨hfit,hall⟩:=hc
      cases h
      have hs:=hH.slot b _ hb
      simp only[SRel] at hs
      obtain⟨cur,el,fr,g1,g2,g3,g4,g5⟩:=hs
      obtain⟨g6,g7,g8,g9⟩:=g5 trivial
      subst g7
      have hz:=gS μ mem.length j.zero
      have hzs:=(hT e j hj).zsize
      have hzl:(gw j.zero).cells.length=j.size:=by rw[←hz.length,Array.length_toList,hzs]
      have hVc:=tP hz n
      have hsz:(eH (gw j.zero).cells n).length=n*j.size:=by rw[fy,hzl]
      obtain⟨Zs,hZs⟩:∃Zs,Zs=Builtin.zeroCells j.zero.cells n:=⟨_,rfl⟩
      rw[←hZs] at hVc
      have hZl:Zs.size=n*j.size:=by rw[←Array.length_toList,hVc.length,hsz]
      have h1:=hVc.all_oneCell hall
      have hst:=run_storeCells_at (P:=P) (μ b).blk o el Zs.toList 0 cur w g1 (by rw[hVc.length,hsz];omega) h1
      have hw:=hH.write (w' :=w.setRow (μ b).blk (cur.toList.take (o+0)++Zs.toList++cur.toList.drop (o+0+Zs.toList.length)).toArray) (s' :=.cells true es (cs.take o++eH (gw j.zero).cells n++cs.drop (o+n*j.size)))
       hb (gT hb) (fun _=>⟨_,List.getElem?_set_self (List.getElem?_eq_some_iff.1 hb).1,rfl⟩) rfl rfl rfl rfl (by simp[World.setRow]) (fun k hk=>setRow_other w _ k _ hk) ?_
      ·refine⟨.tuple #[],_,μ,?_,by simp[VRel,VRels],hw.1,hw.2⟩
       simp only[Builtin.clear_,List.getElem?_toArray,List.getElem?_cons_zero,Sem.run_bind,run_underlying hd,Result.andThen_ok,g6,Nat.zero_add,dv hT hj,←hZs]
       rw[hst]
       rfl
      ·simp only[SRel]
       refine⟨_,el,(0,0),setRow_heap w (μ b).blk cur _ el (0,0) g1,g2,?_,fun q u hu=>?_,fun _=>⟨g6,rfl,?_,g9⟩⟩
       ·simp only[List.length_append,List.length_take,List.length_drop,hsz];omega
       ·rw[g6] at g4
        obtain⟨U,hU,hr⟩:=ve (cs:=cs) (vs:=eH (gw j.zero).cells n) (Vs:=Zs.toList) (o:=o) (cur:=cur.toList) (by rw[hsz];exact hfit) (fun j v hv=>by simpa using g4 j v hv) hVc q u (by rw[hsz];exact hu)
        refine⟨U,?_,hr⟩
        rw[g6]
        simpa using hU
       ·simp only[List.size_toArray,List.length_append,List.length_take,List.length_drop,Array.length_toList,hZl];omega
     ·cases h
    ·cases h
  ·cases h
end
end Go.Eng
namespace Go.Eng
def uB(T:TypeId→Option TyI) (mem:Mem) (t:TypeId) (x:AV) (lo hi:Option AV):Option (AV×Mem):=
 match T t,x with
 |some i,.slice b o n none=>
  match i.desc with
  |.slice e=>match T e,mem[b]? with
   |some j,some (.cells _ es cs)=>match hi,lo with
    |none,some (.int _ l)=>if l=n∧0<n∧es=j.size∧0<es∧es<1000∧o+n*es≤cs.length then some (.slice mem.length 0 0 none,mem++[.absent]) else none
    |_,_=>none
   |_,_=>none
  |_=>none
 |_,_=>none
section
variable {P:Program}{T:TypeId→Option TyI}{μ:Nat→Place}{mem:Mem}{base:Nat}{w:World}
theorem HRel.absent(h:HRel base μ mem w) (p:Place):HRel base (upd μ mem.length p) (mem++[.absent]) w∧Step mem.length μ mem w (upd μ mem.length p) (mem++[.absent]) w:=by
 have hμ:∀b,b<mem.length→upd μ mem.length p b=μ b:=fun b hb=>tL hb
 have low:∀{b:Nat}{s:Slot},(mem++[Slot.absent])[b]? =some s→s≠ .absent→b<mem.length∧mem[b]? =some s:=by
  intro b s hs hne
  by_cases hlt:b<mem.length
  ·rw[List.getElem?_append_left hlt] at hs;exact⟨hlt,hs⟩
  ·exfalso
   have hbe:b=mem.length:=by
    have:=(List.getElem?_eq_some_iff.1 hs).1
    simp at this;omega
   subst hbe
   simp at hs
   exact hne hs.symm
 have own:∀{b:Nat},dn (mem++[Slot.absent]) b→b<mem.length∧dn mem b:=by
  rintro b ⟨s,hs,ho⟩
  have:=low hs (Slot.own_ne ho)
  exact⟨this.1,s,this.2,ho⟩
 refine⟨⟨h.base_le,fun b s hs=>?_,fun b b' s' hb hb' hne hbb=>?_⟩,?_⟩
 ·by_cases hsa:s=.absent
  ·subst hsa;trivial
  ·obtain⟨hlt,hs'⟩:=low hs hsa
   rw[hμ b hlt]
   exact(h.slot b s hs').mono (by simp) hμ fun _=>rfl
 ·obtain⟨h1,h2⟩:=own hb
  obtain⟨h3,h4⟩:=low hb' hne
  rw[hμ b h1,hμ b' h3]
  exact h.sep b b' s' h2 h4 hne hbb
 ·exact⟨by simp,hμ,rfl,rfl,rfl,Nat.le_refl _,fun _ _ _=>rfl,fun b hb _=>by
   obtain⟨h1,h2⟩:=own hb
   exact⟨b,h2,(congrArg Place.blk (hμ b h1)).symm⟩,Nat.le_refl _⟩
theorem Cu(hT:cf P T) (hH:HRel base μ mem w) {t:TypeId}{x v:AV}{X:Value}{lo hi:Option AV}{Lo Hi:Option Value}{mem' :Mem}
  (hx:VRel μ mem.length x X) (hlo:(lo=none∧Lo=none)∨∃l L,lo=some l∧Lo=some L∧VRel μ mem.length l L)
  (hhi:(hi=none∧Hi=none)∨∃l L,hi=some l∧Hi=some L∧VRel μ mem.length l L) (h:uB T mem t x lo hi=some (v,mem')):
  OpOk P (Instr.sliceAt t X Lo Hi none) base μ mem w v mem' :=by
 unfold uB at h
 split at h
 ·rename_i i b o n ht
  split at h
  ·rename_i e hdesc
   have hd:=(hT t i ht).desc
   rw[hdesc] at hd
   split at h
   ·rename_i j own es cs hj hb
    split at h
    ·rename_i k l
     split at h
     ·rename_i hc
      obtain⟨rfl,g1,g5,g6,g6',g7⟩:=hc
      cases h
      rcases hhi with⟨_,rfl⟩ | ⟨_,_,h1,_⟩
      ·rcases hlo with⟨h1,_⟩ | ⟨a,L,h1,rfl,hL⟩
       ·cases h1
       ·cases h1
        rw[hL.int]
        obtain⟨hbn,rfl⟩:=hx.slice
        have hs:=hH.slot b _ hb
        simp only[SRel] at hs
        obtain⟨cur,el,fr,hs1,hs2,hs3,_,_⟩:=hs
        have hs2:=hs2.es g6'
        subst hs2
        have hcap:n≤iz (μ b) o none:=by
         simp only[iz]
         rw[Nat.le_div_iff_mul_le g6]
         omega
        obtain⟨c,hcd⟩:∃c,c=iz (μ b) o none:=⟨_,rfl⟩
        rw[←hcd] at hcap ⊢
        obtain⟨off,hoff⟩:∃off,off=if c=n then (μ b).off+o else (μ b).off+(o+n*(μ b).es):=⟨_,rfl⟩
        obtain⟨a1,a2⟩:=hH.absent ⟨(μ b).blk,off,(c-n)*(μ b).es,(μ b).es⟩
        have hbd:(Instr.sliceBounds true n c (some (.int k (n:Int))) none none).run P w=.ok (n,n,c) w:=by
         have hb0:(0:Int)≤(n:Int):=by omega
         have hb1:(n:Int)≤((n:Nat):Int):=Int.le_refl _
         simp[Instr.sliceBounds,bP hb0 hb1]
        refine⟨.slice (some ⟨(μ b).blk,off,none⟩) 0 (c-n),w,_,?_,?_,a1,a2⟩
        ·simp[Instr.sliceAt,Instr.slice,run_underlying hd,hbd,bX hT hj]
         by_cases hcn:c=n
         ·rw[if_pos hcn] at hoff
          simp[hcn,hoff]
         ·rw[if_neg hcn] at hoff
          simp[hcn,hoff,Addr.add_lit,g5,Nat.add_assoc]
        ·simp only[VRel,dr,iz,List.length_append,List.length_singleton,Nat.add_zero,Nat.sub_zero]
         refine⟨by omega,?_⟩
         rw[Nat.mul_div_cancel _ g6]
      ·cases h1
     ·cases h
    ·cases h
   ·cases h
  ·cases h
 ·cases h
end
end Go.Eng
namespace Go.Eng
def yJ(T:TypeId→Option TyI) (t:TypeId) (x:AV) (lo hi mx:Option AV):Option AV:=
 match T t,x with
 |some i,.slice b o n (some c)=>
  match i.desc with
  |.slice e=>
   match T e,Bc n hi,G1 lo,Bc c mx with
   |some j,some h,some l,some m=>
    if 0≤l∧l≤h∧h≤m∧m≤c∧(mx=none∨hi.isSome=true) then some (.slice b (if m=l then o else o+l.toNat*j.size) (h.toNat-l.toNat) (some (m.toNat-l.toNat))) else none
   |_,_,_,_=>none
  |_=>none
 |_,_=>none
def pj(T:TypeId→Option TyI) (mem:Mem) (t t2:TypeId) (s x:AV):Option (AV×Mem):=
 match T t,s with
 |some i,.slice b 0 n (some c)=>
  match i.desc with
  |.slice e=>
   match T e,T t2,mem[b]? with
   |some j,some i2,some (.cells true es cs)=>
    if j.size=0∨1000≤j.size∨xn i2=false then none else
    match kf T mem j.size t2 x with
    |none=>none
    |some (m,news)=>
     if news.all AV.cellOk=true∧es=j.size∧n+m≤c∧(n+m)*j.size≤cs.length then
      some (.slice b 0 (n+m) (some c),mem.set b (.cells true es (cs.take (n*j.size)++news++cs.drop ((n+m)*j.size)))) else none
   |_,_,_=>none
  |_=>none
 |_,_=>none
section
variable {P:Program}{T:TypeId→Option TyI}{μ:Nat→Place}{mem:Mem}{base:Nat}{w:World}
theorem sJ(hT:cf P T) {t:TypeId}{x v:AV}{X:Value}{lo hi mx:Option AV}{Lo Hi Mx:Option Value}
  (hx:VRel μ mem.length x X) (hlo:(lo=none∧Lo=none)∨∃l L,lo=some l∧Lo=some L∧VRel μ mem.length l L)
  (hhi:(hi=none∧Hi=none)∨∃l L,hi=some l∧Hi=some L∧VRel μ mem.length l L)
  (hmx:(mx=none∧Mx=none)∨∃l L,mx=some l∧Mx=some L∧VRel μ mem.length l L) (h:yJ T t x lo hi mx=some v):
  Val P (Instr.sliceAt t X Lo Hi Mx) w μ mem.length v:=by
 unfold yJ at h
 split at h
 ·rename_i i b o n c ht
  have hd:=(hT t i ht).desc
  split at h
  ·rename_i e hdesc
   rw[hdesc] at hd
   split at h
   ·rename_i j hh ll mm hj e1 e2 e3
    split at h
    ·rename_i hc
     obtain⟨h0,h1,h2,h3,h4⟩:=hc
     cases h
     obtain⟨hbn,rfl⟩:=hx.slice
     have hbd:(Instr.sliceBounds true n c Lo Hi Mx).run P w=.ok (ll.toNat,hh.toNat,mm.toNat) w:=by
      have h1' :ll≤((hh.toNat:Nat):Int):=by omega
      have h1'' :0≤hh:=by omega
      have h2' :hh≤((mm.toNat:Nat):Int):=by omega
      have h2'' :0≤mm:=by omega
      rcases hmx with⟨rfl,rfl⟩ | ⟨m,M,rfl,rfl,hM⟩
      ·simp only[Bc,Option.some.injEq] at e3
       subst e3
       rw[Int.toNat_natCast] at h2'
       rcases hhi with⟨rfl,rfl⟩ | ⟨a,A,rfl,rfl,hA⟩<;>rcases hlo with⟨rfl,rfl⟩ | ⟨b,B,rfl,rfl,hB⟩
       ·simp only[Bc,G1,Option.some.injEq] at e1 e2;subst e1;subst e2
        simp[Instr.sliceBounds]
       ·cases b<;>simp only[Bc,G1,reduceCtorEq,Option.some.injEq] at e1 e2
        subst e1;subst e2;rw[hB.int]
        simp[Instr.sliceBounds,bP h0 h1]
       ·cases a<;>simp only[Bc,G1,reduceCtorEq,Option.some.injEq] at e1 e2
        subst e1;subst e2;rw[hA.int]
        simp[Instr.sliceBounds,bP h1'' h2']
       ·cases a<;>simp only[Bc,reduceCtorEq,Option.some.injEq] at e1
        cases b<;>simp only[G1,reduceCtorEq,Option.some.injEq] at e2
        subst e1;subst e2;rw[hA.int,hB.int]
        simp[Instr.sliceBounds,bP h1'' h2',bP h0 h1']
      ·cases m<;>simp only[Bc,reduceCtorEq,Option.some.injEq] at e3
       subst e3
       rw[hM.int]
       rcases hhi with⟨rfl,rfl⟩ | ⟨a,A,rfl,rfl,hA⟩<;>rcases hlo with⟨rfl,rfl⟩ | ⟨b,B,rfl,rfl,hB⟩
       ·simp at h4
       ·simp at h4
       ·cases a<;>simp only[Bc,G1,reduceCtorEq,Option.some.injEq] at e1 e2
        subst e1;subst e2;rw[hA.int]
        simp[Instr.sliceBounds,bP h2'' h3,bP h1'' h2']
       ·cases a<;>simp only[Bc,reduceCtorEq,Option.some.injEq] at e1
        cases b<;>simp only[G1,reduceCtorEq,Option.some.injEq] at e2
        subst e1;subst e2;rw[hA.int,hB.int]
        simp[Instr.sliceBounds,bP h2'' h3,bP h1'' h2',bP h0 h1']
     refine⟨.slice (some ⟨(μ b).blk,(μ b).off+(if mm=ll then o else o+ll.toNat*j.size),none⟩) (hh.toNat-ll.toNat) (mm.toNat-ll.toNat),?_,by simp only[VRel,iz];exact⟨hbn,trivial⟩⟩
     have hml:(mm.toNat=ll.toNat)=(mm=ll):=by rw[eq_iff_iff];omega
     by_cases hml2:mm=ll
     ·simp[Instr.sliceAt,Instr.slice,run_underlying hd,hbd,bX hT hj,hml2,iz]
     ·simp[Instr.sliceAt,Instr.slice,run_underlying hd,hbd,bX hT hj,hml,hml2,iz,Addr.add_lit,Nat.add_assoc]
    ·cases h
   ·cases h
  ·cases h
 ·cases h
theorem AB(hT:cf P T) (hH:HRel base μ mem w) {t t2 ty:TypeId}{s x v:AV}{S X:Value}{mem' :Mem}
  (hs:VRel μ mem.length s S) (hx:VRel μ mem.length x X) (h:pj T mem t t2 s x=some (v,mem')):
  OpOk P (Builtin.append_ #[t,t2] ty #[S,X]) base μ mem w v mem' :=by
 unfold pj at h
 split at h
 ·rename_i i b n c ht
  have hd:=(hT t i ht).desc
  split at h
  ·rename_i e hdesc
   rw[hdesc] at hd
   split at h
   ·rename_i j i2 es cs hj hi2 hb
    split at h
    ·cases h
    ·rename_i hcond
     have hd2:=(hT t2 i2 hi2).desc
     have ht2:(∃e2,P.underlying t2=some (.slice e2))∨P.underlying t2=some .string:=by
      have hok:xn i2=true:=by
       cases h2:xn i2 with
       |true=>rfl
       |false=>exact absurd (.inr (.inr h2)) hcond
      unfold xn at hok
      split at hok
      ·rename_i e2 h2;rw[h2] at hd2;exact .inl ⟨e2,hd2⟩
      ·rename_i h2;rw[h2] at hd2;exact .inr hd2
      ·cases hok
     have hsk:j.size<1000:=by
      rcases Nat.lt_or_ge j.size 1000 with h0 | h0
      ·exact h0
      ·exact absurd (.inr (.inl h0)) hcond
     split at h
     ·cases h
     ·rename_i m news hsrc
      split at h
      ·rename_i hc
       obtain⟨hall,rfl,hfit,hroom⟩:=hc
       cases h
       obtain⟨Ns,g1,g2,g3,g4⟩:=qu (P:=P) hH hx hsrc
       obtain⟨hbn,rfl⟩:=hs.slice
       have hsl:=hH.slot b _ hb
       simp only[SRel] at hsl
       obtain⟨cur,el,fr,s1,s2,s3,s4,s5⟩:=hsl
       obtain⟨s6,s7,s8,s9⟩:=s5 trivial
       subst s7
       have hoff:(μ b).off+0=0:=by omega
       have hr:=rC hT (ty:=ty) hd hj ht2 (some ⟨(μ b).blk,0,none⟩) n c m X w g3 hfit
       rw[g4 w (fun _=>rfl)] at hr
       have hNl:Ns.length=m*j.size:=by rw[g1.length,g2]
       have hmul:n*j.size+m*j.size=(n+m)*j.size:=(Nat.add_mul _ _ _).symm
       have hlen:cs.length≤cur.size:=by rw[s8];exact s3
       have hst:=run_storeCells_at (P:=P) (μ b).blk (n*j.size) el Ns 0 cur w s1 (by rw[hNl,Nat.add_zero,hmul];omega) (g1.all_oneCell hall)
       simp only[Result.andThen_ok,Addr.add_lit,Nat.zero_add,hst] at hr
       have hw:=hH.write (w' :=w.setRow (μ b).blk (cur.toList.take (n*j.size+0)++Ns++cur.toList.drop (n*j.size+0+Ns.length)).toArray) (s' :=.cells true j.size (cs.take (n*j.size)++news++cs.drop ((n+m)*j.size)))
        hb (gT hb) (fun _=>⟨_,List.getElem?_set_self (List.getElem?_eq_some_iff.1 hb).1,rfl⟩) rfl rfl rfl rfl (by simp[World.setRow]) (fun k hk=>setRow_other w _ k _ hk) ?_
       ·refine⟨.slice (some ⟨(μ b).blk,0,none⟩) (n+m) c,_,μ,?_,?_,hw.1,hw.2⟩
        ·rw[←hr]
         simp only[iz,hoff]
        ·simp only[VRel,iz,hoff,List.length_set]
         exact⟨hbn,trivial⟩
       ·simp only[SRel]
        refine⟨_,el,(0,0),setRow_heap w (μ b).blk cur _ el (0,0) s1,s2,?_,fun q u hu=>?_,fun _=>⟨s6,rfl,?_,s9⟩⟩
        ·simp only[List.length_append,List.length_take,List.length_drop,g2];omega
        ·rw[s6] at s4
         rw[show(n+m)*j.size=n*j.size+news.length by rw[g2,hmul]] at hu
         obtain⟨U,hU,hr⟩:=ve (cs:=cs) (vs:=news) (Vs:=Ns) (o:=n*j.size) (cur:=cur.toList) (by rw[g2,hmul];exact hroom) (fun j v hv=>by simpa using s4 j v hv) g1 q u hu
         refine⟨U,?_,hr⟩
         rw[s6]
         simpa using hU
        ·simp only[List.size_toArray,List.length_append,List.length_take,List.length_drop,Array.length_toList,hNl];omega
      ·cases h
   ·cases h
  ·cases h
 ·cases h
end
end Go.Eng
namespace Go.Eng
def od(T:TypeId→Option TyI) (mem:Mem) (t:TypeId) (m k:AV):Option (AV×Mem):=
 match T t with
 |none=>none
 |some i=>
  match i.desc,m with
  |.map kt et,.map b=>
   match T et,mem[b]? with
   |some j,some (.map es)=>
    if jG T 20 kt k then
     match gN T kt k es 0 with
     |some (some (q,v))=>if k.scalarKey then some (.tuple [v,.int .i64 q],mem.set b (.map (es.set q (k,v)))) else none
     |some none=>some (.tuple [gw j.zero,.int .i64 es.length],mem.set b (.map (es++[(k,gw j.zero)])))
     |none=>none
    else none
   |_,_=>none
  |_,_=>none
def jj(mem:Mem) (m s v:AV):Option Mem:=
 match m,s with
 |.map b,.int _ (.ofNat q)=>match mem[b]? with
  |some (.map es)=>match es[q]? with
   |some e=>some (mem.set b (.map (es.set q (e.1,v))))
   |none=>none
  |_=>none
 |_,_=>none
section
variable {P:Program}{T:TypeId→Option TyI}{μ:Nat→Place}{mem:Mem}{base:Nat}{w:World}{n:Nat}
theorem GP{kt:TypeId}{k:AV}:∀{es:List (AV×AV)} {i q:Nat} {v:AV},gN T kt k es i=some (some (q,v))→(es[q-i]?).map (·.2)=some v
 | [],i,q,v,h=>by simp[gN] at h
 |e::es,i,q,v,h=>by
  have hs:=kM h
  rw[gN] at h
  split at h
  ·cases h;simp
  ·have:=GP h
   obtain⟨j,e',h1,h2,h3⟩:=kM h
   subst h1
   rw[show i+1+j-(i+1)=j by omega] at this
   rw[show i+1+j-i=j+1 by omega]
   simpa using this
  ·cases h
theorem zp(hH:HRel base μ mem w) {b clock clock' :Nat}{es es' :List (AV×AV)}{ents ents' :Array MapEntry}(hb:mem[b]? =some (.map es)) (h1:w.heap[(μ b).blk]? =some (.map ents clock)) (h1b:base≤(μ b).blk)
  (g0:AW ents' clock') (g1:ents'.size=es'.length) (g2:∀(j:Nat) e,es'[j]? =some e→∃E,ents'[j]? =some E∧Ku μ mem.length e E):
  (setObj (μ b).blk (.map ents' clock')).run P w=.ok () { w with heap:=w.heap.setIfInBounds (μ b).blk (.map ents' clock') }∧
  HRel base μ (mem.set b (.map es')) { w with heap:=w.heap.setIfInBounds (μ b).blk (.map ents' clock') }∧Step mem.length μ mem w μ (mem.set b (.map es')) { w with heap:=w.heap.setIfInBounds (μ b).blk (.map ents' clock') }:=by
 have hlt:(μ b).blk<w.heap.size:=(Array.getElem?_eq_some_iff.1 h1).1
 refine⟨p9 h1 (by simp),hH.write hb (He hb) (fun _=>⟨_,List.getElem?_set_self (List.getElem?_eq_some_iff.1 hb).1,rfl⟩) rfl rfl rfl rfl (by simp) (fun q hq=>?_) ?_⟩
 ·simp[Array.getElem?_setIfInBounds_ne (Ne.symm hq)]
 ·simp only[SRel]
  exact⟨ents',clock',by simp[hlt],⟨h1b,g0⟩,g1,g2⟩
theorem Mz{ents:Array MapEntry}{clock i:Nat}(h:AW ents clock) (hi:i<ents.size):ents.findIdx? (fun e=>(e.born:Int)==(i:Int))=some i:=by
 rw[Array.findIdx?_eq_some_iff_getElem]
 refine⟨hi,?_,?_⟩
 ·have:=h.2 i ents[i] (by simp)
  simp[this]
 ·intro j hj
  have:=h.2 j ents[j] (by simp)
  simp[this];omega
theorem uA(hH:HRel base μ mem w) {t:TypeId}{m s v:AV}{M S V:Value}{mem' :Mem}(hm:VRel μ mem.length m M) (hs:VRel μ mem.length s S) (hv:VRel μ mem.length v V)
  (h:jj mem m s v=some mem'):∃w',(Instr.entryStore t M S V).run P w=.ok () w' ∧HRel base μ mem' w' ∧Step mem.length μ mem w μ mem' w' :=by
 unfold jj at h
 split at h
 ·rename_i b k q
  split at h
  ·rename_i es hb
   split at h
   ·rename_i e he
    cases h
    simp only[VRel] at hm
    obtain⟨_,rfl⟩:=hm
    have hsl:=hH.slot b _ hb
    simp only[SRel] at hsl
    obtain⟨ents,clock,h1,h1b,h2,h3⟩:=hsl
    have hg:(getObj (μ b).blk).run P w=.ok (.map ents clock) w:=by simp[getObj,Sem.run,h1]
    have hq:q<es.length:=(List.getElem?_eq_some_iff.1 he).1
    have hf:=Mz h1b.2 (i:=q) (by omega)
    obtain⟨f1,f2,f3⟩:=zp (P:=P) hH (es' :=es.set q (e.1,v)) (ents' :=ents.modify q fun e=>{ e with val:=V }) (clock' :=clock) hb h1 h1b.1 ⟨by simpa using h1b.2.1,fun j E' hE' =>by
     rw[Array.getElem?_modify] at hE'
     split at hE'
     ·simp only[Option.map_eq_some_iff] at hE'
      obtain⟨E0,k1,rfl⟩:=hE'
      exact h1b.2.2 j E0 k1
     ·exact h1b.2.2 j E' hE'⟩ (by simpa using h2) (fun j e' he' =>by
     rw[List.getElem?_set] at he'
     by_cases hjq:q=j
     ·subst hjq
      simp only[if_true,hq,Option.some.injEq] at he'
      subst he'
      obtain⟨E,hE,hr⟩:=h3 q e he
      exact⟨{ E with val:=V },by simp[Array.getElem?_modify,hE],hr.1,hv⟩
     ·rw[if_neg hjq] at he'
      obtain⟨E',hE',hr'⟩:=h3 j e' he'
      exact⟨E',by simp[Array.getElem?_modify,hjq,hE'],hr'⟩)
    refine⟨_,?_,f2,f3⟩
    rw[hs.int]
    have hf' :ents.findIdx? (fun e=>(e.born:Int)==Int.ofNat q)=some q:=hf
    simp only[Instr.entryStore,Sem.run_bind,Result.andThen_ok,hg,asInt,asIntOf,Sem.run_pure,hf']
    exact f1
   ·cases h
  ·cases h
 ·cases h
theorem yI(hT:cf P T) (hH:HRel base μ mem w) {t:TypeId}{m k v:AV}{M K:Value}{mem' :Mem}(hm:VRel μ mem.length m M) (hk:VRel μ mem.length k K)
  (h:od T mem t m k=some (v,mem')):OpOk P (Instr.mapEntry t M K) base μ mem w v mem' :=by
 unfold od at h
 cases ht:T t with
 |none=>rw[ht] at h;cases h
 |some i=>
  rw[ht] at h
  simp only at h
  have hd:=(hT t i ht).desc
  split at h
  ·rename_i kt et b hdesc
   rw[hdesc] at hd
   split at h
   ·rename_i j es hj hb
    split at h
    ·rename_i hok
     simp only[VRel] at hm
     obtain⟨hbn,rfl⟩:=hm
     have hs:=hH.slot b _ hb
     simp only[SRel] at hs
     obtain⟨ents,clock,h1,h1b,h2,h3⟩:=hs
     have hg:(getObj (μ b).blk).run P w=.ok (.map ents clock) w:=by simp[getObj,Sem.run,h1]
     have hck:=jr (P:=P) (n:=mem.length) hT false 20 hok hk 9980 w
     have hkt:∃ki,T kt=some ki:=by
      rw[jG] at hok
      cases hx:T kt with
      |none=>rw[hx] at hok;cases hok
      |some ki=>exact⟨ki,rfl⟩
     obtain⟨ki,hki⟩:=hkt
     have e2:ents.toList.length=es.length:=by simpa using h2
     have e3:∀(j:Nat) e,es[j]? =some e→∃E,ents.toList[j]? =some E∧Ku μ mem.length e E:=fun j e he=>by
      obtain⟨E,hE,hr⟩:=h3 j e he
      exact⟨E,by simpa using hE,hr⟩
     split at h
     ·rename_i q v' hf
      split at h
      ·rename_i hsc
       cases h
       obtain⟨R,g1,g2⟩:=fq hT hki hk e2 e3 hf w
       cases R with
       |none=>exact g2.elim
       |some x=>
        obtain⟨q',V'⟩:=x
        obtain⟨rfl,hv⟩:=g2
        obtain⟨j',e,hq,he,heq⟩:=kM hf
        have hq' :q=j' :=by omega
        subst hq'
        obtain⟨E,hE,hr⟩:=h3 q e he
        have hsb:=pc (μ:=μ) (n:=mem.length) hsc hk hr.1 heq rfl
        have hlt' :q<es.length:=(List.getElem?_eq_some_iff.1 he).1
        have hev:e.2=v' :=by
         have:=GP hf
         rw[Nat.sub_zero] at this
         rw[he] at this
         simpa using this
        obtain⟨f1,f2,f3⟩:=zp (P:=P) hH (es' :=es.set q (k,v')) (ents' :=ents.modify q fun e=>{ e with key:=K }) (clock' :=clock) hb h1 h1b.1 ⟨by simpa using h1b.2.1,fun j E' hE' =>by
         rw[Array.getElem?_modify] at hE'
         split at hE'
         ·simp only[Option.map_eq_some_iff] at hE'
          obtain⟨E0,k1,rfl⟩:=hE'
          exact h1b.2.2 j E0 k1
         ·exact h1b.2.2 j E' hE'⟩ (by simpa using h2) (fun j e' he' =>by
         rw[List.getElem?_set] at he'
         by_cases hjq:q=j
         ·subst hjq
          simp only[if_true,hlt',Option.some.injEq] at he'
          subst he'
          exact⟨{ E with key:=K },by simp[Array.getElem?_modify,hE],hk,by rw[←hev];exact hr.2⟩
         ·rw[if_neg hjq] at he'
          obtain⟨E',hE',hr'⟩:=h3 j e' he'
          exact⟨E',by simp[Array.getElem?_modify,hjq,hE'],hr'⟩)
        refine⟨.tuple #[V',goInt q],_,μ,?_,?_,f2,f3⟩
        ·simp only[Instr.mapEntry,Sem.run_bind,run_underlying hd,Result.andThen_ok,hg]
         rw[show(10000:Nat)=20+9980 from rfl,hck]
         simp only[Result.andThen_ok,g1,Sem.run_bind]
         have hstay:(Instr.keyThatStays (((ents[q]?).map (·.key)).getD K) K).run P w=.ok K w:=by
          unfold Instr.keyThatStays
          rw[hE]
          simp only[Option.map_some,Option.getD_some,hsb,if_true]
          rfl
         rw[hstay]
         simp only[Result.andThen_ok,f1,Sem.run_pure]
         rw[hE]
         simp only[Option.map_some,Option.getD_some,h1b.2.2 q E hE]
        ·simp only[List.length_set,VRel]
         exact⟨[V',goInt q],rfl,bl.2 ⟨hv,bl.2 ⟨by simp[VRel,goInt],by simp[VRels]⟩⟩⟩
      ·cases h
     ·rename_i hf
      cases h
      obtain⟨R,g1,g2⟩:=fq hT hki hk e2 e3 hf w
      cases R with
      |some x=>exact g2.elim
      |none=>
       have hz:=uw μ mem.length j.zero
       obtain⟨f1,f2,f3⟩:=zp (P:=P) hH (es' :=es++[(k,gw j.zero)]) (ents' :=ents.push { key:=K,val:=j.zero,born:=clock }) (clock' :=clock+1) hb h1 h1b.1 ⟨by simp[h1b.2.1],fun j E' hE' =>by
        rw[Array.getElem?_push] at hE'
        split at hE'
        ·rename_i hj;cases hE';rw[hj];exact h1b.2.1
        ·exact h1b.2.2 j E' hE'⟩ (by simp[h2]) (fun j' e' he' =>by
        by_cases hj' :j' <es.length
        ·rw[List.getElem?_append_left hj'] at he'
         obtain⟨E',hE',hr'⟩:=h3 j' e' he'
         exact⟨E',by rw[Array.getElem?_push,if_neg (by omega)];exact hE',hr'⟩
        ·have hje:j' =es.length:=by have:=(List.getElem?_eq_some_iff.1 he').1;simp at this;omega
         subst hje
         simp at he';subst he'
         exact⟨{ key:=K,val:=j.zero,born:=clock },by rw[Array.getElem?_push,if_pos h2.symm],hk,hz⟩)
       refine⟨.tuple #[j.zero,goInt clock],_,μ,?_,?_,f2,f3⟩
       ·simp only[Instr.mapEntry,Sem.run_bind,run_underlying hd,Result.andThen_ok,hg]
        rw[show(10000:Nat)=20+9980 from rfl,hck]
        simp only[Result.andThen_ok,g1,Sem.run_bind,dv hT hj,f1,Sem.run_pure]
       ·simp only[List.length_set,VRel]
        exact⟨[j.zero,goInt clock],rfl,bl.2 ⟨hz,bl.2 ⟨by simp[VRel,goInt,h1b.2.1,h2],by simp[VRels]⟩⟩⟩
     ·cases h
    ·cases h
   ·cases h
  ·cases h
end
end Go.Eng
namespace Go.Eng
def aUn(op:UnOp) (x:AV):Option AV:=
 match op,x with
 |.not,.bool b=>some (.bool (!b))
 |.neg,.int k n=>some (.int k (k.wrap (0-n)))
 |_,_=>none
def aOp(T:TypeId→Option TyI) (env:Env) (mem:Mem) (op:Op):Option (AV×Mem):=
 match op with
 |.move x=>some (get env x,mem)
 |.assign x=>some (get env x,mem)
 |.pick c a b=>match get env c with
  |.bool t=>some (if t then get env a else get env b,mem)
  |_=>none
 |.alloc e=>qo T mem e
 |.box _ x=>Rs mem (get env x)
 |.build t ps=>match bx T t (ps.toList.map fun p=>(p.1,get env p.2)) with
  |some v=>some (v,mem)
  |none=>none
 |.buildSlice t n ps=>ej T mem t n (ps.toList.map fun p=>(p.1,get env p.2))
 |.load t a=>match LH T mem t (get env a) with
  |some v=>some (v,mem)
  |none=>none
 |.store t a x=>match qp T mem t (get env a) (get env x) with
  |some m=>some (.undef,m)
  |none=>none
 |.nilCheck x=>match get env x with
  |.ptr b o=>some (.ptr b o,mem)
  |.func f cs=>some (.func f cs,mem)
  |_=>none
 |.binOp op t x y _=>match R6 T op t (oG x) (oG y) (get env x) (get env y) with
  |some v=>some (v,mem)
  |none=>none
 |.unOp op _ x=>match aUn op (get env x) with
  |some v=>some (v,mem)
  |none=>none
 |.convert s d x=>match xw T s d (get env x) with
  |some v=>some (v,mem)
  |none=>kG T mem s d (get env x)
 |.makeFunc (.func f) first capt=>if first.size=0 then some (.func f (Rv env capt),mem) else none
 |.makeSlice t l c=>iW T mem t (get env l) (get env c)
 |.slice t x lo hi none=>match JK T mem t (get env x) (lo.map (get env)) (hi.map (get env)) with
  |some v=>some (v,mem)
  |none=>match uB T mem t (get env x) (lo.map (get env)) (hi.map (get env)) with
   |some r=>some r
   |none=>match yJ T t (get env x) (lo.map (get env)) (hi.map (get env)) none with
    |some v=>some (v,mem)
    |none=>none
 |.slice t x lo hi (some mx)=>match yJ T t (get env x) (lo.map (get env)) (hi.map (get env)) (some (get env mx)) with
  |some v=>some (v,mem)
  |none=>none
 |.fieldAddr t x f=>match pn T t (get env x) f with
  |some v=>some (v,mem)
  |none=>none
 |.field t x f=>match jS T t (get env x) f with
  |some v=>some (v,mem)
  |none=>none
 |.indexAddr t x i=>match po T t (get env x) (get env i) with
  |some v=>some (v,mem)
  |none=>none
 |.index t x i=>match JJ T t (get env x) (get env i) with
  |some v=>some (v,mem)
  |none=>none
 |.makeMap _ none=>some (.map mem.length,mem++[.map []])
 |.lookup t m k ok=>match jl T mem t (get env m) (get env k) ok with
  |some v=>some (v,mem)
  |none=>none
 |.mapUpdate t m k x=>match dI T mem t (get env m) (get env k) (get env x) with
  |some m=>some (.undef,m)
  |none=>none
 |.mapEntry t m k=>od T mem t (get env m) (get env k)
 |.entryStore _ m s x=>match jj mem (get env m) (get env s) (get env x) with
  |some m=>some (.undef,m)
  |none=>none
 |.extract t i=>match get env t with
  |.tuple cs=>match cs[i]? with
   |some v=>some (v,mem)
   |none=>none
  |_=>none
 |.call { callee:=.builtin .len,args:=⟨[x]⟩,argTypes:=⟨[t]⟩ }=>match QN T t mem (get env x) with
  |some v=>some (v,mem)
  |none=>none
 |.call { callee:=.builtin .append,args:=⟨[s,x]⟩,argTypes:=⟨[t,t2]⟩ }=>if J2 (T t2) then sG T mem t (get env s) (get env x) else
  match mh T mem t t2 (get env s) (get env x) with
  |some r=>some r
  |none=>pj T mem t t2 (get env s) (get env x)
 |.call { callee:=.builtin .cap,args:=⟨[x]⟩,argTypes:=⟨[t]⟩ }=>match R7 T t (get env x) with
  |some v=>some (v,mem)
  |none=>none
 |.call { callee:=.builtin .clear,args:=⟨[x]⟩,argTypes:=⟨[t]⟩ }=>match Gm T mem t (get env x) with
  |some m=>some (.tuple [],m)
  |none=>none
 |.call { callee:=.builtin .unsafeSliceData,args:=⟨[x]⟩,argTypes:=_ }=>match pq mem (get env x) with
  |some v=>some (v,mem)
  |none=>none
 |.call { callee:=.builtin .unsafeString,args:=⟨[x,y]⟩,argTypes:=⟨[pt,_]⟩ }=>uC T mem pt (get env x) (get env y)
 |.call { callee:=.builtin .min,args:=⟨[x,y]⟩,argTypes:=_ }=>match get env x,get env y with
  |.int k a,.int k' b=>if k=k' then some (.int k (if b<a then b else a),mem) else none
  |.str a,.str b=>some (.str (if Op.bytesLess a b||a==b then a else b),mem)
  |_,_=>none
 |.call { callee:=.builtin .max,args:=⟨[x,y]⟩,argTypes:=_ }=>match get env x,get env y with
  |.int k a,.int k' b=>if k=k' then some (.int k (if a<b then b else a),mem) else none
  |.str a,.str b=>some (.str (if Op.bytesLess a b then b else a),mem)
  |_,_=>none
 |_=>none
section
variable {P:Program}{T:TypeId→Option TyI}{μ:Nat→Place}{mem:Mem}{base:Nat}{w:World}
def SE(μ:Nat→Place) (n:Nat) (N:Next) (v:AV):Prop:=(∃V,N=.value V∧VRel μ n v V)∨(N=.skip∧v=.undef)
def NextOk(P:Program) (x:Sem Next) (base:Nat) (μ:Nat→Place) (mem:Mem) (w:World) (v:AV) (mem' :Mem):Prop:=
 ∃N w' μ',x.run P w=.ok N w' ∧SE μ' mem'.length N v∧HRel base μ' mem' w' ∧Step mem.length μ mem w μ' mem' w'
theorem NextOk.of_op{x:Sem Value}{v:AV}{mem' :Mem}(h:OpOk P x base μ mem w v mem'):NextOk P (do pure (.value (←x))) base μ mem w v mem' :=by
 obtain⟨V,w',μ',h1,h2,h3,h4⟩:=h
 exact⟨.value V,w',μ',by simp[h1],.inl ⟨V,rfl,h2⟩,h3,h4⟩
theorem NextOk.of_val{x:Sem Value}{v:AV}(hH:HRel base μ mem w) (h:Val P x w μ mem.length v):NextOk P (do pure (.value (←x))) base μ mem w v mem:=
 .of_op (.of_val hH h)
theorem NextOk.pure{V:Value}{v:AV}(hH:HRel base μ mem w) (h:VRel μ mem.length v V):NextOk P (Pure.pure (.value V)) base μ mem w v mem:=
 ⟨.value V,w,μ,rfl,.inl ⟨V,rfl,h⟩,hH,.refl (Nat.le_refl _)⟩
theorem Hg{env:Env}{a:Act}{n:Nat}(hR:TRel μ n env a.tmps) (ps:Array (Nat×Operand)):
  (ps.toList.map fun p=>(p.1,a.eval p.2)).map (·.1)=(ps.toList.map fun p=>(p.1,get env p.2)).map (·.1)∧
  VRels μ n ((ps.toList.map fun p=>(p.1,get env p.2)).map (·.2)) ((ps.toList.map fun p=>(p.1,a.eval p.2)).map (·.2)):=by
 constructor
 ·simp[Function.comp_def]
 ·have:=xD hR (ps.toList.map (·.2))
  simpa [Function.comp_def] using this
theorem oQ{env:Env}{a:Act}{n:Nat}(hR:TRel μ n env a.tmps) (x:Option Operand):
  (x.map (get env)=none∧x.map a.eval=none)∨∃l L,x.map (get env)=some l∧x.map a.eval=some L∧VRel μ n l L:=by
 cases x with
 |none=>exact .inl ⟨rfl,rfl⟩
 |some x=>exact .inr ⟨_,_,rfl,rfl,aS hR x⟩
theorem P4{n:Nat}{ts:Array TypeId}{ty:TypeId}{s u:List UInt8}{X Y:Value}(e1:VRel μ n (.str s) X) (e2:VRel μ n (.str u) Y):Val P (Builtin.min_ ts ty #[X,Y]) w μ n (.str (if Op.bytesLess s u||s==u then s else u)):=by
 rw[e1.str,e2.str]
 refine .str ?_
 simp[Builtin.min_,Builtin.min2,Op.stringOp,asBool]
 split<;>rfl
theorem PZ{n:Nat}{ts:Array TypeId}{ty:TypeId}{s u:List UInt8}{X Y:Value}(e1:VRel μ n (.str s) X) (e2:VRel μ n (.str u) Y):Val P (Builtin.max_ ts ty #[X,Y]) w μ n (.str (if Op.bytesLess s u then u else s)):=by
 rw[e1.str,e2.str]
 refine .str ?_
 simp[Builtin.max_,Builtin.max2,Op.stringOp,asBool]
 cases Op.bytesLess s u<;>simp
theorem Ni(hT:cf P T) (hH:HRel base μ mem w) {env:Env}{a:Act}{o:Oper}{v:AV}{mem' :Mem}
  (hR:TRel μ mem.length env a.tmps) (h:aOp T env mem o.op=some (v,mem')):NextOk P (execOp a.eval o) base μ mem w v mem' :=by
 unfold aOp at h
 split at h
 ·rename_i x heq
  cases h;simp only[execOp,heq];exact .pure hH (aS hR x)
 ·rename_i x heq
  cases h;simp only[execOp,heq];exact .pure hH (aS hR x)
 ·rename_i c x y heq
  split at h
  ·rename_i t hc
   cases h
   have:=aS hR c
   rw[hc] at this
   simp only[execOp,heq,this.bool,asBool,pure_bind]
   cases t
   ·exact .pure hH (aS hR y)
   ·exact .pure hH (aS hR x)
  ·cases h
 ·rename_i e heq
  simp only[execOp,heq];exact .of_op (Gk hT hH h)
 ·rename_i e x heq
  simp only[execOp,heq];exact .of_op (LC hH (aS hR x) h)
 ·rename_i t ps heq
  split at h
  ·rename_i v' hb
   cases h
   obtain⟨p1,p2⟩:=Hg hR ps
   simp only[execOp,heq]
   refine .of_val hH ?_
   have:=Gl (P:=P) hT hb p1 p2 w
   have e:(⟨ps.toList.map fun p=>(p.1,a.eval p.2)⟩:Array (Nat×Value))=ps.map fun(i,x)=>(i,a.eval x):=by apply Array.ext';simp
   rw[e] at this;exact this
  ·cases h
 ·rename_i t n ps heq
  obtain⟨p1,p2⟩:=Hg hR ps
  simp only[execOp,heq]
  refine .of_op ?_
  have:=uy (P:=P) hT hH p1 p2 h
  have e:(⟨ps.toList.map fun p=>(p.1,a.eval p.2)⟩:Array (Nat×Value))=ps.map fun(i,x)=>(i,a.eval x):=by apply Array.ext';simp
  rw[e] at this;exact this
 ·rename_i t x heq
  split at h
  ·rename_i v' hb
   cases h
   simp only[execOp,heq];exact .of_val hH (yG hT hH (aS hR x) hb)
  ·cases h
 ·rename_i t x y heq
  split at h
  ·rename_i m hb
   cases h
   obtain⟨w',h1,h2,h3⟩:=Gv (P:=P) hT hH (aS hR x) (aS hR y) hb
   simp only[execOp,heq]
   exact⟨.skip,w',μ,by simp[h1],.inr ⟨rfl,rfl⟩,h2,h3⟩
  ·cases h
 ·rename_i x heq
  split at h
  ·rename_i b o hx
   cases h
   have:=aS hR x
   rw[hx] at this
   simp only[execOp,heq,this.ptr.2]
   refine .pure hH ?_
   rw[this.ptr.2] at this;exact this
  ·rename_i f cs hx
   cases h
   have:=aS hR x
   rw[hx] at this
   have h2:=this
   simp only[VRel] at h2
   obtain⟨Us,hU,_⟩:=h2
   simp only[execOp,heq,hU]
   refine .pure hH ?_
   rw[hU] at this;exact this
  ·cases h
 ·rename_i op t x y yt heq
  split at h
  ·rename_i v' hb
   cases h
   simp only[execOp,heq];exact .of_val hH (LA hT (aS hR x) (aS hR y) x y hb w)
  ·cases h
 ·rename_i op t x heq
  split at h
  ·rename_i v' hb
   cases h
   simp only[execOp,heq]
   refine .of_val hH ?_
   have hx:=aS hR x
   unfold aUn at hb
   split at hb
   ·rename_i hx';cases hb;rw[hx'] at hx;rw[hx.bool];exact .bool rfl
   ·rename_i hx';cases hb;rw[hx'] at hx;rw[hx.int];exact .int rfl
   ·cases hb
  ·cases h
 ·rename_i s d x heq
  split at h
  ·rename_i v' hb
   cases h
   simp only[execOp,heq];exact .of_val hH (AF hT (aS hR x) hb w)
  ·simp only[execOp,heq];exact .of_op (wW hT hH (aS hR x) h)
 ·rename_i f first capt heq
  split at h
  ·rename_i hf
   cases h
   simp only[execOp,heq]
   refine .of_val hH ⟨.func (.func f) (first.map a.eval) (capt.map a.eval),rfl,?_⟩
   simp only[VRel]
   have:first= #[]:=Array.eq_empty_of_size_eq_zero hf
   subst this
   refine⟨capt.toList.map a.eval,?_,xD hR capt.toList⟩
   simp only[Array.map_empty]
   congr 1
   apply Array.ext';simp
  ·cases h
 ·rename_i t l c heq
  simp only[execOp,heq];exact .of_op (w9 hT hH (aS hR l) (aS hR c) h)
 ·rename_i t x lo hi heq
  split at h
  ·rename_i v' hb
   cases h
   simp only[execOp,heq]
   refine .of_val hH ?_
   simp only[Option.map_none]
   exact Gt hT hH (aS hR x) (oQ hR lo) (oQ hR hi) hb
  ·simp only[execOp,heq]
   simp only[Option.map_none]
   split at h
   ·rename_i r hb
    cases h
    exact .of_op (Cu hT hH (aS hR x) (oQ hR lo) (oQ hR hi) hb)
   ·split at h
    ·rename_i v' hb
     cases h
     exact .of_val hH (sJ hT (aS hR x) (oQ hR lo) (oQ hR hi) (.inl ⟨rfl,rfl⟩) hb)
    ·cases h
 ·rename_i t x lo hi mx heq
  split at h
  ·rename_i v' hb
   cases h
   simp only[execOp,heq]
   refine .of_val hH ?_
   simp only[Option.map_some]
   exact sJ hT (aS hR x) (oQ hR lo) (oQ hR hi) (.inr ⟨_,_,rfl,rfl,aS hR mx⟩) hb
  ·cases h
 ·rename_i t x f heq
  split at h
  ·rename_i v' hb
   cases h
   simp only[execOp,heq];exact .of_val hH (wY hT (aS hR x) hb w)
  ·cases h
 ·rename_i t x f heq
  split at h
  ·rename_i v' hb
   cases h
   simp only[execOp,heq];exact .of_val hH (Gq hT (aS hR x) hb w)
  ·cases h
 ·rename_i t x i heq
  split at h
  ·rename_i v' hb
   cases h
   simp only[execOp,heq];exact .of_val hH (wZ hT (aS hR x) (aS hR i) hb w)
  ·cases h
 ·rename_i t x i heq
  split at h
  ·rename_i v' hb
   cases h
   simp only[execOp,heq];exact .of_val hH (Gr hT (aS hR x) (aS hR i) hb w)
  ·cases h
 ·rename_i t heq
  cases h
  simp only[execOp,heq,Option.map_none]
  exact .of_op (CK hH)
 ·rename_i t m k ok heq
  split at h
  ·rename_i v' hb
   cases h
   simp only[execOp,heq];exact .of_val hH (Cr hT hH (aS hR m) (aS hR k) hb)
  ·cases h
 ·rename_i t m k x heq
  split at h
  ·rename_i m' hb
   cases h
   obtain⟨w',h1,h2,h3⟩:=xb (P:=P) hT hH (aS hR m) (aS hR k) (aS hR x) hb
   simp only[execOp,heq]
   exact⟨.skip,w',μ,by simp[h1],.inr ⟨rfl,rfl⟩,h2,h3⟩
  ·cases h
 ·rename_i t m k heq
  simp only[execOp,heq];exact .of_op (yI hT hH (aS hR m) (aS hR k) h)
 ·rename_i t m s x heq
  split at h
  ·rename_i m' hb
   cases h
   obtain⟨w',h1,h2,h3⟩:=uA (P:=P) (t:=t) hH (aS hR m) (aS hR s) (aS hR x) hb
   simp only[execOp,heq]
   exact⟨.skip,w',μ,by simp[h1],.inr ⟨rfl,rfl⟩,h2,h3⟩
  ·cases h
 ·rename_i t i heq
  split at h
  ·rename_i cs hx
   split at h
   ·rename_i v' hi
    cases h
    have:=aS hR t
    rw[hx] at this
    simp only[VRel] at this
    obtain⟨Us,hU,hr⟩:=this
    obtain⟨V,hV,hv⟩:=hr.get i _ hi
    simp only[execOp,heq,hU]
    exact .of_val hH ⟨V,by simp[Instr.extract,hV],hv⟩
   ·cases h
  ·cases h
 ·rename_i x t heq
  split at h
  ·rename_i v' hb
   cases h
   simp only[execOp,heq,resolve,invoke,builtin,pure_bind]
   rw[show Array.map a.eval ⟨[x]⟩= #[a.eval x] by simp]
   exact .of_val hH (LG hT hH (aS hR x) hb)
  ·cases h
 ·rename_i s x t t2 heq
  simp only[execOp,heq,resolve,invoke,builtin,pure_bind]
  rw[show Array.map a.eval ⟨[s,x]⟩= #[a.eval s,a.eval x] by simp]
  split at h
  ·rename_i hi
   exact .of_op (AE hT hH (aS hR s) (aS hR x) hi h)
  ·split at h
   ·rename_i r hb
    cases h
    exact .of_op (Cq hT hH (aS hR s) (aS hR x) hb)
   ·exact .of_op (AB hT hH (aS hR s) (aS hR x) h)
 ·rename_i x t heq
  split at h
  ·rename_i v' hb
   cases h
   simp only[execOp,heq,resolve,invoke,builtin,pure_bind]
   rw[show Array.map a.eval ⟨[x]⟩= #[a.eval x] by simp]
   exact .of_val hH (LD hT (aS hR x) hb)
  ·cases h
 ·rename_i x t heq
  split at h
  ·rename_i m' hb
   cases h
   simp only[execOp,heq,resolve,invoke,builtin,pure_bind]
   rw[show Array.map a.eval ⟨[x]⟩= #[a.eval x] by simp]
   exact .of_op (Gp hT hH (aS hR x) hb)
  ·cases h
 ·rename_i x ts heq
  split at h
  ·rename_i v' hb
   cases h
   simp only[execOp,heq,resolve,invoke,builtin,pure_bind]
   rw[show Array.map a.eval ⟨[x]⟩= #[a.eval x] by simp]
   exact .of_val hH (xc hH _ _ (aS hR x) hb)
  ·cases h
 ·rename_i x y pt it heq
  simp only[execOp,heq,resolve,invoke,builtin,pure_bind]
  rw[show Array.map a.eval ⟨[x,y]⟩= #[a.eval x,a.eval y] by simp]
  exact .of_op (Cw hT hH (aS hR x) (aS hR y) h)
 ·rename_i x y ts heq
  split at h
  ·rename_i k i k' j hx hy
   split at h
   ·rename_i hk
    cases h;subst hk
    have e1:=aS hR x
    have e2:=aS hR y
    rw[hx] at e1;rw[hy] at e2
    simp only[execOp,heq,resolve,invoke,builtin,pure_bind]
    refine .of_val hH (.int ?_)
    simp[Builtin.min_,Builtin.min2,e1.int,e2.int]
   ·cases h
  ·rename_i s u hx hy
   cases h
   have e1:=aS hR x
   have e2:=aS hR y
   rw[hx] at e1;rw[hy] at e2
   simp only[execOp,heq,resolve,invoke,builtin,pure_bind]
   rw[show Array.map a.eval ⟨[x,y]⟩= #[a.eval x,a.eval y] by simp]
   exact .of_val hH (P4 e1 e2)
  ·cases h
 ·rename_i x y ts heq
  split at h
  ·rename_i k i k' j hx hy
   split at h
   ·rename_i hk
    cases h;subst hk
    have e1:=aS hR x
    have e2:=aS hR y
    rw[hx] at e1;rw[hy] at e2
    simp only[execOp,heq,resolve,invoke,builtin,pure_bind]
    refine .of_val hH (.int ?_)
    simp[Builtin.max_,Builtin.max2,e1.int,e2.int]
   ·cases h
  ·rename_i s u hx hy
   cases h
   have e1:=aS hR x
   have e2:=aS hR y
   rw[hx] at e1;rw[hy] at e2
   simp only[execOp,heq,resolve,invoke,builtin,pure_bind]
   rw[show Array.map a.eval ⟨[x,y]⟩= #[a.eval x,a.eval y] by simp]
   exact .of_val hH (PZ e1 e2)
  ·cases h
 ·cases h
end
end Go.Eng
namespace Go.Eng
def OM(P:Program) (f:FuncId):Prop:=∃fn,P.funcs[f]? =some fn∧fn.body.isSome=true∧(fn.name == "runtime.NumGoroutine")=false
abbrev Fr(ro:Option Nat):Fence:={ Fence.wide with round:=ro }
theorem xz{ro:Option Nat}{n:Nat}{P:Program}{f:FuncId}{args:Array Value}{w:World}{R:Ending→World→Prop}:CallsIn (Fr ro) n P f args w R↔Calls P f args w R:=
 callsIn_wide (n:=n)
def uQ:String:=String.ofList ([105,110,116,101,114,110,97,108,47,115,116,114,99,111,110,118,46,117,105,110,116,54,52,112,111,119,49,48].map Char.ofNat)
structure GOk (P:Program) (base:Nat) (w:World):Prop where
 below:P.globals.size≤base
 tab:Lib.TabIs P w uQ .u64 Lib.pow10Tab
theorem GOk.tabOf{P:Program}{base:Nat}{w:World}(h:GOk P base w) {s:String}(hs:uQ=s):Lib.TabIs P w s .u64 Lib.pow10Tab:=hs▸h.tab
theorem Kc{base:Nat}{μ:Nat→Place}{mem:Mem}{w:World}(hH:HRel base μ mem w) {b:Nat}(hb:dn mem b):base≤(μ b).blk:=by
 obtain⟨s,hs,ho⟩:=hb
 have:=hH.slot b s hs
 cases s with
 |absent=>cases ho
 |cells own es cs=>simp only[Slot.own] at ho;subst ho;simp only[SRel] at this;obtain⟨_,_,_,_,_,_,_,h⟩:=this;exact(h trivial).2.2.2
 |map es=>simp only[SRel] at this;obtain⟨_,_,_,h,_⟩:=this;exact h.1
 |fmap es=>cases ho
 |loop r=>simp only[SRel] at this;obtain⟨_,_,h,_⟩:=this;exact h
theorem AK{P:Program}{name:String}{g:Nat}(h:P.globalNamed name=some g):g<P.globals.size:=by
 unfold Program.globalNamed at h
 split at h
 ·rename_i g' hg
  cases h
  have:g∈(List.range P.globals.size).filter fun g=>(P.globals[g]?).any (·.name==name):=by rw[hg];simp
  simpa using (List.mem_filter.1 this).1
 ·cases h
theorem Ks{P:Program}{w w' :World}{name:String}(h:∀k,k<P.globals.size→w'.heap[k]? =w.heap[k]?):w'.var? P name=w.var? P name:=by
 unfold World.var?
 cases hg:P.globalNamed name with
 |none=>rfl
 |some g=>simp only[Option.bind_some];rw[h g (AK hg)]
theorem GOk.step{P:Program}{base m0:Nat}{μ μ' :Nat→Place}{mem mem' :Mem}{w w' :World}(h:GOk P base w) (hH:HRel base μ mem w) (hS:Step m0 μ mem w μ' mem' w'):GOk P base w' :=by
 refine⟨h.below,?_⟩
 have:=h.tab
 unfold Lib.TabIs at this ⊢
 rw[←this]
 refine Ks fun k hk=>hS.frame k ?_ fun b hb=>?_
 ·have:=h.below;have:=hH.base_le;omega
 ·have:=Kc hH hb;have:=h.below;omega
structure MOk (P:Program) (base h0:Nat) (w:World) (ds:List Deferred):Prop where
 glob:GOk P base w
 base_le:base≤h0
 le:h0≤w.heap.size
 each:∀d∈ds,∃r,d={ target:=.collected r,args:= #[] }∧h0≤r∧w.heap[r]? =some (.deferred (some []))
 nodup:(ds.map (·.target)).Nodup
theorem MOk.nil{P:Program}{base:Nat}(w:World) (hg:GOk P base w) {h0:Nat}(hb:base≤h0) (h:h0≤w.heap.size):MOk P base h0 w []:=⟨hg,hb,h,fun _ h=>by(cases h),by simp⟩
theorem mL{base:Nat}{μ:Nat→Place}{mem:Mem}{w:World}(hH:HRel base μ mem w) {r:Nat}{x} (hr:w.heap[r]? =some (.deferred x)) {b:Nat}{s:Slot}(hb:mem[b]? =some s) (hs:s≠ .absent):(μ b).blk≠r:=by
 intro e
 have:=hH.slot b s hb
 cases s with
 |absent=>exact hs rfl
 |cells own es cs=>simp only[SRel] at this;obtain⟨_,_,_,h1,_⟩:=this;rw[e,hr] at h1;cases h1
 |map es=>simp only[SRel] at this;obtain⟨_,_,h1,_⟩:=this;rw[e,hr] at h1;cases h1
 |fmap es=>simp only[SRel] at this;obtain⟨_,_,h1,_⟩:=this;rw[e,hr] at h1;cases h1
 |loop r=>simp only[SRel] at this;obtain⟨_,h1,_⟩:=this;rw[e,hr] at h1;cases h1
theorem MOk.step{P:Program}{h0 base m0:Nat}{μ μ' :Nat→Place}{mem mem' :Mem}{w w' :World}{ds:List Deferred}(h:MOk P base h0 w ds) (hH:HRel base μ mem w) (hS:Step m0 μ mem w μ' mem' w'):MOk P base h0 w' ds:=by
 refine⟨h.glob.step hH hS,h.base_le,Nat.le_trans h.le hS.size,fun d hd=>?_,h.nodup⟩
 obtain⟨r,e,h1,h2⟩:=h.each d hd
 refine⟨r,e,h1,?_⟩
 rw[hS.frame r (Array.getElem?_eq_some_iff.1 h2).1 fun b hb=>?_,h2]
 obtain⟨s,hb,ho⟩:=hb
 exact mL hH h2 hb (Slot.own_ne ho)
def ACalls(P:Program) (f:FuncId) (args:List AV) (mem:Mem) (R:AV→Mem→Prop):Prop:=
 OM P f∧∀base μ w Vs,GOk P base w→HRel base μ mem w→VRels μ mem.length args Vs→
  Calls P f ⟨Vs⟩ w fun e w' =>∃V v mem' μ',e=.returned V∧VRel μ' mem'.length v V∧HRel base μ' mem' w' ∧Step mem.length μ mem w μ' mem' w' ∧R v mem'
def ACallsTo(P:Program) (f:FuncId) (args:List AV) (mem:Mem) (v:AV) (mem' :Mem):Prop:=ACalls P f args mem fun v1 m1=>v1=v∧m1=mem'
theorem ACalls.mono{P f args mem} {R R' :AV→Mem→Prop}(h:ACalls P f args mem R) (hr:∀v m,R v m→R' v m):ACalls P f args mem R' :=
 ⟨h.1,fun base μ w Vs h0 h1 h2=>(h.2 base μ w Vs h0 h1 h2).mono fun _ _ ⟨V,v,m,μ',a,b,c,d,r⟩=>⟨V,v,m,μ',a,b,c,d,hr _ _ r⟩⟩
def AYields(P:Program) (b:Nat) (args:List AV) (mem:Mem) (R:AV→Mem→Prop):Prop:=
 ∀base μ w Vs,GOk P base w→HRel base μ mem w→VRels μ mem.length args Vs→b<mem.length→∃f tmps assign body,
  (Instr.yield (μ b).blk ⟨Vs⟩).run P w=.ok (.round (μ b).blk f tmps assign body) w∧
  RoundIn Fence.wide 0 P (μ b).blk f tmps assign body w fun e w' =>∃V v mem' μ',e=.returned V∧VRel μ' mem'.length v V∧HRel base μ' mem' w' ∧Step mem.length μ mem w μ' mem' w' ∧R v mem'
def eD(P:Program) (b:Nat) (args:List AV) (mem:Mem) (v:AV) (mem' :Mem):Prop:=AYields P b args mem fun v1 m1=>v1=v∧m1=mem'
def xL(env:Env):Op→Option (Nat×List AV)
 |.call { callee:=.value x,args,argTypes:=_ }=>match get env x with
  |.yield b=>some (b,Rv env args)
  |_=>none
 |_=>none
def CB(env:Env):Op→Option (FuncId×List AV)
 |.call { callee:=.value x,args,argTypes:=_ }=>match get env x with
  |.func f caps=>some (f,Rv env args++caps)
  |_=>none
 |_=>none
def pf(ops:Array Oper) (env:Env) (o:Oper):Option Bool:=
 match o.guard with
 |none=>some true
 |some (j,want)=>match (ops[j]?).bind (·.dst) with
  |some d=>match ab env d with
   |.bool b=>some (b==want)
   |.tuple []=>some false
   |_=>none
  |none=>none
def putE(env:Env) (dst:Option Tmp) (v:AV):Env:=
 match dst with
 |some d=>(d,v)::env
 |none=>env
structure St where
 env:Env
 mem:Mem
def AJ(N:Nat) (o:Oper):Bool:=match o.dst with
 |some d=>decide (d<N)
 |none=>true
def tT(P:Program) (T:TypeId→Option TyI) (env:Env) (mem:Mem) (o:Oper) (v:AV) (mem' :Mem):Prop:=
 aOp T env mem o.op=some (v,mem')∨(∃f args,CB env o.op=some (f,args)∧ACallsTo P f args mem v mem')∨
  ∃b args,xL env o.op=some (b,args)∧eD P b args mem v mem'
def kg(P:Program) (T:TypeId→Option TyI) (N:Nat) (ops:Array Oper):List Oper→St→St→Prop
 | [],st,st' =>st' =st
 |o::os,st,st' =>∃b,pf ops st.env o=some b∧AJ N o=true∧
   (b=false→kg P T N ops os ⟨putE st.env o.dst (.tuple []),st.mem⟩ st')∧
   (b=true→∃v mem',tT P T st.env st.mem o v mem' ∧kg P T N ops os ⟨putE st.env o.dst v,mem'⟩ st')
section
variable {P:Program}{T:TypeId→Option TyI}{μ:Nat→Place}{mem:Mem}{base:Nat}{w:World}
theorem TRel.putE{n N:Nat}{env:Env}{a:Act}{o:Oper}{v:AV}{V:Value}(h:TRel μ n env a.tmps) (hN:a.tmps.size=N) (hd:AJ N o=true) (hv:VRel μ n v V):
  TRel μ n (putE env o.dst v) (a.put o.dst V).tmps:=by
 unfold AJ at hd
 cases ho:o.dst with
 |none=>simpa [Go.Eng.putE,Act.put] using h
 |some d=>
  rw[ho] at hd
  simp only[decide_eq_true_eq] at hd
  exact h.put (by rw[hN];exact hd) hv
theorem dN(a:Act) (d:Option Tmp) (V:Value):(a.put d V).tmps.size=a.tmps.size:=by
 cases d<;>simp[Act.put]
theorem ee(a:Act) (d:Option Tmp) (V:Value):(a.put d V).defers=a.defers:=by
 cases d<;>rfl
theorem mI{env:Env}{n:Nat}{ops:Array Oper}{a:Act}{o:Oper}{b:Bool}(hR:TRel μ n env a.tmps) (h:pf ops env o=some b):
  Region.wanted o (yielded ops a.tmps)=b:=by
 unfold pf at h
 unfold Region.wanted
 split at h
 ·rename_i hg;cases h;simp[hg]
 ·rename_i j want hg
  simp only[hg]
  split at h
  ·rename_i d hd
   split at h
   ·rename_i b' hb
    cases h
    have:=hR d
    rw[hb] at this
    have hv:=this.bool
    simp only[yielded,hd,Option.bind_some]
    have hsome:a.tmps[d]? =some (.bool b'):=by
     rw[Array.getD_eq_getD_getElem?] at hv
     cases hx:a.tmps[d]? with
     |none=>rw[hx] at hv;simp[undef] at hv
     |some y=>rw[hx] at hv;simp at hv;rw[hv]
    rw[hsome]
    cases b' <;>cases want<;>rfl
   ·rename_i hb
    cases h
    have:=hR d
    rw[hb] at this
    simp only[VRel,VRels] at this
    obtain⟨Us,hv,rfl⟩:=this
    simp only[yielded,hd,Option.bind_some]
    rw[Array.getD_eq_getD_getElem?] at hv
    cases hx:a.tmps[d]? with
    |none=>rfl
    |some y=>rw[hx] at hv;simp only[Option.getD_some] at hv;rw[hv];cases want<;>rfl
   ·cases h
  ·cases h
theorem vx{f:FuncId}(h:OM P f) (args:Array Value) (w:World):(callFunc f args).run P w=.ok (.enter f args) w:=by
 obtain⟨fn,h1,h2,h3⟩:=h
 have hb:¬fn.body=none:=by intro e;rw[e] at h2;cases h2
 have hn:¬fn.name = "runtime.NumGoroutine" := by simpa using h3
 simp[callFunc,h1,hn,hb]
theorem Ct{T:TypeId→Option TyI}{env:Env}{mem:Mem}{op:Op}{r} (h:aOp T env mem op=some r):∀c,op≠ .defer c:=by
 intro c e
 subst e
 simp[aOp] at h
theorem oO(hT:cf P T) (hG:GOk P base w) (hH:HRel base μ mem w) {N:Nat}{env:Env}{a:Act}{o:Oper}{v:AV}{mem' :Mem}
  (hR:TRel μ mem.length env a.tmps) (hN:a.tmps.size=N) (hd:AJ N o=true) (h:tT P T env mem o v mem')
  {K:Act→World→Prop}{Q:Exit→Act→World→Prop}{ro:Option Nat}
  (hK:∀V w' μ',VRel μ' mem'.length v V→HRel base μ' mem' w' →TRel μ' mem'.length (putE env o.dst v) (a.put o.dst V).tmps→Step mem.length μ mem w μ' mem' w' →K (a.put o.dst V) w'):
  o.wpIn (Fr ro) 0 P a w K Q:=by
 refine⟨fun _ _=>trivial,?_⟩
 rcases h with h | ⟨f,args,hc,hcall⟩ | ⟨b,args,hc,hy⟩
 ·rw[Oper.semAt_eq _ _ _ (Ct h)]
  obtain⟨N',w',μ',h1,h2,h3,h4⟩:=Ni hT hH hR h
  rw[h1]
  have hR' :TRel μ' mem'.length env a.tmps:=hR.mono h4.len h4.agree
  rcases h2 with⟨V,rfl,hv⟩ | ⟨rfl,rfl⟩
  ·exact hK V w' μ' hv h3 (hR'.putE hN hd hv) h4
  ·have hv:VRel μ' mem'.length .undef undef:=by simp[VRel]
   exact hK undef w' μ' hv h3 (hR'.putE hN hd hv) h4
 ·unfold CB at hc
  split at hc
  ·rename_i x xs ts heq
   split at hc
   ·rename_i f' caps hx
    cases hc
    have hf:=aS hR x
    rw[hx] at hf
    simp only[VRel] at hf
    obtain⟨Us,hU,hus⟩:=hf
    have hrun:(execOp a.eval o).run P w=.ok (.enter f ⟨xs.toList.map a.eval++Us⟩) w:=by
     simp only[execOp,heq,resolve,hU,Deferred.ofValue,pure_bind,invoke]
     rw[vx hcall.1]
     congr 2
     apply Array.ext'
     simp
    rw[Oper.semAt_eq _ _ _ (by rw[heq];intro c e;cases e),hrun]
    refine⟨fun h=>by simp[Fence.wide] at h,xz.2 ((hcall.2 base μ w _ hG hH ((xD hR xs.toList).append hus)).mono ?_)⟩
    rintro e w' ⟨V,v',m',μ',rfl,q1,q2,q3,rfl,rfl⟩
    exact hK V w' μ' q1 q2 ((hR.mono q3.len q3.agree).putE hN hd q1) q3
   ·cases hc
  ·cases hc
 ·unfold xL at hc
  split at hc
  ·rename_i x xs ts heq
   split at hc
   ·rename_i b' hx
    cases hc
    have hf:=aS hR x
    rw[hx] at hf
    simp only[VRel] at hf
    obtain⟨hb,hU⟩:=hf
    obtain⟨f,tmps,asg,body,h1,h2⟩:=hy base μ w _ hG hH (xD hR xs.toList) hb
    have hrun:(execOp a.eval o).run P w=.ok (.round (μ b).blk f tmps asg body) w:=by
     rw[←h1]
     simp only[execOp,heq,resolve,hU,Deferred.ofValue,pure_bind,invoke]
     have e: #[]++xs.map a.eval=(⟨xs.toList.map a.eval⟩:Array Value):=by apply Array.ext';simp
     rw[e]
    rw[Oper.semAt_eq _ _ _ (by rw[heq];intro c e;cases e),hrun]
    refine⟨fun h=>by simp[Fence.wide] at h,RoundIn.mono (F:=Fr ro) h2 ?_⟩
    rintro e w' ⟨V,v',m',μ',rfl,q1,q2,q3,rfl,rfl⟩
    exact hK V w' μ' q1 q2 ((hR.mono q3.len q3.agree).putE hN hd q1) q3
   ·cases hc
  ·cases hc
theorem tz(hT:cf P T) {N:Nat}{ops:Array Oper}{Q:Exit→Act→World→Prop}:∀{l:List Oper}{st st' :St}{μ:Nat→Place} {w:World} {a:Act} {m0:Nat}{μ0:Nat→Place} {mem0:Mem} {w0:World} {h0:Nat} {ro:Option Nat},
  kg P T N ops l st st' →HRel base μ st.mem w→TRel μ st.mem.length st.env a.tmps→a.tmps.size=N→MOk P base h0 w a.defers→m0≤st.mem.length→Step m0 μ0 mem0 w0 μ st.mem w→
  (∀a' w' μ',HRel base μ' st'.mem w' →TRel μ' st'.mem.length st'.env a'.tmps→a'.tmps.size=N→MOk P base h0 w' a'.defers→m0≤st'.mem.length→Step m0 μ0 mem0 w0 μ' st'.mem w' →Q .normal a' w')→
  wpListIn (Fr ro) 0 P ops Q l a w
 | [],st,st',μ,w,a,m0,μ0,mem0,w0,h0,ro,h,hH,hR,hN,hdf,hm,hS,hQ=>by
  simp only[kg] at h
  subst h
  exact wpListIn_nil (hQ a w μ hH hR hN hdf hm hS)
 |o::os,st,st',μ,w,a,m0,μ0,mem0,w0,h0,ro,h,hH,hR,hN,hdf,hm,hS,hQ=>by
  obtain⟨b,hb,hd,hf,ht⟩:=h
  refine wpListIn_step fun K hK=>?_
  rw[mI hR hb]
  cases b with
  |false=>
   simp only[Bool.false_eq_true,if_false]
   refine⟨fun _ _=>trivial,?_⟩
   refine hK _ _ (tz hT (hf rfl) hH (hR.putE hN hd (by simp[VRel,VRels,undef])) (by rw[dN];exact hN) (by rw[ee];exact hdf) hm hS hQ)
  |true=>
   simp only[if_true]
   obtain⟨v,mem',hstep,hrun⟩:=ht rfl
   refine oO hT hdf.glob hH hR hN hd hstep fun V w' μ' q1 q2 q3 q4=>hK _ _ ?_
   exact tz hT hrun q2 q3 (by rw[dN];exact hN) (by rw[ee];exact hdf.step hH q4) (Nat.le_trans hm q4.len) (hS.trans (q4.mono hm)) hQ
end
end Go.Eng
namespace Go.Eng
def AWP(P:Program) (tp:Bool) (N m0:Nat) (c:Code) (st:St) (Q:Exit→St→Prop):Prop:=
 ∀(ro:Option Nat) (h0:Nat) base μ w a,(tp=true→ro=none)→HRel base μ st.mem w→TRel μ st.mem.length st.env a.tmps→a.tmps.size=N→MOk P base h0 w a.defers→m0≤st.mem.length→
  c.wpIn (Fr ro) 0 P (fun e a' w' =>∃st' μ',HRel base μ' st'.mem w' ∧TRel μ' st'.mem.length st'.env a'.tmps∧a'.tmps.size=N∧MOk P base h0 w' a'.defers∧m0≤st'.mem.length∧
   Step m0 μ st.mem w μ' st'.mem w' ∧Q e st') a w
section
variable {P:Program}{T:TypeId→Option TyI}{tp:Bool}{N m0:Nat}{Q:Exit→St→Prop}{st:St}
theorem AWP.mono{c:Code}{Q' :Exit→St→Prop}(h:AWP P tp N m0 c st Q) (hq:∀e s,Q e s→Q' e s):AWP P tp N m0 c st Q' :=
 fun ro h0 base μ w a hro h1 h2 h3 h4 h5=>wpIn_mono (h ro h0 base μ w a hro h1 h2 h3 h4 h5) fun _ _ _ ⟨s,μ',a1,a2,a3,a4,a5,a6,a7⟩=>⟨s,μ',a1,a2,a3,a4,a5,a6,hq _ _ a7⟩
theorem PE(h:Q .normal st):AWP P tp N m0 .skip st Q:=
 fun _ _ _ μ _ _ _ h1 h2 h3 h4 h5=>wpIn_skip ⟨st,μ,h1,h2,h3,h4,h5,.refl h5,h⟩
theorem PC{id:Nat}(h:Q (.exit id) st):AWP P tp N m0 (.exit id) st Q:=
 fun _ _ _ μ _ _ _ h1 h2 h3 h4 h5=>wpIn_exit ⟨st,μ,h1,h2,h3,h4,h5,.refl h5,h⟩
theorem QP(h:Q .ret st):AWP P tp N m0 .ret st Q:=
 fun _ _ _ μ _ _ _ h1 h2 h3 h4 h5=>wpIn_ret ⟨st,μ,h1,h2,h3,h4,h5,.refl h5,h⟩
def R3(R:St→Prop) (Q:Exit→St→Prop):Exit→St→Prop
 |.normal,s=>R s
 |e,s=>Q e s
theorem uD{x y:Code}(h:AWP P tp N m0 x st (R3 (fun s=>AWP P tp N m0 y s Q) Q)):AWP P tp N m0 (.seq x y) st Q:=by
 intro ro h0 base μ w a hro h1 h2 h3 h4 h5
 refine wpIn_seq (wpIn_mono (h ro h0 base μ w a hro h1 h2 h3 h4 h5) ?_)
 rintro e a' w' ⟨s,μ',b1,b2,b3,b4,b5,b6,b7⟩
 cases e with
 |normal=>
  refine wpIn_mono (b7 ro h0 base μ' w' a' hro b1 b2 b3 b4 b5) ?_
  rintro e a2 w2 ⟨s2,μ2,c1,c2,c3,c4,c5,c6,c7⟩
  exact⟨s2,μ2,c1,c2,c3,c4,c5,b6.trans c6,c7⟩
 |_=>exact⟨s,μ',b1,b2,b3,b4,b5,b6,b7⟩
theorem JN{c:Operand}{x y:Code}{b:Bool}(hc:get st.env c=.bool b) (ht:b=true→AWP P tp N m0 x st Q) (hf:b=false→AWP P tp N m0 y st Q):
  AWP P tp N m0 (.cond c x y) st Q:=by
 intro ro h0 base μ w a hro h1 h2 h3 h4 h5
 have hv:=aS h2 c
 rw[hc] at hv
 exact wpIn_cond_split hv.bool (fun e=>ht e ro h0 base μ w a hro h1 h2 h3 h4 h5) (fun e=>hf e ro h0 base μ w a hro h1 h2 h3 h4 h5)
def JP(id:Nat) (Q:Exit→St→Prop):Exit→St→Prop
 |.exit i,s=>if i=id then Q .normal s else Q (.exit i) s
 |e,s=>Q e s
theorem yO{id:Nat}{c:Code}(h:AWP P tp N m0 c st (JP id Q)):AWP P tp N m0 (.block id c) st Q:=by
 intro ro h0 base μ w a hro h1 h2 h3 h4 h5
 refine wpIn_block (wpIn_mono (h ro h0 base μ w a hro h1 h2 h3 h4 h5) ?_)
 rintro e a' w' ⟨s,μ',b1,b2,b3,b4,b5,b6,b7⟩
 cases e with
 |exit i=>
  simp only[Exit.inBlock,JP] at b7 ⊢
  split at b7
  ·rename_i hi;rw[if_pos hi];exact⟨s,μ',b1,b2,b3,b4,b5,b6,b7⟩
  ·rename_i hi;rw[if_neg hi];exact⟨s,μ',b1,b2,b3,b4,b5,b6,b7⟩
 |_=>exact⟨s,μ',b1,b2,b3,b4,b5,b6,b7⟩
theorem LL(hT:cf P T) {id:Nat}{ops:Array Oper}{st' :St}(h:kg P T N ops ops.toList st st') (hq:Q .normal st'):
  AWP P tp N m0 (.region id ops false) st Q:=by
 intro ro h0 base μ w a hro h1 h2 h3 h4 h5
 exact wpIn_region_list (tz hT h h1 h2 h3 h4 h5 (.refl h5) fun a' w' μ' c1 c2 c3 c4 c5 c6=>⟨st',μ',c1,c2,c3,c4,c5,c6,hq⟩)
theorem v8{F:Fence}{r:Nat}{σ:Type}{c:Code}{Q:Exit→Act→World→Prop}(I:σ→Act→World→Prop) (m:σ→Nat)
  (round:∀s a w,I s a w→c.wpIn F r P (Exit.then (fun a' w' =>∃s',I s' a' w' ∧m s' <m s) Q) a w):
  ∀{s a w},I s a w→(Code.loop c).wpIn F r P Q a w:=by
 intro s a w h₀ b k cs hro hb hr
 have key:∀n s a w,m s=n→I s a w→
   ∃e a' w',Q e a' w' ∧ArrivesIn (Machine.fenced P F) P (lone (b.atR a (.code c::.inLoop c::k)) cs w) b k cs e a' w' :=by
  intro n
  induction n using Nat.strongRecOn with
  |_ n ih=>
   intro s a w hn hI
   obtain⟨e,a₁,w₁,hq,harr⟩:=round s a w hI b (.inLoop c::k) cs hro hb hr
   cases e with
   |normal=>
    obtain⟨s',hI₁,hlt⟩:=hq
    obtain⟨e₂,a₂,w₂,hq₂,harr₂⟩:=ih (m s') (hn▸hlt) s' a₁ w₁ rfl hI₁
    exact⟨e₂,a₂,w₂,hq₂,.of_steps (StepsIn.trans harr (.one (fenced_calm hb hr rfl) stepR_inLoop)) harr₂⟩
   |exit id=>exact⟨_,a₁,w₁,hq,.pass (x:=.inLoop c) rfl (fun _ _=>.inl (by simp)) harr⟩
   |goto l=>exact⟨_,a₁,w₁,hq,.pass (x:=.inLoop c) rfl (fun _ _=>.inl (by simp)) harr⟩
   |ret=>exact⟨_,a₁,w₁,hq,.pass (x:=.inLoop c) rfl (fun _ _=>.inl (by simp)) harr⟩
   |panic ch=>exact⟨_,a₁,w₁,hq,.pass (x:=.inLoop c) rfl (fun _ _=>.inl (by simp)) harr⟩
   |outgrown=>exact⟨_,a₁,w₁,hq,.pass (x:=.inLoop c) rfl (fun _ _=>.inl (by simp)) harr⟩
 obtain⟨e,a',w',hq,harr⟩:=key _ s a w rfl h₀
 exact⟨e,a',w',hq,.of_steps (.one (fenced_calm hb hr rfl) stepR_loop) harr⟩
theorem PD{σ:Type}{c:Code}(I:σ→St→Prop) (m:σ→Nat) {s:σ}(hI0:I s st)
  (round:∀s st,I s st→AWP P tp N m0 c st (R3 (fun st' =>∃s',I s' st' ∧m s' <m s) Q)):AWP P tp N m0 (.loop c) st Q:=by
 intro ro h0 base μ w a hro h1 h2 h3 h4 h5
 refine v8 (σ:=σ) (fun s a' w' =>∃st' μ',HRel base μ' st'.mem w' ∧TRel μ' st'.mem.length st'.env a'.tmps∧a'.tmps.size=N∧MOk P base h0 w' a'.defers∧m0≤st'.mem.length∧
   Step m0 μ st.mem w μ' st'.mem w' ∧I s st') m ?_ (s:=s) ⟨st,μ,h1,h2,h3,h4,h5,.refl h5,hI0⟩
 rintro s a' w' ⟨st',μ',b1,b2,b3,b4,b5,b6,b7⟩
 refine wpIn_mono (round s st' b7 ro h0 base μ' w' a' hro b1 b2 b3 b4 b5) ?_
 rintro e a2 w2 ⟨s2,μ2,c1,c2,c3,c4,c5,c6,c7⟩
 cases e with
 |normal=>
  obtain⟨s',d1,d2⟩:=c7
  exact⟨s',⟨s2,μ2,c1,c2,c3,c4,c5,b6.trans c6,d1⟩,d2⟩
 |_=>exact⟨s2,μ2,c1,c2,c3,c4,c5,b6.trans c6,c7⟩
def Weak(m0:Nat) (st st1:St):Prop:=∀base μ w tmps,HRel base μ st.mem w→TRel μ st.mem.length st.env tmps→m0≤st.mem.length→
 ∃μ1,HRel base μ1 st1.mem w∧TRel μ1 st1.mem.length st1.env tmps∧m0≤st1.mem.length∧Step m0 μ st.mem w μ1 st1.mem w
theorem PF{c:Code}{st1:St}(hw:Weak m0 st st1) (h:AWP P tp N m0 c st1 Q):AWP P tp N m0 c st Q:=by
 intro ro h0 base μ w a hro h1 h2 h3 h4 h5
 obtain⟨μ1,b1,b2,b3,b4⟩:=hw base μ w a.tmps h1 h2 h5
 refine wpIn_mono (h ro h0 base μ1 w a hro b1 b2 h3 h4 b3) ?_
 rintro e a2 w2 ⟨s2,μ2,c1,c2,c3,c4,c5,c6,c7⟩
 exact⟨s2,μ2,c1,c2,c3,c4,c5,b4.trans c6,c7⟩
theorem Weak.trans{s1 s2 s3:St}(h:Weak m0 s1 s2) (h' :Weak m0 s2 s3):Weak m0 s1 s3:=by
 intro base μ w tmps h1 h2 h3
 obtain⟨μ1,b1,b2,b3,b4⟩:=h base μ w tmps h1 h2 h3
 obtain⟨μ2,c1,c2,c3,c4⟩:=h' base μ1 w tmps b1 b2 b3
 exact⟨μ2,c1,c2,c3,b4.trans c4⟩
theorem Weak.env{env env1:Env}{mem:Mem}(h:∀t,ab env1 t=ab env t∨ab env1 t=.undef):Weak m0 ⟨env,mem⟩ ⟨env1,mem⟩:=by
 intro base μ w tmps h1 h2 h3
 refine⟨μ,h1,fun t=>?_,h3,.refl h3⟩
 rcases h t with e | e
 ·rw[e];exact h2 t
 ·rw[e];simp[VRel]
theorem AWP.weakQ{c:Code}{Q' :Exit→St→Prop}(h:AWP P tp N m0 c st Q') (hq:∀e s,Q' e s→∃s1,Weak m0 s s1∧Q e s1):AWP P tp N m0 c st Q:=by
 intro ro h0 base μ w a hro h1 h2 h3 h4 h5
 refine wpIn_mono (h ro h0 base μ w a hro h1 h2 h3 h4 h5) ?_
 rintro e a2 w2 ⟨s2,μ2,c1,c2,c3,c4,c5,c6,c7⟩
 obtain⟨s1,hw,hQ⟩:=hq e s2 c7
 obtain⟨μ1,b1,b2,b3,b4⟩:=hw base μ2 w2 a2.tmps c1 c2 c5
 exact⟨s1,μ1,b1,b2,c3,c4,b3,c6.trans b4,hQ⟩
end
end Go.Eng
namespace Go.Eng
def rho(m0:Nat) (ks:List Nat) (b:Nat):Option Nat:=if b<m0 then some b else (ks.idxOf? b).map (m0+·)
def oZ(ρ:Nat→Option Nat) (env:Env):Env:=env.map fun e=>(e.1,e.2.ren ρ)
def Slot.ren(ρ:Nat→Option Nat):Slot→Slot
 |.absent=>.absent
 |.cells own es cs=>.cells own es (AV.rens ρ cs)
 |.map es=>.map (es.map fun e=>(e.1.ren ρ,e.2.ren ρ))
 |.fmap es=>.fmap (es.map fun e=>(e.1.ren ρ,e.2.ren ρ))
 |.loop r=>.loop { r with env:=oZ ρ r.env }
def keep(m0:Nat) (ks:List Nat) (mem:Mem):Mem:=ks.map fun k=>(mem.getD k .absent).ren (rho m0 ks)
def compact(m0:Nat) (ks:List Nat) (mem:Mem):Mem:=(mem.take m0).map (Slot.ren (rho m0 ks))++keep m0 ks mem
def AM(m0 n:Nat) (ks:List Nat):Bool:=decide ks.Nodup&&ks.all fun k=>decide (m0≤k∧k<n)
theorem fV(ρ:Nat→Option Nat):∀(env:Env) (t:Nat),ab (oZ ρ env) t=(ab env t).ren ρ
 | [],t=>by simp[oZ,ab,AV.ren]
 |(k,v)::r,t=>by
  simp only[oZ,List.map_cons,ab]
  by_cases h:k=t
  ·simp[h]
  ·simp only[h,if_false];exact fV ρ r t
section
variable {μ:Nat→Place}{mem:Mem}{base:Nat}{w:World}
theorem SRel.ren{μ μ' :Nat→Place}{n n' base:Nat}{w:World}{p:Place}{s:Slot}{ρ:Nat→Option Nat}
  (hρ:∀b b',b<n→ρ b=some b' →b' <n' ∧μ' b' =μ b) (h:SRel μ n base w p s):SRel μ' n' base w p (s.ren ρ):=by
 cases s with
 |absent=>trivial
 |cells own es cs=>
  simp only[SRel,Slot.ren] at h ⊢
  obtain⟨cur,e,fr,h1,h2,h3,h4,h5⟩:=h
  refine⟨cur,e,fr,h1,h2,by rw[fZ,List.length_map];exact h3,fun j v hv=>?_,h5⟩
  rw[fZ,List.getElem?_map] at hv
  simp only[Option.map_eq_some_iff] at hv
  obtain⟨v0,hv0,rfl⟩:=hv
  obtain⟨V,hV,hr⟩:=h4 j v0 hv0
  exact⟨V,hV,hr.ren hρ⟩
 |map es=>
  simp only[SRel,Slot.ren] at h ⊢
  obtain⟨ents,clock,h1,h2,h3,h4⟩:=h
  refine⟨ents,clock,h1,h2,by rw[List.length_map];exact h3,fun j e he=>?_⟩
  rw[List.getElem?_map] at he
  simp only[Option.map_eq_some_iff] at he
  obtain⟨e0,he0,rfl⟩:=he
  obtain⟨E,hE,hr1,hr2⟩:=h4 j e0 he0
  exact⟨E,hE,hr1.ren hρ,hr2.ren hρ⟩
 |fmap es=>
  simp only[SRel,Slot.ren] at h ⊢
  obtain⟨ents,clock,h1,h2,h3,h4⟩:=h
  refine⟨ents,clock,h1,h2,by rw[List.length_map];exact h3,fun j e he=>?_⟩
  rw[List.getElem?_map] at he
  simp only[Option.map_eq_some_iff] at he
  obtain⟨e0,he0,rfl⟩:=he
  obtain⟨E,hE,hr1,hr2⟩:=h4 j e0 he0
  exact⟨E,hE,hr1.ren hρ,hr2.ren hρ⟩
 |loop r=>
  simp only[SRel,Slot.ren] at h ⊢
  obtain⟨L,h1,h2,h3⟩:=h
  exact⟨L,h1,h2,{ h3 with tmps:=fun t=>by rw[fV];exact(h3.tmps t).ren hρ }⟩
theorem Slot.own_ren(ρ:Nat→Option Nat) (s:Slot):(s.ren ρ).own=s.own:=by cases s<;>rfl
theorem ze{m0 n:Nat}{ks:List Nat}(h:AM m0 n ks=true):ks.Nodup∧∀k∈ks,m0≤k∧k<n:=by
 simp only[AM,Bool.and_eq_true,decide_eq_true_eq,List.all_eq_true] at h
 exact h
theorem dP{m0:Nat}{ks:List Nat}(hm:m0≤mem.length):(compact m0 ks mem).length=m0+ks.length:=by
 simp[compact,keep];omega
def fH(m0:Nat) (ks:List Nat) (b:Nat):Nat:=if b<m0 then b else ks.getD (b-m0) 0
theorem rD{m0:Nat}{ks:List Nat}(hm:m0≤mem.length) (hk:AM m0 mem.length ks=true) {b:Nat}{s:Slot}(h:(compact m0 ks mem)[b]? =some s):
  ∃s0,mem[fH m0 ks b]? =some s0∧s=s0.ren (rho m0 ks):=by
 obtain⟨_,hks⟩:=ze hk
 have e1:((mem.take m0).map (Slot.ren (rho m0 ks))).length=m0:=by simp;omega
 unfold compact at h
 by_cases hb:b<m0
 ·rw[List.getElem?_append_left (by omega),List.getElem?_map,List.getElem?_take_of_lt hb] at h
  simp only[Option.map_eq_some_iff] at h
  obtain⟨s0,h1,h2⟩:=h
  exact⟨s0,by simpa [fH,hb] using h1,h2.symm⟩
 ·rw[List.getElem?_append_right (by omega),e1] at h
  unfold keep at h
  rw[List.getElem?_map] at h
  simp only[Option.map_eq_some_iff] at h
  obtain⟨k,h1,h2⟩:=h
  have hmem:=List.mem_of_getElem? h1
  obtain⟨_,hlt⟩:=hks k hmem
  have hget:mem[k]? =some mem[k]:=by simp[hlt]
  refine⟨mem[k],?_,?_⟩
  ·simp[fH,hb,h1,hlt]
  ·rw[←h2];simp[List.getD,hget]
theorem LM{m0:Nat}{ks:List Nat}(hk:AM m0 mem.length ks=true) {x y:Nat}(hx:x<m0+ks.length) (hy:y<m0+ks.length) (h:fH m0 ks x=fH m0 ks y):x=y:=by
 obtain⟨hnd,hks⟩:=ze hk
 have hmem:∀z,¬z<m0→z<m0+ks.length→m0≤ks.getD (z-m0) 0:=by
  intro z h1 h2
  have hlt:z-m0<ks.length:=by omega
  have:ks.getD (z-m0) 0=ks[z-m0]:=by simp[hlt]
  rw[this]
  exact(hks _ (by simp)).1
 unfold fH at h
 by_cases h1:x<m0<;>by_cases h2:y<m0<;>simp only[h1,h2,if_true,if_false] at h
 ·exact h
 ·have:=hmem y h2 hy;omega
 ·have:=hmem x h1 hx;omega
 ·have hx' :x-m0<ks.length:=by omega
  have hy' :y-m0<ks.length:=by omega
  have ex:ks.getD (x-m0) 0=ks[x-m0]:=by simp[hx']
  have ey:ks.getD (y-m0) 0=ks[y-m0]:=by simp[hy']
  rw[ex,ey] at h
  have:=(List.getElem_inj hnd).1 h
  omega
theorem HRel.compact{m0:Nat}{ks:List Nat}(hH:HRel base μ mem w) (hm:m0≤mem.length) (hk:AM m0 mem.length ks=true):
  HRel base (fun b=>μ (fH m0 ks b)) (compact m0 ks mem) w∧
  (∀b b',b<mem.length→rho m0 ks b=some b' →b' <(Eng.compact m0 ks mem).length∧(fun b=>μ (fH m0 ks b)) b' =μ b)∧
  Step m0 μ mem w (fun b=>μ (fH m0 ks b)) (Eng.compact m0 ks mem) w:=by
 obtain⟨hnd,hks⟩:=ze hk
 have hρ:∀b b',b<mem.length→rho m0 ks b=some b' →b' <(Eng.compact m0 ks mem).length∧(fun b=>μ (fH m0 ks b)) b' =μ b:=by
  intro b b' hb hr
  rw[dP hm]
  unfold rho at hr
  by_cases h1:b<m0
  ·rw[if_pos h1] at hr
   cases hr
   exact⟨by omega,by simp[fH,h1]⟩
  ·rw[if_neg h1] at hr
   simp only[Option.map_eq_some_iff] at hr
   obtain⟨i,hi,rfl⟩:=hr
   have hi' :=List.idxOf?_eq_some_iff.1 hi
   obtain⟨hlt,hget,_⟩:=hi'
   refine⟨by omega,?_⟩
   simp only[fH]
   rw[if_neg (by omega)]
   have:ks.getD (m0+i-m0) 0=b:=by
    rw[Nat.add_sub_cancel_left]
    simp[hlt,hget]
   rw[this]
 have pre:∀x,dn (Eng.compact m0 ks mem) x→dn mem (fH m0 ks x)∧x<m0+ks.length:=by
  intro x hx
  obtain⟨s,hc,ho⟩:=hx
  have hlt:=(List.getElem?_eq_some_iff.1 hc).1
  rw[dP hm] at hlt
  obtain⟨s0,h1,rfl⟩:=rD hm hk hc
  exact⟨⟨s0,h1,by rw[←Slot.own_ren];exact ho⟩,hlt⟩
 refine⟨⟨hH.base_le,fun b s hs=>?_,fun x y s hx hy hne hxy=>?_⟩,hρ,?_⟩
 ·obtain⟨s0,h1,rfl⟩:=rD hm hk hs
  exact(hH.slot _ s0 h1).ren hρ
 ·obtain⟨hxo,hxl⟩:=pre x hx
  have hyl:=(List.getElem?_eq_some_iff.1 hy).1
  rw[dP hm] at hyl
  obtain⟨s0,h1,rfl⟩:=rD hm hk hy
  refine hH.sep _ _ s0 hxo h1 ?_ fun e=>hxy (LM hk hxl hyl e)
  rintro rfl;exact hne rfl
 ·refine⟨by rw[dP hm];omega,fun b hb=>by simp[fH,hb],rfl,rfl,rfl,Nat.le_refl _,fun _ _ _=>rfl,fun b hb _=>?_,Nat.le_refl _⟩
  exact⟨_,(pre b hb).1,rfl⟩
theorem Weak.compact{m0:Nat}{env:Env}{mem:Mem}(ks:List Nat) (hk:AM m0 mem.length ks=true):
  Weak m0 ⟨env,mem⟩ ⟨oZ (rho m0 ks) env,compact m0 ks mem⟩:=by
 intro base μ w tmps h1 h2 h3
 obtain⟨c1,c2,c3⟩:=h1.compact h3 hk
 refine⟨_,c1,fun t=>?_,by rw[dP h3];omega,c3⟩
 rw[fV]
 exact(h2 t).ren c2
end
mutual
theorem VRel.lower{μ μ' :Nat→Place}{n n' :Nat}(hμ:∀b,b<n→μ' b=μ b):∀{v V V'},VRel μ n v V→VRel μ' n' v V' →VRel μ n v V'
 |.undef,_,_,_,_=>by simp[VRel]
 |.bool _,_,_,_,h=>by simpa [VRel] using h
 |.int _ _,_,_,_,h=>by simpa [VRel] using h
 |.str _,_,_,_,h=>by simpa [VRel] using h
 |.ptr b o,_,_,h,h' =>by simp only[VRel] at h h' ⊢;exact⟨h.1,by rw[←hμ b h.1];exact h'.2⟩
 |.nilptr,_,_,_,h=>by simpa [VRel] using h
 |.slice b o l c,_,_,h,h' =>by simp only[VRel] at h h' ⊢;exact⟨h.1,by rw[←hμ b h.1];exact h'.2⟩
 |.nilslice,_,_,_,h=>by simpa [VRel] using h
 |.map b,_,_,h,h' =>by simp only[VRel] at h h' ⊢;exact⟨h.1,by rw[←hμ b h.1];exact h'.2⟩
 |.yield b,_,_,h,h' =>by simp only[VRel] at h h' ⊢;exact⟨h.1,by rw[←hμ b h.1];exact h'.2⟩
 |.nilmap,_,_,_,h=>by simpa [VRel] using h
 |.func f cs,_,_,h,h' =>by
  simp only[VRel] at h h' ⊢
  obtain⟨Us,e,h⟩:=h
  obtain⟨Us',e',h'⟩:=h'
  exact⟨Us',e',VRels.lower hμ h h'⟩
 |.nilFunc,_,_,_,h=>by simpa [VRel] using h
 |.iface t v,_,_,h,h' =>by
  simp only[VRel] at h h' ⊢
  obtain⟨U,e,h⟩:=h
  obtain⟨U',e',h'⟩:=h'
  exact⟨U',e',VRel.lower hμ h h'⟩
 |.nilIface,_,_,_,h=>by simpa [VRel] using h
 |.agg cs,_,_,h,h' =>by
  simp only[VRel] at h h' ⊢
  obtain⟨Us,e,h⟩:=h
  obtain⟨Us',e',h'⟩:=h'
  exact⟨Us',e',VRels.lower hμ h h'⟩
 |.tuple cs,_,_,h,h' =>by
  simp only[VRel] at h h' ⊢
  obtain⟨Us,e,h⟩:=h
  obtain⟨Us',e',h'⟩:=h'
  exact⟨Us',e',VRels.lower hμ h h'⟩
theorem VRels.lower{μ μ' :Nat→Place}{n n' :Nat}(hμ:∀b,b<n→μ' b=μ b):∀{vs Us Us'},VRels μ n vs Us→VRels μ' n' vs Us' →VRels μ n vs Us'
 | [],_,_,_,h=>by simpa [VRels] using h
 |v::vs,_,_,h,h' =>by
  simp only[VRels] at h h' ⊢
  obtain⟨U,Ws,e,h1,h2⟩:=h
  obtain⟨U',Ws',e',h1',h2'⟩:=h'
  exact⟨U',Ws',e',VRel.lower hμ h1 h1',VRels.lower hμ h2 h2'⟩
end
theorem SRel.lower{μ μ' :Nat→Place}{n n' base:Nat}{w w' :World}{p:Place}{s:Slot}(hμ:∀b,b<n→μ' b=μ b)
  (h:SRel μ n base w p s) (h' :SRel μ' n' base w' p s):SRel μ n base w' p s:=by
 cases s with
 |absent=>trivial
 |cells own es cs=>
  simp only[SRel] at h h' ⊢
  obtain⟨_,_,_,_,_,_,h4,_⟩:=h
  obtain⟨cur,e,fr,g1,g2,g3,g4,g5⟩:=h'
  refine⟨cur,e,fr,g1,g2,g3,fun j v hv=>?_,g5⟩
  obtain⟨V,_,hr⟩:=h4 j v hv
  obtain⟨V',hV',hr'⟩:=g4 j v hv
  exact⟨V',hV',hr.lower hμ hr'⟩
 |map es=>
  simp only[SRel] at h h' ⊢
  obtain⟨_,_,_,_,_,h4⟩:=h
  obtain⟨ents,clock,g1,g2,g3,g4⟩:=h'
  refine⟨ents,clock,g1,g2,g3,fun j e he=>?_⟩
  obtain⟨E,_,hr1,hr2⟩:=h4 j e he
  obtain⟨E',hE',hr1',hr2'⟩:=g4 j e he
  exact⟨E',hE',hr1.lower hμ hr1',hr2.lower hμ hr2'⟩
 |fmap es=>
  simp only[SRel] at h h' ⊢
  obtain⟨_,_,_,_,_,h4⟩:=h
  obtain⟨ents,clock,g1,g2,g3,g4⟩:=h'
  refine⟨ents,clock,g1,g2,g3,fun j e he=>?_⟩
  obtain⟨E,_,hr1,hr2⟩:=h4 j e he
  obtain⟨E',hE',hr1',hr2'⟩:=g4 j e he
  exact⟨E',hE',hr1.lower hμ hr1',hr2.lower hμ hr2'⟩
 |loop r=>
  simp only[SRel] at h h' ⊢
  obtain⟨L,_,_,h3⟩:=h
  obtain⟨L',g1,g2,g3⟩:=h'
  exact⟨L',g1,g2,{ g3 with tmps:=fun t=>(h3.tmps t).lower hμ (g3.tmps t) }⟩
theorem HRel.swap{base:Nat}{μ:Nat→Place}{mem1 mem2:Mem}{w:World}(h:HRel base μ mem1 w) (hl:mem2.length=mem1.length)
  (hs:∀b s2,mem2[b]? =some s2→∃s1,mem1[b]? =some s1∧s1.own=s2.own∧(s1=.absent→s2=.absent)∧SRel μ mem1.length base w (μ b) s2):HRel base μ mem2 w:=by
 refine⟨h.base_le,fun b s hb=>?_,fun b b' s' hb hb' hne hbb=>?_⟩
 ·obtain⟨s1,_,_,_,h4⟩:=hs b s hb;rw[hl];exact h4
 ·obtain⟨s,g1,g2⟩:=hb
  obtain⟨s1,k1,k2,_,_⟩:=hs b s g1
  obtain⟨s3,k3,_,k5,_⟩:=hs b' s' hb'
  exact h.sep b b' s3 ⟨s1,k1,by rw[k2];exact g2⟩ k3 (fun e=>hne (k5 e)) hbb
end Go.Eng
namespace Go.Eng
def cB:Nat→List AV→Env
 |_,[]=>[]
 |i,v::vs=>(i,v)::cB (i+1) vs
def Sb(T:TypeId→Option TyI) (env:Env) (mem:Mem):ResultVar→Option AV
 |.tmp t=>some (ab env t)
 |.cell a t=>LH T mem t (ab env a)
def uY(T:TypeId→Option TyI) (env:Env) (mem:Mem):List ResultVar→Option (List AV)
 | []=>some []
 |r::rs=>match Sb T env mem r,uY T env mem rs with
  |some v,some vs=>some (v::vs)
  |_,_=>none
def gB(T:TypeId→Option TyI) (rs:List ResultVar) (env:Env) (mem:Mem):Option AV:=
 match uY T env mem rs with
 |some [v]=>some v
 |some vs=>some (.tuple vs)
 |none=>none
def Fin(mem:Mem) (v:AV) (m' :Mem) (R:AV→Mem→Prop):Prop:=
 ∃ks,AM mem.length m'.length ks=true∧
  ((m'.take mem.length=mem∧R (v.ren (rho mem.length ks)) (mem++keep mem.length ks m'))∨R (v.ren (rho mem.length ks)) (compact mem.length ks m'))
section
variable {P:Program}{T:TypeId→Option TyI}{μ:Nat→Place}{mem:Mem}{base:Nat}{w:World}
theorem uS{n:Nat}{μ:Nat→Place}:∀{vs:List AV} {Vs:List Value} (i:Nat),VRels μ n vs Vs→∀t,VRel μ n (ab (cB i vs) t) (if t<i then undef else Vs.getD (t-i) undef)
 | [],Vs,i,h,t=>by simp[cB,ab,VRel]
 |v::vs,Vs,i,h,t=>by
  simp only[VRels] at h
  obtain⟨U,Us,rfl,h1,h2⟩:=h
  simp only[cB,ab]
  by_cases ht:i=t
  ·subst ht;simpa using h1
  ·simp only[ht,if_false]
   have:=uS (i+1) h2 t
   by_cases hlt:t<i
   ·rw[if_pos (by omega)] at this;rw[if_pos hlt];exact this
   ·rw[if_neg (by omega)] at this
    rw[if_neg hlt]
    have e:t-i=(t-(i+1))+1:=by omega
    rw[e]
    simpa using this
def rvS(tmps:Array Value):ResultVar→Sem Value
 |.tmp t=>pure (tmps.getD t undef)
 |.cell a t=>do loadVar t (←asAddr (tmps.getD a undef))
theorem my(hT:cf P T) (hH:HRel base μ mem w) {env:Env}{tmps:Array Value}(hR:TRel μ mem.length env tmps):
  ∀{rs:List ResultVar}{vs:List AV},uY T env mem rs=some vs→∃Vs,VRels μ mem.length vs Vs∧
   (rs.mapM (rvS tmps)).run P w=.ok Vs w
 | [],vs,h=>by simp only[uY,Option.some.injEq] at h;subst h;exact⟨[],by simp[VRels],by simp⟩
 |r::rs,vs,h=>by
  simp only[uY] at h
  split at h
  ·rename_i v vs' h1 h2
   cases h
   obtain⟨Vs,g1,g2⟩:=my hT hH hR h2
   cases r with
   |tmp t=>
    simp only[Sb,Option.some.injEq] at h1
    subst h1
    exact⟨_::Vs,bl.2 ⟨hR t,g1⟩,by rw[List.mapM_cons,rvS,pure_bind,Sem.run_bind,g2];rfl⟩
   |cell a t=>
    simp only[Sb] at h1
    obtain⟨V,k1,k2⟩:=yG (P:=P) hT hH (hR a) h1
    refine⟨V::Vs,bl.2 ⟨k2,g1⟩,?_⟩
    have hptr:∃b o,ab env a=.ptr b o:=by
     unfold LH at h1
     split at h1
     ·rename_i b o _ hl;exact⟨b,o,hl⟩
     ·cases h1
    obtain⟨b,o,hl⟩:=hptr
    have hp:=hR a
    rw[hl] at hp
    have hp2:=hp.ptr.2
    rw[hp2] at k1
    simp only[Instr.loadAt,Instr.sureAddr,Sem.run_bind,Sem.run_pure,Result.andThen_ok] at k1
    rw[List.mapM_cons,rvS,hp2,Sem.run_bind]
    simp only[asAddr,pure_bind,k1,Result.andThen_ok]
    rw[Sem.run_bind,g2]
    rfl
  ·cases h
theorem qt(hT:cf P T) (hH:HRel base μ mem w) {env:Env}{tmps:Array Value}(hR:TRel μ mem.length env tmps) {fn:Func}{v:AV}
  (h:gB T fn.results.toList env mem=some v):∃V,(results fn tmps).run P w=.ok V w∧VRel μ mem.length v V:=by
 unfold gB at h
 have run:∀Vs,(fn.results.toList.mapM (rvS tmps)).run P w=.ok Vs w→
   (results fn tmps).run P w=.ok (if h:Vs.toArray.size=1 then Vs.toArray[0] else .tuple Vs.toArray) w:=by
  intro Vs hVs
  unfold results
  rw[Array.mapM_eq_mapM_toList,Sem.run_bind,Sem.run_map]
  erw [hVs]
  rfl
 split at h
 ·rename_i v' h1
  cases h
  obtain⟨Vs,g1,g2⟩:=my hT hH hR h1
  simp only[VRels] at g1
  obtain⟨U,Us,rfl,g3,rfl⟩:=g1
  exact⟨U,by rw[run _ g2];simp,g3⟩
 ·rename_i vs hne h1
  cases h
  obtain⟨Vs,g1,g2⟩:=my hT hH hR h1
  refine⟨.tuple Vs.toArray,?_,by simp only[VRel];exact⟨Vs,rfl,g1⟩⟩
  rw[run _ g2]
  have:¬Vs.toArray.size=1:=by
   have:=g1.length
   intro e
   simp at e
   rw[e] at this
   match vs,this with
   | [x],_=>exact hne x rfl
  rw[dif_neg this]
 ·cases h
theorem xo{P:Program}{w:World}{r:Nat}(h:w.heap[r]? =some (.deferred (some []))):
  (Instr.takeDeferred r).run P w=.ok [] { w with heap:=w.heap.setIfInBounds r (.deferred none) }:=by
 have hg:(getObj r).run P w=.ok (.deferred (some [])) w:=by simp[getObj,Sem.run,h]
 have hs:(setObj r (.deferred none)).run P w=.ok () { w with heap:=w.heap.setIfInBounds r (.deferred none) }:=p9 h (by intro c e f;simp)
 simp only[Instr.takeDeferred,Sem.run_bind,hg,Result.andThen_ok]
 rw[hs]
 rfl
theorem HRel.shut{base:Nat}{μ:Nat→Place}{mem:Mem}{w:World}{r:Nat}{x y} (hH:HRel base μ mem w) (h:w.heap[r]? =some (.deferred x)):
  HRel base μ mem { w with heap:=w.heap.setIfInBounds r (.deferred y) }:=by
 refine⟨by simpa using hH.base_le,fun b s hs=>?_,hH.sep⟩
 by_cases h0:s=.absent
 ·subst h0;trivial
 ·refine(hH.slot b s hs).mono (Nat.le_refl _) (fun _ _=>rfl) fun _=>?_
  exact Array.getElem?_setIfInBounds_ne (Ne.symm (mL hH h hs h0))
theorem Step.shut{m0:Nat}{μ μ' :Nat→Place}{mem mem' :Mem}{w w' :World}{r:Nat}{o:Obj}(h:Step m0 μ mem w μ' mem' w') (hr:w.heap.size≤r):
  Step m0 μ mem w μ' mem' { w' with heap:=w'.heap.setIfInBounds r o }:=by
 refine⟨h.len,h.agree,h.os,h.tape,h.output,by simpa using h.size,fun k hk hf=>?_,h.owner,h.drawn⟩
 rw[←h.frame k hk hf]
 exact Array.getElem?_setIfInBounds_ne (by omega)
theorem MOk.shut{P:Program}{base h0 r:Nat}{w:World}{ds:List Deferred}{o:Obj}(h:MOk P base h0 w ({ target:=.collected r,args:= #[] }::ds)):
  MOk P base h0 { w with heap:=w.heap.setIfInBounds r o } ds:=by
 have hrl:h0≤r:=by
  obtain⟨q,e,h1,_⟩:=h.each _ (List.mem_cons_self ..)
  cases e;exact h1
 refine⟨⟨h.glob.below,?_⟩,h.base_le,by simpa using h.le,fun d hd=>?_,?_⟩
 ·have:=h.glob.tab
  unfold Lib.TabIs at this ⊢
  rw[←this]
  refine Ks fun k hk=>Array.getElem?_setIfInBounds_ne ?_
  have:=h.glob.below;have:=h.base_le;omega
 ·obtain⟨q,e,h1,h2⟩:=h.each d (by simp[hd])
  refine⟨q,e,h1,?_⟩
  have hne:r≠q:=by
   intro hrq
   have:=h.nodup
   simp only[List.map_cons,List.nodup_cons,List.mem_map,not_exists] at this
   exact this.1 d ⟨hd,by rw[e,hrq]⟩
  show(w.heap.setIfInBounds r o)[q]? =_
  rw[Array.getElem?_setIfInBounds_ne hne,h2]
 ·have:=h.nodup
  simp only[List.map_cons,List.nodup_cons] at this
  exact this.2
theorem oI{P:Program}{fn:Func}{tmps:Array Value}{R:Ending→World→Prop}{base m0:Nat}{μ μ0:Nat→Place}{mem mem0:Mem}{w0:World}:
  ∀(ds:List Deferred) (w:World),MOk P base w0.heap.size w ds→HRel base μ mem w→Step m0 μ0 mem0 w0 μ mem w→
   (∀w',HRel base μ mem w' →Step m0 μ0 mem0 w0 μ mem w' →∃v,(results fn tmps).run P w' =.ok v w' ∧R (.returned v) w')→
   LeavesInM (Fr none) 0 P fn tmps R ds .returning w
 | [],w,_,hH,hS,hq=>hq w hH hS
 |d::ds,w,hM,hH,hS,hq=>by
  obtain⟨r,rfl,h1,h2⟩:=hM.each d (by simp)
  refine⟨by simp,.inl ⟨r,_,rfl,xo h2,?_⟩⟩
  exact oI ds _ hM.shut (hH.shut h2) (hS.shut h1) hq
theorem ACalls.intro(hT:cf P T) {f:FuncId}{fn:Func}{c:Code}{args:List AV}{mem:Mem}{R:AV→Mem→Prop}(hf:P.funcs[f]? =some fn) (hb:fn.body=some c)
  (hn:(fn.name == "runtime.NumGoroutine")=false) (hl:args.length≤fn.ntmps)
  (h:AWP P true fn.ntmps mem.length c ⟨cB 0 args,mem⟩ fun e st' =>(e=.normal∨e=.ret)∧∃v,gB T fn.results.toList st'.env st'.mem=some v∧Fin mem v st'.mem R):
  ACalls P f args mem R:=by
 refine⟨⟨fn,hf,by simp[hb],hn⟩,fun base μ w Vs hG hH hV=>?_⟩
 refine xz.1 (callsIn_of_wp_marks (F:=Fr none) (n:=0) hf hb trivial (wpIn_mono (h none w.heap.size base μ w _ (fun _=>rfl) hH ?_ ?_ (MOk.nil w hG hH.base_le (Nat.le_refl _)) (Nat.le_refl _)) ?_) rfl)
 ·intro t
  have:=uS 0 hV t
  simp only[Nat.not_lt_zero,if_false,Nat.sub_zero] at this
  by_cases ht:t<Vs.length
  ·have e:(⟨Vs⟩++Array.replicate (fn.ntmps-(⟨Vs⟩:Array Value).size) undef:Array Value).getD t undef=Vs.getD t undef:=by
    simp only[Array.getD_eq_getD_getElem?]
    rw[Array.getElem?_append_left (by simpa using ht)]
    simp[List.getD]
   show VRel μ mem.length (ab (cB 0 args) t) ((⟨Vs⟩++Array.replicate (fn.ntmps-(⟨Vs⟩:Array Value).size) undef:Array Value).getD t undef)
   rw[e];exact this
  ·have:ab (cB 0 args) t=.undef:=by
    have hlen:=hV.length
    have:∀(vs:List AV) (i:Nat),i+vs.length≤t→ab (cB i vs) t=.undef:=by
     intro vs
     induction vs with
     |nil=>intro i _;rfl
     |cons v vs ih=>
      intro i hi
      simp only[List.length_cons] at hi
      simp only[cB,ab]
      rw[if_neg (by omega)]
      exact ih (i+1) (by omega)
    exact this args 0 (by omega)
   show VRel μ mem.length (ab (cB 0 args) t) _
   rw[this];simp[VRel]
 ·simp only[Array.size_append,List.size_toArray,Array.size_replicate,hV.length];omega
 ·rintro e a' w' ⟨st',μ',b1,b2,b3,b4,b5,b6,he,v,hv,ks,hks,hR⟩
  have post:LeavesInM (Fr none) 0 P fn a'.tmps (fun e w' =>∃V v mem' μ',e=.returned V∧VRel μ' mem'.length v V∧HRel base μ' mem' w' ∧Step mem.length μ mem w μ' mem' w' ∧R v mem') a'.defers .returning w' :=by
   refine oI a'.defers w' b4 b1 b6 fun w2 e1 e2=>?_
   obtain⟨V,k1,k2⟩:=qt (P:=P) (fn:=fn) hT e1 b2 hv
   obtain⟨c1,c2,c3⟩:=e1.compact b5 hks
   refine⟨V,k1,?_⟩
   rcases hR with⟨hpre,hr⟩ | hr
   ·have hlen:(mem++keep mem.length ks st'.mem).length=(compact mem.length ks st'.mem).length:=by
     rw[dP b5];simp[keep]
    have key:∀b s2,(mem++keep mem.length ks st'.mem)[b]? =some s2→∃s1,(compact mem.length ks st'.mem)[b]? =some s1∧s1.own=s2.own∧(s1=.absent→s2=.absent)∧
      SRel (fun b=>μ' (fH mem.length ks b)) (compact mem.length ks st'.mem).length base w2 (μ' (fH mem.length ks b)) s2:=by
     intro b s2 hb
     unfold compact
     rw[hpre]
     by_cases hlt:b<mem.length
     ·rw[List.getElem?_append_left hlt] at hb
      refine⟨s2.ren (rho mem.length ks),by rw[List.getElem?_append_left (by simpa using hlt),List.getElem?_map,hb];rfl,Slot.own_ren _ _,?_,?_⟩
      ·intro h;cases s2<;>simp[Slot.ren] at h ⊢
      ·have hback:fH mem.length ks b=b:=by simp[fH,hlt]
       rw[hback]
       have g1:=hH.slot b s2 hb
       have g2:=e1.slot b s2 (by rw[←hb,←hpre,List.getElem?_take_of_lt hlt])
       rw[e2.agree b hlt] at g2 ⊢
       have g3:=SRel.lower (w' :=w2) (fun b hb=>e2.agree b hb) g1 g2
       refine g3.mono ?_ (fun b hb=>?_) fun _=>rfl
       ·simp[keep]
       ·show μ' (fH mem.length ks b)=μ b
        rw[show fH mem.length ks b=b by simp[fH,hb],e2.agree b hb]
     ·have hb' :(compact mem.length ks st'.mem)[b]? =some s2:=by
       unfold compact
       rw[hpre,List.getElem?_append_right (by simp;omega)]
       rw[List.getElem?_append_right (by omega)] at hb
       simpa using hb
      have:=c1.slot b s2 hb'
      unfold compact at hb' this
      rw[hpre] at hb' this
      exact⟨s2,hb',rfl,id,this⟩
    have hsw:=c1.swap hlen key
    refine⟨V,_,_,_,rfl,k2.ren fun b b' g1 g2=>?_,hsw,?_,hr⟩
    ·obtain⟨g3,g4⟩:=c2 b b' g1 g2
     exact⟨by rw[hlen];exact g3,g4⟩
    ·have c4:=e2.trans c3
     refine⟨by rw[hlen];exact c4.len,c4.agree,c4.os,c4.tape,c4.output,c4.size,c4.frame,fun b hb hlt=>?_,c4.drawn⟩
     obtain⟨s,g1,g2⟩:=hb
     obtain⟨s1,k1,k2,_,_⟩:=key b s g1
     exact c4.owner b ⟨s1,k1,by rw[k2];exact g2⟩ hlt
   ·exact⟨V,_,_,_,rfl,k2.ren c2,c1,e2.trans c3,hr⟩
  rcases he with rfl | rfl
  ·exact post
  ·exact post
end
end Go.Eng
