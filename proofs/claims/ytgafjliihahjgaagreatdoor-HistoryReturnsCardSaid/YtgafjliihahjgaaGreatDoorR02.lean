/- See R54. -/
import Derived.Test.YtgafjliihahjgaaGreatDoorR01
import Derived.Lib.UnsafeStr
set_option linter.all false
namespace Go.Eng
variable{V X:Value}{cs:List AV}{mem' :Mem}{v x:AV}
section
variable {P:Program}{T:TypeId→Option TyI}{μ:Nat→Place}{mem:Mem}{base:Nat}{w:World}
def afA(P:Program) (x:Sem Value) (base:Nat) (μ:Nat→Place) (mem:Mem) (w:World) (v:AV) (mem' :Mem):Prop:=
 ∃V w' μ',x.run P w=.ok V w' ∧aeA μ' mem'.length v V∧aeL base μ' mem' w' ∧Step mem.length μ mem w μ' mem' w'
theorem afA.aeU{x:Sem Value}(hH:aeL base μ mem w)(h:Val P x w μ mem.length v):afA P x base μ mem w v mem:=by obtain⟨V,h1,h2⟩:=h;exact⟨V,w,μ,h1,h2,hH,.refl (Nat.le_refl _)⟩
theorem rB(hH:aeL base μ mem w)(e:TypeId)(Cs:Array Value)(es:Nat)(Y7:1000≤es→e+1=es / 1000)(cs:List AV)(h:∀(j:Nat) v,cs[j]? =some v→∃V,Cs[j]? =some V∧aeA μ mem.length v V):
  aeL base (upd μ mem.length ⟨w.heap.size,0,Cs.size,es%1000⟩) (mem++[.cells true es cs]) (w.alloc (.cells Cs e))∧
  Step mem.length μ mem w (upd μ mem.length ⟨w.heap.size,0,Cs.size,es%1000⟩) (mem++[.cells true es cs]) (w.alloc (.cells Cs e)):=by
 refine hH.push _ _ _ rfl ?_;simp only[aeO];refine⟨Cs,e,(0,0),heap_alloc_new w _,⟨rfl,Y7⟩,?_,fun j v hv=>?_,fun _=>by simp;exact hH.aeI⟩
 ·rcases Nat.eq_zero_or_pos cs.length with h0 | h0
  ·omega
  ·obtain⟨V,hV,_⟩:=h (cs.length-1) cs[cs.length-1] (by simp)
   have:=(Array.getElem?_eq_some_iff.1 hV).1;omega
 ·obtain⟨V,hV,hr⟩:=h j v hv
  exact⟨V,by simpa using hV,hr.mono (Nat.le_succ _) fun b hb=>vp hb⟩
theorem wV{n:Nat}{vs:List AV}{cur Vs:List Value}{o:Nat}(YA:o+vs.length≤cs.length)(h:∀(j:Nat) v,cs[j]? =some v→∃V,cur[j]? =some V∧aeA μ n v V)(hv:aeC μ n vs Vs):
  ∀(j:Nat) v,(cs.take o++vs++cs.drop (o+vs.length))[j]? =some v→∃V,(cur.take o++Vs++cur.drop (o+Vs.length))[j]? =some V∧aeA μ n v V:=by
 have hl:=hv.length;have X7:cs.length≤cur.length:=by
  rcases Nat.eq_zero_or_pos cs.length with h0 | h0
  ·omega
  ·obtain⟨V,hV,_⟩:=h (cs.length-1) cs[cs.length-1] (by simp)
   have:=(gL hV);omega
 have e1:(cs.take o).length=o:=by simp;omega
 have e2:(cur.take o).length=o:=by simp;omega
 intro j v hj;rw[List.append_assoc] at hj ⊢;by_cases h1:j<o
 ·rw[List.getElem?_append_left (by omega),List.getElem?_take_of_lt h1] at hj
  rw[List.getElem?_append_left (by omega),List.getElem?_take_of_lt h1];exact h j v hj
 ·rw[List.getElem?_append_right (by omega),e1] at hj
  rw[List.getElem?_append_right (by omega),e2];by_cases h2:j-o<vs.length
  ·rw[List.getElem?_append_left h2] at hj
   rw[List.getElem?_append_left (by omega)];exact hv.get _ v hj
  ·rw[List.getElem?_append_right (by omega),List.getElem?_drop] at hj
   rw[List.getElem?_append_right (by omega),List.getElem?_drop];rw[show o+Vs.length+(j-o-Vs.length)=o+vs.length+(j-o-vs.length) by omega];exact h _ v hj
def FC(T:TypeId→Option TyI) (e:TypeId) (i:TyI):Bool:=match i.desc with
 |.struct fs=>match fs[0]? with
  |some f=>match T f.type with
   |some k=>match k.desc with
    |.pointer e' =>e' ==e
    |_=>false
   |none=>false
  |none=>false
 |_=>false
def rY(T:TypeId→Option TyI) (mem:Mem) (e:TypeId):Option (AV×Mem):=
 match T e with
 |some i=>some (.ptr mem.length 0,mem++[.cells true (if FC T e i then 1000*(e+1) else 0) (iQ i.zero).cells])
 |none=>none
theorem xB(hH:aeL base μ mem w)(e:TypeId)(es:Nat)(Y7:1000≤es→e+1=es / 1000)(h:aeC μ mem.length cs V.cells.toList):
  afA P (do pure (.pointer (some (←newVar e V)))) base μ mem w (.ptr mem.length 0) (mem++[.cells true es cs]):=by
 obtain⟨h1,h2⟩:=rB hH e V.cells es Y7 cs (fun j v hv=>by obtain⟨U,hU,hr⟩:=h.get j v hv;exact⟨U,by simpa using hU,hr⟩)
 refine⟨.pointer (some ⟨w.heap.size,0,none⟩),_,_,?_,?_,h1,h2⟩
 ·simp only[newVar,newRow,Sem.run_bind,run_newObj,Result.andThen_ok,Sem.run_pure]
  rfl
 ·simp[aeA,dW]
theorem Jp(hT:cJ P T)(hH:aeL base μ mem w){e:TypeId}(h:rY T mem e=some (v,mem')):
  afA P (Instr.alloc e true (.tuple #[])) base μ mem w v mem' :=by
 unfold rY at h;split at h
 ·rename_i i hi
  cases h;have:=xB (P:=P) hH e (if FC T e i then 1000*(e+1) else 0) (by cases FC T e i with | false=>simp | true=>simp only[if_true];intro _;rw[Nat.mul_div_cancel_left _ (by omega)]) (V:=i.zero) (jl μ mem.length i.zero);obtain⟨V,w',μ',h1,h2⟩:=this;refine⟨V,w',μ',?_,h2⟩;simp only[Instr.alloc,Sem.run_bind,dX hT hi,Result.andThen_ok];exact h1
 ·cases h
def Wv(mem:Mem) (x:AV):Option (AV×Mem):=if x.known then some (.ptr mem.length 0,mem++[.cells true 0 x.cells]) else none
theorem Pc(hH:aeL base μ mem w){e:TypeId}(hx:aeA μ mem.length x X)(h:Wv mem x=some (v,mem')):
  afA P (Instr.box e X) base μ mem w v mem' :=by
 unfold Wv at h;split at h
 ·rename_i hk
  cases h;exact xB (P:=P) hH e 0 (by omega) (hx.cells hk)
 ·cases h
theorem Jz(hT:cJ P T)(hH:aeL base μ mem w){t:TypeId}(hx:aeA μ mem.length x X)(hv:aeA μ mem.length v V)(h:rZ T mem t x v=some mem'):∃w',(Instr.storeAt t X V).run P w=.ok () w' ∧aeL base μ mem' w' ∧Step mem.length μ mem w μ mem' w' :=by
 unfold rZ at h;split at h
 ·rename_i i b o ht
  split at h
  ·rename_i es cs hb
   split at h
   ·rename_i hc
    cases h;simp only[Bool.and_eq_true,decide_eq_true_eq,List.all_eq_true] at hc;obtain⟨⟨⟨hk,Yw⟩,YA⟩,XW⟩:=hc;obtain⟨Y0,rfl⟩:=hx.ptr;have hs:=hH.slot b _ hb;simp only[aeO] at hs;obtain⟨cur,el,fr,g1,g2,g3,g4,g5⟩:=hs;obtain⟨g6,g7,g8,g9⟩:=g5 trivial;subst g7;have hVc:=hv.cells hk;have hVl:V.cells.size=i.size:=by rw[←Array.length_toList,hVc.length,Yw]
    have h1:∀u∈V.cells.toList,u.oneCell' =true:=by
     intro u hu;obtain⟨j,hj⟩:=List.getElem?_of_mem hu;have hj' :j<v.cells.length:=by rw[←hVc.length];exact(gL hj)
     obtain⟨U,hU,hr⟩:=hVc.get j v.cells[j] (by simp[hj']);rw[hj] at hU;cases hU;exact hr.afV (XW _ (by simp))
    have XZ:=run_storeCells_at (P:=P) (μ b).blk o el V.cells.toList 0 cur w g1 (by rw[hVc.length,Yw];omega) h1;refine⟨w.setRow (μ b).blk (cur.toList.take (o+0)++V.cells.toList++cur.toList.drop (o+0+V.cells.toList.length)).toArray,?_,hH.write hb (jm hb) (fun _=>⟨_,List.getElem?_set_self (gL hb),rfl⟩) rfl rfl rfl rfl (by simp[World.setRow]) (fun k hk=>setRow_other w _ k _ hk) ?_⟩
    ·simp only[Instr.storeAt,Instr.sureAddr,Sem.run_bind,Sem.run_pure,Result.andThen_ok,storeVar,cD hT ht,hVl,ne_eq,not_true_eq_false,if_false,g6,Nat.zero_add]
     exact XZ
    ·simp only[aeO]
     refine⟨_,el,(0,0),setRow_heap w (μ b).blk cur _ el (0,0) g1,g2,?_,fun j u hu=>?_,fun _=>⟨g6,rfl,?_,g9⟩⟩
     ·simp only[List.length_append,List.length_take,List.length_drop,Yw];omega
     ·rw[g6] at g4
      have:=wV (cs:=cs) (vs:=v.cells) (Vs:=V.cells.toList) (o:=o) (cur:=cur.toList) (by rw[Yw];exact YA) (fun j v hv=>by simpa using g4 j v hv) hVc j u (by rw[Yw];exact hu);obtain⟨U,hU,hr⟩:=this;refine⟨U,?_,hr⟩;rw[g6];simpa using hU
     ·simp only[List.size_toArray,List.length_append,List.length_take,List.length_drop,Array.length_toList,hVl];omega
   ·cases h
  ·cases h
 ·cases h
end
end Go.Eng
namespace Go.Eng
section
variable {P:Program}{T:TypeId→Option TyI}{μ:Nat→Place}{mem:Mem}{base:Nat}{w:World}
def gD(z:List AV):Nat→List AV
 |0=>[]
 |k+1=>z++gD z k
theorem gP(z:List AV):∀k,(gD z k).length=k*z.length
 |0=>by simp[gD]
 |k+1=>by simp[gD,gP z k,Nat.add_mul,Nat.add_comm]
theorem rG{n:Nat}{z:List AV}{Z:Array Value}(hz:aeC μ n z Z.toList):∀(k:Nat) (j:Nat) v,(gD z k)[j]? =some v→
  ∃V,Z[j%Z.size]! =V∧aeA μ n v V∧j<k*Z.size
 |0,j,v,h=>by simp[gD] at h
 |k+1,j,v,h=>by
  have hl:Z.size=z.length:=by rw[←Array.length_toList,hz.length]
  rw[gD] at h;by_cases hj:j<z.length
  ·rw[List.getElem?_append_left hj] at h
   obtain⟨V,hV,hr⟩:=hz.get j v h;refine⟨V,?_,hr,by rw[hl,Nat.add_mul];omega⟩;rw[Nat.mod_eq_of_lt (by omega)];have:Z[j]? =some V:=by simpa using hV
   simp[getElem!_def,this]
  ·rw[List.getElem?_append_right (by omega)] at h
   obtain⟨V,hV,hr,hb⟩:=rG hz k (j-z.length) v h;refine⟨V,?_,hr,by rw[hl] at hb ⊢;rw[Nat.add_mul];omega⟩;rw[←hV,hl];congr 1;rw[Nat.mod_eq_sub_mod (by omega)]
theorem DQ{Z:Array Value}{m j:Nat}(h:j<m):((Array.range m).map (fun i=>Z[i%Z.size]!))[j]? =some (Z[j%Z.size]!):=by simp[h]
def fS(T:TypeId→Option TyI) (mem:Mem) (t:TypeId) (len:Nat) (parts:List (Nat×AV)):Option (AV×Mem):=
 match T t with
 |none=>none
 |some i=>
  match i.desc with
  |.slice e=>
   match T e with
   |none=>none
   |some j=>
    if len*j.size≤16777216∧0<j.size∧j.size<1000 then
     match oS (fun k=>some (k*j.size,j.size)) (gD (iQ j.zero).cells len) parts with
     |some cs=>some (.slice mem.length 0 len none,mem++[.cells true j.size cs])
     |none=>none
    else none
  |_=>none
theorem wm(hT:cJ P T)(hH:aeL base μ mem w){t:TypeId}{len:Nat}{parts:List (Nat×AV)}{Parts:List (Nat×Value)}{v:AV}{mem' :Mem}(hp:Parts.map (·.1)=parts.map (·.1))(hv:aeC μ mem.length (parts.map (·.2)) (Parts.map (·.2)))(h:fS T mem t len parts=some (v,mem')):
  afA P (Instr.buildSlice t len ⟨Parts⟩) base μ mem w v mem' :=by
 unfold fS at h;cases ht:T t with
 |none=>rw[ht] at h;cases h
 |some i=>
  rw[ht] at h;simp only at h;have hd:=(hT t i ht).desc;split at h
  ·rename_i e B'
   rw[B'] at hd;split at h
   ·cases h
   ·rename_i j hj
    split at h
    ·rename_i hc
     split at h
     ·rename_i cs hf
      cases h;have hz:=jl μ mem.length j.zero;have hzs:=(hT e j hj).afX;have hzl:(iQ j.zero).cells.length=j.size:=by rw[←hz.length,Array.length_toList,hzs]
      have YE:aeC μ mem.length (gD (iQ j.zero).cells len) ((Array.range (len*j.size)).map (fun i=>j.zero.cells[i%j.zero.cells.size]!)).toList:=by
       refine aeC.afy (by simp[gP,hzl]) fun q u hu=>?_
       obtain⟨V,h1,h2,h3⟩:=rG hz len q u hu;refine⟨V,?_,h2⟩;have:=DQ (Z:=j.zero.cells) (m:=len*j.size) (j:=q) (by rw[hzs] at h3;exact h3);rw[h1] at this;rw[Array.getElem?_toList];exact this
      obtain⟨Cs,hF,hCs⟩:=rn hf YE hp hv;obtain⟨h1,h2⟩:=rB hH e ⟨Cs⟩ j.size (by omega) cs (fun q u hu=>by obtain⟨U,hU,hr⟩:=hCs.get q u hu;exact⟨U,by simpa using hU,hr⟩)
      have F':Cs.length=len*j.size:=by
       rw[hCs.length];have:∀{pl:Nat→Option (Nat×Nat)}{ps:List (Nat×AV)}{a b:List AV},oS pl a ps=some b→b.length=a.length:=by
        intro pl ps;induction ps with
        |nil=>intro a b hh;simp only[oS,Option.some.injEq] at hh;rw[hh]
        |cons p ps ih=>
         obtain⟨pi,pv⟩:=p;intro a b hh;rw[oS] at hh;cases hpl:pl pi with
         |none=>rw[hpl] at hh;cases hh
         |some os=>
          obtain⟨off,size⟩:=os;rw[hpl] at hh;simp only at hh;split at hh
          ·rename_i hcc
           simp only[Bool.and_eq_true,decide_eq_true_eq] at hcc;rw[ih hh];simp only[List.length_append,List.length_take,List.length_drop];omega
          ·cases hh
       rw[this hf,gP,hzl]
      refine⟨.slice (some ⟨w.heap.size,0,none⟩) len len,_,_,?_,?_,h1,h2⟩
      ·simp only[Instr.buildSlice,Sem.run_bind,run_underlying hd,Result.andThen_ok,cD hT hj]
       rw[if_neg (by omega)];have hF' :=hF;rw[show(⟨((Array.range (len*j.size)).map (fun i=>j.zero.cells[i%j.zero.cells.size]!)).toList⟩:Array Value)=(Array.range (len*j.size)).map (fun i=>j.zero.cells[i%j.zero.cells.size]!) from rfl] at hF';by_cases h0:len*j.size=0
       ·rw[if_pos h0]
        rw[h0] at hF' ⊢;simp only[Sem.run_bind,Sem.run_pure,Result.andThen_ok,Array.range_zero',Array.map_empty] at hF' ⊢;rw[hF'];simp only[newRow,Sem.run_bind,run_newObj,Result.andThen_ok,Sem.run_pure];rfl
       ·rw[if_neg h0]
        simp only[Sem.run_bind,Sem.run_pure,Result.andThen_ok,dX hT hj];rw[hF'];simp only[newRow,Sem.run_bind,run_newObj,Result.andThen_ok,Sem.run_pure];rfl
      ·simp only[aeA,dW,jh,List.length_append,List.length_singleton]
       refine⟨by omega,?_⟩;simp only[Nat.sub_zero,F',List.size_toArray,Nat.mod_eq_of_lt hc.2.2,Nat.mul_div_cancel _ hc.2.1]
     ·cases h
    ·cases h
  ·cases h
end
end Go.Eng
namespace Go.Eng
theorem al{n:Int}(h0: -9223372036854775808≤n)(h1:n≤9223372036854775807):IntKind.i64.wrap n=n:=by simp only[IntKind.wrap,IntKind.bits,IntKind.signed,Bool.true_and,ge_iff_le,decide_eq_true_eq,Nat.reduceSub];split<;>omega
section
variable {P:Program}{T:TypeId→Option TyI}{μ:Nat→Place}{mem:Mem}{base:Nat}{w:World}
def kj(T:TypeId→Option TyI) (mem:Mem) (t:TypeId) (l c:AV):Option (AV×Mem):=
 match T t with
 |none=>none
 |some i=>
  match i.desc,l,c with
  |.slice e,.int _ l,.int _ c=>
   match T e with
   |none=>none
   |some j=>
    if 0≤l∧l≤c∧(j.bytes:Int)*c≤281474976710656∧c≤281474976710656∧0<j.size∧j.size<1000 then
     some (.slice mem.length 0 l.toNat none,mem++[.cells true j.size (gD (iQ j.zero).cells l.toNat)])
    else none
  |_,_,_=>none
theorem yB(hT:cJ P T)(hH:aeL base μ mem w){t:TypeId}{l c v:AV}{L C:Value}{mem' :Mem}(hl:aeA μ mem.length l L)(hc:aeA μ mem.length c C)(h:kj T mem t l c=some (v,mem')):
  afA P (Instr.makeSlice t L C) base μ mem w v mem' :=by
 unfold kj at h;cases ht:T t with
 |none=>rw[ht] at h;cases h
 |some i=>
  rw[ht] at h;simp only at h;have hd:=(hT t i ht).desc;split at h
  ·rename_i e k1 l k2 c B'
   rw[B'] at hd;split at h
   ·cases h
   ·rename_i j hj
    split at h
    ·rename_i hcd
     obtain⟨g1,g2,g3,g4,g5,g6⟩:=hcd;cases h;rw[hl.int,hc.int];have hz:=jl μ mem.length j.zero;have hzs:=(hT e j hj).afX;have hzl:(iQ j.zero).cells.length=j.size:=by rw[←hz.length,Array.length_toList,hzs]
     obtain⟨f,hf,hfs,hfb,hfz⟩:=xJ hT hj w;have w1:IntKind.i64.wrap l=l:=al (by omega) (by omega);have w2:IntKind.i64.wrap c=c:=al (by omega) (by omega);obtain⟨h1,h2⟩:=rB hH e ((Array.range (c.toNat*j.size)).map (fun i=>j.zero.cells[i%j.zero.cells.size]!)) j.size (by omega) (gD (iQ j.zero).cells l.toNat) (fun q u hu=>by obtain⟨V,e1,e2,e3⟩:=rG hz _ q u hu;refine⟨V,?_,e2⟩;rw[hzs] at e3;have X7:l.toNat*j.size≤c.toNat*j.size:=Nat.mul_le_mul_right _ (by omega);have:=DQ (Z:=j.zero.cells) (m:=c.toNat*j.size) (j:=q) (by omega);rw[e1] at this;exact this)
     refine⟨.slice (some ⟨w.heap.size,0,none⟩) l.toNat c.toNat,_,_,?_,?_,h1,h2⟩
     ·have hb:¬(281474976710656<(f.bytes:Int)*c):=by rw[hfb];omega
      have Yl:¬((f.bytes:Int)*c>2 ^ 48):=by rw[hfb];omega
      have hc0:¬c<0:=by omega
      have hl0:¬l<0:=by omega
      have hlc:¬l>c:=by omega
      simp only[Instr.makeSlice,Sem.run_bind,run_underlying hd,asInt,asIntOf,Sem.run_pure,Result.andThen_ok,hf,w1,w2];have P':((decide (c<0)||decide ((f.bytes:Int)*c>2 ^ 48))||decide (l<0)||decide (l>c))=false:=by simp[hc0,hl0,hlc,hb]
      simp only[P',Bool.false_eq_true,if_false];have aaY:∀n,(askRoom n).run P w=.ok () w:=by intro n;unfold askRoom;split<;>simp[mark,Sem.run]
      simp only[Sem.run_bind,aaY,Result.andThen_ok,cD hT hj];by_cases h0:c.toNat*j.size=0
      ·rw[if_pos h0]
       rw[h0];simp only[Sem.run_bind,Sem.run_pure,Result.andThen_ok,Array.range_zero',Array.map_empty,newRow,run_newObj];rfl
      ·rw[if_neg h0]
       simp only[Sem.run_bind,Sem.run_pure,Result.andThen_ok,dX hT hj,newRow,run_newObj];rfl
     ·simp only[aeA,dW,jh,List.length_append,List.length_singleton]
      refine⟨by omega,?_⟩;simp only[Nat.sub_zero,Array.size_map,Array.size_range,Nat.mod_eq_of_lt g6,Nat.mul_div_cancel _ g5]
    ·cases h
  ·cases h
def fA(T:TypeId→Option TyI) (mem:Mem) (size:Nat) (t2:TypeId):AV→Option (Nat×List AV)
 |.kK=>some (0,[])
 |.slice b o m _=>match mem[b]? with
  |some (.cells _ _ cs)=>if o+m*size≤cs.length then some (m,(cs.drop o).take (m*size)) else none
  |_=>if m=0 then some (0,[]) else none
 |.str s=>match T t2 with
  |some i=>match i.desc with
   |.string=>if size=1 then some (s.length,s.map fun c=>.int .u8 c.toNat) else none
   |_=>none
  |none=>none
 |_=>none
def tW(i:TyI):Bool:=match i.desc with
 |.slice _=>true
 |.string=>true
 |_=>false
def om(j:TyI) (e:TypeId):Nat:=match j.desc with
 |.int .u8=>j.size+1000*(e+1)
 |_=>j.size
def dy(T:TypeId→Option TyI) (mem:Mem) (t t2:TypeId) (s x:AV):Option (AV×Mem):=
 match T t with
 |none=>none
 |some i=>
  match i.desc with
  |.slice e=>
   match T e,T t2 with
   |some j,some i2=>
    if j.size=0∨1000≤j.size∨tW i2=false then none else
    match fA T mem j.size t2 x with
    |none=>none
    |some (m,news)=>
     if news.all AV.kS=true then
      match s with
      |.kK=>
       if m=0 then some (.kK,mem)
       else if m*j.bytes≤140737488355328∧m≤140737488355328 then some (.slice mem.length 0 m none,mem++[.cells true (om j e) news])
       else none
      |.slice b 0 n none=>
       match mem[b]? with
       |some (.cells true es cs)=>
        if (es=j.size∨es=om j e)∧n*j.size≤cs.length∧(n+m)*j.bytes≤140737488355328∧n+m≤140737488355328 then
         some (.slice mem.length 0 (n+m) none,mem.set b .kO++[.cells true es (cs.take (n*j.size)++news)])
        else none
       |_=>none
      |_=>none
     else none
   |_,_=>none
  |_=>none
theorem si(hH:aeL base μ mem w){size:Nat}{t2:TypeId}{x:AV}{X:Value}{m:Nat}{news:List AV}(hx:aeA μ mem.length x X)(h:fA T mem size t2 x=some (m,news)):
  ∃Ns,aeC μ mem.length news Ns∧news.length=m*size∧(Builtin.lenOf X).run P w=.ok m w∧
   ∀w',(∀a,w'.cell? a=w.cell? a)→(Builtin.firstCells size m X).run P w' =.ok ⟨Ns⟩ w' :=by
 unfold fA at h;split at h
 ·cases h
  simp only[aeA] at hx;subst hx;exact⟨[],by simp[aeC],by simp,by simp[Builtin.lenOf],fun w' _=>by simp[Builtin.firstCells]⟩
 ·rename_i b o k c
  split at h
  ·rename_i own es cs hb
   split at h
   ·rename_i X7
    cases h;obtain⟨Y0,rfl⟩:=hx.slice;obtain⟨Vs,h1,h2,h3⟩:=hH.cells hb X7;refine⟨Vs,h1,by simp;omega,by simp[Builtin.lenOf],fun w' hw=>?_⟩;exact run_firstCells_some w' size m _ _ _ Vs h2 (fun j v hv=>by rw[hw];exact h3 j v hv)
   ·cases h
  ·split at h
   ·rename_i h0
    cases h;subst h0;obtain⟨Y0,rfl⟩:=hx.slice;refine⟨[],by simp[aeC],by simp,by simp[Builtin.lenOf],fun w' hw=>?_⟩;exact run_firstCells_some w' size 0 _ _ _ [] (by simp) (fun j v hv=>by simp at hv)
   ·cases h
 ·rename_i s
  split at h
  ·split at h
   ·split at h
    ·rename_i Yw
     cases h;subst Yw;rw[hx.str];refine⟨s.map fun c=>.int .u8 c.toNat,?_,by simp,by simp[Builtin.lenOf,qY],fun w' _=>?_⟩
     ·refine aeC.afy (by simp) fun i v hv=>?_
      simp only[List.getElem?_map,Option.map_eq_some_iff] at hv ⊢;obtain⟨c,hc,rfl⟩:=hv;exact⟨_,⟨c,hc,rfl⟩,by simp[aeA]⟩
     ·simp only[Builtin.firstCells,Sem.run_pure,Result.ok.injEq,and_true]
      have:(ByteArray.mk s.toArray).extract 0 s.length=⟨s.toArray⟩:=by apply ByteArray.ext;apply Array.ext';simp[List.extract]
      rw[this];simp
    ·cases h
   ·cases h
  ·cases h
 ·cases h
end
end Go.Eng
namespace Go.Eng
variable{b:Nat}{j:TyI}
section
variable {P:Program}{T:TypeId→Option TyI}{μ:Nat→Place}{mem:Mem}{base:Nat}{w:World}
section
variable (hT:cJ P T){t t2 ty e:TypeId}(hd:P.underlying t=some (.slice e))(hj:T e=some j)(ht2:(∃e2,P.underlying t2=some (.slice e2))∨P.underlying t2=some .string)(bs:Option Addr)
include hT t t2 ty e hd hj ht2 bs
theorem tE(n c m:Nat)(X:Value)(w:World)(hl:(Builtin.lenOf X).run P w=.ok m w)(YA:n+m≤c):
  (Builtin.append_ #[t,t2] ty #[.slice bs n c,X]).run P w=
   ((Builtin.firstCells j.size m X).run P w).andThen fun new w' =>match bs with
    |some a=>((storeCells (a.add (n*j.size)) new.toList).run P w').andThen fun _ w'' =>.ok (.slice bs (n+m) c) w''
    |none=>.ok (.slice bs (n+m) c) w' :=by
 rcases ht2 with⟨e2,hd2⟩ | hd2<;>
  simp[Builtin.append_,run_underlying hd,run_underlying hd2,cD hT hj,hl,YA]<;>cases bs<;>simp
theorem Az(n c m:Nat)(X:Value)(w:World)(Os Ns:List Value)(hl:(Builtin.lenOf X).run P w=.ok m w)(YA:c<n+m)(hb:(n+m)*j.bytes≤140737488355328)(hm:n+m≤140737488355328)(hO:(Builtin.firstCells j.size n (.slice bs n c)).run P w.drew=.ok ⟨Os⟩ w.drew)(hN:(Builtin.firstCells j.size m X).run P w.drew=.ok ⟨Ns⟩ w.drew):
  ∃nc,n+m≤nc∧(Builtin.append_ #[t,t2] ty #[.slice bs n c,X]).run P w=
   .ok (.slice (some ⟨w.heap.size,0,none⟩) (n+m) nc) (w.drew.alloc (.cells (⟨Os⟩++(⟨Ns⟩++Builtin.zeroCells j.zero.cells (nc-(n+m)))) e)):=by
 obtain⟨f,hf,hfs,hfb,hfz⟩:=(hT e j hj).info;have hnf:¬(n+m≤c):=by omega
 have h63:¬(9223372036854775807<((n:Int)+(m:Int))):=by omega
 have h48:¬(281474976710656<Builtin.nextslicecap (n+m) c*f.bytes):=by have:=growslice_fits YA (bytes:=f.bytes) (by rw[hfb];exact hb);omega
 have aaY:∀n w,(askRoom n).run P w=.ok () w:=by intro n w;unfold askRoom;split<;>simp[mark,Sem.run]
 refine⟨grownCap w (n+m) c e,grownCap_ge w (n+m) c e,?_⟩;rcases ht2 with⟨e2,hd2⟩ | hd2<;>
  simp[Builtin.append_,run_underlying hd,run_underlying hd2,sizeOf,typeInfo,zeroValue,hf,hfs,hfz,hl,hnf,h63,h48,Question.forced,hO,hN,newRow,grownCap,aaY]
end
theorem aeL.drop{s:aeD}(hH:aeL base μ mem w)(hb:mem[b]? =some s):aeL base μ (mem.set b .kO) w:=by
 have A':b<mem.length:=(gL hb);have own:∀x,ei (mem.set b .kO) x→ei mem x∧x≠b:=by
  intro x hx;by_cases hxb:x=b
  ·subst hxb
   obtain⟨s0,hc,ho⟩:=hx;rw[List.getElem?_set_self A'] at hc;cases hc;cases ho
  ·obtain⟨s0,hc,ho⟩:=hx
   rw[List.getElem?_set_ne (Ne.symm hxb)] at hc;exact⟨⟨s0,hc,ho⟩,hxb⟩
 refine⟨hH.aeI,fun x t ht=>?_,fun x x' t hx hx' PP hxx=>?_⟩
 ·rw[List.length_set]
  by_cases hxb:x=b
  ·subst hxb;rw[List.getElem?_set_self A'] at ht;cases ht;trivial
  ·rw[List.getElem?_set_ne (Ne.symm hxb)] at ht;exact hH.slot x t ht
 ·by_cases hxb:x' =b
  ·subst hxb;rw[List.getElem?_set_self A'] at hx';cases hx';exact absurd rfl PP
  ·rw[List.getElem?_set_ne (Ne.symm hxb)] at hx'
   exact hH.sep x x' t (own x hx).1 hx' PP hxx
theorem Step.drop{m0:Nat}{μ:Nat→Place}{mem:Mem}{w:World}(h:m0≤mem.length):Step m0 μ mem w μ (mem.set b .kO) w:=by
 refine⟨by simpa using h,fun _ _=>rfl,rfl,rfl,rfl,Nat.le_refl _,fun _ _ _=>rfl,fun x hx _=>⟨x,?_,rfl⟩,Nat.le_refl _⟩;by_cases hxb:x=b
 ·subst hxb
  by_cases A':x<mem.length
  ·obtain⟨s0,hc,ho⟩:=hx
   rw[List.getElem?_set_self A'] at hc;cases hc;cases ho
  ·obtain⟨s0,hc,ho⟩:=hx
   have:=(gL hc);simp at this;omega
 ·obtain⟨s0,hc,ho⟩:=hx
  rw[List.getElem?_set_ne (Ne.symm hxb)] at hc;exact⟨s0,hc,ho⟩
theorem aeL.rename{es:Nat}{cs Yf :List AV}{w' :World}(hH:aeL base μ mem w)(hb:mem[b]? =some (.cells true es cs))(hdr:w'.drawn=w.drawn)(hos:w'.os=w.os)(aam:w'.tape=w.tape)(ZT:w'.output=w.output)(Yw:w'.heap.size=w.heap.size)(aaX:∀k,k≠(μ b).blk→w'.heap[k]? =w.heap[k]?)(hs:aeO μ mem.length base w' (μ b) (.cells true es Yf)):
  aeL base (upd μ mem.length (μ b)) (mem.set b .kO++[.cells true es Yf]) w' ∧
  Step mem.length μ mem w (upd μ mem.length (μ b)) (mem.set b .kO++[.cells true es Yf]) w' :=by
 have A':b<mem.length:=(gL hb);have YV:ei mem b:=jm hb;have hw:=hH.write (s' :=.cells true es Yf) hb YV (fun _=>⟨_,List.getElem?_set_self A',rfl⟩) hdr hos aam ZT Yw aaX hs;have hμ:∀x,x<mem.length→upd μ mem.length (μ b) x=μ x:=fun x hx=>vp hx
 have F':(mem.set b .kO).length=mem.length:=by simp
 have own:∀x,ei (mem.set b .kO++[.cells true es Yf]) x→(x<mem.length∧x≠b∧ei mem x)∨x=mem.length:=by
  intro x hx;by_cases hxl:x<mem.length
  ·refine .inl ⟨hxl,?_⟩
   have hx' :ei (mem.set b .kO) x:=by obtain⟨s0,hc,ho⟩:=hx;rw[List.getElem?_append_left (by omega)] at hc;exact⟨s0,hc,ho⟩
   by_cases hxb:x=b
   ·subst hxb
    obtain⟨s0,hc,ho⟩:=hx';rw[List.getElem?_set_self A'] at hc;cases hc;cases ho
   ·refine⟨hxb,?_⟩
    obtain⟨s0,hc,ho⟩:=hx';rw[List.getElem?_set_ne (Ne.symm hxb)] at hc;exact⟨s0,hc,ho⟩
  ·refine .inr ?_
   obtain⟨s0,hc,ho⟩:=hx;have:=(gL hc);simp at this;omega
 constructor
 ·refine⟨hw.1.aeI,fun x t ht=>?_,fun x x' t hx hx' PP hxx=>?_⟩
  ·rw[List.length_append,List.length_singleton,F']
   by_cases hxl:x<mem.length
   ·rw[List.getElem?_append_left (by omega)] at ht
    rw[hμ x hxl];by_cases hxb:x=b
    ·subst hxb;rw[List.getElem?_set_self A'] at ht;cases ht;trivial
    ·rw[List.getElem?_set_ne (Ne.symm hxb)] at ht
     have:=hw.1.slot x t (by rw[List.getElem?_set_ne (Ne.symm hxb)];exact ht);rw[List.length_set] at this;exact this.mono (Nat.le_succ _) hμ fun _=>rfl
   ·have hxe:x=mem.length:=by have:=(gL ht);simp at this;omega
    subst hxe;rw[List.getElem?_append_right (by omega),F'] at ht;simp at ht;subst ht;rw[dW];exact hs.mono (Nat.le_succ _) hμ fun _=>rfl
  ·have ac4:∀y s,(mem.set b .kO++[.cells true es Yf])[y]? =some s→s≠ .kO→(y<mem.length∧y≠b∧mem[y]? =some s)∨y=mem.length:=by
    intro y s hy hns;by_cases hyl:y<mem.length
    ·rw[List.getElem?_append_left (by omega)] at hy
     by_cases hyb:y=b
     ·subst hyb;rw[List.getElem?_set_self A'] at hy;cases hy;exact absurd rfl hns
     ·rw[List.getElem?_set_ne (Ne.symm hyb)] at hy;exact .inl ⟨hyl,hyb,hy⟩
    ·exact .inr (by have:=(gL hy);simp at this;omega)
   rcases own x hx with⟨a1,a2,a3⟩ | rfl<;>rcases ac4 x' t hx' PP with⟨b1,b2,b3⟩ | rfl
   ·rw[hμ x a1,hμ x' b1];exact hH.sep x x' t a3 b3 PP hxx
   ·rw[hμ x a1,dW];exact hH.sep x b _ a3 hb (by simp) a2
   ·rw[hμ x' b1,dW];exact hH.sep b x' t YV b3 PP (Ne.symm b2)
   ·exact absurd rfl hxx
 ·refine⟨by simp,hμ,hos,aam,ZT,by omega,fun k hk hf=>aaX k fun he=>hf b YV he.symm,fun x hx X5 =>?_,Nat.le_of_eq hdr.symm⟩
  rcases own x hx with⟨a1,_,a3⟩ | rfl
  ·exact⟨x,a3,by rw[hμ x a1]⟩
  ·exact⟨b,YV,by rw[dW]⟩
end
end Go.Eng
namespace Go.Eng
section
variable {P:Program}{T:TypeId→Option TyI}{μ:Nat→Place}{mem:Mem}{base:Nat}{w:World}
theorem aeL.drew(h:aeL base μ mem w):aeL base μ mem w.drew:=h.afz rfl
theorem aeC.afl{n:Nat}{vs:List AV}{Vs:List Value}(h:aeC μ n vs Vs)(ha:vs.all AV.kS=true):∀u∈Vs,u.oneCell' =true:=by
 intro u hu;obtain⟨j,hj⟩:=List.getElem?_of_mem hu;have A':j<vs.length:=by rw[←h.length];exact(gL hj)
 obtain⟨U,hU,hr⟩:=h.get j vs[j] (by simp[A']);rw[hj] at hU;cases hU;exact hr.afV (List.all_eq_true.1 ha _ (by simp))
theorem Fy{j:TyI}{e:TypeId}(h:j.size<1000):om j e%1000=j.size∧(1000≤om j e→e+1=om j e / 1000):=by
 unfold om;split
 ·refine⟨by rw[Nat.add_mul_mod_self_left,Nat.mod_eq_of_lt h],fun _=>by rw[Nat.add_mul_div_left _ _ (by omega),Nat.div_eq_of_lt h,Nat.zero_add]⟩
 ·exact⟨Nat.mod_eq_of_lt h,fun h1=>by omega⟩
theorem Mq(hH:aeL base μ mem w){e:TypeId}{size need nc es:Nat}(Y7:es%1000=size∧(1000≤es→e+1=es / 1000)){olds news:List AV}{Os Ns:List Value}{z:Array Value}(h0:0<size)(hz:z.size=size)(hO:aeC μ mem.length olds Os)(hN:aeC μ mem.length news Ns)(hl:olds.length+news.length=need*size)(hnc:need≤nc){x:Sem Value}(hx:x.run P w=.ok (.slice (some ⟨w.heap.size,0,none⟩) need nc) (w.drew.alloc (.cells (⟨Os⟩++(⟨Ns⟩++Builtin.zeroCells z (nc-need))) e))):
  afA P x base μ mem w (.slice mem.length 0 need none) (mem++[.cells true es (olds++news)]):=by
 have Yw:(⟨Os⟩++(⟨Ns⟩++Builtin.zeroCells z (nc-need)):Array Value).size=nc*size:=by simp only[Array.size_append,List.size_toArray,size_zeroCells,hz,hO.length,hN.length];rw[←Nat.add_assoc,hl,←Nat.add_mul];congr 1;omega
 obtain⟨h1,h2⟩:=rB hH.drew e (⟨Os⟩++(⟨Ns⟩++Builtin.zeroCells z (nc-need))) es Y7.2 (olds++news) (fun j v hv=>by obtain⟨U,hU,hr⟩:=(hO.append hN).get j v hv;refine⟨U,?_,hr⟩;have A':j<(Os++Ns).length:=(gL hU);rw[←Array.append_assoc,Array.getElem?_append_left (by simpa using A')];simpa using hU)
 refine⟨_,_,_,hx,?_,h1,?_⟩
 ·simp only[aeA,dW,jh,List.length_append,List.length_singleton,World.size_drew]
  refine⟨by omega,?_⟩;rw[Nat.sub_zero,Yw,Y7.1,Nat.mul_div_cancel _ h0]
 ·exact(Step.drew (m0:=mem.length) (Nat.le_refl _)).trans h2
theorem EO(hT:cJ P T)(hH:aeL base μ mem w){t t2 ty:TypeId}{s x v:AV}{S X:Value}{mem' :Mem}(hs:aeA μ mem.length s S)(hx:aeA μ mem.length x X)(h:dy T mem t t2 s x=some (v,mem')):
  afA P (Builtin.append_ #[t,t2] ty #[S,X]) base μ mem w v mem' :=by
 unfold dy at h;cases ht:T t with
 |none=>rw[ht] at h;cases h
 |some i=>
  rw[ht] at h;simp only at h;have hd:=(hT t i ht).desc;split at h
  ·rename_i e B'
   rw[B'] at hd;split at h
   ·rename_i j i2 hj hi2
    split at h
    ·cases h
    ·rename_i P'
     have hd2:=(hT t2 i2 hi2).desc;have ht2:(∃e2,P.underlying t2=some (.slice e2))∨P.underlying t2=some .string:=by
      have XW:tW i2=true:=by
       cases h2:tW i2 with
       |true=>rfl
       |false=>exact absurd (.inr (.inr h2)) P'
      unfold tW at XW;split at XW
      ·rename_i e2 h2;rw[h2] at hd2;exact .inl ⟨e2,hd2⟩
      ·rename_i h2;rw[h2] at hd2;exact .inr hd2
      ·cases XW
     have Yw:0<j.size:=by
      rcases Nat.eq_zero_or_pos j.size with h0 | h0
      ·exact absurd (.inl h0) P'
      ·exact h0
     have hsk:j.size<1000:=by
      rcases Nat.lt_or_ge j.size 1000 with h0 | h0
      ·exact h0
      ·exact absurd (.inr (.inl h0)) P'
     have hzs:=(hT e j hj).afX;split at h
     ·cases h
     ·rename_i m news abK
      split at h
      ·rename_i H'
       obtain⟨Ns,g1,g2,g3,g4⟩:=si (P:=P) hH hx abK;split at h
       ·
        simp only[aeA] at hs;subst hs;split at h
        ·rename_i hm
         cases h;subst hm;have hr:=tE hT (ty:=ty) hd hj ht2 none 0 0 0 X w g3 (Nat.le_refl _);rw[g4 w (fun _=>rfl)] at hr;exact afA.aeU hH ⟨_,hr,by simp[aeA]⟩
        ·rename_i hm
         split at h
         ·rename_i hb
          cases h;obtain⟨nc,hnc,hr⟩:=Az hT (ty:=ty) hd hj ht2 none 0 0 m X w [] Ns g3 (by omega) (by simpa using hb.1) (by simpa using hb.2) (by simp[Builtin.firstCells]) (g4 w.drew (fun _=>rfl));simp only[Nat.zero_add] at hr hnc;have:=Mq (P:=P) hH (es:=om j e) (Fy hsk) (olds:=[]) (news:=news) Yw hzs (by simp[aeC]) g1 (by simpa using g2) hnc hr;simpa using this
         ·cases h
       ·rename_i b n
        split at h
        ·rename_i es cs hb
         split at h
         ·rename_i hc
          obtain⟨k1,k2,k3,k4⟩:=hc;cases h;obtain⟨Y0,rfl⟩:=hs.slice;have YT:=hH.slot b _ hb;simp only[aeO] at YT;obtain⟨cur,el,fr,s1,s2,s3,s4,s5⟩:=YT;obtain⟨s6,s7,s8,s9⟩:=s5 trivial;subst s7;have Y7:es%1000=j.size∧(1000≤es→e+1=es / 1000):=by
           rcases k1 with rfl | rfl
           ·exact⟨Nat.mod_eq_of_lt hsk,fun h1=>by omega⟩
           ·exact Fy hsk
          have s2' :(μ b).es=j.size:=by rw[s2.1];exact Y7.1
          have ZW:jh (μ b) 0 none=(μ b).tot / j.size:=by simp[jh,s2']
          have ZD:(μ b).off+0=0:=by omega
          rw[ZD,ZW];obtain⟨Os,o1,o2,o3⟩:=hH.cells hb (o:=0) (k:=n*j.size) (by omega);simp only[List.drop_zero] at o1;rw[ZD] at o3;have ael:0<j.size:=Yw;by_cases YA:n+m≤(μ b).tot / j.size
          ·have hr:=tE hT (ty:=ty) hd hj ht2 (some ⟨(μ b).blk,0,none⟩) n _ m X w g3 YA
           rw[g4 w (fun _=>rfl)] at hr;have aaB:(n+m)*j.size≤(μ b).tot:=by have:=Nat.mul_le_mul_right j.size YA;exact Nat.le_trans this (Nat.div_mul_le_self _ _)
           have hNl:Ns.length=m*j.size:=by rw[g1.length,g2,]
           have XZ:=run_storeCells_at (P:=P) (μ b).blk (n*j.size) el Ns 0 cur w s1 (by rw[hNl,s8,Nat.add_zero,←Nat.add_mul];exact aaB) (g1.afl H');simp only[Result.andThen_ok,Addr.add_lit,Nat.zero_add,XZ] at hr;have F':cs.length≤cur.size:=by rw[s8];exact s3
           have hs' :aeO μ mem.length base (w.setRow (μ b).blk (cur.toList.take (n*j.size+0)++Ns++cur.toList.drop (n*j.size+0+Ns.length)).toArray) (μ b) (.cells true es (cs.take (n*j.size)++news)):=by
            simp only[aeO];refine⟨_,el,(0,0),setRow_heap w (μ b).blk cur _ el (0,0) s1,s2,?_,fun q u hu=>?_,fun _=>⟨s6,rfl,?_,s9⟩⟩
            ·simp only[List.length_append,List.length_take,g2]
             rw[Nat.add_mul] at aaB;omega
            ·rw[s6,Nat.zero_add]
             have e1:(cs.take (n*j.size)).length=n*j.size:=by simp;omega
             have e2:(cur.toList.take (n*j.size+0)).length=n*j.size:=by simp;omega
             simp only[List.getElem?_toArray,List.append_assoc];by_cases hq:q<n*j.size
             ·rw[List.getElem?_append_left (by omega),List.getElem?_take_of_lt hq] at hu
              rw[List.getElem?_append_left (by omega),List.getElem?_take_of_lt (by omega)];obtain⟨U,hU,hr⟩:=s4 q u hu;rw[s6,Nat.zero_add] at hU;exact⟨U,by simpa using hU,hr⟩
             ·rw[List.getElem?_append_right (by omega),e1] at hu
              rw[List.getElem?_append_right (by omega),e2];obtain⟨U,hU,hr⟩:=g1.get _ u hu;rw[List.getElem?_append_left (gL hU)];exact⟨U,hU,hr⟩
            ·simp only[List.size_toArray,List.length_append,List.length_take,List.length_drop,Array.length_toList,hNl]
             rw[Nat.add_mul] at aaB;omega
           obtain⟨r1,r2⟩:=hH.rename (w' :=w.setRow (μ b).blk (cur.toList.take (n*j.size+0)++Ns++cur.toList.drop (n*j.size+0+Ns.length)).toArray) hb rfl rfl rfl rfl (by simp[World.setRow]) (fun k hk=>setRow_other w _ k _ hk) hs';refine⟨_,_,_,hr,?_,r1,r2⟩;simp only[aeA,dW,jh,List.length_append,List.length_set,List.length_singleton];refine⟨by omega,?_⟩;rw[s2',s6];rfl
          ·have hO:(Builtin.firstCells j.size n (.slice (some ⟨(μ b).blk,0,none⟩) n ((μ b).tot / j.size))).run P w.drew=.ok ⟨Os⟩ w.drew:=
            run_firstCells_some w.drew j.size n _ _ _ Os (by rw[o2,]) (fun q u hq=>o3 q u hq)
           obtain⟨nc,hnc,hr⟩:=Az hT (ty:=ty) hd hj ht2 (some ⟨(μ b).blk,0,none⟩) n _ m X w Os Ns g3 (by omega) k3 k4 hO (g4 w.drew (fun _=>rfl));have hH2:=hH.drop hb;have F':(mem.set b .kO).length=mem.length:=by simp
           have:=Mq (P:=P) hH2 (es:=es) Y7 (olds:=cs.take (n*j.size)) (news:=news) Yw hzs (by rw[F'];exact o1) (by rw[F'];exact g1) (by rw[List.length_take,g2,Nat.add_mul];omega) hnc hr;obtain⟨V,w',μ',q1,q2,q3,q4⟩:=this;rw[] at q2 q3 q4;rw[F'] at q2 q4;exact⟨V,w',μ',q1,q2,q3,(Step.drop (b:=b) (Nat.le_refl _)).trans q4⟩
         ·cases h
        ·cases h
       ·cases h
      ·cases h
   ·cases h
  ·cases h
end
end Go.Eng
namespace Go.Eng
def Sl(T:TypeId→Option TyI) (q:TypeId→AV→Bool) (xs:List AV):List Field→Bool
 | []=>true
 |f::fs=>
  match T f.type with
  |none=>false
  |some i=>match jn i xs f.offset with
   |some a=>q f.type a&&Sl T q xs fs
   |none=>false
def J9(q:AV→Bool) (i:TyI) (xs:List AV):List Nat→Bool
 | []=>true
 |j::js=>match jn i xs (j*i.size) with
  |some a=>q a&&J9 q i xs js
  |none=>false
def lE(T:TypeId→Option TyI):Nat→TypeId→AV→Bool
 |0,_,_=>false
 |d+1,t,x=>
  match T t with
  |none=>false
  |some i=>
   match i.desc,x with
   |.bool,.bool _=>true
   |.int _,.int _ _=>true
   |.string,.str _=>true
   |.struct fs,.agg xs=>Sl T (lE T d) xs fs.toList
   |.array n e,.agg xs=>match T e with
    |some j=>J9 (lE T d e) j xs (List.range' 0 n)
    |none=>false
   |_,_=>false
def jj(T:TypeId→Option TyI) (kt:TypeId) (k:AV):List (AV×AV)→Nat→Option (Option (Nat×AV))
 | [],_=>some none
 |e::es,i=>match lz T 20 kt k e.1 with
  |some true=>some (some (i,e.2))
  |some false=>jj T kt k es (i+1)
  |none=>none
def AV.afn:AV→Bool
 |.bool _ | .int _ _ | .str _=>true
 |_=>false
def ju(mem:Mem):AV→Option (List (AV×AV))
 |.ae0=>some []
 |.map b=>match mem[b]? with
  |some (.map es)=>some es
  |some (.ae8 es)=>some es
  |_=>none
 |_=>none
def kJ(T:TypeId→Option TyI) (mem:Mem) (t:TypeId) (m k:AV) (ok:Bool):Option AV:=
 match T t with
 |none=>none
 |some i=>
  match i.desc with
  |.map kt et=>
   match T et,ju mem m with
   |some j,some es=>
    if lE T 20 kt k then
     match jj T kt k es 0 with
     |some (some (_,v))=>some (if ok then .tuple [v,.bool true] else v)
     |some none=>some (if ok then .tuple [iQ j.zero,.bool false] else iQ j.zero)
     |none=>none
    else none
   |_,_=>none
  |_=>none
def eZ(T:TypeId→Option TyI) (mem:Mem) (t:TypeId) (m k v:AV):Option Mem:=
 match T t with
 |none=>none
 |some i=>
  match i.desc,m with
  |.map kt _,.map b=>
   match mem[b]? with
   |some (.map es)=>
    if lE T 20 kt k then
     match jj T kt k es 0 with
     |some (some (i,_))=>if k.afn then some (mem.set b (.map (es.set i (k,v)))) else none
     |some none=>some (mem.set b (.map (es++[(k,v)])))
     |none=>none
    else none
   |_=>none
  |_,_=>none
variable{K:Value}{k:AV}
section
variable {P:Program}{T:TypeId→Option TyI}{μ:Nat→Place}{mem:Mem}{base:Nat}{w:World}{n:Nat}
theorem A0(hT:cJ P T) {d:Nat}{q:TypeId→AV→Bool}{em:Bool}
  (ih:∀{t:TypeId}{x:AV}{X:Value},q t x=true→aeA μ n x X→∀(w:World),(Instr.checkKey em d t X).run P w=.ok () w)
  {xs:List AV}{Xs:List Value}(hx:aeC μ n xs Xs) (w:World):∀{fs:List Field},Sl T q xs fs=true→
  ((forIn fs PUnit.unit fun f _=>(do
    if f.name ≠ "_" then
     let a ←part f.type ⟨Xs⟩ f.offset
     Instr.checkKey em d f.type a
     pure (ForInStep.yield PUnit.unit)
    else pure (ForInStep.yield PUnit.unit):Sem (ForInStep PUnit))).run P w=.ok PUnit.unit w)
 | [],_=>by simp
 |f::fs,h=>by
  rw[Sl] at h;split at h
  ·cases h
  ·rename_i i ht
   split at h
   ·rename_i a ha
    simp only[Bool.and_eq_true] at h;obtain⟨A,hA,hrA⟩:=iH (P:=P) (μ:=μ) (n:=n) hT ht ha hx w;have h1:=ih h.1 hrA w;have h2:=A0 hT ih hx w h.2;rw[List.forIn_cons];by_cases aan:f.name = "_"
    ·simp only[aan,ne_eq,not_true_eq_false,if_false,pure_bind]
     simp only[ne_eq] at h2;exact h2
    ·simp only[aan,ne_eq,not_false_eq_true,if_true,Sem.run_bind,hA,h1,Result.andThen_ok,Sem.run_pure]
     exact h2
   ·cases h
theorem AZ(hT:cJ P T) {d:Nat}{e:TypeId}{i:TyI}(hi:T e=some i) {q:AV→Bool}{em:Bool}
  (ih:∀{x:AV}{X:Value},q x=true→aeA μ n x X→∀(w:World),(Instr.checkKey em d e X).run P w=.ok () w)
  {xs:List AV}{Xs:List Value}(hx:aeC μ n xs Xs) (w:World):∀{js:List Nat},J9 q i xs js=true→
  ((forIn js PUnit.unit fun j _=>(do
    let s ←sizeOf e
    let a ←part e ⟨Xs⟩ (j*s)
    Instr.checkKey em d e a
    pure (ForInStep.yield PUnit.unit):Sem (ForInStep PUnit))).run P w=.ok PUnit.unit w)
 | [],_=>by simp
 |j::js,h=>by
  rw[J9] at h;split at h
  ·rename_i a ha
   simp only[Bool.and_eq_true] at h;obtain⟨A,hA,hrA⟩:=iH (P:=P) (μ:=μ) (n:=n) hT hi ha hx w;have h1:=ih h.1 hrA w;have h2:=AZ hT hi ih hx w h.2;rw[List.forIn_cons];simp only[Sem.run_bind,cD hT hi,hA,h1,Result.andThen_ok,Sem.run_pure];exact h2
  ·cases h
theorem kQ(hT:cJ P T) (em:Bool):∀(d:Nat) {t:TypeId}{x:AV}{X:Value},lE T d t x=true→aeA μ n x X→
  ∀(k:Nat) (w:World),(Instr.checkKey em (d+k) t X).run P w=.ok () w
 |0,_,_,_,h,_,_,_=>by simp[lE] at h
 |d+1,t,x,X,h,hx,k,w=>by
  rw[lE] at h;rw[show d+1+k=d+k+1 by omega];cases ht:T t with
  |none=>rw[ht] at h;cases h
  |some i=>
   rw[ht] at h;simp only at h;have hd:=(hT t i ht).desc;split at h
   ·rename_i B';rw[B'] at hd;rw[hx.bool,Instr.checkKey];simp[run_underlying hd]
   ·rename_i B';rw[B'] at hd;rw[hx.int,Instr.checkKey];simp[run_underlying hd]
   ·rename_i B';rw[B'] at hd;rw[hx.str,Instr.checkKey];simp[run_underlying hd]
   ·rename_i fs xs B'
    rw[B'] at hd;obtain⟨Xs,rfl,hxs⟩:=hx.agg;have:=A0 (em:=em) hT (fun h1 h2 w=>kQ hT em d h1 h2 k w) hxs w h;rw[Instr.checkKey];simp only[Sem.run_bind,run_underlying hd,Result.andThen_ok];rw[←Array.forIn_toList];rw[this];rfl
   ·rename_i m e xs B'
    rw[B'] at hd;split at h
    ·rename_i j hj
     obtain⟨Xs,rfl,hxs⟩:=hx.agg;have:=AZ (em:=em) hT hj (fun h1 h2 w=>kQ hT em d h1 h2 k w) hxs w h;rw[Instr.checkKey];simp only[Sem.run_bind,run_underlying hd,Result.andThen_ok];simp only[Std.Legacy.Range.forIn_eq_forIn_range',Std.Legacy.Range.size,Nat.sub_zero,Nat.add_sub_cancel,Nat.div_one];rw[this];rfl
    ·cases h
   ·cases h
def M4(μ:Nat→Place) (n:Nat):Option (Nat×AV)→Option (Nat×Value)→Prop
 |some (a,v),some (b,V)=>a=b∧aeA μ n v V
 |none,none=>True
 |_,_=>False
theorem oJ(hT:cJ P T) {kt:TypeId}{k:AV}{K:Value}(hk:aeA μ n k K) (w:World):∀{es:List (AV×AV)}{Es:List MapEntry}{i:Nat}{r:Option (Nat×AV)},
  Es.length=es.length→(∀(j:Nat) e,es[j]? =some e→∃E,Es[j]? =some E∧NT μ n e E)→jj T kt k es i=some r→
  ∃R,(Instr.findAsking kt K Es i).run P w=.ok R w∧M4 μ n r R
 | [],Es,i,r,hl,_,h=>by have:Es=[]:=List.eq_nil_of_length_eq_zero hl;subst this;simp only[jj,Option.some.injEq] at h;subst h;exact⟨none,by simp[Instr.findAsking],trivial⟩
 |e::es,[],i,r,hl,_,h=>by simp at hl
 |e::es,E::Es,i,r,hl,hr,h=>by
  rw[jj] at h;obtain⟨E',h1,h2⟩:=hr 0 e rfl;simp at h1;subst h1;have XV:∀(j:Nat) e',es[j]? =some e' →∃E',Es[j]? =some E' ∧NT μ n e' E' :=fun j e' he=>by simpa using hr (j+1) e' (by simpa using he)
  split at h
  ·rename_i S'
   cases h;have:=iD hT 20 S' hk h2.1 9980 w;refine⟨some (i,E.val),?_,rfl,h2.2⟩;simp only[Instr.findAsking,Sem.run_bind];rw[show Op.equal kt K E.key=Op.equalIn (20+9980) kt K E.key from rfl,this];simp
  ·rename_i S'
   have:=iD hT 20 S' hk h2.1 9980 w;obtain⟨R,g1,g2⟩:=oJ hT hk w (by simpa using hl) XV h;refine⟨R,?_,g2⟩;simp only[Instr.findAsking,Sem.run_bind];rw[show Op.equal kt K E.key=Op.equalIn (20+9980) kt K E.key from rfl,this];simpa using g1
  ·cases h
theorem sd(hT:cJ P T) {kt:TypeId}{kd:TypeDesc}(hkd:P.underlying kt=some kd) {k:AV}{K:Value}(hk:aeA μ n k K) (w:World):
  ∀{es:List (AV×AV)}{Es:List MapEntry}{i:Nat}{r:Option (Nat×AV)}{R:Option (Nat×Value)},
  Es.length=es.length→(∀(j:Nat) e,es[j]? =some e→∃E,Es[j]? =some E∧NT μ n e E)→jj T kt k es i=some r→Instr.findNow kd K Es i=some R→
  (Instr.findAsking kt K Es i).run P w=.ok R w
 | [],Es,i,r,R,hl,_,_,h=>by have:Es=[]:=List.eq_nil_of_length_eq_zero hl;subst this;simp only[Instr.findNow,Option.some.injEq] at h;subst h;simp[Instr.findAsking]
 |e::es,[],i,r,R,hl,_,_,h=>by simp at hl
 |e::es,E::Es,i,r,R,hl,hr,hf,h=>by
  obtain⟨E',h1,h2⟩:=hr 0 e rfl;simp at h1;subst h1;have XV:∀(j:Nat) e',es[j]? =some e' →∃E',Es[j]? =some E' ∧NT μ n e' E' :=fun j e' he=>by simpa using hr (j+1) e' (by simpa using he)
  rw[jj] at hf;have key:∀b,lz T 20 kt k e.1=some b→∀b',Instr.sameNow kd K E.key=some b' →b' =b:=by
   intro b hb b' UV;have he:=iD hT 20 hb hk h2.1 9980 w;unfold Instr.sameNow at UV;split at UV
   ·rename_i k1 a k2 c hK hE
    split at UV
    ·rename_i hkk
     cases UV;rw[hE] at he;subst hkk;rw[run_equalIn_int w _ kt _ _ _ _ hkd] at he;cases he;rfl
    ·cases UV
   ·rename_i a c hK hE
    cases UV;rw[hE] at he;rw[run_equalIn_string w _ kt _ _ hkd] at he;cases he;rw[beq_toListBytes]
   ·rename_i a c hK hE
    cases UV;rw[hE] at he;rw[run_equalIn_bool' w _ kt _ _ hkd] at he;cases he;rfl
   ·cases UV
  rw[Instr.findNow] at h;have step:∀b,lz T 20 kt k e.1=some b→(Instr.findAsking kt K (E::Es) i).run P w=if b then .ok (some (i,E.val)) w else (Instr.findAsking kt K Es (i+1)).run P w:=by intro b hb;have he:=iD hT 20 hb hk h2.1 9980 w;simp only[Instr.findAsking,Sem.run_bind];rw[show Op.equal kt K E.key=Op.equalIn (20+9980) kt K E.key from rfl,he];cases b<;>simp
  split at hf
  ·rename_i S'
   rw[step _ S'];cases hs:Instr.sameNow kd K E.key with
   |none=>rw[hs] at h;cases h
   |some b' =>
    have:=key _ S' _ hs;subst this;rw[hs] at h;simp only[Option.some.injEq] at h;subst h;simp
  ·rename_i S'
   rw[step _ S'];cases hs:Instr.sameNow kd K E.key with
   |none=>rw[hs] at h;cases h
   |some b' =>
    have:=key _ S' _ hs;subst this;rw[hs] at h;simp only at h;simpa using sd hT hkd hk w (by simpa using hl) XV hf h
  ·cases hf
theorem gI(hT:cJ P T){kt:TypeId}{ki:TyI}(hki:T kt=some ki)(hk:aeA μ n k K){es:List (AV×AV)}{Es:List MapEntry}{r:Option (Nat×AV)}(hl:Es.length=es.length)(hr:∀(j:Nat) e,es[j]? =some e→∃E,Es[j]? =some E∧NT μ n e E)(h:jj T kt k es 0=some r)(w:World):
  ∃R,(Instr.findKey kt K Es).run P w=.ok R w∧M4 μ n r R:=by
 have hkd:=(hT kt ki hki).desc;obtain⟨R,g1,g2⟩:=oJ hT hk w hl hr h;refine⟨R,?_,g2⟩;simp only[Instr.findKey,Sem.run_bind,run_underlying hkd,Result.andThen_ok];cases hn:Instr.findNow ki.desc K Es 0 with
 |none=>simpa using g1
 |some R' =>
  have:=sd hT hkd hk w hl hr h hn;rw[this] at g1;cases g1;simp
theorem EP(hT:cJ P T)(hH:aeL base μ mem w){t:TypeId}{m k v:AV}{M:Value}{ok:Bool}(hm:aeA μ mem.length m M)(hk:aeA μ mem.length k K)(h:kJ T mem t m k ok=some v):Val P (Instr.lookup t M K ok) w μ mem.length v:=by
 unfold kJ at h;cases ht:T t with
 |none=>rw[ht] at h;cases h
 |some i=>
  rw[ht] at h;simp only at h;have hd:=(hT t i ht).desc;split at h
  ·rename_i kt et B'
   rw[B'] at hd;split at h
   ·rename_i j es hj Y7
    split at h
    ·rename_i XW
     have ab':∃Es:Array MapEntry,(M=.map none∧Es= #[]∨∃r c,M=.map (some r)∧(getObj r).run P w=.ok (.map Es c) w)∧Es.toList.length=es.length∧
       ∀(j:Nat) e,es[j]? =some e→∃E,Es.toList[j]? =some E∧NT μ mem.length e E:=by
      unfold ju at Y7;split at Y7
      ·cases Y7
       simp only[aeA] at hm;subst hm;exact⟨#[],.inl ⟨rfl,rfl⟩,rfl,by simp⟩
      ·rename_i b
       split at Y7
       ·rename_i YP hb
        cases Y7;simp only[aeA] at hm;obtain⟨_,rfl⟩:=hm;have hs:=hH.slot b _ hb;simp only[aeO] at hs;obtain⟨Do,G',h1,_,h2,h3⟩:=hs;refine⟨Do,.inr ⟨_,G',rfl,by simp[getObj,Sem.run,h1]⟩,by simpa using h2,fun j e he=>?_⟩;obtain⟨E,hE,hr⟩:=h3 j e he;exact⟨E,by simpa using hE,hr⟩
       ·rename_i YP hb
        cases Y7;simp only[aeA] at hm;obtain⟨_,rfl⟩:=hm;have hs:=hH.slot b _ hb;simp only[aeO] at hs;obtain⟨Do,G',h1,_,h2,h3⟩:=hs;refine⟨Do,.inr ⟨_,G',rfl,by simp[getObj,Sem.run,h1]⟩,by simpa using h2,fun j e he=>?_⟩;obtain⟨E,hE,hr⟩:=h3 j e he;exact⟨E,by simpa using hE,hr⟩
       ·cases Y7
      ·cases Y7
     obtain⟨Es,e1,e2,e3⟩:=ab';have Zf:=kQ (P:=P) (n:=mem.length) hT Es.isEmpty 20 XW hk 9980 w;have ZX:∃ki,T kt=some ki:=by
      rw[lE] at XW;cases hx:T kt with
      |none=>rw[hx] at XW;cases XW
      |some ki=>exact⟨ki,rfl⟩
     obtain⟨ki,hki⟩:=ZX;split at h
     ·rename_i q v' hf
      cases h;obtain⟨R,g1,g2⟩:=gI hT hki hk e2 e3 hf w;cases R with
      |none=>exact g2.elim
      |some x=>
       obtain⟨_,V⟩:=x;have hv:=g2.2;refine⟨if ok then .tuple #[V,.bool true] else V,?_,?_⟩
       ·rcases e1 with⟨rfl,rfl⟩ | ⟨r,c,rfl,e1⟩
        ·simp only[Instr.lookup,Sem.run_bind,run_underlying hd,Result.andThen_ok,Sem.run_pure]
         rw[show(10000:Nat)=20+9980 from rfl,Zf];simp only[Result.andThen_ok,g1,Sem.run_pure,Sem.run_bind]
        ·simp only[Instr.lookup,Sem.run_bind,run_underlying hd,Result.andThen_ok,e1,Sem.run_pure]
         rw[show(10000:Nat)=20+9980 from rfl,Zf];simp only[Result.andThen_ok,g1,Sem.run_pure,Sem.run_bind]
       ·cases ok
        ·exact hv
        ·simp only[if_true,aeA];exact⟨[V,.bool true],rfl,bo.2 ⟨hv,bo.2 ⟨by simp[aeA],by simp[aeC]⟩⟩⟩
     ·rename_i hf
      cases h;obtain⟨R,g1,g2⟩:=gI hT hki hk e2 e3 hf w;cases R with
      |some x=>exact g2.elim
      |none=>
       have hv:=wh μ mem.length j.zero;refine⟨if ok then .tuple #[j.zero,.bool false] else j.zero,?_,?_⟩
       ·rcases e1 with⟨rfl,rfl⟩ | ⟨r,c,rfl,e1⟩
        ·simp only[Instr.lookup,Sem.run_bind,run_underlying hd,Result.andThen_ok,Sem.run_pure]
         rw[show(10000:Nat)=20+9980 from rfl,Zf];simp only[Result.andThen_ok,g1,Sem.run_pure,Sem.run_bind,dX hT hj]
        ·simp only[Instr.lookup,Sem.run_bind,run_underlying hd,Result.andThen_ok,e1,Sem.run_pure]
         rw[show(10000:Nat)=20+9980 from rfl,Zf];simp only[Result.andThen_ok,g1,Sem.run_pure,Sem.run_bind,dX hT hj]
       ·cases ok
        ·exact hv
        ·simp only[if_true,aeA];exact⟨[j.zero,.bool false],rfl,bo.2 ⟨hv,bo.2 ⟨by simp[aeA],by simp[aeC]⟩⟩⟩
     ·cases h
    ·cases h
   ·cases h
  ·cases h
theorem qO{K' :Value}{e:AV}{b:Bool}{kt:TypeId}(hs:k.afn=true)(hk:aeA μ n k K)(he:aeA μ n e K')(h:lz T 20 kt k e=some b)(hb:b=true):
  Instr.sameBits 10000 K' K=true:=by
 subst hb;rw[lz] at h;cases ht:T kt with
 |none=>rw[ht] at h;cases h
 |some i=>
  rw[ht] at h;simp only at h;split at h
  ·rw[hk.bool,he.bool]
   simp only[Option.some.injEq] at h;simp only[Instr.sameBits];rw[beq_iff_eq] at h ⊢;exact h.symm
  ·split at h
   ·rename_i hkk
    subst hkk;simp only[Option.some.injEq,decide_eq_true_eq] at h;rw[hk.int,he.int,h];simp[Instr.sameBits]
   ·cases h
  ·rw[hk.str,he.str]
   simp only[Option.some.injEq,beq_iff_eq] at h;rw[h];simp only[Instr.sameBits];rw[beq_toListBytes];simp
  ·cases hs
  ·cases hs
  ·cases h
theorem nn{kt:TypeId}{k:AV}:∀{es:List (AV×AV)}{i q:Nat}{v:AV},jj T kt k es i=some (some (q,v))→∃j e,q=i+j∧es[j]? =some e∧lz T 20 kt k e.1=some true
 | [],i,q,v,h=>by simp[jj] at h
 |e::es,i,q,v,h=>by
  rw[jj] at h;split at h
  ·rename_i S';cases h;exact⟨0,e,rfl,rfl,S'⟩
  ·obtain⟨j,e',h1,h2,h3⟩:=nn h
   exact⟨j+1,e',by omega,by simpa using h2,h3⟩
  ·cases h
theorem rC{r:Nat}{o o' :Obj}(h:w.heap[r]? =some o)(ho:∀c e f,o≠ .cells c e f):(setObj r o').run P w=.ok () { w with heap:=w.heap.setIfInBounds r o' }:=by simp only[setObj,Sem.run,h];try (split<;>first | (rename_i hh;cases hh;exact absurd rfl (ho _ _ _)) | rfl | simp_all)
theorem yD(hT:cJ P T)(hH:aeL base μ mem w){t:TypeId}{m k v:AV}{M K V:Value}{mem' :Mem}(hm:aeA μ mem.length m M)(hk:aeA μ mem.length k K)(hv:aeA μ mem.length v V)(h:eZ T mem t m k v=some mem'):∃w',(Instr.mapUpdate t M K V).run P w=.ok () w' ∧aeL base μ mem' w' ∧Step mem.length μ mem w μ mem' w' :=by
 unfold eZ at h;cases ht:T t with
 |none=>rw[ht] at h;cases h
 |some i=>
  rw[ht] at h;simp only at h;have hd:=(hT t i ht).desc;split at h
  ·rename_i kt et b B'
   rw[B'] at hd;split at h
   ·rename_i es hb
    split at h
    ·rename_i XW
     simp only[aeA] at hm;obtain⟨Y0,rfl⟩:=hm;have hs:=hH.slot b _ hb;simp only[aeO] at hs;obtain⟨Do,G',h1,YZ,h2,h3⟩:=hs;have hg:(getObj (μ b).blk).run P w=.ok (.map Do G') w:=by simp[getObj,Sem.run,h1]
     have Zf:=kQ (P:=P) (n:=mem.length) hT false 20 XW hk 9980 w;have ZX:∃ki,T kt=some ki:=by
      rw[lE] at XW;cases hx:T kt with
      |none=>rw[hx] at XW;cases XW
      |some ki=>exact⟨ki,rfl⟩
     obtain⟨ki,hki⟩:=ZX;have e2:Do.toList.length=es.length:=by simpa using h2
     have e3:∀(j:Nat) e,es[j]? =some e→∃E,Do.toList[j]? =some E∧NT μ mem.length e E:=fun j e he=>by obtain⟨E,hE,hr⟩:=h3 j e he;exact⟨E,by simpa using hE,hr⟩
     have A':(μ b).blk<w.heap.size:=(Array.getElem?_eq_some_iff.1 h1).1;have Zg:∀(X0 :Array MapEntry) (XX :Nat) (YP :List (AV×AV)),CC X0 XX →X0.size=YP.length→(∀(j:Nat) e,YP[j]? =some e→∃E,X0[j]? =some E∧NT μ mem.length e E)→
       (setObj (μ b).blk (.map X0 XX)).run P w=.ok () { w with heap:=w.heap.setIfInBounds (μ b).blk (.map X0 XX) }∧
       aeL base μ (mem.set b (.map YP)) { w with heap:=w.heap.setIfInBounds (μ b).blk (.map X0 XX) }∧Step mem.length μ mem w μ (mem.set b (.map YP)) { w with heap:=w.heap.setIfInBounds (μ b).blk (.map X0 XX) }:=by
      intro X0 XX YP g0 g1 g2;refine⟨rC h1 (by simp),hH.write hb (Ks hb) (fun _=>⟨_,List.getElem?_set_self (gL hb),rfl⟩) rfl rfl rfl rfl (by simp) (fun q hq=>?_) ?_⟩
      ·simp[Array.getElem?_setIfInBounds_ne (Ne.symm hq)]
      ·simp only[aeO]
       exact⟨X0,XX,by simp[A'],⟨YZ.1,g0⟩,g1,g2⟩
     split at h
     ·rename_i q v' hf
      split at h
      ·rename_i hsc
       cases h;obtain⟨R,g1,g2⟩:=gI hT hki hk e2 e3 hf w;cases R with
       |none=>exact g2.elim
       |some x=>
        obtain⟨q',V'⟩:=x;obtain⟨rfl,_⟩:=g2;obtain⟨j,e,hq,he,S'⟩:=nn hf;have Zh :q=j:=by omega
        subst Zh;obtain⟨E,hE,hr⟩:=h3 q e he;have hsb:=qO (μ:=μ) (n:=mem.length) hsc hk hr.1 S' rfl;obtain⟨f1,f2,f3⟩:=Zg (Do.modify q fun e=>{ e with key:=K,val:=V }) G' (es.set q (k,v)) ⟨by simpa using YZ.2.1,fun j E' Yb =>by
         rw[Array.getElem?_modify] at Yb;split at Yb
         ·simp only[Option.map_eq_some_iff] at Yb
          obtain⟨E0,k1,rfl⟩:=Yb;exact YZ.2.2 j E0 k1
         ·exact YZ.2.2 j E' Yb⟩ (by simpa using h2) (fun j e' YL =>by
         rw[List.getElem?_set] at YL;by_cases hjq:q=j
         ·subst hjq
          have X5 :q<es.length:=(gL he);simp only[if_true,X5,Option.some.injEq] at YL;subst YL;exact⟨{ E with key:=K,val:=V },by simp[Array.getElem?_modify,hE],hk,hv⟩
         ·rw[if_neg hjq] at YL
          obtain⟨E',Yb,hr'⟩:=h3 j e' YL;exact⟨E',by simp[Array.getElem?_modify,hjq,Yb],hr'⟩)
        refine⟨_,?_,f2,f3⟩;simp only[Instr.mapUpdate,Sem.run_bind,run_underlying hd,Result.andThen_ok,hg];rw[show(10000:Nat)=20+9980 from rfl,Zf];simp only[Result.andThen_ok,g1,Sem.run_bind];have aaH:(Instr.keyThatStays (((Do[q]?).map (·.key)).getD K) K).run P w=.ok K w:=by unfold Instr.keyThatStays;rw[hE];simp only[Option.map_some,Option.getD_some,hsb,if_true];rfl
        rw[aaH];simpa using f1
      ·cases h
     ·rename_i hf
      cases h;obtain⟨R,g1,g2⟩:=gI hT hki hk e2 e3 hf w;cases R with
      |some x=>exact g2.elim
      |none=>
       obtain⟨f1,f2,f3⟩:=Zg (Do.push { key:=K,val:=V,born:=G' }) (G'+1) (es++[(k,v)]) ⟨by simp[YZ.2.1],fun j E' Yb =>by
        rw[Array.getElem?_push] at Yb;split at Yb
        ·rename_i hj;cases Yb;rw[hj];exact YZ.2.1
        ·exact YZ.2.2 j E' Yb⟩ (by simp[h2]) (fun j e' YL =>by
        by_cases hj:j<es.length
        ·rw[List.getElem?_append_left hj] at YL
         obtain⟨E',Yb,hr'⟩:=h3 j e' YL;exact⟨E',by rw[Array.getElem?_push,if_neg (by omega)];exact Yb,hr'⟩
        ·have ZU:j=es.length:=by have:=(gL YL);simp at this;omega
         subst ZU;simp at YL;subst YL;exact⟨{ key:=K,val:=V,born:=G' },by rw[Array.getElem?_push,if_pos h2.symm],hk,hv⟩)
       refine⟨_,?_,f2,f3⟩;simp only[Instr.mapUpdate,Sem.run_bind,run_underlying hd,Result.andThen_ok,hg];rw[show(10000:Nat)=20+9980 from rfl,Zf];simp only[Result.andThen_ok,g1];exact f1
     ·cases h
    ·cases h
   ·cases h
  ·cases h
theorem Fo(hH:aeL base μ mem w){t:TypeId}:afA P (Instr.makeMap t none) base μ mem w (.map mem.length) (mem++[.map []]):=by
 obtain⟨h1,h2⟩:=hH.push (.map #[] 0) (.map []) ⟨w.heap.size,0,0,0⟩ rfl (by simp only[aeO];exact⟨#[],0,heap_alloc_new w _,⟨hH.aeI,rfl,by simp⟩,rfl,by simp⟩)
 refine⟨.map (some w.heap.size),_,_,?_,?_,h1,h2⟩
 ·simp only[Instr.makeMap,Sem.run_bind,Sem.run_pure,run_newObj,Result.andThen_ok]
  rfl
 ·simp[aeA,dW]
end
end Go.Eng
namespace Go.Eng
def AG:List AV→Option (List UInt8)
 | []=>some []
 |.int .u8 n::l=>if 0≤n∧n<256 then match AG l with
  |some r=>some (UInt8.ofNat n.toNat::r)
  |none=>none
  else none
 |_::_=>none
def qX(mem:Mem) (x:AV):Option AV:=match x with
 |.slice b o n none=>match mem[b]? with
  |some (.cells _ es cs)=>if 0<n∧0<es%1000∧o+n*(es%1000)≤cs.length then some (.ptr b o) else none
  |_=>none
 |_=>none
def wB(T:TypeId→Option TyI) (mem:Mem) (pt:TypeId) (x l:AV):Option (AV×Mem):=match T pt,x,l with
 |some i,.ptr b 0,.int .i64 n=>match i.desc with
  |.pointer e=>match T e,mem[b]? with
   |some j,some (.cells true es cs)=>
    if j.size=1∧es=1+1000*(e+1)∧0<n∧n≤cs.length∧n≤9223372036854775807 then match AG (cs.take n.toNat) with
     |some s=>some (.str s,mem.set b .kO)
     |none=>none
    else none
   |_,_=>none
  |_=>none
 |_,_,_=>none
theorem WI(a es:Nat)(h:es=1+1000*(a+1)):1000≤es∧es / 1000=a+1∧es%1000=1:=by omega
theorem Da:∀{l:List AV}{s:List UInt8},AG l=some s→s.length=l.length∧∀(j:Nat) x,s[j]? =some x→l[j]? =some (.int .u8 (x.toNat:Int))
 | [],s,h=>by cases h;exact⟨rfl,fun j x hj=>by simp at hj⟩
 |v::l,s,h=>by
  cases v<;>try (unfold AG at h;cases h;done)
  rename_i k n;cases k<;>try (unfold AG at h;cases h;done)
  unfold AG at h;split at h
  ·rename_i hn
   split at h
   ·rename_i r hr
    cases h;obtain⟨h1,h2⟩:=Da hr;refine⟨by simp[h1],fun j x hj=>?_⟩;cases j with
    |zero=>
     simp at hj;subst hj;simp only[List.getElem?_cons_zero,Option.some.injEq,AV.int.injEq,true_and];rw[UInt8.toNat_ofNat'];have:n.toNat%256=n.toNat:=Nat.mod_eq_of_lt (by omega);show n=((n.toNat%256:Nat):Int)
     rw[this];omega
    |succ j=>simpa using h2 j x (by simpa using hj)
   ·cases h
  ·cases h
theorem Mo(w:World)(a:Addr)(n:Nat):(w.freeze a n).heap.size=w.heap.size:=by unfold World.freeze;split<;>simp
theorem J4(w:World)(a:Addr)(n k:Nat)(h:k≠a.block):(w.freeze a n).heap[k]? =w.heap[k]? :=by
 unfold World.freeze;split
 ·rfl
 ·simp only[Array.getElem?_modify,if_neg (Ne.symm h)]
section
variable {P:Program}{T:TypeId→Option TyI}{μ:Nat→Place}{mem:Mem}{base:Nat}{w:World}
theorem yE(hH:aeL base μ mem w){x v:AV}{X:Value}(ts:Array TypeId)(ty:TypeId)(hx:aeA μ mem.length x X)(h:qX mem x=some v):Val P (Builtin.unsafeSliceData_ ts ty #[X]) w μ mem.length v:=by
 unfold qX at h;split at h
 ·rename_i b o n
  split at h
  ·rename_i own es cs hb
   split at h
   ·rename_i hc
    cases h;obtain⟨Y0,rfl⟩:=hx.slice;have hs:=hH.slot b _ hb;simp only[aeO] at hs;obtain⟨cur,el,fr,s1,s2,s3,_,_⟩:=hs;have ZW:jh (μ b) o none≠0:=by
     simp only[jh,s2.1];have:n≤((μ b).tot-o) / (es%1000):=by rw[Nat.le_div_iff_mul_le hc.2.1];omega
     omega
    exact⟨_,Lib.run_unsafeSliceData_row _ _ _ _ _ _ ZW,by simp[aeA,Y0]⟩
   ·cases h
  ·cases h
 ·cases h
theorem EU(hT:cJ P T)(hH:aeL base μ mem w){pt it ty:TypeId}{x l v:AV}{X L:Value}{mem' :Mem}(hx:aeA μ mem.length x X)(hl:aeA μ mem.length l L)(h:wB T mem pt x l=some (v,mem')):
  afA P (Builtin.unsafeString_ #[pt,it] ty #[X,L]) base μ mem w v mem' :=by
 unfold wB at h;split at h
 ·rename_i i b n hi
  split at h
  ·rename_i e hd
   split at h
   ·rename_i j es cs hj hb
    split at h
    ·rename_i hc
     obtain⟨c1,c2,c3,c4,c5⟩:=hc;split at h
     ·rename_i s hs
      cases h;obtain⟨g1,g2⟩:=Da hs;have hX:=hx.ptr;have hL:=hl.int;have hpt:=(hT pt i hi).desc;rw[hd] at hpt;obtain⟨f,hf,hfs,_,_⟩:=(hT e j hj).info;have XR:P.cellsOf e=1:=by unfold Program.cellsOf;rw[hf];simp[hfs,c1]
      have YT:=hH.slot b _ hb;simp only[aeO] at YT;obtain⟨cur,el,fr,s1,s2,s3,s4,s5⟩:=YT;obtain⟨s6,rfl,s8,s9⟩:=s5 trivial;have hel:el=e:=by obtain⟨q1,q2,_⟩:=WI e es c2;have:=s2.2 q1;rw[q2] at this;exact Nat.succ.inj this
      subst hel;have F':s.length=n.toNat:=by rw[g1,List.length_take];omega
      have hn:n=(s.length:Int):=by omega
      rw[hX.2,hL,hn,s6];have ZY:w.shape? (μ b).blk=some (el,cur.size):=by simp[World.shape?,s1]
      have Yi:=Lib.run_unsafeString_row (P:=P) w pt it ty el hpt XR (μ b).blk cur.size ZY s (by intro e;rw[e] at F';simp at F';omega) (by rw[s8];omega) (by omega) (fun q u hq=>by
       have h1:=g2 q u hq;have hqn:q<n.toNat:=by rw[←F'];exact(gL hq)
       rw[List.getElem?_take_of_lt hqn] at h1;obtain⟨V,hV,hr⟩:=s4 q _ h1;rw[hr.int] at hV;rw[s6,Nat.zero_add] at hV;simp only[Addr.add_lit,World.cell?,s1,Nat.zero_add];exact hV)
      have PP:¬s.length=0:=by omega
      have hw:(w.freeze ⟨(μ b).blk,0,none⟩ s.length).os=w.os∧(w.freeze ⟨(μ b).blk,0,none⟩ s.length).tape=w.tape∧(w.freeze ⟨(μ b).blk,0,none⟩ s.length).output=w.output∧(w.freeze ⟨(μ b).blk,0,none⟩ s.length).drawn=w.drawn:=by unfold World.freeze;rw[if_neg PP];exact⟨rfl,rfl,rfl,rfl⟩
      obtain⟨k1,k2⟩:=hH.write (w' :=w.freeze ⟨(μ b).blk,0,none⟩ s.length) (s' :=.kO) hb (jm hb) (fun h=>absurd rfl h) hw.2.2.2 hw.1 hw.2.1 hw.2.2.1 (Mo ..) (fun k hk=>J4 _ _ _ _ hk) trivial;refine⟨_,_,μ,Yi,by simp[aeA],k1,?_⟩;exact k2
     ·cases h
    ·cases h
   ·cases h
  ·cases h
 ·cases h
end
end Go.Eng
namespace Go.Eng
section
variable {P:Program}{T:TypeId→Option TyI}{μ:Nat→Place}{mem:Mem}{base:Nat}{w:World}
def na(T:TypeId→Option TyI) (mem:Mem) (s d:TypeId):AV→Option (AV×Mem)
 |.str l=>match T s,T d with
  |some i,some j=>match i.desc,j.desc with
   |.string,.slice e=>match T e with
    |some k=>match k.desc with
     |.int .u8=>some (.slice mem.length 0 l.length none,mem++[.cells false 1 (l.map fun c=>.int .u8 c.toNat)])
     |_=>none
    |none=>none
   |_,_=>none
  |_,_=>none
 |_=>none
theorem J2(w:World)(Cs:Array Value)(e:TypeId)(n:Nat):
  (w.alloc (.cells Cs e)).freeze ⟨w.heap.size,n,none⟩ 1=w.alloc (.cells Cs e (n,n+1)):=by
 unfold World.freeze;rw[if_neg (by decide)];simp only[World.alloc];congr 1;apply Array.ext
 ·simp
 ·intro k h1 h2
  simp only[Array.getElem_modify,Array.getElem_push];by_cases hk:k<w.heap.size
  ·simp[hk];omega
  ·simp at h1
   have:k=w.heap.size:=by omega
   subst this;simp
theorem yx(hT:cJ P T)(hH:aeL base μ mem w){s d:TypeId}{x v:AV}{X:Value}{mem' :Mem}(hx:aeA μ mem.length x X)(h:na T mem s d x=some (v,mem')):
  afA P (convert s d X) base μ mem w v mem' :=by
 unfold na at h;split at h
 ·rename_i l
  split at h
  ·rename_i i j hi hj
   have h1:=(hT s i hi).desc;have h2:=(hT d j hj).desc;split at h
   ·rename_i e hid hjd
    rw[hid] at h1;rw[hjd] at h2;split at h
    ·rename_i k hk
     have h3:=(hT e k hk).desc;split at h
     ·rename_i hkd
      rw[hkd] at h3;cases h;rw[hx.str];let c:=grownCap w l.length 0 e
      have hc:l.length≤c:=grownCap_ge w l.length 0 e;let Cs:Array Value:=(l.map fun c=>Value.int .u8 c.toNat).toArray++Array.replicate (c-l.length) (.int .u8 0)
      have hCs:Cs.size=c:=by simp[Cs];omega
      have hH1:aeL base μ mem w.drew:=hH.afz rfl;obtain⟨g1,g2⟩:=hH1.push (.cells Cs e (Cs.size,Cs.size+1)) (.cells false 1 (l.map fun c=>.int .u8 c.toNat)) ⟨w.heap.size,0,Cs.size,1⟩ rfl (by simp only[aeO];refine⟨Cs,e,(Cs.size,Cs.size+1),heap_alloc_new w.drew _,agO.small rfl (by decide),by simp[hCs];exact hc,fun q u hu=>?_,fun h=>by cases h⟩;rw[List.getElem?_map,Option.map_eq_some_iff] at hu;obtain⟨a,ha,rfl⟩:=hu;have hq:=(gL ha);refine⟨.int .u8 a.toNat,?_,by simp[aeA]⟩;simp only[Nat.zero_add,Cs];rw[Array.getElem?_append_left (by simpa using hq)];simp[ha])
      refine⟨.slice (some ⟨w.heap.size,0,none⟩) l.length c,w.drew.alloc (.cells Cs e (Cs.size,Cs.size+1)),_,?_,?_,g1,?_⟩
      ·have hf:(Question.appendCap l.length 0 e).forced=false:=by simp[Question.forced]
       have IR:(ByteArray.mk l.toArray).size=l.length:=qY ..;have ac5 :(ByteArray.mk l.toArray).data.map (fun b=>Value.int .u8 b.toNat)++Array.replicate (c-l.length) (.int .u8 0)=Cs:=by simp[Cs]
       have ZY:(w.drew.alloc (.cells Cs e)).shape? w.heap.size=some (e,Cs.size):=by unfold World.shape?;rw[show(w.drew.alloc (.cells Cs e)).heap[w.heap.size]? =_ from heap_alloc_new w.drew _]
       have hfz:=J2 w.drew Cs e Cs.size;have hw:w.drew.heap.size=w.heap.size:=rfl;rw[hw] at hfz;simp only[convert,Sem.run_bind,run_underlying h1,run_underlying h2,run_underlying h3,Result.andThen_ok,Conv.stringToBytes,choose,Sem.run,hf,Bool.false_eq_true,if_false,IR];change ((newRow e ((ByteArray.mk l.toArray).data.map (fun b=>Value.int .u8 b.toNat)++Array.replicate (c-l.length) (.int .u8 0))).run P w.drew).andThen _=_;rw[ac5];simp only[newRow,run_newObj,Result.andThen_ok,Sem.run_bind,markStringish,shape,freeze,Sem.run];have hal:({ heap:=w.drew.heap.push (Obj.cells Cs e),tape:=w.drew.tape,drawn:=w.drew.drawn,os:=w.drew.os,output:=w.drew.output }:World)=w.drew.alloc (.cells Cs e):=rfl;simp only[Sem.run_pure,Result.andThen_ok,hal,hw,ZY,Sem.run,hfz];rfl
      ·simp only[aeA,dW,jh,List.length_append,List.length_singleton]
       refine⟨by omega,?_⟩;simp[hCs]
      ·exact(Step.drew (m0:=mem.length) (Nat.le_refl _)).trans g2
     ·cases h
    ·cases h
   ·cases h
  ·cases h
 ·cases h
end
end Go.Eng
namespace Go.Eng
variable{n:Nat}
section
variable {P:Program}{T:TypeId→Option TyI}{μ:Nat→Place}{mem:Mem}{base:Nat}{w:World}
def Nv:Option TyI→Bool
 |some i=>match i.desc with
  |.int _=>true
  |_=>false
 |none=>false
def Xl(T:TypeId→Option TyI) (t:TypeId) (x:AV):Option AV:=
 match T t with
 |none=>none
 |some i=>match i.desc,x with
  |.slice _,.kK=>some (.int .i64 0)
  |_,_=>none
theorem Pd(hT:cJ P T){t ty:TypeId}{x v:AV}{X:Value}(hx:aeA μ n x X)(h:Xl T t x=some v):Val P (Builtin.cap_ #[t] ty #[X]) w μ n v:=by
 unfold Xl at h;cases ht:T t with
 |none=>rw[ht] at h;cases h
 |some i=>
  rw[ht] at h;simp only at h;have hd:=(hT t i ht).desc;split at h
  ·rename_i e B'
   rw[B'] at hd;cases h;simp only[aeA] at hx;subst hx;refine .int ?_;simp[Builtin.cap_,run_underlying hd,goInt]
  ·cases h
def uJ(T:TypeId→Option TyI) (mem:Mem) (t:TypeId) (s x:AV):Option (AV×Mem):=
 match T t with
 |none=>none
 |some i=>
  match i.desc,s,x with
  |.slice e,.kK,.int _ n=>
   match T e with
   |some j=>if 0<n∧n*j.bytes≤140737488355328∧n≤140737488355328∧0<j.size∧j.size<1000 then some (.slice mem.length 0 n.toNat none,mem++[.cells true (om j e) (gD (iQ j.zero).cells n.toNat)]) else none
   |none=>none
  |_,_,_=>none
theorem vv{z:List AV}{Z:Array Value}(hz:aeC μ n z Z.toList)(k:Nat):aeC μ n (gD z k) (Builtin.zeroCells Z k).toList:=by
 have hl:Z.size=z.length:=by rw[←Array.length_toList,hz.length]
 refine aeC.afy (by rw[Array.length_toList,size_zeroCells,gP,hl]) fun j v hv=>?_
 obtain⟨V,h1,h2,h3⟩:=rG hz k j v hv;refine⟨V,?_,h2⟩;rw[Array.getElem?_toList,←h1];unfold Builtin.zeroCells;have:j<k*Z.size:=h3;simp[this]
theorem JB(hT:cJ P T){t t2 ty e:TypeId}{j:TyI}(hd:P.underlying t=some (.slice e))(hj:T e=some j){kd:IntKind}(ht2:P.underlying t2=some (.int kd))(m:Nat)(k:IntKind)(w:World)(Yt:0<m)(hb:m*j.bytes≤140737488355328)(hm:m≤140737488355328)(hs:0<j.size):
  ∃nc,m≤nc∧(Builtin.append_ #[t,t2] ty #[.slice none 0 0,.int k m]).run P w=
   .ok (.slice (some ⟨w.heap.size,0,none⟩) m nc) (w.drew.alloc (.cells (#[]++(Builtin.zeroCells j.zero.cells m++Builtin.zeroCells j.zero.cells (nc-m))) e)):=by
 obtain⟨f,hf,hfs,hfb,hfz⟩:=(hT e j hj).info;have h63:¬(9223372036854775807<(m:Int)):=by omega
 have w1:IntKind.i64.wrap (m:Int)=m:=al (by omega) (by omega);have h0:¬((m:Int)<0):=by omega
 have ac6:¬(281474976710656<(m:Int)*(f.bytes:Int)):=by
  rw[hfb];have:(m:Int)*(j.bytes:Int)=((m*j.bytes:Nat):Int):=by simp
  omega
 have h48:¬(281474976710656<Builtin.nextslicecap m 0*f.bytes):=by have:=growslice_fits (need:=m) (old:=0) (bytes:=f.bytes) (by omega) (by rw[hfb];exact hb);omega
 have ac7:¬(m=0):=by omega
 have aaY:∀n w,(askRoom n).run P w=.ok () w:=by intro n w;unfold askRoom;split<;>simp[mark,Sem.run]
 refine⟨grownCap w m 0 e,grownCap_ge w m 0 e,?_⟩;simp[Builtin.append_,run_underlying hd,run_underlying ht2,sizeOf,typeInfo,zeroValue,hf,hfs,hfz,asInt,asIntOf,w1,h0,h63,h48,ac6,ac7,Question.forced,Builtin.firstCells,newRow,grownCap,aaY];intro h;exact absurd h (by have:=Nat.mul_pos Yt hs;omega)
theorem Cn(hT:cJ P T)(hH:aeL base μ mem w){t t2 ty:TypeId}{s x v:AV}{S X:Value}{mem' :Mem}(hs:aeA μ mem.length s S)(hx:aeA μ mem.length x X)(hi:Nv (T t2)=true)(h:uJ T mem t s x=some (v,mem')):
  afA P (Builtin.append_ #[t,t2] ty #[S,X]) base μ mem w v mem' :=by
 unfold uJ at h;cases ht:T t with
 |none=>rw[ht] at h;cases h
 |some i=>
  rw[ht] at h;simp only at h;have hd:=(hT t i ht).desc;split at h
  ·rename_i e k n B'
   rw[B'] at hd;split at h
   ·rename_i j hj
    split at h
    ·rename_i hc
     obtain⟨c1,c2,c3,c4,c5⟩:=hc;cases h;obtain⟨kd,hkd⟩:∃kd,P.underlying t2=some (.int kd):=by
      unfold Nv at hi;split at hi
      ·rename_i i2 h2
       split at hi
       ·rename_i kd hk
        have:=(hT t2 i2 h2).desc;rw[hk] at this;exact⟨kd,this⟩
       ·cases hi
      ·cases hi
     simp only[aeA] at hs;subst hs;rw[hx.int];obtain⟨m,rfl⟩:∃m:Nat,n=m:=⟨n.toNat,by omega⟩
     have hb:m*j.bytes≤140737488355328:=by
      have:(m:Int)*(j.bytes:Int)=((m*j.bytes:Nat):Int):=by simp
      omega
     obtain⟨nc,hnc,hr⟩:=JB hT (ty:=ty) hd hj hkd m k w (by omega) hb (by omega) c4;have hz:=jl μ mem.length j.zero;have hzs:=(hT e j hj).afX;have hzl:(iQ j.zero).cells.length=j.size:=by rw[←hz.length,Array.length_toList,hzs]
     have:=Mq (P:=P) hH (es:=om j e) (Fy c5) (olds:=[]) (news:=gD (iQ j.zero).cells m) (Os:=[]) (Ns:=(Builtin.zeroCells j.zero.cells m).toList) c4 hzs (by simp[aeC]) (vv hz m) (by simp[gP,hzl]) hnc hr;simpa using this
    ·cases h
   ·cases h
  ·cases h
def Jr(T:TypeId→Option TyI) (mem:Mem) (t:TypeId) (x:AV):Option Mem:=
 match T t with
 |none=>none
 |some i=>
  match i.desc,x with
  |.slice _,.kK=>some mem
  |.slice e,.slice b o n _=>
   if n=0 then some mem else
   match T e,mem[b]? with
   |some j,some (.cells true es cs)=>
    if o+n*j.size≤cs.length∧(gD (iQ j.zero).cells n).all AV.kS=true then some (mem.set b (.cells true es (cs.take o++gD (iQ j.zero).cells n++cs.drop (o+n*j.size)))) else none
   |_,_=>none
  |_,_=>none
theorem Jt(hT:cJ P T)(hH:aeL base μ mem w){t ty:TypeId}{x:AV}{X:Value}{mem' :Mem}(hx:aeA μ mem.length x X)(h:Jr T mem t x=some mem'):
  afA P (Builtin.clear_ #[t] ty #[X]) base μ mem w (.tuple []) mem' :=by
 unfold Jr at h;cases ht:T t with
 |none=>rw[ht] at h;cases h
 |some i=>
  rw[ht] at h;simp only at h;have hd:=(hT t i ht).desc;split at h
  ·rename_i e B'
   rw[B'] at hd;cases h;simp only[aeA] at hx;subst hx;exact⟨.tuple #[],w,μ,by simp[Builtin.clear_,run_underlying hd],by simp[aeA,aeC],hH,.refl (Nat.le_refl _)⟩
  ·rename_i e b o n c B'
   rw[B'] at hd;obtain⟨Y0,rfl⟩:=hx.slice;split at h
   ·rename_i hn
    cases h;subst hn;exact⟨.tuple #[],w,μ,by simp[Builtin.clear_,run_underlying hd],by simp[aeA,aeC],hH,.refl (Nat.le_refl _)⟩
   ·rename_i hn
    split at h
    ·rename_i j es cs hj hb
     split at h
     ·rename_i hc
      obtain⟨YA,H'⟩:=hc;cases h;have hs:=hH.slot b _ hb;simp only[aeO] at hs;obtain⟨cur,el,fr,g1,g2,g3,g4,g5⟩:=hs;obtain⟨g6,g7,g8,g9⟩:=g5 trivial;subst g7;have hz:=jl μ mem.length j.zero;have hzs:=(hT e j hj).afX;have hzl:(iQ j.zero).cells.length=j.size:=by rw[←hz.length,Array.length_toList,hzs]
      have hVc:=vv hz n;have Yw:(gD (iQ j.zero).cells n).length=n*j.size:=by rw[gP,hzl]
      obtain⟨Zs,hZs⟩:∃Zs,Zs=Builtin.zeroCells j.zero.cells n:=⟨_,rfl⟩
      rw[←hZs] at hVc;have hZl:Zs.size=n*j.size:=by rw[←Array.length_toList,hVc.length,Yw]
      have h1:=hVc.afl H';have XZ:=run_storeCells_at (P:=P) (μ b).blk o el Zs.toList 0 cur w g1 (by rw[hVc.length,Yw];omega) h1;have hw:=hH.write (w' :=w.setRow (μ b).blk (cur.toList.take (o+0)++Zs.toList++cur.toList.drop (o+0+Zs.toList.length)).toArray) (s' :=.cells true es (cs.take o++gD (iQ j.zero).cells n++cs.drop (o+n*j.size)))
       hb (jm hb) (fun _=>⟨_,List.getElem?_set_self (gL hb),rfl⟩) rfl rfl rfl rfl (by simp[World.setRow]) (fun k hk=>setRow_other w _ k _ hk) ?_
      ·refine⟨.tuple #[],_,μ,?_,by simp[aeA,aeC],hw.1,hw.2⟩
       simp only[Builtin.clear_,List.getElem?_toArray,List.getElem?_cons_zero,Sem.run_bind,run_underlying hd,Result.andThen_ok,g6,Nat.zero_add,dX hT hj,←hZs];rw[XZ];rfl
      ·simp only[aeO]
       refine⟨_,el,(0,0),setRow_heap w (μ b).blk cur _ el (0,0) g1,g2,?_,fun q u hu=>?_,fun _=>⟨g6,rfl,?_,g9⟩⟩
       ·simp only[List.length_append,List.length_take,List.length_drop,Yw];omega
       ·rw[g6] at g4
        obtain⟨U,hU,hr⟩:=wV (cs:=cs) (vs:=gD (iQ j.zero).cells n) (Vs:=Zs.toList) (o:=o) (cur:=cur.toList) (by rw[Yw];exact YA) (fun j v hv=>by simpa using g4 j v hv) hVc q u (by rw[Yw];exact hu);refine⟨U,?_,hr⟩;rw[g6];simpa using hU
       ·simp only[List.size_toArray,List.length_append,List.length_take,List.length_drop,Array.length_toList,hZl];omega
     ·cases h
    ·cases h
  ·cases h
end
end Go.Eng
namespace Go.Eng
def wA(T:TypeId→Option TyI) (mem:Mem) (t:TypeId) (x:AV) (lo hi:Option AV):Option (AV×Mem):=
 match T t,x with
 |some i,.slice b o n none=>
  match i.desc with
  |.slice e=>match T e,mem[b]? with
   |some j,some (.cells _ es cs)=>match hi,lo with
    |none,some (.int _ l)=>if l=n∧0<n∧es=j.size∧0<es∧es<1000∧o+n*es≤cs.length then some (.slice mem.length 0 0 none,mem++[.kO]) else none
    |_,_=>none
   |_,_=>none
  |_=>none
 |_,_=>none
section
variable {P:Program}{T:TypeId→Option TyI}{μ:Nat→Place}{mem:Mem}{base:Nat}{w:World}
theorem aeL.kO(h:aeL base μ mem w)(p:Place):aeL base (upd μ mem.length p) (mem++[.kO]) w∧Step mem.length μ mem w (upd μ mem.length p) (mem++[.kO]) w:=by
 have hμ:∀b,b<mem.length→upd μ mem.length p b=μ b:=fun b hb=>vp hb
 have low:∀{b:Nat}{s:aeD},(mem++[aeD.kO])[b]? =some s→s≠ .kO→b<mem.length∧mem[b]? =some s:=by
  intro b s hs PP;by_cases A':b<mem.length
  ·rw[List.getElem?_append_left A'] at hs;exact⟨A',hs⟩
  ·exfalso
   have hbe:b=mem.length:=by have:=(gL hs);simp at this;omega
   subst hbe;simp at hs;exact PP hs.symm
 have own:∀{b:Nat},ei (mem++[aeD.kO]) b→b<mem.length∧ei mem b:=by rintro b ⟨s,hs,ho⟩;have:=low hs (aeD.afa ho);exact⟨this.1,s,this.2,ho⟩
 refine⟨⟨h.aeI,fun b s hs=>?_,fun b b' s' hb UV PP YN=>?_⟩,?_⟩
 ·by_cases hsa:s=.kO
  ·subst hsa;trivial
  ·obtain⟨A',hs'⟩:=low hs hsa
   rw[hμ b A'];exact(h.slot b s hs').mono (by simp) hμ fun _=>rfl
 ·obtain⟨h1,h2⟩:=own hb
  obtain⟨h3,h4⟩:=low UV PP;rw[hμ b h1,hμ b' h3];exact h.sep b b' s' h2 h4 PP YN
 ·exact⟨by simp,hμ,rfl,rfl,rfl,Nat.le_refl _,fun _ _ _=>rfl,fun b hb _=>by obtain⟨h1,h2⟩:=own hb;exact⟨b,h2,(congrArg Place.blk (hμ b h1)).symm⟩,Nat.le_refl _⟩
theorem ES(hT:cJ P T)(hH:aeL base μ mem w){t:TypeId}{x v:AV}{X:Value}{lo hi:Option AV}{Lo Hi:Option Value}{mem' :Mem}(hx:aeA μ mem.length x X)(hlo:(lo=none∧Lo=none)∨∃l L,lo=some l∧Lo=some L∧aeA μ mem.length l L)(hhi:(hi=none∧Hi=none)∨∃l L,hi=some l∧Hi=some L∧aeA μ mem.length l L)(h:wA T mem t x lo hi=some (v,mem')):
  afA P (Instr.sliceAt t X Lo Hi none) base μ mem w v mem' :=by
 unfold wA at h;split at h
 ·rename_i i b o n ht
  split at h
  ·rename_i e B'
   have hd:=(hT t i ht).desc;rw[B'] at hd;split at h
   ·rename_i j own es cs hj hb
    split at h
    ·rename_i k l
     split at h
     ·rename_i hc
      obtain⟨rfl,g1,g5,g6,g6',g7⟩:=hc;cases h;rcases hhi with⟨_,rfl⟩ | ⟨_,_,h1,_⟩
      ·rcases hlo with⟨h1,_⟩ | ⟨a,L,h1,rfl,hL⟩
       ·cases h1
       ·cases h1
        rw[hL.int];obtain⟨Y0,rfl⟩:=hx.slice;have hs:=hH.slot b _ hb;simp only[aeO] at hs;obtain⟨cur,el,fr,hs1,ZC,hs3,_,_⟩:=hs;have ZC:=ZC.es g6';subst ZC;have ZW:n≤jh (μ b) o none:=by simp only[jh];rw[Nat.le_div_iff_mul_le g6];omega
        obtain⟨c,hcd⟩:∃c,c=jh (μ b) o none:=⟨_,rfl⟩
        rw[←hcd] at ZW ⊢;obtain⟨off,ZD⟩:∃off,off=if c=n then (μ b).off+o else (μ b).off+(o+n*(μ b).es):=⟨_,rfl⟩
        obtain⟨a1,a2⟩:=hH.kO ⟨(μ b).blk,off,(c-n)*(μ b).es,(μ b).es⟩;have Ze:(Instr.sliceBounds true n c (some (.int k (n:Int))) none none).run P w=.ok (n,n,c) w:=by
         have XY:(0:Int)≤(n:Int):=by omega
         have hb1:(n:Int)≤((n:Nat):Int):=Int.le_refl _;simp[Instr.sliceBounds,bX XY hb1]
        refine⟨.slice (some ⟨(μ b).blk,off,none⟩) 0 (c-n),w,_,?_,?_,a1,a2⟩
        ·simp[Instr.sliceAt,Instr.slice,run_underlying hd,Ze,cD hT hj]
         by_cases hcn:c=n
         ·rw[if_pos hcn] at ZD
          simp[hcn,ZD]
         ·rw[if_neg hcn] at ZD
          simp[hcn,ZD,Addr.add_lit,g5,Nat.add_assoc]
        ·simp only[aeA,dW,jh,List.length_append,List.length_singleton,Nat.add_zero,Nat.sub_zero]
         refine⟨by omega,?_⟩;rw[Nat.mul_div_cancel _ g6]
      ·cases h1
     ·cases h
    ·cases h
   ·cases h
  ·cases h
 ·cases h
end
end Go.Eng
namespace Go.Eng
def Ay(T:TypeId→Option TyI) (t:TypeId) (x:AV) (lo hi mx:Option AV):Option AV:=
 match T t,x with
 |some i,.slice b o n (some c)=>
  match i.desc with
  |.slice e=>
   match T e,Dj n hi,Kd lo,Dj c mx with
   |some j,some h,some l,some m=>
    if 0≤l∧l≤h∧h≤m∧m≤c∧(mx=none∨hi.isSome=true) then some (.slice b (if m=l then o else o+l.toNat*j.size) (h.toNat-l.toNat) (some (m.toNat-l.toNat))) else none
   |_,_,_,_=>none
  |_=>none
 |_,_=>none
def qU(T:TypeId→Option TyI) (mem:Mem) (t t2:TypeId) (s x:AV):Option (AV×Mem):=
 match T t,s with
 |some i,.slice b 0 n (some c)=>
  match i.desc with
  |.slice e=>
   match T e,T t2,mem[b]? with
   |some j,some i2,some (.cells true es cs)=>
    if j.size=0∨1000≤j.size∨tW i2=false then none else
    match fA T mem j.size t2 x with
    |none=>none
    |some (m,news)=>
     if news.all AV.kS=true∧es=j.size∧n+m≤c∧(n+m)*j.size≤cs.length then
      some (.slice b 0 (n+m) (some c),mem.set b (.cells true es (cs.take (n*j.size)++news++cs.drop ((n+m)*j.size)))) else none
   |_,_,_=>none
  |_=>none
 |_,_=>none
section
variable {P:Program}{T:TypeId→Option TyI}{μ:Nat→Place}{mem:Mem}{base:Nat}{w:World}
theorem uM(hT:cJ P T){t:TypeId}{x v:AV}{X:Value}{lo hi mx:Option AV}{Lo Hi Mx:Option Value}(hx:aeA μ mem.length x X)(hlo:(lo=none∧Lo=none)∨∃l L,lo=some l∧Lo=some L∧aeA μ mem.length l L)(hhi:(hi=none∧Hi=none)∨∃l L,hi=some l∧Hi=some L∧aeA μ mem.length l L)(hmx:(mx=none∧Mx=none)∨∃l L,mx=some l∧Mx=some L∧aeA μ mem.length l L)(h:Ay T t x lo hi mx=some v):
  Val P (Instr.sliceAt t X Lo Hi Mx) w μ mem.length v:=by
 unfold Ay at h;split at h
 ·rename_i i b o n c ht
  have hd:=(hT t i ht).desc;split at h
  ·rename_i e B'
   rw[B'] at hd;split at h
   ·rename_i j hh ll mm hj e1 e2 e3
    split at h
    ·rename_i hc
     obtain⟨h0,h1,h2,h3,h4⟩:=hc;cases h;obtain⟨Y0,rfl⟩:=hx.slice;have Ze:(Instr.sliceBounds true n c Lo Hi Mx).run P w=.ok (ll.toNat,hh.toNat,mm.toNat) w:=by
      have YS :ll≤((hh.toNat:Nat):Int):=by omega
      have aaA :0≤hh:=by omega
      have ZZ :hh≤((mm.toNat:Nat):Int):=by omega
      have acu :0≤mm:=by omega
      rcases hmx with⟨rfl,rfl⟩ | ⟨m,M,rfl,rfl,hM⟩
      ·simp only[Dj,Option.some.injEq] at e3
       subst e3;rw[Int.toNat_natCast] at ZZ;rcases hhi with⟨rfl,rfl⟩ | ⟨a,A,rfl,rfl,hA⟩<;>rcases hlo with⟨rfl,rfl⟩ | ⟨b,B,rfl,rfl,hB⟩
       ·simp only[Dj,Kd,Option.some.injEq] at e1 e2;subst e1;subst e2
        simp[Instr.sliceBounds]
       ·cases b<;>simp only[Dj,Kd,reduceCtorEq,Option.some.injEq] at e1 e2
        subst e1;subst e2;rw[hB.int];simp[Instr.sliceBounds,bX h0 h1]
       ·cases a<;>simp only[Dj,Kd,reduceCtorEq,Option.some.injEq] at e1 e2
        subst e1;subst e2;rw[hA.int];simp[Instr.sliceBounds,bX aaA ZZ]
       ·cases a<;>simp only[Dj,reduceCtorEq,Option.some.injEq] at e1
        cases b<;>simp only[Kd,reduceCtorEq,Option.some.injEq] at e2;subst e1;subst e2;rw[hA.int,hB.int];simp[Instr.sliceBounds,bX aaA ZZ,bX h0 YS]
      ·cases m<;>simp only[Dj,reduceCtorEq,Option.some.injEq] at e3
       subst e3;rw[hM.int];rcases hhi with⟨rfl,rfl⟩ | ⟨a,A,rfl,rfl,hA⟩<;>rcases hlo with⟨rfl,rfl⟩ | ⟨b,B,rfl,rfl,hB⟩
       ·simp at h4
       ·simp at h4
       ·cases a<;>simp only[Dj,Kd,reduceCtorEq,Option.some.injEq] at e1 e2
        subst e1;subst e2;rw[hA.int];simp[Instr.sliceBounds,bX acu h3,bX aaA ZZ]
       ·cases a<;>simp only[Dj,reduceCtorEq,Option.some.injEq] at e1
        cases b<;>simp only[Kd,reduceCtorEq,Option.some.injEq] at e2;subst e1;subst e2;rw[hA.int,hB.int];simp[Instr.sliceBounds,bX acu h3,bX aaA ZZ,bX h0 YS]
     refine⟨.slice (some ⟨(μ b).blk,(μ b).off+(if mm=ll then o else o+ll.toNat*j.size),none⟩) (hh.toNat-ll.toNat) (mm.toNat-ll.toNat),?_,by simp only[aeA,jh];exact⟨Y0,trivial⟩⟩;have hml:(mm.toNat=ll.toNat)=(mm=ll):=by rw[eq_iff_iff];omega
     by_cases hml2:mm=ll
     ·simp[Instr.sliceAt,Instr.slice,run_underlying hd,Ze,cD hT hj,hml2,jh]
     ·simp[Instr.sliceAt,Instr.slice,run_underlying hd,Ze,cD hT hj,hml,hml2,jh,Addr.add_lit,Nat.add_assoc]
    ·cases h
   ·cases h
  ·cases h
 ·cases h
theorem Cl(hT:cJ P T)(hH:aeL base μ mem w){t t2 ty:TypeId}{s x v:AV}{S X:Value}{mem' :Mem}(hs:aeA μ mem.length s S)(hx:aeA μ mem.length x X)(h:qU T mem t t2 s x=some (v,mem')):
  afA P (Builtin.append_ #[t,t2] ty #[S,X]) base μ mem w v mem' :=by
 unfold qU at h;split at h
 ·rename_i i b n c ht
  have hd:=(hT t i ht).desc;split at h
  ·rename_i e B'
   rw[B'] at hd;split at h
   ·rename_i j i2 es cs hj hi2 hb
    split at h
    ·cases h
    ·rename_i P'
     have hd2:=(hT t2 i2 hi2).desc;have ht2:(∃e2,P.underlying t2=some (.slice e2))∨P.underlying t2=some .string:=by
      have XW:tW i2=true:=by
       cases h2:tW i2 with
       |true=>rfl
       |false=>exact absurd (.inr (.inr h2)) P'
      unfold tW at XW;split at XW
      ·rename_i e2 h2;rw[h2] at hd2;exact .inl ⟨e2,hd2⟩
      ·rename_i h2;rw[h2] at hd2;exact .inr hd2
      ·cases XW
     have hsk:j.size<1000:=by
      rcases Nat.lt_or_ge j.size 1000 with h0 | h0
      ·exact h0
      ·exact absurd (.inr (.inl h0)) P'
     split at h
     ·cases h
     ·rename_i m news abK
      split at h
      ·rename_i hc
       obtain⟨H',rfl,YA,aca⟩:=hc;cases h;obtain⟨Ns,g1,g2,g3,g4⟩:=si (P:=P) hH hx abK;obtain⟨Y0,rfl⟩:=hs.slice;have YT:=hH.slot b _ hb;simp only[aeO] at YT;obtain⟨cur,el,fr,s1,s2,s3,s4,s5⟩:=YT;obtain⟨s6,s7,s8,s9⟩:=s5 trivial;subst s7;have ZD:(μ b).off+0=0:=by omega
       have hr:=tE hT (ty:=ty) hd hj ht2 (some ⟨(μ b).blk,0,none⟩) n c m X w g3 YA;rw[g4 w (fun _=>rfl)] at hr;have hNl:Ns.length=m*j.size:=by rw[g1.length,g2]
       have aaB:n*j.size+m*j.size=(n+m)*j.size:=(Nat.add_mul _ _ _).symm;have F':cs.length≤cur.size:=by rw[s8];exact s3
       have XZ:=run_storeCells_at (P:=P) (μ b).blk (n*j.size) el Ns 0 cur w s1 (by rw[hNl,Nat.add_zero,aaB];omega) (g1.afl H');simp only[Result.andThen_ok,Addr.add_lit,Nat.zero_add,XZ] at hr;have hw:=hH.write (w' :=w.setRow (μ b).blk (cur.toList.take (n*j.size+0)++Ns++cur.toList.drop (n*j.size+0+Ns.length)).toArray) (s' :=.cells true j.size (cs.take (n*j.size)++news++cs.drop ((n+m)*j.size)))
        hb (jm hb) (fun _=>⟨_,List.getElem?_set_self (gL hb),rfl⟩) rfl rfl rfl rfl (by simp[World.setRow]) (fun k hk=>setRow_other w _ k _ hk) ?_
       ·refine⟨.slice (some ⟨(μ b).blk,0,none⟩) (n+m) c,_,μ,?_,?_,hw.1,hw.2⟩
        ·rw[←hr]
         simp only[jh,ZD]
        ·simp only[aeA,jh,ZD,List.length_set]
         exact⟨Y0,trivial⟩
       ·simp only[aeO]
        refine⟨_,el,(0,0),setRow_heap w (μ b).blk cur _ el (0,0) s1,s2,?_,fun q u hu=>?_,fun _=>⟨s6,rfl,?_,s9⟩⟩
        ·simp only[List.length_append,List.length_take,List.length_drop,g2];omega
        ·rw[s6] at s4
         rw[show(n+m)*j.size=n*j.size+news.length by rw[g2,aaB]] at hu;obtain⟨U,hU,hr⟩:=wV (cs:=cs) (vs:=news) (Vs:=Ns) (o:=n*j.size) (cur:=cur.toList) (by rw[g2,aaB];exact aca) (fun j v hv=>by simpa using s4 j v hv) g1 q u hu;refine⟨U,?_,hr⟩;rw[s6];simpa using hU
        ·simp only[List.size_toArray,List.length_append,List.length_take,List.length_drop,Array.length_toList,hNl];omega
      ·cases h
   ·cases h
  ·cases h
 ·cases h
end
end Go.Eng
namespace Go.Eng
def qe(T:TypeId→Option TyI) (mem:Mem) (t:TypeId) (m k:AV):Option (AV×Mem):=
 match T t with
 |none=>none
 |some i=>
  match i.desc,m with
  |.map kt et,.map b=>
   match T et,mem[b]? with
   |some j,some (.map es)=>
    if lE T 20 kt k then
     match jj T kt k es 0 with
     |some (some (q,v))=>if k.afn then some (.tuple [v,.int .i64 q],mem.set b (.map (es.set q (k,v)))) else none
     |some none=>some (.tuple [iQ j.zero,.int .i64 es.length],mem.set b (.map (es++[(k,iQ j.zero)])))
     |none=>none
    else none
   |_,_=>none
  |_,_=>none
def kI(mem:Mem) (m s v:AV):Option Mem:=
 match m,s with
 |.map b,.int _ (.ofNat q)=>match mem[b]? with
  |some (.map es)=>match es[q]? with
   |some e=>some (mem.set b (.map (es.set q (e.1,v))))
   |none=>none
  |_=>none
 |_,_=>none
variable{Do:Array MapEntry}
section
variable {P:Program}{T:TypeId→Option TyI}{μ:Nat→Place}{mem:Mem}{base:Nat}{w:World}{n:Nat}
theorem JW{kt:TypeId}{k:AV}:∀{es:List (AV×AV)}{i q:Nat}{v:AV},jj T kt k es i=some (some (q,v))→(es[q-i]?).map (·.2)=some v
 | [],i,q,v,h=>by simp[jj] at h
 |e::es,i,q,v,h=>by
  have hs:=nn h;rw[jj] at h;split at h
  ·cases h;simp
  ·have:=JW h
   obtain⟨j,e',h1,h2,h3⟩:=nn h;subst h1;rw[show i+1+j-(i+1)=j by omega] at this;rw[show i+1+j-i=j+1 by omega];simpa using this
  ·cases h
theorem A9(hH:aeL base μ mem w){b G' XX :Nat}{es YP :List (AV×AV)}{X0 :Array MapEntry}(hb:mem[b]? =some (.map es))(h1:w.heap[(μ b).blk]? =some (.map Do G'))(YZ:base≤(μ b).blk)(g0:CC X0 XX)(g1:X0.size=YP.length)(g2:∀(j:Nat) e,YP[j]? =some e→∃E,X0[j]? =some E∧NT μ mem.length e E):
  (setObj (μ b).blk (.map X0 XX)).run P w=.ok () { w with heap:=w.heap.setIfInBounds (μ b).blk (.map X0 XX) }∧
  aeL base μ (mem.set b (.map YP)) { w with heap:=w.heap.setIfInBounds (μ b).blk (.map X0 XX) }∧Step mem.length μ mem w μ (mem.set b (.map YP)) { w with heap:=w.heap.setIfInBounds (μ b).blk (.map X0 XX) }:=by
 have A':(μ b).blk<w.heap.size:=(Array.getElem?_eq_some_iff.1 h1).1;refine⟨rC h1 (by simp),hH.write hb (Ks hb) (fun _=>⟨_,List.getElem?_set_self (gL hb),rfl⟩) rfl rfl rfl rfl (by simp) (fun q hq=>?_) ?_⟩
 ·simp[Array.getElem?_setIfInBounds_ne (Ne.symm hq)]
 ·simp only[aeO]
  exact⟨X0,XX,by simp[A'],⟨YZ,g0⟩,g1,g2⟩
theorem P9{G' i:Nat}(h:CC Do G')(hi:i<Do.size):Do.findIdx? (fun e=>(e.born:Int)==(i:Int))=some i:=by
 rw[Array.findIdx?_eq_some_iff_getElem];refine⟨hi,?_,?_⟩
 ·have:=h.2 i Do[i] (by simp)
  simp[this]
 ·intro j hj
  have:=h.2 j Do[j] (by simp);simp[this];omega
theorem wq(hH:aeL base μ mem w){t:TypeId}{m s v:AV}{M S V:Value}{mem' :Mem}(hm:aeA μ mem.length m M)(hs:aeA μ mem.length s S)(hv:aeA μ mem.length v V)(h:kI mem m s v=some mem'):∃w',(Instr.entryStore t M S V).run P w=.ok () w' ∧aeL base μ mem' w' ∧Step mem.length μ mem w μ mem' w' :=by
 unfold kI at h;split at h
 ·rename_i b k q
  split at h
  ·rename_i es hb
   split at h
   ·rename_i e he
    cases h;simp only[aeA] at hm;obtain⟨_,rfl⟩:=hm;have YT:=hH.slot b _ hb;simp only[aeO] at YT;obtain⟨Do,G',h1,YZ,h2,h3⟩:=YT;have hg:(getObj (μ b).blk).run P w=.ok (.map Do G') w:=by simp[getObj,Sem.run,h1]
    have hq:q<es.length:=(gL he);have hf:=P9 YZ.2 (i:=q) (by omega);obtain⟨f1,f2,f3⟩:=A9 (P:=P) hH (YP :=es.set q (e.1,v)) (X0 :=Do.modify q fun e=>{ e with val:=V }) (XX :=G') hb h1 YZ.1 ⟨by simpa using YZ.2.1,fun j E' Yb =>by
     rw[Array.getElem?_modify] at Yb;split at Yb
     ·simp only[Option.map_eq_some_iff] at Yb
      obtain⟨E0,k1,rfl⟩:=Yb;exact YZ.2.2 j E0 k1
     ·exact YZ.2.2 j E' Yb⟩ (by simpa using h2) (fun j e' YL =>by
     rw[List.getElem?_set] at YL;by_cases hjq:q=j
     ·subst hjq
      simp only[if_true,hq,Option.some.injEq] at YL;subst YL;obtain⟨E,hE,hr⟩:=h3 q e he;exact⟨{ E with val:=V },by simp[Array.getElem?_modify,hE],hr.1,hv⟩
     ·rw[if_neg hjq] at YL
      obtain⟨E',Yb,hr'⟩:=h3 j e' YL;exact⟨E',by simp[Array.getElem?_modify,hjq,Yb],hr'⟩)
    refine⟨_,?_,f2,f3⟩;rw[hs.int];have hf' :Do.findIdx? (fun e=>(e.born:Int)==Int.ofNat q)=some q:=hf;simp only[Instr.entryStore,Sem.run_bind,Result.andThen_ok,hg,asInt,asIntOf,Sem.run_pure,hf'];exact f1
   ·cases h
  ·cases h
 ·cases h
theorem Aw(hT:cJ P T)(hH:aeL base μ mem w){t:TypeId}{m k v:AV}{M K:Value}{mem' :Mem}(hm:aeA μ mem.length m M)(hk:aeA μ mem.length k K)(h:qe T mem t m k=some (v,mem')):afA P (Instr.mapEntry t M K) base μ mem w v mem' :=by
 unfold qe at h;cases ht:T t with
 |none=>rw[ht] at h;cases h
 |some i=>
  rw[ht] at h;simp only at h;have hd:=(hT t i ht).desc;split at h
  ·rename_i kt et b B'
   rw[B'] at hd;split at h
   ·rename_i j es hj hb
    split at h
    ·rename_i XW
     simp only[aeA] at hm;obtain⟨Y0,rfl⟩:=hm;have hs:=hH.slot b _ hb;simp only[aeO] at hs;obtain⟨Do,G',h1,YZ,h2,h3⟩:=hs;have hg:(getObj (μ b).blk).run P w=.ok (.map Do G') w:=by simp[getObj,Sem.run,h1]
     have Zf:=kQ (P:=P) (n:=mem.length) hT false 20 XW hk 9980 w;have ZX:∃ki,T kt=some ki:=by
      rw[lE] at XW;cases hx:T kt with
      |none=>rw[hx] at XW;cases XW
      |some ki=>exact⟨ki,rfl⟩
     obtain⟨ki,hki⟩:=ZX;have e2:Do.toList.length=es.length:=by simpa using h2
     have e3:∀(j:Nat) e,es[j]? =some e→∃E,Do.toList[j]? =some E∧NT μ mem.length e E:=fun j e he=>by obtain⟨E,hE,hr⟩:=h3 j e he;exact⟨E,by simpa using hE,hr⟩
     split at h
     ·rename_i q v' hf
      split at h
      ·rename_i hsc
       cases h;obtain⟨R,g1,g2⟩:=gI hT hki hk e2 e3 hf w;cases R with
       |none=>exact g2.elim
       |some x=>
        obtain⟨q',V'⟩:=x;obtain⟨rfl,hv⟩:=g2;obtain⟨j',e,hq,he,S'⟩:=nn hf;have Zh :q=j' :=by omega
        subst Zh;obtain⟨E,hE,hr⟩:=h3 q e he;have hsb:=qO (μ:=μ) (n:=mem.length) hsc hk hr.1 S' rfl;have X5 :q<es.length:=(gL he);have X9:e.2=v' :=by have:=JW hf;rw[Nat.sub_zero] at this;rw[he] at this;simpa using this
        obtain⟨f1,f2,f3⟩:=A9 (P:=P) hH (YP :=es.set q (k,v')) (X0 :=Do.modify q fun e=>{ e with key:=K }) (XX :=G') hb h1 YZ.1 ⟨by simpa using YZ.2.1,fun j E' Yb =>by
         rw[Array.getElem?_modify] at Yb;split at Yb
         ·simp only[Option.map_eq_some_iff] at Yb
          obtain⟨E0,k1,rfl⟩:=Yb;exact YZ.2.2 j E0 k1
         ·exact YZ.2.2 j E' Yb⟩ (by simpa using h2) (fun j e' YL =>by
         rw[List.getElem?_set] at YL;by_cases hjq:q=j
         ·subst hjq
          simp only[if_true,X5,Option.some.injEq] at YL;subst YL;exact⟨{ E with key:=K },by simp[Array.getElem?_modify,hE],hk,by rw[←X9];exact hr.2⟩
         ·rw[if_neg hjq] at YL
          obtain⟨E',Yb,hr'⟩:=h3 j e' YL;exact⟨E',by simp[Array.getElem?_modify,hjq,Yb],hr'⟩)
        refine⟨.tuple #[V',goInt q],_,μ,?_,?_,f2,f3⟩
        ·simp only[Instr.mapEntry,Sem.run_bind,run_underlying hd,Result.andThen_ok,hg]
         rw[show(10000:Nat)=20+9980 from rfl,Zf];simp only[Result.andThen_ok,g1,Sem.run_bind];have aaH:(Instr.keyThatStays (((Do[q]?).map (·.key)).getD K) K).run P w=.ok K w:=by unfold Instr.keyThatStays;rw[hE];simp only[Option.map_some,Option.getD_some,hsb,if_true];rfl
         rw[aaH];simp only[Result.andThen_ok,f1,Sem.run_pure];rw[hE];simp only[Option.map_some,Option.getD_some,YZ.2.2 q E hE]
        ·simp only[List.length_set,aeA]
         exact⟨[V',goInt q],rfl,bo.2 ⟨hv,bo.2 ⟨by simp[aeA,goInt],by simp[aeC]⟩⟩⟩
      ·cases h
     ·rename_i hf
      cases h;obtain⟨R,g1,g2⟩:=gI hT hki hk e2 e3 hf w;cases R with
      |some x=>exact g2.elim
      |none=>
       have hz:=wh μ mem.length j.zero;obtain⟨f1,f2,f3⟩:=A9 (P:=P) hH (YP :=es++[(k,iQ j.zero)]) (X0 :=Do.push { key:=K,val:=j.zero,born:=G' }) (XX :=G'+1) hb h1 YZ.1 ⟨by simp[YZ.2.1],fun j E' Yb =>by
        rw[Array.getElem?_push] at Yb;split at Yb
        ·rename_i hj;cases Yb;rw[hj];exact YZ.2.1
        ·exact YZ.2.2 j E' Yb⟩ (by simp[h2]) (fun j' e' YL =>by
        by_cases hj' :j' <es.length
        ·rw[List.getElem?_append_left hj'] at YL
         obtain⟨E',Yb,hr'⟩:=h3 j' e' YL;exact⟨E',by rw[Array.getElem?_push,if_neg (by omega)];exact Yb,hr'⟩
        ·have ZU:j' =es.length:=by have:=(gL YL);simp at this;omega
         subst ZU;simp at YL;subst YL;exact⟨{ key:=K,val:=j.zero,born:=G' },by rw[Array.getElem?_push,if_pos h2.symm],hk,hz⟩)
       refine⟨.tuple #[j.zero,goInt G'],_,μ,?_,?_,f2,f3⟩
       ·simp only[Instr.mapEntry,Sem.run_bind,run_underlying hd,Result.andThen_ok,hg]
        rw[show(10000:Nat)=20+9980 from rfl,Zf];simp only[Result.andThen_ok,g1,Sem.run_bind,dX hT hj,f1,Sem.run_pure]
       ·simp only[List.length_set,aeA]
        exact⟨[j.zero,goInt G'],rfl,bo.2 ⟨hz,bo.2 ⟨by simp[aeA,goInt,YZ.2.1,h2],by simp[aeC]⟩⟩⟩
     ·cases h
    ·cases h
   ·cases h
  ·cases h
end
end Go.Eng
namespace Go.Eng
def aUn(op:UnOp) (x:AV):Option AV:=
 match op,x with
 |.not,.bool b=>some (.bool (!b))
 |.neg,.int k n=>some (.int k (k.wrap (0-n)))
 |_,_=>none
def aOp(T:TypeId→Option TyI) (env:Env) (mem:Mem) (op:Op):Option (AV×Mem):=
 match op with
 |.move x=>some (get env x,mem)
 |.assign x=>some (get env x,mem)
 |.pick c a b=>match get env c with
  |.bool t=>some (if t then get env a else get env b,mem)
  |_=>none
 |.alloc e=>rY T mem e
 |.box _ x=>Wv mem (get env x)
 |.build t ps=>match cM T t (ps.toList.map fun p=>(p.1,get env p.2)) with
  |some v=>some (v,mem)
  |none=>none
 |.buildSlice t n ps=>fS T mem t n (ps.toList.map fun p=>(p.1,get env p.2))
 |.load t a=>match Pg T mem t (get env a) with
  |some v=>some (v,mem)
  |none=>none
 |.store t a x=>match rZ T mem t (get env a) (get env x) with
  |some m=>some (.undef,m)
  |none=>none
 |.nilCheck x=>match get env x with
  |.ptr b o=>some (.ptr b o,mem)
  |.func f cs=>some (.func f cs,mem)
  |_=>none
 |.binOp op t x y _=>match Xk T op t (qs x) (qs y) (get env x) (get env y) with
  |some v=>some (v,mem)
  |none=>none
 |.unOp op _ x=>match aUn op (get env x) with
  |some v=>some (v,mem)
  |none=>none
 |.convert s d x=>match yQ T s d (get env x) with
  |some v=>some (v,mem)
  |none=>na T mem s d (get env x)
 |.makeFunc (.func f) first aaZ=>if first.size=0 then some (.func f (Ww env aaZ),mem) else none
 |.makeSlice t l c=>kj T mem t (get env l) (get env c)
 |.slice t x lo hi none=>match Nb T mem t (get env x) (lo.map (get env)) (hi.map (get env)) with
  |some v=>some (v,mem)
  |none=>match wA T mem t (get env x) (lo.map (get env)) (hi.map (get env)) with
   |some r=>some r
   |none=>match Ay T t (get env x) (lo.map (get env)) (hi.map (get env)) none with
    |some v=>some (v,mem)
    |none=>none
 |.slice t x lo hi (some mx)=>match Ay T t (get env x) (lo.map (get env)) (hi.map (get env)) (some (get env mx)) with
  |some v=>some (v,mem)
  |none=>none
 |.fieldAddr t x f=>match qV T t (get env x) f with
  |some v=>some (v,mem)
  |none=>none
 |.field t x f=>match nb T t (get env x) f with
  |some v=>some (v,mem)
  |none=>none
 |.indexAddr t x i=>match qW T t (get env x) (get env i) with
  |some v=>some (v,mem)
  |none=>none
 |.index t x i=>match Na T t (get env x) (get env i) with
  |some v=>some (v,mem)
  |none=>none
 |.makeMap _ none=>some (.map mem.length,mem++[.map []])
 |.lookup t m k ok=>match kJ T mem t (get env m) (get env k) ok with
  |some v=>some (v,mem)
  |none=>none
 |.mapUpdate t m k x=>match eZ T mem t (get env m) (get env k) (get env x) with
  |some m=>some (.undef,m)
  |none=>none
 |.mapEntry t m k=>qe T mem t (get env m) (get env k)
 |.entryStore _ m s x=>match kI mem (get env m) (get env s) (get env x) with
  |some m=>some (.undef,m)
  |none=>none
 |.extract t i=>match get env t with
  |.tuple cs=>match cs[i]? with
   |some v=>some (v,mem)
   |none=>none
  |_=>none
 |.call { callee:=.builtin .len,args:=⟨[x]⟩,argTypes:=⟨[t]⟩ }=>match lD T t mem (get env x) with
  |some v=>some (v,mem)
  |none=>none
 |.call { callee:=.builtin .append,args:=⟨[s,x]⟩,argTypes:=⟨[t,t2]⟩ }=>if Nv (T t2) then uJ T mem t (get env s) (get env x) else
  match dy T mem t t2 (get env s) (get env x) with
  |some r=>some r
  |none=>qU T mem t t2 (get env s) (get env x)
 |.call { callee:=.builtin .cap,args:=⟨[x]⟩,argTypes:=⟨[t]⟩ }=>match Xl T t (get env x) with
  |some v=>some (v,mem)
  |none=>none
 |.call { callee:=.builtin .clear,args:=⟨[x]⟩,argTypes:=⟨[t]⟩ }=>match Jr T mem t (get env x) with
  |some m=>some (.tuple [],m)
  |none=>none
 |.call { callee:=.builtin .unsafeSliceData,args:=⟨[x]⟩,argTypes:=_ }=>match qX mem (get env x) with
  |some v=>some (v,mem)
  |none=>none
 |.call { callee:=.builtin .unsafeString,args:=⟨[x,y]⟩,argTypes:=⟨[pt,_]⟩ }=>wB T mem pt (get env x) (get env y)
 |.call { callee:=.builtin .min,args:=⟨[x,y]⟩,argTypes:=_ }=>match get env x,get env y with
  |.int k a,.int k' b=>if k=k' then some (.int k (if b<a then b else a),mem) else none
  |.str a,.str b=>some (.str (if Op.bytesLess a b||a==b then a else b),mem)
  |_,_=>none
 |.call { callee:=.builtin .max,args:=⟨[x,y]⟩,argTypes:=_ }=>match get env x,get env y with
  |.int k a,.int k' b=>if k=k' then some (.int k (if a<b then b else a),mem) else none
  |.str a,.str b=>some (.str (if Op.bytesLess a b then b else a),mem)
  |_,_=>none
 |_=>none
end Go.Eng
