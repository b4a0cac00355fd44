/- See F54. -/
import Derived.Test.YtgafjliihahjgaaGreatDoorF01
import Derived.Lib.UnsafeStr
import Derived.RangeFuncLeaves
import Derived.OrdersIn
import Derived.TacticsIn
import Derived.Lib.ItoaNum
import Derived.Lib.LaidTab
set_option linter.all false
namespace Go.Eng
variable{V X:Value}{cs:List AV}{mem' :Mem}{v x:AV}
section
variable {P:Program}{T:TypeId→Option TyI}{μ:Nat→Place}{mem:Mem}{base:Nat}{w:World}
def afY(P:Program)(x:Sem Value)(base:Nat) (μ:Nat→Place)(mem:Mem)(w:World)(v:AV) (mem' :Mem):Prop:=
 ∃V w' μ',x.run P w=.ok V w' ∧aeU μ' mem'.length v V∧ae5 base μ' mem' w' ∧Step mem.length μ mem w μ' mem' w'
theorem afY.afe{x:Sem Value}(A:ae5 base μ mem w)(h:Val P x w μ mem.length v):afY P x base μ mem w v mem:=by obtain⟨V,Z,W⟩:=h;exact⟨V,w,μ,Z,W,A,.refl (Nat.le_refl _)⟩
theorem sF(H:ae5 base μ mem w)(e:TypeId)(A:Array Value)(es:Nat)(G:1000≤es→e+1=es / 1000)(cs:List AV)(h:∀(j:Nat) v,cs[j]? =some v→∃V,A[j]? =some V∧aeU μ mem.length v V):
  ae5 base (upd μ mem.length ⟨w.heap.size,0,A.size,es%1000⟩) (mem++[.cells true es cs]) (w.alloc (.cells A e))∧
  Step mem.length μ mem w (upd μ mem.length ⟨w.heap.size,0,A.size,es%1000⟩) (mem++[.cells true es cs]) (w.alloc (.cells A e)):=by
 refine H.push _ _ _ rfl ?_;simp only[ae7];refine⟨A,e,(0,0),heap_alloc_new w _,⟨rfl,G⟩,?_,fun j v W=>?_,fun _=>by simp;exact H.ae1⟩
 ·rcases Nat.eq_zero_or_pos cs.length with h0 | h0
  ·omega
  ·obtain⟨V,Z,_⟩:=h (cs.length-1) cs[cs.length-1] (by simp)
   have:=(Array.getElem?_eq_some_iff.1 Z).1;omega
 ·obtain⟨V,Z,S⟩:=h j v W
  exact⟨V,by simpa using Z,S.mono (Nat.le_succ _) fun b O=>wE O⟩
theorem xO{n:Nat}{vs:List AV}{cur Vs:List Value}{o:Nat}(G:o+vs.length≤cs.length)(h:∀(j:Nat) v,cs[j]? =some v→∃V,cur[j]? =some V∧aeU μ n v V)(A:aeV μ n vs Vs):
  ∀(j:Nat) v,(cs.take o++vs++cs.drop (o+vs.length))[j]? =some v→∃V,(cur.take o++Vs++cur.drop (o+Vs.length))[j]? =some V∧aeU μ n v V:=by
 have F:=A.length;have S:cs.length≤cur.length:=by
  rcases Nat.eq_zero_or_pos cs.length with h0 | h0
  ·omega
  ·obtain⟨V,O,_⟩:=h (cs.length-1) cs[cs.length-1] (by simp)
   have:=gL O;omega
 have M:(cs.take o).length=o:=by simp;omega
 have K:(cur.take o).length=o:=by simp;omega
 intro j v Z;rw[List.append_assoc] at Z ⊢;by_cases W:j<o
 ·rw[List.getElem?_append_left (by omega),List.getElem?_take_of_lt W] at Z
  rw[List.getElem?_append_left (by omega),List.getElem?_take_of_lt W];exact h j v Z
 ·rw[List.getElem?_append_right (by omega),M] at Z
  rw[List.getElem?_append_right (by omega),K];by_cases J:j-o<vs.length
  ·rw[List.getElem?_append_left J] at Z
   rw[List.getElem?_append_left (by omega)];exact A.get _ v Z
  ·rw[List.getElem?_append_right (by omega),List.getElem?_drop] at Z
   rw[List.getElem?_append_right (by omega),List.getElem?_drop];rw[show o+Vs.length+(j-o-Vs.length)=o+vs.length+(j-o-vs.length) by omega];exact h _ v Z
def Hk(T:TypeId→Option TyI)(e:TypeId)(i:TyI):Bool:=match i.desc with
 |.struct fs=>match fs[0]? with
  |some f=>match T f.type with
   |some k=>match k.desc with
    |.pointer e' =>e' ==e
    |_=>false
   |none=>false
  |none=>false
 |_=>false
def th(T:TypeId→Option TyI)(mem:Mem)(e:TypeId):Option (AV×Mem):=
 match T e with
 |some i=>some (.ptr mem.length 0,mem++[.cells true (if Hk T e i then 1000*(e+1) else 0) (jb i.zero).cells])
 |none=>none
theorem yI(G:ae5 base μ mem w)(e:TypeId)(es:Nat)(A:1000≤es→e+1=es / 1000)(h:aeV μ mem.length cs V.cells.toList):
  afY P (do pure (.pointer (some (←newVar e V)))) base μ mem w (.ptr mem.length 0) (mem++[.cells true es cs]):=by
 obtain⟨Z,W⟩:=sF G e V.cells es A cs (fun j v S=>by obtain⟨U,O,M⟩:=h.get j v S;exact⟨U,by simpa using O,M⟩)
 refine⟨.pointer (some ⟨w.heap.size,0,none⟩),_,_,?_,?_,Z,W⟩
 ·simp only[newVar,newRow,Sem.run_bind,run_newObj,Result.andThen_ok,Sem.run_pure]
  rfl
 ·simp[aeU,eX]
theorem Ld(hT:cW P T)(A:ae5 base μ mem w){e:TypeId}(h:th T mem e=some (v,mem')):
  afY P (Instr.alloc e true (.tuple #[])) base μ mem w v mem' :=by
 unfold th at h;split at h
 ·rename_i i Z
  cases h;have:=yI (P:=P) A e (if Hk T e i then 1000*(e+1) else 0) (by cases Hk T e i with | false=>simp | true=>simp only[if_true];intro _;rw[Nat.mul_div_cancel_left _ (by omega)]) (V:=i.zero) (jq μ mem.length i.zero);obtain⟨V,w',μ',W,S⟩:=this;refine⟨V,w',μ',?_,S⟩;simp only[Instr.alloc,Sem.run_bind,eY hT Z,Result.andThen_ok];exact W
 ·cases h
def YH(mem:Mem)(x:AV):Option (AV×Mem):=if x.known then some (.ptr mem.length 0,mem++[.cells true 0 x.cells]) else none
theorem Rr(A:ae5 base μ mem w){e:TypeId}(G:aeU μ mem.length x X)(h:YH mem x=some (v,mem')):
  afY P (Instr.box e X) base μ mem w v mem' :=by
 unfold YH at h;split at h
 ·rename_i Z
  cases h;exact yI (P:=P) A e 0 (by omega) (G.cells Z)
 ·cases h
theorem Ln(hT:cW P T)(G:ae5 base μ mem w){t:TypeId}(hx:aeU μ mem.length x X)(A:aeU μ mem.length v V)(h:tl T mem t x v=some mem'):∃w',(Instr.storeAt t X V).run P w=.ok () w' ∧ae5 base μ mem' w' ∧Step mem.length μ mem w μ mem' w' :=by
 unfold tl at h;split at h
 ·rename_i i b o ht
  split at h
  ·rename_i es cs M
   split at h
   ·rename_i hc
    cases h;simp only[Bool.and_eq_true,decide_eq_true_eq,List.all_eq_true] at hc;obtain⟨⟨⟨F,W⟩,D⟩,C⟩:=hc;obtain⟨hbn,rfl⟩:=hx.ptr;have Y:=G.slot b _ M;simp only[ae7] at Y;obtain⟨Z,el,fr,R,g2,g3,I,g5⟩:=Y;obtain⟨K,g7,g8,g9⟩:=g5 trivial;subst g7;have S:=A.cells F;have O:V.cells.size=i.size:=by rw[←Array.length_toList,S.length,W]
    have h1:∀u∈V.cells.toList,u.oneCell' =true:=by
     intro u hu;obtain⟨j,H⟩:=List.getElem?_of_mem hu;have B :j<v.cells.length:=by rw[←S.length];exact(gL H)
     obtain⟨U,J,z⟩:=S.get j v.cells[j] (by simp[B]);rw[H] at J;cases J;exact z.agm (C _ (by simp))
    have m:=run_storeCells_at (P:=P) (μ b).blk o el V.cells.toList 0 Z w R (by rw[S.length,W];omega) h1;refine⟨w.setRow (μ b).blk (Z.toList.take (o+0)++V.cells.toList++Z.toList.drop (o+0+V.cells.toList.length)).toArray,?_,G.write M (jr M) (fun _=>⟨_,List.getElem?_set_self (gL M),rfl⟩) rfl rfl rfl rfl (by simp[World.setRow]) (fun k F=>setRow_other w _ k _ F) ?_⟩
    ·simp only[Instr.storeAt,Instr.sureAddr,Sem.run_bind,Sem.run_pure,Result.andThen_ok,storeVar,cP hT ht,O,ne_eq,not_true_eq_false,if_false,K,Nat.zero_add]
     exact m
    ·simp only[ae7]
     refine⟨_,el,(0,0),setRow_heap w (μ b).blk Z _ el (0,0) R,g2,?_,fun j u hu=>?_,fun _=>⟨K,rfl,?_,g9⟩⟩
     ·simp only[List.length_append,List.length_take,List.length_drop,W];omega
     ·rw[K] at I
      have:=xO (cs:=cs) (vs:=v.cells) (Vs:=V.cells.toList) (o:=o) (cur:=Z.toList) (by rw[W];exact D) (fun j v A=>by simpa using I j v A) S j u (by rw[W];exact hu);obtain⟨U,J,z⟩:=this;refine⟨U,?_,z⟩;rw[K];simpa using J
     ·simp only[List.size_toArray,List.length_append,List.length_take,List.length_drop,Array.length_toList,O];omega
   ·cases h
  ·cases h
 ·cases h
end
end Go.Eng
namespace Go.Eng
section
variable {P:Program}{T:TypeId→Option TyI}{μ:Nat→Place}{mem:Mem}{base:Nat}{w:World}
def gJ(z:List AV):Nat→List AV
 |0=>[]
 |k+1=>z++gJ z k
theorem gW(z:List AV):∀k,(gJ z k).length=k*z.length
 |0=>by simp[gJ]
 |k+1=>by simp[gJ,gW z k,Nat.add_mul,Nat.add_comm]
theorem sI{n:Nat}{z:List AV}{Z:Array Value}(A:aeV μ n z Z.toList):∀(k:Nat)(j:Nat) v,(gJ z k)[j]? =some v→
  ∃V,Z[j%Z.size]! =V∧aeU μ n v V∧j<k*Z.size
 |0,j,v,h=>by simp[gJ] at h
 |k+1,j,v,h=>by
  have X:Z.size=z.length:=by rw[←Array.length_toList,A.length]
  rw[gJ] at h;by_cases O:j<z.length
  ·rw[List.getElem?_append_left O] at h
   obtain⟨V,W,S⟩:=A.get j v h;refine⟨V,?_,S,by rw[X,Nat.add_mul];omega⟩;rw[Nat.mod_eq_of_lt (by omega)];have:Z[j]? =some V:=by simpa using W
   simp[getElem!_def,this]
  ·rw[List.getElem?_append_right (by omega)] at h
   obtain⟨V,W,S,M⟩:=sI A k (j-z.length) v h;refine⟨V,?_,S,by rw[X] at M ⊢;rw[Nat.add_mul];omega⟩;rw[←W,X];congr 1;rw[Nat.mod_eq_sub_mod (by omega)]
theorem E2{Z:Array Value}{m j:Nat}(h:j<m):((Array.range m).map (fun i=>Z[i%Z.size]!))[j]? =some (Z[j%Z.size]!):=by simp[h]
def fZ(T:TypeId→Option TyI)(mem:Mem)(t:TypeId)(A:Nat)(parts:List (Nat×AV)):Option (AV×Mem):=
 match T t with
 |none=>none
 |some i=>
  match i.desc with
  |.slice e=>
   match T e with
   |none=>none
   |some j=>
    if A*j.size≤16777216∧0<j.size∧j.size<1000 then
     match pB (fun k=>some (k*j.size,j.size)) (gJ (jb j.zero).cells A) parts with
     |some cs=>some (.slice mem.length 0 A none,mem++[.cells true j.size cs])
     |none=>none
    else none
  |_=>none
theorem xn(hT:cW P T)(hH:ae5 base μ mem w){t:TypeId}{A:Nat}{parts:List (Nat×AV)}{G:List (Nat×Value)}{v:AV}{H :Mem}(hp:G.map (·.1)=parts.map (·.1))(hv:aeV μ mem.length (parts.map (·.2)) (G.map (·.2)))(h:fZ T mem t A parts=some (v,H)):
  afY P (Instr.buildSlice t A ⟨G⟩) base μ mem w v H :=by
 unfold fZ at h;cases ht:T t with
 |none=>rw[ht] at h;cases h
 |some i=>
  rw[ht] at h;simp only at h;have Y:=(hT t i ht).desc;split at h
  ·rename_i e F'
   rw[F'] at Y;split at h
   ·cases h
   ·rename_i j J
    split at h
    ·rename_i hc
     split at h
     ·rename_i cs R
      cases h;have I:=jq μ mem.length j.zero;have S:=(hT e j J).ago;have O:(jb j.zero).cells.length=j.size:=by rw[←I.length,Array.length_toList,S]
      have F:aeV μ mem.length (gJ (jb j.zero).cells A) ((Array.range (A*j.size)).map (fun i=>j.zero.cells[i%j.zero.cells.size]!)).toList:=by
       refine aeV.afV (by simp[gW,O]) fun q u hu=>?_
       obtain⟨V,D,C,h3⟩:=sI I A q u hu;refine⟨V,?_,C⟩;have:=E2 (Z:=j.zero.cells) (m:=A*j.size) (j:=q) (by rw[S] at h3;exact h3);rw[D] at this;rw[Array.getElem?_toList];exact this
      obtain⟨Cs,hF,M⟩:=so R F hp hv;obtain⟨D,C⟩:=sF hH e ⟨Cs⟩ j.size (by omega) cs (fun q u hu=>by obtain⟨U,hU,hr⟩:=M.get q u hu;exact⟨U,by simpa using hU,hr⟩)
      have H':Cs.length=A*j.size:=by
       rw[M.length];have:∀{pl:Nat→Option (Nat×Nat)}{K:List (Nat×AV)}{a b:List AV},pB pl a K=some b→b.length=a.length:=by
        intro pl K;induction K with
        |nil=>intro a b X;simp only[pB,Option.some.injEq] at X;rw[X]
        |cons p K ih=>
         obtain⟨pi,pv⟩:=p;intro a b X;rw[pB] at X;cases hpl:pl pi with
         |none=>rw[hpl] at X;cases X
         |some os=>
          obtain⟨off,size⟩:=os;rw[hpl] at X;simp only at X;split at X
          ·rename_i B
           simp only[Bool.and_eq_true,decide_eq_true_eq] at B;rw[ih X];simp only[List.length_append,List.length_take,List.length_drop];omega
          ·cases X
       rw[this R,gW,O]
      refine⟨.slice (some ⟨w.heap.size,0,none⟩) A A,_,_,?_,?_,D,C⟩
      ·simp only[Instr.buildSlice,Sem.run_bind,run_underlying Y,Result.andThen_ok,cP hT J]
       rw[if_neg (by omega)];have W :=hF;rw[show(⟨((Array.range (A*j.size)).map (fun i=>j.zero.cells[i%j.zero.cells.size]!)).toList⟩:Array Value)=(Array.range (A*j.size)).map (fun i=>j.zero.cells[i%j.zero.cells.size]!) from rfl] at W;by_cases z:A*j.size=0
       ·rw[if_pos z]
        rw[z] at W ⊢;simp only[Sem.run_bind,Sem.run_pure,Result.andThen_ok,Array.range_zero',Array.map_empty] at W ⊢;rw[W];simp only[newRow,Sem.run_bind,run_newObj,Result.andThen_ok,Sem.run_pure];rfl
       ·rw[if_neg z]
        simp only[Sem.run_bind,Sem.run_pure,Result.andThen_ok,eY hT J];rw[W];simp only[newRow,Sem.run_bind,run_newObj,Result.andThen_ok,Sem.run_pure];rfl
      ·simp only[aeU,eX,jl,List.length_append,List.length_singleton]
       refine⟨by omega,?_⟩;simp only[Nat.sub_zero,H',List.size_toArray,Nat.mod_eq_of_lt hc.2.2,Nat.mul_div_cancel _ hc.2.1]
     ·cases h
    ·cases h
  ·cases h
end
theorem aq{n:Int}(h0: -9223372036854775808≤n:=by omega)(Z:n≤9223372036854775807:=by omega):IntKind.i64.wrap n=n:=by simp only[IntKind.wrap,IntKind.bits,IntKind.signed,Bool.true_and,ge_iff_le,decide_eq_true_eq,Nat.reduceSub];split<;>omega
section
variable {P:Program}{T:TypeId→Option TyI}{μ:Nat→Place}{mem:Mem}{base:Nat}{w:World}
def kD(T:TypeId→Option TyI)(mem:Mem)(t:TypeId)(l c:AV):Option (AV×Mem):=
 match T t with
 |none=>none
 |some i=>
  match i.desc,l,c with
  |.slice e,.int _ l,.int _ c=>
   match T e with
   |none=>none
   |some j=>
    if 0≤l∧l≤c∧(j.bytes:Int)*c≤281474976710656∧c≤281474976710656∧0<j.size∧j.size<1000 then
     some (.slice mem.length 0 l.toNat none,mem++[.cells true j.size (gJ (jb j.zero).cells l.toNat)])
    else none
  |_,_,_=>none
theorem zL(hT:cW P T)(G:ae5 base μ mem w){t:TypeId}{l c v:AV}{L C:Value}{A :Mem}(H:aeU μ mem.length l L)(hc:aeU μ mem.length c C)(h:kD T mem t l c=some (v,A)):
  afY P (Instr.makeSlice t L C) base μ mem w v A :=by
 unfold kD at h;cases ht:T t with
 |none=>rw[ht] at h;cases h
 |some i=>
  rw[ht] at h;simp only at h;have B:=(hT t i ht).desc;split at h
  ·rename_i e k1 l k2 c Y
   rw[Y] at B;split at h
   ·cases h
   ·rename_i j S
    split at h
    ·rename_i O
     obtain⟨g1,g2,g3,g4,R,I⟩:=O;cases h;rw[H.int,hc.int];have z:=jq μ mem.length j.zero;have X:=(hT e j S).ago;have hzl:(jb j.zero).cells.length=j.size:=by rw[←z.length,Array.length_toList,X]
     obtain⟨f,hf,hfs,W,hfz⟩:=yR hT S w;have w1:IntKind.i64.wrap l=l:=aq;have w2:IntKind.i64.wrap c=c:=aq;obtain⟨h1,h2⟩:=sF G e ((Array.range (c.toNat*j.size)).map (fun i=>j.zero.cells[i%j.zero.cells.size]!)) j.size (by omega) (gJ (jb j.zero).cells l.toNat) (fun q u hu=>by obtain⟨V,e1,e2,e3⟩:=sI z _ q u hu;refine⟨V,?_,e2⟩;rw[X] at e3;have hle:l.toNat*j.size≤c.toNat*j.size:=Nat.mul_le_mul_right _ (by omega);have:=E2 (Z:=j.zero.cells) (m:=c.toNat*j.size) (j:=q) (by omega);rw[e1] at this;exact this)
     refine⟨.slice (some ⟨w.heap.size,0,none⟩) l.toNat c.toNat,_,_,?_,?_,h1,h2⟩
     ·have hb:¬(281474976710656<(f.bytes:Int)*c):=by rw[W];omega
      have hb2:¬((f.bytes:Int)*c>2 ^ 48):=by rw[W];omega
      have M:¬c<0:=by omega
      have K:¬l<0:=by omega
      have J:¬l>c:=by omega
      simp only[Instr.makeSlice,Sem.run_bind,run_underlying B,asInt,asIntOf,Sem.run_pure,Result.andThen_ok,hf,w1,w2];have T':((decide (c<0)||decide ((f.bytes:Int)*c>2 ^ 48))||decide (l<0)||decide (l>c))=false:=by simp[M,K,J,hb]
      simp only[T',Bool.false_eq_true,if_false];have F:∀n,(askRoom n).run P w=.ok () w:=by intro n;unfold askRoom;split<;>simp[mark,Sem.run]
      simp only[Sem.run_bind,F,Result.andThen_ok,cP hT S];by_cases D:c.toNat*j.size=0
      ·rw[if_pos D]
       rw[D];simp only[Sem.run_bind,Sem.run_pure,Result.andThen_ok,Array.range_zero',Array.map_empty,newRow,run_newObj];rfl
      ·rw[if_neg D]
       simp only[Sem.run_bind,Sem.run_pure,Result.andThen_ok,eY hT S,newRow,run_newObj];rfl
     ·simp only[aeU,eX,jl,List.length_append,List.length_singleton]
      refine⟨by omega,?_⟩;simp only[Nat.sub_zero,Array.size_map,Array.size_range,Nat.mod_eq_of_lt I,Nat.mul_div_cancel _ R]
    ·cases h
  ·cases h
def iy(T:TypeId→Option TyI)(mem:Mem)(A:Nat)(t2:TypeId):AV→Option (Nat×List AV)
 |.y9=>some (0,[])
 |.slice b o m _=>match mem[b]? with
  |some (.cells _ _ cs)=>if o+m*A≤cs.length then some (m,(cs.drop o).take (m*A)) else none
  |_=>if m=0 then some (0,[]) else none
 |.str s=>match T t2 with
  |some i=>match i.desc with
   |.string=>if A=1 then some (s.length,s.map fun c=>.int .u8 c.toNat) else none
   |_=>none
  |none=>none
 |_=>none
def xP(i:TyI):Bool:=match i.desc with
 |.slice _=>true
 |.string=>true
 |_=>false
def wA(j:TyI)(e:TypeId):Nat:=match j.desc with
 |.int .u8=>j.size+1000*(e+1)
 |_=>j.size
def jk(T:TypeId→Option TyI)(mem:Mem)(t t2:TypeId)(s x:AV):Option (AV×Mem):=
 match T t with
 |none=>none
 |some i=>
  match i.desc with
  |.slice e=>
   match T e,T t2 with
   |some j,some i2=>
    if j.size=0∨1000≤j.size∨xP i2=false then none else
    match iy T mem j.size t2 x with
    |none=>none
    |some (m,news)=>
     if news.all AV.aeS=true then
      match s with
      |.y9=>
       if m=0 then some (.y9,mem)
       else if m*j.bytes≤140737488355328∧m≤140737488355328 then some (.slice mem.length 0 m none,mem++[.cells true (wA j e) news])
       else none
      |.slice b 0 n none=>
       match mem[b]? with
       |some (.cells true es cs)=>
        if (es=j.size∨es=wA j e)∧n*j.size≤cs.length∧(n+m)*j.bytes≤140737488355328∧n+m≤140737488355328 then
         some (.slice mem.length 0 (n+m) none,mem.set b .aeP++[.cells true es (cs.take (n*j.size)++news)])
        else none
       |_=>none
      |_=>none
     else none
   |_,_=>none
  |_=>none
theorem tE(H:ae5 base μ mem w){A:Nat}{t2:TypeId}{x:AV}{X:Value}{m:Nat}{news:List AV}(G:aeU μ mem.length x X)(h:iy T mem A t2 x=some (m,news)):
  ∃O,aeV μ mem.length news O∧news.length=m*A∧(Builtin.lenOf X).run P w=.ok m w∧
   ∀w',(∀a,w'.cell? a=w.cell? a)→(Builtin.firstCells A m X).run P w' =.ok ⟨O⟩ w' :=by
 unfold iy at h;split at h
 ·cases h
  simp only[aeU] at G;subst G;exact⟨[],by simp[aeV],by simp,by simp[Builtin.lenOf],fun w' _=>by simp[Builtin.firstCells]⟩
 ·rename_i b o k c
  split at h
  ·rename_i own es B J
   split at h
   ·rename_i W
    cases h;obtain⟨V,rfl⟩:=G.slice;obtain⟨M,F,D,h3⟩:=H.cells J W;refine⟨M,F,by simp;omega,by simp[Builtin.lenOf],fun w' K=>?_⟩;exact run_firstCells_some w' A m _ _ _ M D (fun j v Z=>by rw[K];exact h3 j v Z)
   ·cases h
  ·split at h
   ·rename_i C
    cases h;subst C;obtain⟨V,rfl⟩:=G.slice;refine⟨[],by simp[aeV],by simp,by simp[Builtin.lenOf],fun w' K=>?_⟩;exact run_firstCells_some w' A 0 _ _ _ [] (by simp) (fun j v Z=>by simp at Z)
   ·cases h
 ·rename_i s
  split at h
  ·split at h
   ·split at h
    ·rename_i S
     cases h;subst S;rw[G.str];refine⟨s.map fun c=>.int .u8 c.toNat,?_,by simp,by simp[Builtin.lenOf,sf],fun w' _=>?_⟩
     ·refine aeV.afV (by simp) fun i v Z=>?_
      simp only[List.getElem?_map,Option.map_eq_some_iff] at Z ⊢;obtain⟨c,hc,rfl⟩:=Z;exact⟨_,⟨c,hc,rfl⟩,by simp[aeU]⟩
     ·simp only[Builtin.firstCells,Sem.run_pure,Result.ok.injEq,and_true]
      have:(ByteArray.mk s.toArray).extract 0 s.length=⟨s.toArray⟩:=by apply ByteArray.ext;apply Array.ext';simp[List.extract]
      rw[this];simp
    ·cases h
   ·cases h
  ·cases h
 ·cases h
end
variable{b:Nat}{j:TyI}
section
variable {P:Program}{T:TypeId→Option TyI}{μ:Nat→Place}{mem:Mem}{base:Nat}{w:World}
section
variable (hT:cW P T){t t2 ty e:TypeId}(hd:P.underlying t=some (.slice e))(hj:T e=some j)(ht2:(∃e2,P.underlying t2=some (.slice e2))∨P.underlying t2=some .string)(bs:Option Addr)
include hT t t2 ty e hd hj ht2 bs
theorem uF(n c m:Nat)(X:Value)(w:World)(G:(Builtin.lenOf X).run P w=.ok m w)(A:n+m≤c):
  (Builtin.append_ #[t,t2] ty #[.slice bs n c,X]).run P w=
   ((Builtin.firstCells j.size m X).run P w).andThen fun W w' =>match bs with
    |some a=>((storeCells (a.add (n*j.size)) W.toList).run P w').andThen fun _ V =>.ok (.slice bs (n+m) c) V
    |none=>.ok (.slice bs (n+m) c) w' :=by
 rcases ht2 with⟨S,Z⟩ | Z<;>
  simp[Builtin.append_,run_underlying hd,run_underlying Z,cP hT hj,G,A]<;>cases bs<;>simp
theorem BI(n c m:Nat)(X:Value)(w:World)(Os Ns:List Value)(G:(Builtin.lenOf X).run P w=.ok m w)(A:c<n+m)(H:(n+m)*j.bytes≤140737488355328)(Y:n+m≤140737488355328)(I:(Builtin.firstCells j.size n (.slice bs n c)).run P w.drew=.ok ⟨Os⟩ w.drew)(R:(Builtin.firstCells j.size m X).run P w.drew=.ok ⟨Ns⟩ w.drew):
  ∃W,n+m≤W∧(Builtin.append_ #[t,t2] ty #[.slice bs n c,X]).run P w=
   .ok (.slice (some ⟨w.heap.size,0,none⟩) (n+m) W) (w.drew.alloc (.cells (⟨Os⟩++(⟨Ns⟩++Builtin.zeroCells j.zero.cells (W-(n+m)))) e)):=by
 obtain⟨f,D,V,S,O⟩:=(hT e j hj).info;have M:¬(n+m≤c):=by omega
 have K:¬(9223372036854775807<((n:Int)+(m:Int))):=by omega
 have J:¬(281474976710656<Builtin.nextslicecap (n+m) c*f.bytes):=by have:=growslice_fits A (bytes:=f.bytes) (by rw[S];exact H);omega
 have F:∀n w,(askRoom n).run P w=.ok () w:=by intro n w;unfold askRoom;split<;>simp[mark,Sem.run]
 refine⟨grownCap w (n+m) c e,grownCap_ge w (n+m) c e,?_⟩;rcases ht2 with⟨C,Z⟩ | Z<;>
  simp[Builtin.append_,run_underlying hd,run_underlying Z,sizeOf,typeInfo,zeroValue,D,V,O,G,M,K,J,Question.forced,I,R,newRow,grownCap,F]
end
theorem ae5.drop{s:aeY}(A:ae5 base μ mem w)(G:mem[b]? =some s):ae5 base μ (mem.set b .aeP) w:=by
 have S:b<mem.length:=gL G;have own:∀x,eh (mem.set b .aeP) x→eh mem x∧x≠b:=by
  intro x W;by_cases Z:x=b
  ·subst Z
   obtain⟨K,hc,O⟩:=W;rw[List.getElem?_set_self S] at hc;cases hc;cases O
  ·obtain⟨K,hc,O⟩:=W
   rw[List.getElem?_set_ne (Ne.symm Z)] at hc;exact⟨⟨K,hc,O⟩,Z⟩
 refine⟨A.ae1,fun x t V=>?_,fun x J t W X F M=>?_⟩
 ·rw[List.length_set]
  by_cases Z:x=b
  ·subst Z;rw[List.getElem?_set_self S] at V;cases V;trivial
  ·rw[List.getElem?_set_ne (Ne.symm Z)] at V;exact A.slot x t V
 ·by_cases Z:J =b
  ·subst Z;rw[List.getElem?_set_self S] at X;cases X;exact absurd rfl F
  ·rw[List.getElem?_set_ne (Ne.symm Z)] at X
   exact A.sep x J t (own x W).1 X F M
theorem Step.drop{m0:Nat}{μ:Nat→Place}{mem:Mem}{w:World}(h:m0≤mem.length):Step m0 μ mem w μ (mem.set b .aeP) w:=by
 refine⟨by simpa using h,fun _ _=>rfl,rfl,rfl,rfl,Nat.le_refl _,fun _ _ _=>rfl,fun x W _=>⟨x,?_,rfl⟩,Nat.le_refl _⟩;by_cases Z:x=b
 ·subst Z
  by_cases S:x<mem.length
  ·obtain⟨V,hc,X⟩:=W
   rw[List.getElem?_set_self S] at hc;cases hc;cases X
  ·obtain⟨V,hc,X⟩:=W
   have:=gL hc;simp at this;omega
 ·obtain⟨V,hc,X⟩:=W
  rw[List.getElem?_set_ne (Ne.symm Z)] at hc;exact⟨V,hc,X⟩
theorem ae5.rename{es:Nat}{cs A :List AV}{w' :World}(hH:ae5 base μ mem w)(hb:mem[b]? =some (.cells true es cs))(G:w'.drawn=w.drawn)(H:w'.os=w.os)(I:w'.tape=w.tape)(R:w'.output=w.output)(hsz:w'.heap.size=w.heap.size)(Y:∀k,k≠(μ b).blk→w'.heap[k]? =w.heap[k]?)(hs:ae7 μ mem.length base w' (μ b) (.cells true es A)):
  ae5 base (upd μ mem.length (μ b)) (mem.set b .aeP++[.cells true es A]) w' ∧
  Step mem.length μ mem w (upd μ mem.length (μ b)) (mem.set b .aeP++[.cells true es A]) w' :=by
 have B:b<mem.length:=gL hb;have X:eh mem b:=jr hb;have hw:=hH.write (s' :=.cells true es A) hb X (fun _=>⟨_,List.getElem?_set_self B,rfl⟩) G H I R hsz Y hs;have hμ:∀x,x<mem.length→upd μ mem.length (μ b) x=μ x:=fun x S=>wE S
 have H':(mem.set b .aeP).length=mem.length:=by simp
 have own:∀x,eh (mem.set b .aeP++[.cells true es A]) x→(x<mem.length∧x≠b∧eh mem x)∨x=mem.length:=by
  intro x S;by_cases O:x<mem.length
  ·refine .inl ⟨O,?_⟩
   have W :eh (mem.set b .aeP) x:=by obtain⟨F,hc,K⟩:=S;rw[List.getElem?_append_left (by omega)] at hc;exact⟨F,hc,K⟩
   by_cases Z:x=b
   ·subst Z
    obtain⟨F,hc,K⟩:=W;rw[List.getElem?_set_self B] at hc;cases hc;cases K
   ·refine⟨Z,?_⟩
    obtain⟨F,hc,K⟩:=W;rw[List.getElem?_set_ne (Ne.symm Z)] at hc;exact⟨F,hc,K⟩
  ·refine .inr ?_
   obtain⟨F,hc,K⟩:=S;have:=gL hc;simp at this;omega
 constructor
 ·refine⟨hw.1.ae1,fun x t V=>?_,fun x D t S W m C=>?_⟩
  ·rw[List.length_append,List.length_singleton,H']
   by_cases O:x<mem.length
   ·rw[List.getElem?_append_left (by omega)] at V
    rw[hμ x O];by_cases Z:x=b
    ·subst Z;rw[List.getElem?_set_self B] at V;cases V;trivial
    ·rw[List.getElem?_set_ne (Ne.symm Z)] at V
     have:=hw.1.slot x t (by rw[List.getElem?_set_ne (Ne.symm Z)];exact V);rw[List.length_set] at this;exact this.mono (Nat.le_succ _) hμ fun _=>rfl
   ·have hxe:x=mem.length:=by have:=gL V;simp at this;omega
    subst hxe;rw[List.getElem?_append_right (by omega),H'] at V;simp at V;subst V;rw[eX];exact hs.mono (Nat.le_succ _) hμ fun _=>rfl
  ·have adD:∀y s,(mem.set b .aeP++[.cells true es A])[y]? =some s→s≠ .aeP→(y<mem.length∧y≠b∧mem[y]? =some s)∨y=mem.length:=by
    intro y s J hns;by_cases hyl:y<mem.length
    ·rw[List.getElem?_append_left (by omega)] at J
     by_cases M:y=b
     ·subst M;rw[List.getElem?_set_self B] at J;cases J;exact absurd rfl hns
     ·rw[List.getElem?_set_ne (Ne.symm M)] at J;exact .inl ⟨hyl,M,J⟩
    ·exact .inr (by have:=gL J;simp at this;omega)
   rcases own x S with⟨z,a2,u⟩ | rfl<;>rcases adD D t W m with⟨b1,b2,b3⟩ | rfl
   ·rw[hμ x z,hμ D b1];exact hH.sep x D t u b3 m C
   ·rw[hμ x z,eX];exact hH.sep x b _ u hb (by simp) a2
   ·rw[hμ D b1,eX];exact hH.sep b D t X b3 m (Ne.symm b2)
   ·exact absurd rfl C
 ·refine⟨by simp,hμ,H,I,R,by omega,fun k hk hf=>Y k fun he=>hf b X he.symm,fun x S aae =>?_,Nat.le_of_eq G.symm⟩
  rcases own x S with⟨z,_,u⟩ | rfl
  ·exact⟨x,u,by rw[hμ x z]⟩
  ·exact⟨b,X,by rw[eX]⟩
end
end Go.Eng
namespace Go.Eng
section
variable {P:Program}{T:TypeId→Option TyI}{μ:Nat→Place}{mem:Mem}{base:Nat}{w:World}
theorem ae5.drew(h:ae5 base μ mem w):ae5 base μ mem w.drew:=h.afX rfl
theorem aeV.afG{n:Nat}{vs:List AV}{Vs:List Value}(h:aeV μ n vs Vs)(A:vs.all AV.aeS=true):∀u∈Vs,u.oneCell' =true:=by
 intro u hu;obtain⟨j,Z⟩:=List.getElem?_of_mem hu;have W:j<vs.length:=by rw[←h.length];exact(gL Z)
 obtain⟨U,X,V⟩:=h.get j vs[j] (by simp[W]);rw[Z] at X;cases X;exact V.agm (List.all_eq_true.1 A _ (by simp))
theorem Hf{j:TyI}{e:TypeId}(h:j.size<1000):wA j e%1000=j.size∧(1000≤wA j e→e+1=wA j e / 1000):=by
 unfold wA;split
 ·refine⟨by rw[Nat.add_mul_mod_self_left,Nat.mod_eq_of_lt h],fun _=>by rw[Nat.add_mul_div_left _ _ (by omega),Nat.div_eq_of_lt h,Nat.zero_add]⟩
 ·exact⟨Nat.mod_eq_of_lt h,fun Z=>by omega⟩
theorem OL(Y:ae5 base μ mem w){e:TypeId}{A need G es:Nat}(H:es%1000=A∧(1000≤es→e+1=es / 1000)){olds news:List AV}{Os Ns:List Value}{z:Array Value}(h0:0<A)(hz:z.size=A)(I:aeV μ mem.length olds Os)(R:aeV μ mem.length news Ns)(hl:olds.length+news.length=need*A)(hnc:need≤G){x:Sem Value}(hx:x.run P w=.ok (.slice (some ⟨w.heap.size,0,none⟩) need G) (w.drew.alloc (.cells (⟨Os⟩++(⟨Ns⟩++Builtin.zeroCells z (G-need))) e))):
  afY P x base μ mem w (.slice mem.length 0 need none) (mem++[.cells true es (olds++news)]):=by
 have Z:(⟨Os⟩++(⟨Ns⟩++Builtin.zeroCells z (G-need)):Array Value).size=G*A:=by simp only[Array.size_append,List.size_toArray,size_zeroCells,hz,I.length,R.length];rw[←Nat.add_assoc,hl,←Nat.add_mul];congr 1;omega
 obtain⟨W,V⟩:=sF Y.drew e (⟨Os⟩++(⟨Ns⟩++Builtin.zeroCells z (G-need))) es H.2 (olds++news) (fun j v S=>by obtain⟨U,X,O⟩:=(I.append R).get j v S;refine⟨U,?_,O⟩;have M:j<(Os++Ns).length:=gL X;rw[←Array.append_assoc,Array.getElem?_append_left (by simpa using M)];simpa using X)
 refine⟨_,_,_,hx,?_,W,?_⟩
 ·simp only[aeU,eX,jl,List.length_append,List.length_singleton,World.size_drew]
  refine⟨by omega,?_⟩;rw[Nat.sub_zero,Z,H.1,Nat.mul_div_cancel _ h0]
 ·exact(Step.drew (m0:=mem.length) (Nat.le_refl _)).trans V
theorem Gr(hT:cW P T)(G:ae5 base μ mem w){t t2 ty:TypeId}{s x v:AV}{S X:Value}{A :Mem}(hs:aeU μ mem.length s S)(hx:aeU μ mem.length x X)(h:jk T mem t t2 s x=some (v,A)):
  afY P (Builtin.append_ #[t,t2] ty #[S,X]) base μ mem w v A :=by
 unfold jk at h;cases ht:T t with
 |none=>rw[ht] at h;cases h
 |some i=>
  rw[ht] at h;simp only at h;have R:=(hT t i ht).desc;split at h
  ·rename_i e F'
   rw[F'] at R;split at h
   ·rename_i j i2 I hi2
    split at h
    ·cases h
    ·rename_i T'
     have M:=(hT t2 i2 hi2).desc;have K:(∃H,P.underlying t2=some (.slice H))∨P.underlying t2=some .string:=by
      have D:xP i2=true:=by
       cases h2:xP i2 with
       |true=>rfl
       |false=>exact absurd (.inr (.inr h2)) T'
      unfold xP at D;split at D
      next H h2=>rw[h2] at M;exact .inl ⟨H,M⟩
      next h2=>rw[h2] at M;exact .inr M
      ·cases D
     have C:0<j.size:=by
      rcases Nat.eq_zero_or_pos j.size with h0 | h0
      ·exact absurd (.inl h0) T'
      ·exact h0
     have B:j.size<1000:=by
      rcases Nat.lt_or_ge j.size 1000 with h0 | h0
      ·exact h0
      ·exact absurd (.inr (.inl h0)) T'
     have hzs:=(hT e j I).ago;split at h
     ·cases h
     ·rename_i m Z acp
      split at h
      ·rename_i PP
       obtain⟨F,g1,g2,g3,g4⟩:=tE (P:=P) G hx acp;split at h
       ·
        simp only[aeU] at hs;subst hs;split at h
        ·rename_i hm
         cases h;subst hm;have O:=uF hT (ty:=ty) R I K none 0 0 0 X w g3 (Nat.le_refl _);rw[g4 w (fun _=>rfl)] at O;exact afY.afe G ⟨_,O,by simp[aeU]⟩
        ·rename_i hm
         split at h
         ·rename_i z
          cases h;obtain⟨nc,J,O⟩:=BI hT (ty:=ty) R I K none 0 0 m X w [] F g3 (by omega) (by simpa using z.1) (by simpa using z.2) (by simp[Builtin.firstCells]) (g4 w.drew (fun _=>rfl));simp only[Nat.zero_add] at O J;have:=OL (P:=P) G (es:=wA j e) (Hf B) (olds:=[]) (news:=Z) C hzs (by simp[aeV]) g1 (by simpa using g2) J O;simpa using this
         ·cases h
       ·rename_i b n
        split at h
        ·rename_i es cs z
         split at h
         ·rename_i hc
          obtain⟨k1,k2,k3,k4⟩:=hc;cases h;obtain⟨hbn,rfl⟩:=hs.slice;have hsl:=G.slot b _ z;simp only[ae7] at hsl;obtain⟨W,el,fr,s1,s2,s3,s4,s5⟩:=hsl;obtain⟨s6,s7,s8,s9⟩:=s5 trivial;subst s7;have hes:es%1000=j.size∧(1000≤es→e+1=es / 1000):=by
           rcases k1 with rfl | rfl
           ·exact⟨Nat.mod_eq_of_lt B,fun h1=>by omega⟩
           ·exact Hf B
          have s2' :(μ b).es=j.size:=by rw[s2.1];exact hes.1
          have aa0:jl (μ b) 0 none=(μ b).tot / j.size:=by simp[jl,s2']
          have aaW:(μ b).off+0=0:=by omega
          rw[aaW,aa0];obtain⟨Os,o1,o2,o3⟩:=G.cells z (o:=0) (k:=n*j.size) (by omega);simp only[List.drop_zero] at o1;rw[aaW] at o3;have aeH:0<j.size:=C;by_cases aar:n+m≤(μ b).tot / j.size
          ·have O:=uF hT (ty:=ty) R I K (some ⟨(μ b).blk,0,none⟩) n _ m X w g3 aar
           rw[g4 w (fun _=>rfl)] at O;have Y:(n+m)*j.size≤(μ b).tot:=by have:=Nat.mul_le_mul_right j.size aar;exact Nat.le_trans this (Nat.div_mul_le_self _ _)
           have hNl:F.length=m*j.size:=by rw[g1.length,g2,]
           have hst:=run_storeCells_at (P:=P) (μ b).blk (n*j.size) el F 0 W w s1 (by rw[hNl,s8,Nat.add_zero,←Nat.add_mul];exact Y) (g1.afG PP);simp only[Result.andThen_ok,Addr.add_lit,Nat.zero_add,hst] at O;have H':cs.length≤W.size:=by rw[s8];exact s3
           have hs' :ae7 μ mem.length base (w.setRow (μ b).blk (W.toList.take (n*j.size+0)++F++W.toList.drop (n*j.size+0+F.length)).toArray) (μ b) (.cells true es (cs.take (n*j.size)++Z)):=by
            simp only[ae7];refine⟨_,el,(0,0),setRow_heap w (μ b).blk W _ el (0,0) s1,s2,?_,fun q u hu=>?_,fun _=>⟨s6,rfl,?_,s9⟩⟩
            ·simp only[List.length_append,List.length_take,g2]
             rw[Nat.add_mul] at Y;omega
            ·rw[s6,Nat.zero_add]
             have e1:(cs.take (n*j.size)).length=n*j.size:=by simp;omega
             have H:(W.toList.take (n*j.size+0)).length=n*j.size:=by simp;omega
             simp only[List.getElem?_toArray,List.append_assoc];by_cases hq:q<n*j.size
             ·rw[List.getElem?_append_left (by omega),List.getElem?_take_of_lt hq] at hu
              rw[List.getElem?_append_left (by omega),List.getElem?_take_of_lt (by omega)];obtain⟨U,hU,O⟩:=s4 q u hu;rw[s6,Nat.zero_add] at hU;exact⟨U,by simpa using hU,O⟩
             ·rw[List.getElem?_append_right (by omega),e1] at hu
              rw[List.getElem?_append_right (by omega),H];obtain⟨U,hU,O⟩:=g1.get _ u hu;rw[List.getElem?_append_left (gL hU)];exact⟨U,hU,O⟩
            ·simp only[List.size_toArray,List.length_append,List.length_take,List.length_drop,Array.length_toList,hNl]
             rw[Nat.add_mul] at Y;omega
           obtain⟨r1,r2⟩:=G.rename (w' :=w.setRow (μ b).blk (W.toList.take (n*j.size+0)++F++W.toList.drop (n*j.size+0+F.length)).toArray) z rfl rfl rfl rfl (by simp[World.setRow]) (fun k hk=>setRow_other w _ k _ hk) hs';refine⟨_,_,_,O,?_,r1,r2⟩;simp only[aeU,eX,jl,List.length_append,List.length_set,List.length_singleton];refine⟨by omega,?_⟩;rw[s2',s6];rfl
          ·have hO:(Builtin.firstCells j.size n (.slice (some ⟨(μ b).blk,0,none⟩) n ((μ b).tot / j.size))).run P w.drew=.ok ⟨Os⟩ w.drew:=
            run_firstCells_some w.drew j.size n _ _ _ Os (by rw[o2,]) (fun q u hq=>o3 q u hq)
           obtain⟨nc,J,O⟩:=BI hT (ty:=ty) R I K (some ⟨(μ b).blk,0,none⟩) n _ m X w Os F g3 (by omega) k3 k4 hO (g4 w.drew (fun _=>rfl));have hH2:=G.drop z;have H':(mem.set b .aeP).length=mem.length:=by simp
           have:=OL (P:=P) hH2 (es:=es) hes (olds:=cs.take (n*j.size)) (news:=Z) C hzs (by rw[H'];exact o1) (by rw[H'];exact g1) (by rw[List.length_take,g2,Nat.add_mul];omega) J O;obtain⟨V,w',μ',q1,q2,q3,q4⟩:=this;rw[] at q2 q3 q4;rw[H'] at q2 q4;exact⟨V,w',μ',q1,q2,q3,(Step.drop (b:=b) (Nat.le_refl _)).trans q4⟩
         ·cases h
        ·cases h
       ·cases h
      ·cases h
   ·cases h
  ·cases h
end
def UC(T:TypeId→Option TyI)(q:TypeId→AV→Bool)(xs:List AV):List Field→Bool
 | []=>true
 |f::fs=>
  match T f.type with
  |none=>false
  |some i=>match jt i xs f.offset with
   |some a=>q f.type a&&UC T q xs fs
   |none=>false
def LZ(q:AV→Bool)(i:TyI)(xs:List AV):List Nat→Bool
 | []=>true
 |j::js=>match jt i xs (j*i.size) with
  |some a=>q a&&LZ q i xs js
  |none=>false
def lG(T:TypeId→Option TyI):Nat→TypeId→AV→Bool
 |0,_,_=>false
 |d+1,t,x=>
  match T t with
  |none=>false
  |some i=>
   match i.desc,x with
   |.bool,.bool _=>true
   |.int _,.int _ _=>true
   |.string,.str _=>true
   |.struct fs,.agg xs=>UC T (lG T d) xs fs.toList
   |.array n e,.agg xs=>match T e with
    |some j=>LZ (lG T d e) j xs (List.range' 0 n)
    |none=>false
   |_,_=>false
def jn(T:TypeId→Option TyI)(A:TypeId)(k:AV):List (AV×AV)→Nat→Option (Option (Nat×AV))
 | [],_=>some none
 |e::es,i=>match lz T 20 A k e.1 with
  |some true=>some (some (i,e.2))
  |some false=>jn T A k es (i+1)
  |none=>none
def AV.afL:AV→Bool
 |.bool _ | .int _ _ | .str _=>true
 |_=>false
def jz(mem:Mem):AV→Option (List (AV×AV))
 |.afl=>some []
 |.map b=>match mem[b]? with
  |some (.map es)=>some es
  |some (.afr es)=>some es
  |_=>none
 |_=>none
def kR(T:TypeId→Option TyI)(mem:Mem)(t:TypeId)(m k:AV)(ok:Bool):Option AV:=
 match T t with
 |none=>none
 |some i=>
  match i.desc with
  |.map kt et=>
   match T et,jz mem m with
   |some j,some es=>
    if lG T 20 kt k then
     match jn T kt k es 0 with
     |some (some (_,v))=>some (if ok then .tuple [v,.bool true] else v)
     |some none=>some (if ok then .tuple [jb j.zero,.bool false] else jb j.zero)
     |none=>none
    else none
   |_,_=>none
  |_=>none
def fA(T:TypeId→Option TyI)(mem:Mem)(t:TypeId)(m k v:AV):Option Mem:=
 match T t with
 |none=>none
 |some i=>
  match i.desc,m with
  |.map kt _,.map b=>
   match mem[b]? with
   |some (.map es)=>
    if lG T 20 kt k then
     match jn T kt k es 0 with
     |some (some (i,_))=>if k.afL then some (mem.set b (.map (es.set i (k,v)))) else none
     |some none=>some (mem.set b (.map (es++[(k,v)])))
     |none=>none
    else none
   |_=>none
  |_,_=>none
variable{K:Value}{k:AV}
section
variable {P:Program}{T:TypeId→Option TyI}{μ:Nat→Place}{mem:Mem}{base:Nat}{w:World}{n:Nat}
theorem Cc(hT:cW P T){d:Nat}{q:TypeId→AV→Bool}{em:Bool}
  (H:∀{t:TypeId}{x:AV}{X:Value},q t x=true→aeU μ n x X→∀(w:World),(Instr.checkKey em d t X).run P w=.ok () w)
  {xs:List AV}{I:List Value}(R:aeV μ n xs I) (w:World):∀{G:List Field},UC T q xs G=true→
  ((forIn G PUnit.unit fun f _=>(do
    if f.name ≠ "_" then
     let a ←part f.type ⟨I⟩ f.offset
     Instr.checkKey em d f.type a
     pure (ForInStep.yield PUnit.unit)
    else pure (ForInStep.yield PUnit.unit):Sem (ForInStep PUnit))).run P w=.ok PUnit.unit w)
 | [],_=>by simp
 |f::G,h=>by
  rw[UC] at h;split at h
  ·cases h
  ·rename_i i S
   split at h
   ·rename_i a O
    simp only[Bool.and_eq_true] at h;obtain⟨A,M,W⟩:=iQ (P:=P) (μ:=μ) (n:=n) hT S O R w;have J:=H h.1 W w;have V:=Cc hT H R w h.2;rw[List.forIn_cons];by_cases Z:f.name = "_"
    ·simp only[Z,ne_eq,not_true_eq_false,if_false,pure_bind]
     simp only[ne_eq] at V;exact V
    ·simp only[Z,ne_eq,not_false_eq_true,if_true,Sem.run_bind,M,J,Result.andThen_ok,Sem.run_pure]
     exact V
   ·cases h
theorem Cb(hT:cW P T){d:Nat}{e:TypeId}{i:TyI}(G:T e=some i){q:AV→Bool}{em:Bool}
  (I:∀{x:AV}{X:Value},q x=true→aeU μ n x X→∀(w:World),(Instr.checkKey em d e X).run P w=.ok () w)
  {xs:List AV}{R:List Value}(Y:aeV μ n xs R) (w:World):∀{H:List Nat},LZ q i xs H=true→
  ((forIn H PUnit.unit fun j _=>(do
    let s ←sizeOf e
    let a ←part e ⟨R⟩ (j*s)
    Instr.checkKey em d e a
    pure (ForInStep.yield PUnit.unit):Sem (ForInStep PUnit))).run P w=.ok PUnit.unit w)
 | [],_=>by simp
 |j::H,h=>by
  rw[LZ] at h;split at h
  ·rename_i a W
   simp only[Bool.and_eq_true] at h;obtain⟨A,V,Z⟩:=iQ (P:=P) (μ:=μ) (n:=n) hT G W Y w;have S:=I h.1 Z w;have O:=Cb hT G I Y w h.2;rw[List.forIn_cons];simp only[Sem.run_bind,cP hT G,V,S,Result.andThen_ok,Sem.run_pure];exact O
  ·cases h
theorem kU(hT:cW P T)(em:Bool):∀(d:Nat){t:TypeId}{x:AV}{X:Value},lG T d t x=true→aeU μ n x X→
  ∀(k:Nat) (w:World),(Instr.checkKey em (d+k) t X).run P w=.ok () w
 |0,_,_,_,h,_,_,_=>by simp[lG] at h
 |d+1,t,x,X,h,hx,k,w=>by
  rw[lG] at h;rw[show d+1+k=d+k+1 by omega];cases ht:T t with
  |none=>rw[ht] at h;cases h
  |some i=>
   rw[ht] at h;simp only at h;have Z:=(hT t i ht).desc;split at h
   next W=>rw[W] at Z;rw[hx.bool,Instr.checkKey];simp[run_underlying Z]
   next W=>rw[W] at Z;rw[hx.int,Instr.checkKey];simp[run_underlying Z]
   next W=>rw[W] at Z;rw[hx.str,Instr.checkKey];simp[run_underlying Z]
   ·rename_i D M W
    rw[W] at Z;obtain⟨J,rfl,V⟩:=hx.agg;have:=Cc (em:=em) hT (fun S O w=>kU hT em d S O k w) V w h;rw[Instr.checkKey];simp only[Sem.run_bind,run_underlying Z,Result.andThen_ok];rw[←Array.forIn_toList];rw[this];rfl
   ·rename_i m e M W
    rw[W] at Z;split at h
    ·rename_i j F
     obtain⟨J,rfl,V⟩:=hx.agg;have:=Cb (em:=em) hT F (fun S O w=>kU hT em d S O k w) V w h;rw[Instr.checkKey];simp only[Sem.run_bind,run_underlying Z,Result.andThen_ok];simp only[Std.Legacy.Range.forIn_eq_forIn_range',Std.Legacy.Range.size,Nat.sub_zero,Nat.add_sub_cancel,Nat.div_one];rw[this];rfl
    ·cases h
   ·cases h
def Po(μ:Nat→Place)(n:Nat):Option (Nat×AV)→Option (Nat×Value)→Prop
 |some (a,v),some (b,V)=>a=b∧aeU μ n v V
 |none,none=>True
 |_,_=>False
theorem ph(hT:cW P T){G:TypeId}{k:AV}{K:Value}(H:aeU μ n k K)(w:World):∀{es:List (AV×AV)}{A:List MapEntry}{i:Nat}{r:Option (Nat×AV)},
  A.length=es.length→(∀(j:Nat) e,es[j]? =some e→∃E,A[j]? =some E∧Qg μ n e E)→jn T G k es i=some r→
  ∃R,(Instr.findAsking G K A i).run P w=.ok R w∧Po μ n r R
 | [],A,i,r,hl,_,h=>by have:A=[]:=List.eq_nil_of_length_eq_zero hl;subst this;simp only[jn,Option.some.injEq] at h;subst h;exact⟨none,by simp[Instr.findAsking],trivial⟩
 |e::es,[],i,r,hl,_,h=>by simp at hl
 |e::es,E::A,i,r,hl,hr,h=>by
  rw[jn] at h;obtain⟨X,O,W⟩:=hr 0 e rfl;simp at O;subst O;have V:∀(j:Nat) Z,es[j]? =some Z →∃X,A[j]? =some X ∧Qg μ n Z X :=fun j Z he=>by simpa using hr (j+1) Z (by simpa using he)
  split at h
  ·rename_i S
   cases h;have:=iK hT 20 S H W.1 9980 w;refine⟨some (i,E.val),?_,rfl,W.2⟩;simp only[Instr.findAsking,Sem.run_bind];rw[show Op.equal G K E.key=Op.equalIn (20+9980) G K E.key from rfl,this];simp
  ·rename_i S
   have:=iK hT 20 S H W.1 9980 w;obtain⟨R,M,J⟩:=ph hT H w (by simpa using hl) V h;refine⟨R,?_,J⟩;simp only[Instr.findAsking,Sem.run_bind];rw[show Op.equal G K E.key=Op.equalIn (20+9980) G K E.key from rfl,this];simpa using M
  ·cases h
theorem tx(hT:cW P T){A:TypeId}{I:TypeDesc}(H:P.underlying A=some I){k:AV}{K:Value}(Y:aeU μ n k K)(w:World):
  ∀{es:List (AV×AV)}{G:List MapEntry}{i:Nat}{r:Option (Nat×AV)}{R:Option (Nat×Value)},
  G.length=es.length→(∀(j:Nat) e,es[j]? =some e→∃E,G[j]? =some E∧Qg μ n e E)→jn T A k es i=some r→Instr.findNow I K G i=some R→
  (Instr.findAsking A K G i).run P w=.ok R w
 | [],G,i,r,R,hl,_,_,h=>by have:G=[]:=List.eq_nil_of_length_eq_zero hl;subst this;simp only[Instr.findNow,Option.some.injEq] at h;subst h;simp[Instr.findAsking]
 |e::es,[],i,r,R,hl,_,_,h=>by simp at hl
 |e::es,E::G,i,r,R,hl,hr,hf,h=>by
  obtain⟨M,C,B⟩:=hr 0 e rfl;simp at C;subst C;have J:∀(j:Nat) O,es[j]? =some O →∃M,G[j]? =some M ∧Qg μ n O M :=fun j O he=>by simpa using hr (j+1) O (by simpa using he)
  rw[jn] at hf;have X:∀b,lz T 20 A k e.1=some b→∀W,Instr.sameNow I K E.key=some W →W =b:=by
   intro b F W Z;have he:=iK hT 20 F Y B.1 9980 w;unfold Instr.sameNow at Z;split at Z
   ·rename_i u a m c z V
    split at Z
    ·rename_i D
     cases Z;rw[V] at he;subst D;rw[run_equalIn_int w _ A _ _ _ _ H] at he;cases he;rfl
    ·cases Z
   ·rename_i a c z V
    cases Z;rw[V] at he;rw[run_equalIn_string w _ A _ _ H] at he;cases he;rw[beq_toListBytes]
   ·rename_i a c z V
    cases Z;rw[V] at he;rw[run_equalIn_bool' w _ A _ _ H] at he;cases he;rfl
   ·cases Z
  rw[Instr.findNow] at h;have step:∀b,lz T 20 A k e.1=some b→(Instr.findAsking A K (E::G) i).run P w=if b then .ok (some (i,E.val)) w else (Instr.findAsking A K G (i+1)).run P w:=by intro b F;have he:=iK hT 20 F Y B.1 9980 w;simp only[Instr.findAsking,Sem.run_bind];rw[show Op.equal A K E.key=Op.equalIn (20+9980) A K E.key from rfl,he];cases b<;>simp
  split at hf
  ·rename_i S
   rw[step _ S];cases hs:Instr.sameNow I K E.key with
   |none=>rw[hs] at h;cases h
   |some W =>
    have:=X _ S _ hs;subst this;rw[hs] at h;simp only[Option.some.injEq] at h;subst h;simp
  ·rename_i S
   rw[step _ S];cases hs:Instr.sameNow I K E.key with
   |none=>rw[hs] at h;cases h
   |some W =>
    have:=X _ S _ hs;subst this;rw[hs] at h;simp only at h;simpa using tx hT H Y w (by simpa using hl) J hf h
  ·cases hf
theorem gQ(hT:cW P T){A:TypeId}{H:TyI}(I:T A=some H)(Y:aeU μ n k K){es:List (AV×AV)}{G:List MapEntry}{r:Option (Nat×AV)}(hl:G.length=es.length)(hr:∀(j:Nat) e,es[j]? =some e→∃E,G[j]? =some E∧Qg μ n e E)(h:jn T A k es 0=some r)(w:World):
  ∃R,(Instr.findKey A K G).run P w=.ok R w∧Po μ n r R:=by
 have Z:=(hT A H I).desc;obtain⟨R,X,W⟩:=ph hT Y w hl hr h;refine⟨R,?_,W⟩;simp only[Instr.findKey,Sem.run_bind,run_underlying Z,Result.andThen_ok];cases hn:Instr.findNow H.desc K G 0 with
 |none=>simpa using X
 |some R' =>
  have:=tx hT Z Y w hl hr h hn;rw[this] at X;cases X;simp
theorem Gs(hT:cW P T)(hH:ae5 base μ mem w){t:TypeId}{m k v:AV}{M:Value}{ok:Bool}(A:aeU μ mem.length m M)(G:aeU μ mem.length k K)(h:kR T mem t m k ok=some v):Val P (Instr.lookup t M K ok) w μ mem.length v:=by
 unfold kR at h;cases ht:T t with
 |none=>rw[ht] at h;cases h
 |some i=>
  rw[ht] at h;simp only at h;have J:=(hT t i ht).desc;split at h
  ·rename_i kt et F'
   rw[F'] at J;split at h
   ·rename_i j es hj Z
    split at h
    ·rename_i X
     have Y:∃S:Array MapEntry,(M=.map none∧S= #[]∨∃r c,M=.map (some r)∧(getObj r).run P w=.ok (.map S c) w)∧S.toList.length=es.length∧
       ∀(j:Nat) e,es[j]? =some e→∃E,S.toList[j]? =some E∧Qg μ mem.length e E:=by
      unfold jz at Z;split at Z
      ·cases Z
       simp only[aeU] at A;subst A;exact⟨#[],.inl ⟨rfl,rfl⟩,rfl,by simp⟩
      ·rename_i b
       split at Z
       ·rename_i I H
        cases Z;simp only[aeU] at A;obtain⟨_,rfl⟩:=A;have F:=hH.slot b _ H;simp only[ae7] at F;obtain⟨G',IR,h1,_,h2,h3⟩:=F;refine⟨G',.inr ⟨_,IR,rfl,by simp[getObj,Sem.run,h1]⟩,by simpa using h2,fun j e he=>?_⟩;obtain⟨E,hE,hr⟩:=h3 j e he;exact⟨E,by simpa using hE,hr⟩
       ·rename_i I H
        cases Z;simp only[aeU] at A;obtain⟨_,rfl⟩:=A;have F:=hH.slot b _ H;simp only[ae7] at F;obtain⟨G',IR,h1,_,h2,h3⟩:=F;refine⟨G',.inr ⟨_,IR,rfl,by simp[getObj,Sem.run,h1]⟩,by simpa using h2,fun j e he=>?_⟩;obtain⟨E,hE,hr⟩:=h3 j e he;exact⟨E,by simpa using hE,hr⟩
       ·cases Z
      ·cases Z
     obtain⟨S,O,e2,e3⟩:=Y;have W:=kU (P:=P) (n:=mem.length) hT S.isEmpty 20 X G 9980 w;have hkt:∃z,T kt=some z:=by
      rw[lG] at X;cases hx:T kt with
      |none=>rw[hx] at X;cases X
      |some z=>exact⟨z,rfl⟩
     obtain⟨z,D⟩:=hkt;split at h
     ·rename_i q v' hf
      cases h;obtain⟨R,C,u⟩:=gQ hT D G e2 e3 hf w;cases R with
      |none=>exact u.elim
      |some x=>
       obtain⟨_,V⟩:=x;have B:=u.2;refine⟨if ok then .tuple #[V,.bool true] else V,?_,?_⟩
       ·rcases O with⟨rfl,rfl⟩ | ⟨r,c,rfl,O⟩
        ·simp only[Instr.lookup,Sem.run_bind,run_underlying J,Result.andThen_ok,Sem.run_pure]
         rw[show(10000:Nat)=20+9980 from rfl,W];simp only[Result.andThen_ok,C,Sem.run_pure,Sem.run_bind]
        ·simp only[Instr.lookup,Sem.run_bind,run_underlying J,Result.andThen_ok,O,Sem.run_pure]
         rw[show(10000:Nat)=20+9980 from rfl,W];simp only[Result.andThen_ok,C,Sem.run_pure,Sem.run_bind]
       ·cases ok
        ·exact B
        ·simp only[if_true,aeU];exact⟨[V,.bool true],rfl,br.2 ⟨B,br.2 ⟨by simp[aeU],by simp[aeV]⟩⟩⟩
     ·rename_i hf
      cases h;obtain⟨R,C,u⟩:=gQ hT D G e2 e3 hf w;cases R with
      |some x=>exact u.elim
      |none=>
       have B:=xl μ mem.length j.zero;refine⟨if ok then .tuple #[j.zero,.bool false] else j.zero,?_,?_⟩
       ·rcases O with⟨rfl,rfl⟩ | ⟨r,c,rfl,O⟩
        ·simp only[Instr.lookup,Sem.run_bind,run_underlying J,Result.andThen_ok,Sem.run_pure]
         rw[show(10000:Nat)=20+9980 from rfl,W];simp only[Result.andThen_ok,C,Sem.run_pure,Sem.run_bind,eY hT hj]
        ·simp only[Instr.lookup,Sem.run_bind,run_underlying J,Result.andThen_ok,O,Sem.run_pure]
         rw[show(10000:Nat)=20+9980 from rfl,W];simp only[Result.andThen_ok,C,Sem.run_pure,Sem.run_bind,eY hT hj]
       ·cases ok
        ·exact B
        ·simp only[if_true,aeU];exact⟨[j.zero,.bool false],rfl,br.2 ⟨B,br.2 ⟨by simp[aeU],by simp[aeV]⟩⟩⟩
     ·cases h
    ·cases h
   ·cases h
  ·cases h
theorem rM{G :Value}{e:AV}{b:Bool}{H:TypeId}(hs:k.afL=true)(A:aeU μ n k K)(he:aeU μ n e G)(h:lz T 20 H k e=some b)(I:b=true):
  Instr.sameBits 10000 G K=true:=by
 subst I;rw[lz] at h;cases ht:T H with
 |none=>rw[ht] at h;cases h
 |some i=>
  rw[ht] at h;simp only at h;split at h
  ·rw[A.bool,he.bool]
   simp only[Option.some.injEq] at h;simp only[Instr.sameBits];rw[beq_iff_eq] at h ⊢;exact h.symm
  ·split at h
   ·rename_i Z
    subst Z;simp only[Option.some.injEq,decide_eq_true_eq] at h;rw[A.int,he.int,h];simp[Instr.sameBits]
   ·cases h
  ·rw[A.str,he.str]
   simp only[Option.some.injEq,beq_iff_eq] at h;rw[h];simp only[Instr.sameBits];rw[beq_toListBytes];simp
  ·cases hs
  ·cases hs
  ·cases h
theorem nG{A:TypeId}{k:AV}:∀{es:List (AV×AV)}{i q:Nat}{v:AV},jn T A k es i=some (some (q,v))→∃j e,q=i+j∧es[j]? =some e∧lz T 20 A k e.1=some true
 | [],i,q,v,h=>by simp[jn] at h
 |e::es,i,q,v,h=>by
  rw[jn] at h;split at h
  next Z=>cases h;exact⟨0,e,rfl,rfl,Z⟩
  ·obtain⟨j,X,V,W,h3⟩:=nG h
   exact⟨j+1,X,by omega,by simpa using W,h3⟩
  ·cases h
theorem sG{r:Nat}{o o' :Obj}(h:w.heap[r]? =some o)(A:∀c e f,o≠ .cells c e f):(setObj r o').run P w=.ok () { w with heap:=w.heap.setIfInBounds r o' }:=by simp only[setObj,Sem.run,h];try (split<;>first | (rename_i Z;cases Z;exact absurd rfl (A _ _ _)) | rfl | simp_all)
theorem zN(hT:cW P T)(hH:ae5 base μ mem w){t:TypeId}{m k v:AV}{M K V:Value}{mem' :Mem}(hm:aeU μ mem.length m M)(A:aeU μ mem.length k K)(hv:aeU μ mem.length v V)(h:fA T mem t m k v=some mem'):∃w',(Instr.mapUpdate t M K V).run P w=.ok () w' ∧ae5 base μ mem' w' ∧Step mem.length μ mem w μ mem' w' :=by
 unfold fA at h;cases ht:T t with
 |none=>rw[ht] at h;cases h
 |some i=>
  rw[ht] at h;simp only at h;have hd:=(hT t i ht).desc;split at h
  ·rename_i kt et b F'
   rw[F'] at hd;split at h
   ·rename_i es hb
    split at h
    ·rename_i F
     simp only[aeU] at hm;obtain⟨hbn,rfl⟩:=hm;have hs:=hH.slot b _ hb;simp only[ae7] at hs;obtain⟨z,Y,h1,S,h2,h3⟩:=hs;have hg:(getObj (μ b).blk).run P w=.ok (.map z Y) w:=by simp[getObj,Sem.run,h1]
     have I:=kU (P:=P) (n:=mem.length) hT false 20 F A 9980 w;have hkt:∃ki,T kt=some ki:=by
      rw[lG] at F;cases hx:T kt with
      |none=>rw[hx] at F;cases F
      |some ki=>exact⟨ki,rfl⟩
     obtain⟨ki,H⟩:=hkt;have e2:z.toList.length=es.length:=by simpa using h2
     have e3:∀(j:Nat) e,es[j]? =some e→∃E,z.toList[j]? =some E∧Qg μ mem.length e E:=fun j e he=>by obtain⟨E,hE,hr⟩:=h3 j e he;exact⟨E,by simpa using hE,hr⟩
     have FS:(μ b).blk<w.heap.size:=(Array.getElem?_eq_some_iff.1 h1).1;have G:∀(W :Array MapEntry) (O :Nat) (J :List (AV×AV)),DQ W O →W.size=J.length→(∀(j:Nat) e,J[j]? =some e→∃E,W[j]? =some E∧Qg μ mem.length e E)→
       (setObj (μ b).blk (.map W O)).run P w=.ok () { w with heap:=w.heap.setIfInBounds (μ b).blk (.map W O) }∧
       ae5 base μ (mem.set b (.map J)) { w with heap:=w.heap.setIfInBounds (μ b).blk (.map W O) }∧Step mem.length μ mem w μ (mem.set b (.map J)) { w with heap:=w.heap.setIfInBounds (μ b).blk (.map W O) }:=by
      intro W O J g0 g1 u;refine⟨sG h1 (by simp),hH.write hb (Mj hb) (fun _=>⟨_,List.getElem?_set_self (gL hb),rfl⟩) rfl rfl rfl rfl (by simp) (fun q hq=>?_) ?_⟩
      ·simp[Array.getElem?_setIfInBounds_ne (Ne.symm hq)]
      ·simp only[ae7]
       exact⟨W,O,by simp[FS],⟨S.1,g0⟩,g1,u⟩
     split at h
     ·rename_i q v' hf
      split at h
      ·rename_i hsc
       cases h;obtain⟨R,g1,u⟩:=gQ hT H A e2 e3 hf w;cases R with
       |none=>exact u.elim
       |some x=>
        obtain⟨q',V'⟩:=x;obtain⟨rfl,_⟩:=u;obtain⟨j,e,hq,he,UV⟩:=nG hf;have hq' :q=j:=by omega
        subst hq';obtain⟨E,hE,hr⟩:=h3 q e he;have hsb:=rM (μ:=μ) (n:=mem.length) hsc A hr.1 UV rfl;obtain⟨f1,f2,f3⟩:=G (z.modify q fun e=>{ e with key:=K,val:=V }) Y (es.set q (k,v)) ⟨by simpa using S.2.1,fun j D Z =>by
         rw[Array.getElem?_modify] at Z;split at Z
         ·simp only[Option.map_eq_some_iff] at Z
          obtain⟨E0,k1,rfl⟩:=Z;exact S.2.2 j E0 k1
         ·exact S.2.2 j D Z⟩ (by simpa using h2) (fun j e' X =>by
         rw[List.getElem?_set] at X;by_cases C:q=j
         ·subst C
          have aae :q<es.length:=gL he;simp only[if_true,aae,Option.some.injEq] at X;subst X;exact⟨{ E with key:=K,val:=V },by simp[Array.getElem?_modify,hE],A,hv⟩
         ·rw[if_neg C] at X
          obtain⟨D,Z,B⟩:=h3 j e' X;exact⟨D,by simp[Array.getElem?_modify,C,Z],B⟩)
        refine⟨_,?_,f2,f3⟩;simp only[Instr.mapUpdate,Sem.run_bind,run_underlying hd,Result.andThen_ok,hg];rw[show(10000:Nat)=20+9980 from rfl,I];simp only[Result.andThen_ok,g1,Sem.run_bind];have abm:(Instr.keyThatStays (((z[q]?).map (·.key)).getD K) K).run P w=.ok K w:=by unfold Instr.keyThatStays;rw[hE];simp only[Option.map_some,Option.getD_some,hsb,if_true];rfl
        rw[abm];simpa using f1
      ·cases h
     ·rename_i hf
      cases h;obtain⟨R,g1,u⟩:=gQ hT H A e2 e3 hf w;cases R with
      |some x=>exact u.elim
      |none=>
       obtain⟨f1,f2,f3⟩:=G (z.push { key:=K,val:=V,born:=Y }) (Y+1) (es++[(k,v)]) ⟨by simp[S.2.1],fun j D Z =>by
        rw[Array.getElem?_push] at Z;split at Z
        next hj=>cases Z;rw[hj];exact S.2.1
        ·exact S.2.2 j D Z⟩ (by simp[h2]) (fun j e' X =>by
        by_cases hj:j<es.length
        ·rw[List.getElem?_append_left hj] at X
         obtain⟨D,Z,B⟩:=h3 j e' X;exact⟨D,by rw[Array.getElem?_push,if_neg (by omega)];exact Z,B⟩
        ·have hje:j=es.length:=by have:=(gL X);simp at this;omega
         subst hje;simp at X;subst X;exact⟨{ key:=K,val:=V,born:=Y },by rw[Array.getElem?_push,if_pos h2.symm],A,hv⟩)
       refine⟨_,?_,f2,f3⟩;simp only[Instr.mapUpdate,Sem.run_bind,run_underlying hd,Result.andThen_ok,hg];rw[show(10000:Nat)=20+9980 from rfl,I];simp only[Result.andThen_ok,g1];exact f1
     ·cases h
    ·cases h
   ·cases h
  ·cases h
theorem G0(A:ae5 base μ mem w){t:TypeId}:afY P (Instr.makeMap t none) base μ mem w (.map mem.length) (mem++[.map []]):=by
 obtain⟨Z,X⟩:=A.push (.map #[] 0) (.map []) ⟨w.heap.size,0,0,0⟩ rfl (by simp only[ae7];exact⟨#[],0,heap_alloc_new w _,⟨A.ae1,rfl,by simp⟩,rfl,by simp⟩)
 refine⟨.map (some w.heap.size),_,_,?_,?_,Z,X⟩
 ·simp only[Instr.makeMap,Sem.run_bind,Sem.run_pure,run_newObj,Result.andThen_ok]
  rfl
 ·simp[aeU,eX]
end
end Go.Eng
namespace Go.Eng
def BN:List AV→Option (List UInt8)
 | []=>some []
 |.int .u8 n::l=>if 0≤n∧n<256 then match BN l with
  |some r=>some (UInt8.ofNat n.toNat::r)
  |none=>none
  else none
 |_::_=>none
def se(mem:Mem)(x:AV):Option AV:=match x with
 |.slice b o n none=>match mem[b]? with
  |some (.cells _ es cs)=>if 0<n∧0<es%1000∧o+n*(es%1000)≤cs.length then some (.ptr b o) else none
  |_=>none
 |_=>none
def xr(T:TypeId→Option TyI)(mem:Mem)(pt:TypeId)(x l:AV):Option (AV×Mem):=match T pt,x,l with
 |some i,.ptr b 0,.int .i64 n=>match i.desc with
  |.pointer e=>match T e,mem[b]? with
   |some j,some (.cells true es cs)=>
    if j.size=1∧es=1+1000*(e+1)∧0<n∧n≤cs.length∧n≤9223372036854775807 then match BN (cs.take n.toNat) with
     |some s=>some (.str s,mem.set b .aeP)
     |none=>none
    else none
   |_,_=>none
  |_=>none
 |_,_,_=>none
theorem YQ(a es:Nat)(h:es=1+1000*(a+1)):1000≤es∧es / 1000=a+1∧es%1000=1:=by omega
theorem Eg:∀{l:List AV}{s:List UInt8},BN l=some s→s.length=l.length∧∀(j:Nat) x,s[j]? =some x→l[j]? =some (.int .u8 (x.toNat:Int))
 | [],s,h=>by cases h;exact⟨rfl,fun j x Z=>by simp at Z⟩
 |v::l,s,h=>by
  cases v<;>try (unfold BN at h;cases h;done)
  rename_i k n;cases k<;>try (unfold BN at h;cases h;done)
  unfold BN at h;split at h
  ·rename_i S
   split at h
   ·rename_i r X
    cases h;obtain⟨W,V⟩:=Eg X;refine⟨by simp[W],fun j x Z=>?_⟩;cases j with
    |zero=>
     simp at Z;subst Z;simp only[List.getElem?_cons_zero,Option.some.injEq,AV.int.injEq,true_and];rw[UInt8.toNat_ofNat'];have:n.toNat%256=n.toNat:=Nat.mod_eq_of_lt (by omega);show n=((n.toNat%256:Nat):Int)
     rw[this];omega
    |succ j=>simpa using V j x (by simpa using Z)
   ·cases h
  ·cases h
theorem OJ(w:World)(a:Addr)(n:Nat):(w.freeze a n).heap.size=w.heap.size:=by unfold World.freeze;split<;>simp
theorem LS(w:World)(a:Addr)(n k:Nat)(h:k≠a.block):(w.freeze a n).heap[k]? =w.heap[k]? :=by
 unfold World.freeze;split
 ·rfl
 ·simp only[Array.getElem?_modify,if_neg (Ne.symm h)]
section
variable {P:Program}{T:TypeId→Option TyI}{μ:Nat→Place}{mem:Mem}{base:Nat}{w:World}
theorem zO(A:ae5 base μ mem w){x v:AV}{X:Value}(ts:Array TypeId)(ty:TypeId)(G:aeU μ mem.length x X)(h:se mem x=some v):Val P (Builtin.unsafeSliceData_ ts ty #[X]) w μ mem.length v:=by
 unfold se at h;split at h
 ·rename_i b o n
  split at h
  ·rename_i own es K S
   split at h
   ·rename_i hc
    cases h;obtain⟨Z,rfl⟩:=G.slice;have V:=A.slot b _ S;simp only[ae7] at V;obtain⟨O,el,J,F,M,D,_,_⟩:=V;have W:jl (μ b) o none≠0:=by
     simp only[jl,M.1];have:n≤((μ b).tot-o) / (es%1000):=by rw[Nat.le_div_iff_mul_le hc.2.1];omega
     omega
    exact⟨_,Lib.run_unsafeSliceData_row _ _ _ _ _ _ W,by simp[aeU,Z]⟩
   ·cases h
  ·cases h
 ·cases h
theorem Gw(hT:cW P T)(G:ae5 base μ mem w){pt H ty:TypeId}{x l v:AV}{X L:Value}{A :Mem}(I:aeU μ mem.length x X)(hl:aeU μ mem.length l L)(h:xr T mem pt x l=some (v,A)):
  afY P (Builtin.unsafeString_ #[pt,H] ty #[X,L]) base μ mem w v A :=by
 unfold xr at h;split at h
 ·rename_i i b n hi
  split at h
  ·rename_i e hd
   split at h
   ·rename_i j es cs hj M
    split at h
    ·rename_i hc
     obtain⟨c1,c2,c3,c4,c5⟩:=hc;split at h
     ·rename_i s hs
      cases h;obtain⟨g1,g2⟩:=Eg hs;have hX:=I.ptr;have hL:=hl.int;have Z:=(hT pt i hi).desc;rw[hd] at Z;obtain⟨f,hf,K,_,_⟩:=(hT e j hj).info;have J:P.cellsOf e=1:=by unfold Program.cellsOf;rw[hf];simp[K,c1]
      have W:=G.slot b _ M;simp only[ae7] at W;obtain⟨S,el,fr,m,s2,s3,s4,s5⟩:=W;obtain⟨Y,rfl,s8,s9⟩:=s5 trivial;have F:el=e:=by obtain⟨q1,q2,_⟩:=YQ e es c2;have:=s2.2 q1;rw[q2] at this;exact Nat.succ.inj this
      subst F;have D:s.length=n.toNat:=by rw[g1,List.length_take];omega
      have hn:n=(s.length:Int):=by omega
      rw[hX.2,hL,hn,Y];have C:w.shape? (μ b).blk=some (el,S.size):=by simp[World.shape?,m]
      have X':=Lib.run_unsafeString_row (P:=P) w pt H ty el Z J (μ b).blk S.size C s (by intro e;rw[e] at D;simp at D;omega) (by rw[s8];omega) (by omega) (fun q u hq=>by
       have R:=g2 q u hq;have B:q<n.toNat:=by rw[←D];exact(gL hq)
       rw[List.getElem?_take_of_lt B] at R;obtain⟨V,z,hr⟩:=s4 q _ R;rw[hr.int] at z;rw[Y,Nat.zero_add] at z;simp only[Addr.add_lit,World.cell?,m,Nat.zero_add];exact z)
      have S':¬s.length=0:=by omega
      have O:(w.freeze ⟨(μ b).blk,0,none⟩ s.length).os=w.os∧(w.freeze ⟨(μ b).blk,0,none⟩ s.length).tape=w.tape∧(w.freeze ⟨(μ b).blk,0,none⟩ s.length).output=w.output∧(w.freeze ⟨(μ b).blk,0,none⟩ s.length).drawn=w.drawn:=by unfold World.freeze;rw[if_neg S'];exact⟨rfl,rfl,rfl,rfl⟩
      obtain⟨k1,k2⟩:=G.write (w' :=w.freeze ⟨(μ b).blk,0,none⟩ s.length) (s' :=.aeP) M (jr M) (fun h=>absurd rfl h) O.2.2.2 O.1 O.2.1 O.2.2.1 (OJ ..) (fun k hk=>LS _ _ _ _ hk) trivial;refine⟨_,_,μ,X',by simp[aeU],k1,?_⟩;exact k2
     ·cases h
    ·cases h
   ·cases h
  ·cases h
 ·cases h
end
section
variable {P:Program}{T:TypeId→Option TyI}{μ:Nat→Place}{mem:Mem}{base:Nat}{w:World}
def nr(T:TypeId→Option TyI)(mem:Mem)(s d:TypeId):AV→Option (AV×Mem)
 |.str l=>match T s,T d with
  |some i,some j=>match i.desc,j.desc with
   |.string,.slice e=>match T e with
    |some k=>match k.desc with
     |.int .u8=>some (.slice mem.length 0 l.length none,mem++[.cells false 1 (l.map fun c=>.int .u8 c.toNat)])
     |_=>none
    |none=>none
   |_,_=>none
  |_,_=>none
 |_=>none
theorem LR(w:World)(A:Array Value)(e:TypeId)(n:Nat):
  (w.alloc (.cells A e)).freeze ⟨w.heap.size,n,none⟩ 1=w.alloc (.cells A e (n,n+1)):=by
 unfold World.freeze;rw[if_neg (by decide)];simp only[World.alloc];congr 1;apply Array.ext
 ·simp
 ·intro k Z W
  simp only[Array.getElem_modify,Array.getElem_push];by_cases X:k<w.heap.size
  ·simp[X];omega
  ·simp at Z
   have:k=w.heap.size:=by omega
   subst this;simp
theorem zH(hT:cW P T)(G:ae5 base μ mem w){s d:TypeId}{x v:AV}{X:Value}{A :Mem}(H:aeU μ mem.length x X)(h:nr T mem s d x=some (v,A)):
  afY P (convert s d X) base μ mem w v A :=by
 unfold nr at h;split at h
 ·rename_i l
  split at h
  ·rename_i i j m Y
   have D:=(hT s i m).desc;have C:=(hT d j Y).desc;split at h
   ·rename_i e V S
    rw[V] at D;rw[S] at C;split at h
    ·rename_i k R
     have h3:=(hT e k R).desc;split at h
     ·rename_i O
      rw[O] at h3;cases h;rw[H.str];let c:=grownCap w l.length 0 e
      have hc:l.length≤c:=grownCap_ge w l.length 0 e;let Cs:Array Value:=(l.map fun c=>Value.int .u8 c.toNat).toArray++Array.replicate (c-l.length) (.int .u8 0)
      have Z:Cs.size=c:=by simp[Cs];omega
      have M:ae5 base μ mem w.drew:=G.afX rfl;obtain⟨I,g2⟩:=M.push (.cells Cs e (Cs.size,Cs.size+1)) (.cells false 1 (l.map fun c=>.int .u8 c.toNat)) ⟨w.heap.size,0,Cs.size,1⟩ rfl (by simp only[ae7];refine⟨Cs,e,(Cs.size,Cs.size+1),heap_alloc_new w.drew _,ag0.small rfl (by decide),by simp[Z];exact hc,fun q u hu=>?_,fun h=>by cases h⟩;rw[List.getElem?_map,Option.map_eq_some_iff] at hu;obtain⟨a,B,rfl⟩:=hu;have hq:=gL B;refine⟨.int .u8 a.toNat,?_,by simp[aeU]⟩;simp only[Nat.zero_add,Cs];rw[Array.getElem?_append_left (by simpa using hq)];simp[B])
      refine⟨.slice (some ⟨w.heap.size,0,none⟩) l.length c,w.drew.alloc (.cells Cs e (Cs.size,Cs.size+1)),_,?_,?_,I,?_⟩
      ·have hf:(Question.appendCap l.length 0 e).forced=false:=by simp[Question.forced]
       have I':(ByteArray.mk l.toArray).size=l.length:=sf ..;have K :(ByteArray.mk l.toArray).data.map (fun b=>Value.int .u8 b.toNat)++Array.replicate (c-l.length) (.int .u8 0)=Cs:=by simp[Cs]
       have J:(w.drew.alloc (.cells Cs e)).shape? w.heap.size=some (e,Cs.size):=by unfold World.shape?;rw[show(w.drew.alloc (.cells Cs e)).heap[w.heap.size]? =_ from heap_alloc_new w.drew _]
       have W:=LR w.drew Cs e Cs.size;have z:w.drew.heap.size=w.heap.size:=rfl;rw[z] at W;simp only[convert,Sem.run_bind,run_underlying D,run_underlying C,run_underlying h3,Result.andThen_ok,Conv.stringToBytes,choose,Sem.run,hf,Bool.false_eq_true,if_false,I'];change ((newRow e ((ByteArray.mk l.toArray).data.map (fun b=>Value.int .u8 b.toNat)++Array.replicate (c-l.length) (.int .u8 0))).run P w.drew).andThen _=_;rw[K];simp only[newRow,run_newObj,Result.andThen_ok,Sem.run_bind,markStringish,shape,freeze,Sem.run];have F:({ heap:=w.drew.heap.push (Obj.cells Cs e),tape:=w.drew.tape,drawn:=w.drew.drawn,os:=w.drew.os,output:=w.drew.output }:World)=w.drew.alloc (.cells Cs e):=rfl;simp only[Sem.run_pure,Result.andThen_ok,F,z,J,Sem.run,W];rfl
      ·simp only[aeU,eX,jl,List.length_append,List.length_singleton]
       refine⟨by omega,?_⟩;simp[Z]
      ·exact(Step.drew (m0:=mem.length) (Nat.le_refl _)).trans g2
     ·cases h
    ·cases h
   ·cases h
  ·cases h
 ·cases h
end
variable{n:Nat}
section
variable {P:Program}{T:TypeId→Option TyI}{μ:Nat→Place}{mem:Mem}{base:Nat}{w:World}
def PL:Option TyI→Bool
 |some i=>match i.desc with
  |.int _=>true
  |_=>false
 |none=>false
def Zu(T:TypeId→Option TyI)(t:TypeId)(x:AV):Option AV:=
 match T t with
 |none=>none
 |some i=>match i.desc,x with
  |.slice _,.y9=>some (.int .i64 0)
  |_,_=>none
theorem Rs(hT:cW P T){t ty:TypeId}{x v:AV}{X:Value}(A:aeU μ n x X)(h:Zu T t x=some v):Val P (Builtin.cap_ #[t] ty #[X]) w μ n v:=by
 unfold Zu at h;cases ht:T t with
 |none=>rw[ht] at h;cases h
 |some i=>
  rw[ht] at h;simp only at h;have Z:=(hT t i ht).desc;split at h
  ·rename_i e W
   rw[W] at Z;cases h;simp only[aeU] at A;subst A;refine .int ?_;simp[Builtin.cap_,run_underlying Z,goInt]
  ·cases h
def vG(T:TypeId→Option TyI)(mem:Mem)(t:TypeId)(s x:AV):Option (AV×Mem):=
 match T t with
 |none=>none
 |some i=>
  match i.desc,s,x with
  |.slice e,.y9,.int _ n=>
   match T e with
   |some j=>if 0<n∧n*j.bytes≤140737488355328∧n≤140737488355328∧0<j.size∧j.size<1000 then some (.slice mem.length 0 n.toNat none,mem++[.cells true (wA j e) (gJ (jb j.zero).cells n.toNat)]) else none
   |none=>none
  |_,_,_=>none
theorem wI{z:List AV}{Z:Array Value}(A:aeV μ n z Z.toList)(k:Nat):aeV μ n (gJ z k) (Builtin.zeroCells Z k).toList:=by
 have X:Z.size=z.length:=by rw[←Array.length_toList,A.length]
 refine aeV.afV (by rw[Array.length_toList,size_zeroCells,gW,X]) fun j v W=>?_
 obtain⟨V,S,O,h3⟩:=sI A k j v W;refine⟨V,?_,O⟩;rw[Array.getElem?_toList,←S];unfold Builtin.zeroCells;have:j<k*Z.size:=h3;simp[this]
theorem Lq(hT:cW P T){t t2 ty e:TypeId}{j:TyI}(H:P.underlying t=some (.slice e))(I:T e=some j){R:IntKind}(A:P.underlying t2=some (.int R))(m:Nat)(k:IntKind)(w:World)(G:0<m)(Y:m*j.bytes≤140737488355328)(hm:m≤140737488355328)(hs:0<j.size):
  ∃X,m≤X∧(Builtin.append_ #[t,t2] ty #[.slice none 0 0,.int k m]).run P w=
   .ok (.slice (some ⟨w.heap.size,0,none⟩) m X) (w.drew.alloc (.cells (#[]++(Builtin.zeroCells j.zero.cells m++Builtin.zeroCells j.zero.cells (X-m))) e)):=by
 obtain⟨f,F,W,Z,V⟩:=(hT e j I).info;have S:¬(9223372036854775807<(m:Int)):=by omega
 have w1:IntKind.i64.wrap (m:Int)=m:=aq;have D:¬((m:Int)<0):=by omega
 have O:¬(281474976710656<(m:Int)*(f.bytes:Int)):=by
  rw[Z];have:(m:Int)*(j.bytes:Int)=((m*j.bytes:Nat):Int):=by simp
  omega
 have M:¬(281474976710656<Builtin.nextslicecap m 0*f.bytes):=by have:=growslice_fits (need:=m) (old:=0) (bytes:=f.bytes) (by omega) (by rw[Z];exact Y);omega
 have K:¬(m=0):=by omega
 have J:∀n w,(askRoom n).run P w=.ok () w:=by intro n w;unfold askRoom;split<;>simp[mark,Sem.run]
 refine⟨grownCap w m 0 e,grownCap_ge w m 0 e,?_⟩;simp[Builtin.append_,run_underlying H,run_underlying A,sizeOf,typeInfo,zeroValue,F,W,V,asInt,asIntOf,w1,D,S,M,O,K,Question.forced,Builtin.firstCells,newRow,grownCap,J];intro h;exact absurd h (by have:=Nat.mul_pos G hs;omega)
theorem Dz(hT:cW P T)(H:ae5 base μ mem w){t t2 ty:TypeId}{s x v:AV}{S X:Value}{A :Mem}(hs:aeU μ mem.length s S)(I:aeU μ mem.length x X)(G:PL (T t2)=true)(h:vG T mem t s x=some (v,A)):
  afY P (Builtin.append_ #[t,t2] ty #[S,X]) base μ mem w v A :=by
 unfold vG at h;cases ht:T t with
 |none=>rw[ht] at h;cases h
 |some i=>
  rw[ht] at h;simp only at h;have K:=(hT t i ht).desc;split at h
  ·rename_i e k n C
   rw[C] at K;split at h
   ·rename_i j J
    split at h
    ·rename_i hc
     obtain⟨c1,c2,c3,F,B⟩:=hc;cases h;obtain⟨W,V⟩:∃W,P.underlying t2=some (.int W):=by
      unfold PL at G;split at G
      ·rename_i z u
       split at G
       ·rename_i W Y
        have:=(hT t2 z u).desc;rw[Y] at this;exact⟨W,this⟩
       ·cases G
      ·cases G
     simp only[aeU] at hs;subst hs;rw[I.int];obtain⟨m,rfl⟩:∃m:Nat,n=m:=⟨n.toNat,by omega⟩
     have R:m*j.bytes≤140737488355328:=by
      have:(m:Int)*(j.bytes:Int)=((m*j.bytes:Nat):Int):=by simp
      omega
     obtain⟨nc,O,hr⟩:=Lq hT (ty:=ty) K J V m k w (by omega) R (by omega) F;have D:=jq μ mem.length j.zero;have Z:=(hT e j J).ago;have M:(jb j.zero).cells.length=j.size:=by rw[←D.length,Array.length_toList,Z]
     have:=OL (P:=P) H (es:=wA j e) (Hf B) (olds:=[]) (news:=gJ (jb j.zero).cells m) (Os:=[]) (Ns:=(Builtin.zeroCells j.zero.cells m).toList) F Z (by simp[aeV]) (wI D m) (by simp[gW,M]) O hr;simpa using this
    ·cases h
   ·cases h
  ·cases h
def Lf(T:TypeId→Option TyI)(mem:Mem)(t:TypeId)(x:AV):Option Mem:=
 match T t with
 |none=>none
 |some i=>
  match i.desc,x with
  |.slice _,.y9=>some mem
  |.slice e,.slice b o n _=>
   if n=0 then some mem else
   match T e,mem[b]? with
   |some j,some (.cells true es cs)=>
    if o+n*j.size≤cs.length∧(gJ (jb j.zero).cells n).all AV.aeS=true then some (mem.set b (.cells true es (cs.take o++gJ (jb j.zero).cells n++cs.drop (o+n*j.size)))) else none
   |_,_=>none
  |_,_=>none
theorem Lh(hT:cW P T)(G:ae5 base μ mem w){t ty:TypeId}{x:AV}{X:Value}{A :Mem}(H:aeU μ mem.length x X)(h:Lf T mem t x=some A):
  afY P (Builtin.clear_ #[t] ty #[X]) base μ mem w (.tuple []) A :=by
 unfold Lf at h;cases ht:T t with
 |none=>rw[ht] at h;cases h
 |some i=>
  rw[ht] at h;simp only at h;have S:=(hT t i ht).desc;split at h
  ·rename_i e D
   rw[D] at S;cases h;simp only[aeU] at H;subst H;exact⟨.tuple #[],w,μ,by simp[Builtin.clear_,run_underlying S],by simp[aeU,aeV],G,.refl (Nat.le_refl _)⟩
  ·rename_i e b o n c D
   rw[D] at S;obtain⟨hbn,rfl⟩:=H.slice;split at h
   ·rename_i R
    cases h;subst R;exact⟨.tuple #[],w,μ,by simp[Builtin.clear_,run_underlying S],by simp[aeU,aeV],G,.refl (Nat.le_refl _)⟩
   ·rename_i R
    split at h
    ·rename_i j es K I J
     split at h
     ·rename_i hc
      obtain⟨C,PP⟩:=hc;cases h;have hs:=G.slot b _ J;simp only[ae7] at hs;obtain⟨Z,el,fr,g1,g2,g3,g4,g5⟩:=hs;obtain⟨F,g7,g8,g9⟩:=g5 trivial;subst g7;have hz:=jq μ mem.length j.zero;have B:=(hT e j I).ago;have z:(jb j.zero).cells.length=j.size:=by rw[←hz.length,Array.length_toList,B]
      have W:=wI hz n;have V:(gJ (jb j.zero).cells n).length=n*j.size:=by rw[gW,z]
      obtain⟨O,M⟩:=xE (Builtin.zeroCells j.zero.cells n);rw[←M] at W;have m:O.size=n*j.size:=by rw[←Array.length_toList,W.length,V]
      have h1:=W.afG PP;have Y:=run_storeCells_at (P:=P) (μ b).blk o el O.toList 0 Z w g1 (by rw[W.length,V];omega) h1;have hw:=G.write (w' :=w.setRow (μ b).blk (Z.toList.take (o+0)++O.toList++Z.toList.drop (o+0+O.toList.length)).toArray) (s' :=.cells true es (K.take o++gJ (jb j.zero).cells n++K.drop (o+n*j.size)))
       J (jr J) (fun _=>⟨_,List.getElem?_set_self (gL J),rfl⟩) rfl rfl rfl rfl (by simp[World.setRow]) (fun k hk=>setRow_other w _ k _ hk) ?_
      ·refine⟨.tuple #[],_,μ,?_,by simp[aeU,aeV],hw.1,hw.2⟩
       simp only[Builtin.clear_,List.getElem?_toArray,List.getElem?_cons_zero,Sem.run_bind,run_underlying S,Result.andThen_ok,F,Nat.zero_add,eY hT I,←M];rw[Y];rfl
      ·simp only[ae7]
       refine⟨_,el,(0,0),setRow_heap w (μ b).blk Z _ el (0,0) g1,g2,?_,fun q u hu=>?_,fun _=>⟨F,rfl,?_,g9⟩⟩
       ·simp only[List.length_append,List.length_take,List.length_drop,V];omega
       ·rw[F] at g4
        obtain⟨U,hU,hr⟩:=xO (cs:=K) (vs:=gJ (jb j.zero).cells n) (Vs:=O.toList) (o:=o) (cur:=Z.toList) (by rw[V];exact C) (fun j v hv=>by simpa using g4 j v hv) W q u (by rw[V];exact hu);refine⟨U,?_,hr⟩;rw[F];simpa using hU
       ·simp only[List.size_toArray,List.length_append,List.length_take,List.length_drop,Array.length_toList,m];omega
     ·cases h
    ·cases h
  ·cases h
end
end Go.Eng
namespace Go.Eng
def xq(T:TypeId→Option TyI)(mem:Mem)(t:TypeId)(x:AV)(A G:Option AV):Option (AV×Mem):=
 match T t,x with
 |some i,.slice b o n none=>
  match i.desc with
  |.slice e=>match T e,mem[b]? with
   |some j,some (.cells _ es cs)=>match G,A with
    |none,some (.int _ l)=>if l=n∧0<n∧es=j.size∧0<es∧es<1000∧o+n*es≤cs.length then some (.slice mem.length 0 0 none,mem++[.aeP]) else none
    |_,_=>none
   |_,_=>none
  |_=>none
 |_,_=>none
section
variable {P:Program}{T:TypeId→Option TyI}{μ:Nat→Place}{mem:Mem}{base:Nat}{w:World}
theorem ae5.aeP(h:ae5 base μ mem w)(p:Place):ae5 base (upd μ mem.length p) (mem++[.aeP]) w∧Step mem.length μ mem w (upd μ mem.length p) (mem++[.aeP]) w:=by
 have hμ:∀b,b<mem.length→upd μ mem.length p b=μ b:=fun b W=>wE W
 have X:∀{b:Nat}{s:aeY},(mem++[aeY.aeP])[b]? =some s→s≠ .aeP→b<mem.length∧mem[b]? =some s:=by
  intro b s Z S;by_cases O:b<mem.length
  ·rw[List.getElem?_append_left O] at Z;exact⟨O,Z⟩
  ·exfalso
   have M:b=mem.length:=by have:=gL Z;simp at this;omega
   subst M;simp at Z;exact S Z.symm
 have own:∀{b:Nat},eh (mem++[aeY.aeP]) b→b<mem.length∧eh mem b:=by rintro b ⟨s,Z,ho⟩;have:=X Z (aeY.aft ho);exact⟨this.1,s,this.2,ho⟩
 refine⟨⟨h.ae1,fun b s Z=>?_,fun b C B W z S K=>?_⟩,?_⟩
 ·by_cases V:s=.aeP
  ·subst V;trivial
  ·obtain⟨O,J⟩:=X Z V
   rw[hμ b O];exact(h.slot b s J).mono (by simp) hμ fun _=>rfl
 ·obtain⟨F,D⟩:=own W
  obtain⟨h3,u⟩:=X z S;rw[hμ b F,hμ C h3];exact h.sep b C B D u S K
 ·exact⟨by simp,hμ,rfl,rfl,rfl,Nat.le_refl _,fun _ _ _=>rfl,fun b W _=>by obtain⟨F,D⟩:=own W;exact⟨b,D,(congrArg Place.blk (hμ b F)).symm⟩,Nat.le_refl _⟩
theorem Gu(hT:cW P T)(hH:ae5 base μ mem w){t:TypeId}{x v:AV}{X:Value}{G H:Option AV}{I R:Option Value}{A :Mem}(hx:aeU μ mem.length x X)(Y:(G=none∧I=none)∨∃l L,G=some l∧I=some L∧aeU μ mem.length l L)(hhi:(H=none∧R=none)∨∃l L,H=some l∧R=some L∧aeU μ mem.length l L)(h:xq T mem t x G H=some (v,A)):
  afY P (Instr.sliceAt t X I R none) base μ mem w v A :=by
 unfold xq at h;split at h
 ·rename_i i b o n u
  split at h
  ·rename_i e m
   have C:=(hT t i u).desc;rw[m] at C;split at h
   ·rename_i j own es cs hj hb
    split at h
    ·rename_i k l
     split at h
     ·rename_i hc
      obtain⟨rfl,g1,g5,B,M,g7⟩:=hc;cases h;rcases hhi with⟨_,rfl⟩ | ⟨_,_,S,_⟩
      ·rcases Y with⟨S,_⟩ | ⟨a,L,S,rfl,hL⟩
       ·cases S
       ·cases S
        rw[hL.int];obtain⟨hbn,rfl⟩:=hx.slice;have z:=hH.slot b _ hb;simp only[ae7] at z;obtain⟨cur,el,fr,hs1,V,hs3,_,_⟩:=z;have V:=V.es M;subst V;have K:n≤jl (μ b) o none:=by simp only[jl];rw[Nat.le_div_iff_mul_le B];omega
        obtain⟨c,J⟩:=xE (jl (μ b) o none);rw[←J] at K ⊢;obtain⟨O,Z⟩:=xE (if c=n then (μ b).off+o else (μ b).off+(o+n*(μ b).es));obtain⟨a1,a2⟩:=hH.aeP ⟨(μ b).blk,O,(c-n)*(μ b).es,(μ b).es⟩;have F:(Instr.sliceBounds true n c (some (.int k (n:Int))) none none).run P w=.ok (n,n,c) w:=by
         have Z9:(0:Int)≤(n:Int):=by omega
         have D:(n:Int)≤((n:Nat):Int):=Int.le_refl _;simp[Instr.sliceBounds,cq Z9 D]
        refine⟨.slice (some ⟨(μ b).blk,O,none⟩) 0 (c-n),w,_,?_,?_,a1,a2⟩
        ·simp[Instr.sliceAt,Instr.slice,run_underlying C,F,cP hT hj]
         by_cases W:c=n
         ·rw[if_pos W] at Z
          simp[W,Z]
         ·rw[if_neg W] at Z
          simp[W,Z,Addr.add_lit,g5,Nat.add_assoc]
        ·simp only[aeU,eX,jl,List.length_append,List.length_singleton,Nat.add_zero,Nat.sub_zero]
         refine⟨by omega,?_⟩;rw[Nat.mul_div_cancel _ B]
      ·cases S
     ·cases h
    ·cases h
   ·cases h
  ·cases h
 ·cases h
end
def BH(T:TypeId→Option TyI)(t:TypeId)(x:AV)(H A G:Option AV):Option AV:=
 match T t,x with
 |some i,.slice b o n (some c)=>
  match i.desc with
  |.slice e=>
   match T e,Et n A,L5 H,Et c G with
   |some j,some h,some l,some m=>
    if 0≤l∧l≤h∧h≤m∧m≤c∧(G=none∨A.isSome=true) then some (.slice b (if m=l then o else o+l.toNat*j.size) (h.toNat-l.toNat) (some (m.toNat-l.toNat))) else none
   |_,_,_,_=>none
  |_=>none
 |_,_=>none
def rZ(T:TypeId→Option TyI)(mem:Mem)(t t2:TypeId)(s x:AV):Option (AV×Mem):=
 match T t,s with
 |some i,.slice b 0 n (some c)=>
  match i.desc with
  |.slice e=>
   match T e,T t2,mem[b]? with
   |some j,some i2,some (.cells true es cs)=>
    if j.size=0∨1000≤j.size∨xP i2=false then none else
    match iy T mem j.size t2 x with
    |none=>none
    |some (m,news)=>
     if news.all AV.aeS=true∧es=j.size∧n+m≤c∧(n+m)*j.size≤cs.length then
      some (.slice b 0 (n+m) (some c),mem.set b (.cells true es (cs.take (n*j.size)++news++cs.drop ((n+m)*j.size)))) else none
   |_,_,_=>none
  |_=>none
 |_,_=>none
section
variable {P:Program}{T:TypeId→Option TyI}{μ:Nat→Place}{mem:Mem}{base:Nat}{w:World}
theorem vJ(hT:cW P T){t:TypeId}{x v:AV}{X:Value}{lo hi mx:Option AV}{I R Y:Option Value}(hx:aeU μ mem.length x X)(G:(lo=none∧I=none)∨∃l L,lo=some l∧I=some L∧aeU μ mem.length l L)(H:(hi=none∧R=none)∨∃l L,hi=some l∧R=some L∧aeU μ mem.length l L)(hmx:(mx=none∧Y=none)∨∃l L,mx=some l∧Y=some L∧aeU μ mem.length l L)(h:BH T t x lo hi mx=some v):
  Val P (Instr.sliceAt t X I R Y) w μ mem.length v:=by
 unfold BH at h;split at h
 ·rename_i i b o n c ht
  have hd:=(hT t i ht).desc;split at h
  ·rename_i e F'
   rw[F'] at hd;split at h
   ·rename_i j F S K hj Z W e3
    split at h
    ·rename_i hc
     obtain⟨h0,h1,h2,h3,h4⟩:=hc;cases h;obtain⟨hbn,rfl⟩:=hx.slice;have D:(Instr.sliceBounds true n c I R Y).run P w=.ok (S.toNat,F.toNat,K.toNat) w:=by
      have C :S≤((F.toNat:Nat):Int):=by omega
      have O :0≤F:=by omega
      have V :F≤((K.toNat:Nat):Int):=by omega
      have z :0≤K:=by omega
      rcases hmx with⟨rfl,rfl⟩ | ⟨m,M,rfl,rfl,hM⟩
      ·simp only[Et,Option.some.injEq] at e3
       subst e3;rw[Int.toNat_natCast] at V;rcases H with⟨rfl,rfl⟩ | ⟨a,A,rfl,rfl,u⟩<;>rcases G with⟨rfl,rfl⟩ | ⟨b,B,rfl,rfl,hB⟩
       ·simp only[Et,L5,Option.some.injEq] at Z W;subst Z;subst W
        simp[Instr.sliceBounds]
       ·cases b<;>simp only[Et,L5,reduceCtorEq,Option.some.injEq] at Z W
        subst Z;subst W;rw[hB.int];simp[Instr.sliceBounds,cq h0 h1]
       ·cases a<;>simp only[Et,L5,reduceCtorEq,Option.some.injEq] at Z W
        subst Z;subst W;rw[u.int];simp[Instr.sliceBounds,cq O V]
       ·cases a<;>simp only[Et,reduceCtorEq,Option.some.injEq] at Z
        cases b<;>simp only[L5,reduceCtorEq,Option.some.injEq] at W;subst Z;subst W;rw[u.int,hB.int];simp[Instr.sliceBounds,cq O V,cq h0 C]
      ·cases m<;>simp only[Et,reduceCtorEq,Option.some.injEq] at e3
       subst e3;rw[hM.int];rcases H with⟨rfl,rfl⟩ | ⟨a,A,rfl,rfl,u⟩<;>rcases G with⟨rfl,rfl⟩ | ⟨b,B,rfl,rfl,hB⟩
       ·simp at h4
       ·simp at h4
       ·cases a<;>simp only[Et,L5,reduceCtorEq,Option.some.injEq] at Z W
        subst Z;subst W;rw[u.int];simp[Instr.sliceBounds,cq z h3,cq O V]
       ·cases a<;>simp only[Et,reduceCtorEq,Option.some.injEq] at Z
        cases b<;>simp only[L5,reduceCtorEq,Option.some.injEq] at W;subst Z;subst W;rw[u.int,hB.int];simp[Instr.sliceBounds,cq z h3,cq O V,cq h0 C]
     refine⟨.slice (some ⟨(μ b).blk,(μ b).off+(if K=S then o else o+S.toNat*j.size),none⟩) (F.toNat-S.toNat) (K.toNat-S.toNat),?_,by simp only[aeU,jl];exact⟨hbn,trivial⟩⟩;have hml:(K.toNat=S.toNat)=(K=S):=by rw[eq_iff_iff];omega
     by_cases J:K=S
     ·simp[Instr.sliceAt,Instr.slice,run_underlying hd,D,cP hT hj,J,jl]
     ·simp[Instr.sliceAt,Instr.slice,run_underlying hd,D,cP hT hj,hml,J,jl,Addr.add_lit,Nat.add_assoc]
    ·cases h
   ·cases h
  ·cases h
 ·cases h
theorem Dx(hT:cW P T)(G:ae5 base μ mem w){t t2 ty:TypeId}{s x v:AV}{S X:Value}{A :Mem}(hs:aeU μ mem.length s S)(hx:aeU μ mem.length x X)(h:rZ T mem t t2 s x=some (v,A)):
  afY P (Builtin.append_ #[t,t2] ty #[S,X]) base μ mem w v A :=by
 unfold rZ at h;split at h
 ·rename_i i b n c ht
  have hd:=(hT t i ht).desc;split at h
  ·rename_i e F'
   rw[F'] at hd;split at h
   ·rename_i j I es K hj H Y
    split at h
    ·cases h
    ·rename_i T'
     have V:=(hT t2 I H).desc;have ht2:(∃e2,P.underlying t2=some (.slice e2))∨P.underlying t2=some .string:=by
      have O:xP I=true:=by
       cases J:xP I with
       |true=>rfl
       |false=>exact absurd (.inr (.inr J)) T'
      unfold xP at O;split at O
      next e2 J=>rw[J] at V;exact .inl ⟨e2,V⟩
      next J=>rw[J] at V;exact .inr V
      ·cases O
     have hsk:j.size<1000:=by
      rcases Nat.lt_or_ge j.size 1000 with h0 | h0
      ·exact h0
      ·exact absurd (.inr (.inl h0)) T'
     split at h
     ·cases h
     ·rename_i m W acp
      split at h
      ·rename_i hc
       obtain⟨PP,rfl,aar,acO⟩:=hc;cases h;obtain⟨F,g1,R,g3,g4⟩:=tE (P:=P) G hx acp;obtain⟨hbn,rfl⟩:=hs.slice;have D:=G.slot b _ Y;simp only[ae7] at D;obtain⟨Z,el,fr,s1,s2,s3,s4,s5⟩:=D;obtain⟨s6,s7,s8,s9⟩:=s5 trivial;subst s7;have C:(μ b).off+0=0:=by omega
       have B:=uF hT (ty:=ty) hd hj ht2 (some ⟨(μ b).blk,0,none⟩) n c m X w g3 aar;rw[g4 w (fun _=>rfl)] at B;have z:F.length=m*j.size:=by rw[g1.length,R]
       have M:n*j.size+m*j.size=(n+m)*j.size:=(Nat.add_mul _ _ _).symm;have H':K.length≤Z.size:=by rw[s8];exact s3
       have hst:=run_storeCells_at (P:=P) (μ b).blk (n*j.size) el F 0 Z w s1 (by rw[z,Nat.add_zero,M];omega) (g1.afG PP);simp only[Result.andThen_ok,Addr.add_lit,Nat.zero_add,hst] at B;have hw:=G.write (w' :=w.setRow (μ b).blk (Z.toList.take (n*j.size+0)++F++Z.toList.drop (n*j.size+0+F.length)).toArray) (s' :=.cells true j.size (K.take (n*j.size)++W++K.drop ((n+m)*j.size)))
        Y (jr Y) (fun _=>⟨_,List.getElem?_set_self (gL Y),rfl⟩) rfl rfl rfl rfl (by simp[World.setRow]) (fun k hk=>setRow_other w _ k _ hk) ?_
       ·refine⟨.slice (some ⟨(μ b).blk,0,none⟩) (n+m) c,_,μ,?_,?_,hw.1,hw.2⟩
        ·rw[←B]
         simp only[jl,C]
        ·simp only[aeU,jl,C,List.length_set]
         exact⟨hbn,trivial⟩
       ·simp only[ae7]
        refine⟨_,el,(0,0),setRow_heap w (μ b).blk Z _ el (0,0) s1,s2,?_,fun q u hu=>?_,fun _=>⟨s6,rfl,?_,s9⟩⟩
        ·simp only[List.length_append,List.length_take,List.length_drop,R];omega
        ·rw[s6] at s4
         rw[show(n+m)*j.size=n*j.size+W.length by rw[R,M]] at hu;obtain⟨U,hU,B⟩:=xO (cs:=K) (vs:=W) (Vs:=F) (o:=n*j.size) (cur:=Z.toList) (by rw[R,M];exact acO) (fun j v hv=>by simpa using s4 j v hv) g1 q u hu;refine⟨U,?_,B⟩;rw[s6];simpa using hU
        ·simp only[List.size_toArray,List.length_append,List.length_take,List.length_drop,Array.length_toList,z];omega
      ·cases h
   ·cases h
  ·cases h
 ·cases h
end
def qP(T:TypeId→Option TyI)(mem:Mem)(t:TypeId)(m k:AV):Option (AV×Mem):=
 match T t with
 |none=>none
 |some i=>
  match i.desc,m with
  |.map kt et,.map b=>
   match T et,mem[b]? with
   |some j,some (.map es)=>
    if lG T 20 kt k then
     match jn T kt k es 0 with
     |some (some (q,v))=>if k.afL then some (.tuple [v,.int .i64 q],mem.set b (.map (es.set q (k,v)))) else none
     |some none=>some (.tuple [jb j.zero,.int .i64 es.length],mem.set b (.map (es++[(k,jb j.zero)])))
     |none=>none
    else none
   |_,_=>none
  |_,_=>none
def kQ(mem:Mem)(m s v:AV):Option Mem:=
 match m,s with
 |.map b,.int _ (.ofNat q)=>match mem[b]? with
  |some (.map es)=>match es[q]? with
   |some e=>some (mem.set b (.map (es.set q (e.1,v))))
   |none=>none
  |_=>none
 |_,_=>none
variable{G':Array MapEntry}
section
variable {P:Program}{T:TypeId→Option TyI}{μ:Nat→Place}{mem:Mem}{base:Nat}{w:World}{n:Nat}
theorem LK{A:TypeId}{k:AV}:∀{es:List (AV×AV)}{i q:Nat}{v:AV},jn T A k es i=some (some (q,v))→(es[q-i]?).map (·.2)=some v
 | [],i,q,v,h=>by simp[jn] at h
 |e::es,i,q,v,h=>by
  have X:=nG h;rw[jn] at h;split at h
  ·cases h;simp
  ·have:=LK h
   obtain⟨j,W,Z,V,h3⟩:=nG h;subst Z;rw[show i+1+j-(i+1)=j by omega] at this;rw[show i+1+j-i=j+1 by omega];simpa using this
  ·cases h
theorem Cj(I:ae5 base μ mem w){b R aaa :Nat}{es es' :List (AV×AV)}{aac :Array MapEntry}(A:mem[b]? =some (.map es))(H:w.heap[(μ b).blk]? =some (.map G' R))(G:base≤(μ b).blk)(Y:DQ aac aaa)(g1:aac.size=es'.length)(g2:∀(j:Nat) e,es'[j]? =some e→∃E,aac[j]? =some E∧Qg μ mem.length e E):
  (setObj (μ b).blk (.map aac aaa)).run P w=.ok () { w with heap:=w.heap.setIfInBounds (μ b).blk (.map aac aaa) }∧
  ae5 base μ (mem.set b (.map es')) { w with heap:=w.heap.setIfInBounds (μ b).blk (.map aac aaa) }∧Step mem.length μ mem w μ (mem.set b (.map es')) { w with heap:=w.heap.setIfInBounds (μ b).blk (.map aac aaa) }:=by
 have Z:(μ b).blk<w.heap.size:=(Array.getElem?_eq_some_iff.1 H).1;refine⟨sG H (by simp),I.write A (Mj A) (fun _=>⟨_,List.getElem?_set_self (gL A),rfl⟩) rfl rfl rfl rfl (by simp) (fun q hq=>?_) ?_⟩
 ·simp[Array.getElem?_setIfInBounds_ne (Ne.symm hq)]
 ·simp only[ae7]
  exact⟨aac,aaa,by simp[Z],⟨G,Y⟩,g1,g2⟩
theorem Si{A i:Nat}(h:DQ G' A)(G:i<G'.size):G'.findIdx? (fun e=>(e.born:Int)==(i:Int))=some i:=by
 rw[Array.findIdx?_eq_some_iff_getElem];refine⟨G,?_,?_⟩
 ·have:=h.2 i G'[i] (by simp)
  simp[this]
 ·intro j Z
  have:=h.2 j G'[j] (by simp);simp[this];omega
theorem xp(A:ae5 base μ mem w){t:TypeId}{m s v:AV}{M S V:Value}{mem' :Mem}(G:aeU μ mem.length m M)(hs:aeU μ mem.length s S)(H:aeU μ mem.length v V)(h:kQ mem m s v=some mem'):∃w',(Instr.entryStore t M S V).run P w=.ok () w' ∧ae5 base μ mem' w' ∧Step mem.length μ mem w μ mem' w' :=by
 unfold kQ at h;split at h
 ·rename_i b k q
  split at h
  ·rename_i es C
   split at h
   ·rename_i e he
    cases h;simp only[aeU] at G;obtain⟨_,rfl⟩:=G;have K:=A.slot b _ C;simp only[ae7] at K;obtain⟨G',B,z,X,u,h3⟩:=K;have Y:(getObj (μ b).blk).run P w=.ok (.map G' B) w:=by simp[getObj,Sem.run,z]
    have hq:q<es.length:=gL he;have R:=Si X.2 (i:=q) (by omega);obtain⟨f1,f2,f3⟩:=Cj (P:=P) A (es' :=es.set q (e.1,v)) (aac :=G'.modify q fun e=>{ e with val:=V }) (aaa :=B) C z X.1 ⟨by simpa using X.2.1,fun j J Z =>by
     rw[Array.getElem?_modify] at Z;split at Z
     ·simp only[Option.map_eq_some_iff] at Z
      obtain⟨I,k1,rfl⟩:=Z;exact X.2.2 j I k1
     ·exact X.2.2 j J Z⟩ (by simpa using u) (fun j e' W =>by
     rw[List.getElem?_set] at W;by_cases O:q=j
     ·subst O
      simp only[if_true,hq,Option.some.injEq] at W;subst W;obtain⟨E,hE,hr⟩:=h3 q e he;exact⟨{ E with val:=V },by simp[Array.getElem?_modify,hE],hr.1,H⟩
     ·rw[if_neg O] at W
      obtain⟨J,Z,F⟩:=h3 j e' W;exact⟨J,by simp[Array.getElem?_modify,O,Z],F⟩)
    refine⟨_,?_,f2,f3⟩;rw[hs.int];have D :G'.findIdx? (fun e=>(e.born:Int)==Int.ofNat q)=some q:=R;simp only[Instr.entryStore,Sem.run_bind,Result.andThen_ok,Y,asInt,asIntOf,Sem.run_pure,D];exact f1
   ·cases h
  ·cases h
 ·cases h
theorem BG(hT:cW P T)(hH:ae5 base μ mem w){t:TypeId}{m k v:AV}{M K:Value}{mem' :Mem}(hm:aeU μ mem.length m M)(A:aeU μ mem.length k K)(h:qP T mem t m k=some (v,mem')):afY P (Instr.mapEntry t M K) base μ mem w v mem' :=by
 unfold qP at h;cases ht:T t with
 |none=>rw[ht] at h;cases h
 |some i=>
  rw[ht] at h;simp only at h;have hd:=(hT t i ht).desc;split at h
  ·rename_i kt et b F'
   rw[F'] at hd;split at h
   ·rename_i j es hj hb
    split at h
    ·rename_i V
     simp only[aeU] at hm;obtain⟨hbn,rfl⟩:=hm;have hs:=hH.slot b _ hb;simp only[ae7] at hs;obtain⟨G',S,h1,W,C,h3⟩:=hs;have hg:(getObj (μ b).blk).run P w=.ok (.map G' S) w:=by simp[getObj,Sem.run,h1]
     have B:=kU (P:=P) (n:=mem.length) hT false 20 V A 9980 w;have hkt:∃I,T kt=some I:=by
      rw[lG] at V;cases hx:T kt with
      |none=>rw[hx] at V;cases V
      |some I=>exact⟨I,rfl⟩
     obtain⟨I,z⟩:=hkt;have e2:G'.toList.length=es.length:=by simpa using C
     have e3:∀(j:Nat) e,es[j]? =some e→∃E,G'.toList[j]? =some E∧Qg μ mem.length e E:=fun j e he=>by obtain⟨E,D,H⟩:=h3 j e he;exact⟨E,by simpa using D,H⟩
     split at h
     ·rename_i q v' u
      split at h
      ·rename_i hsc
       cases h;obtain⟨R,g1,G⟩:=gQ hT z A e2 e3 u w;cases R with
       |none=>exact G.elim
       |some x=>
        obtain⟨q',V'⟩:=x;obtain⟨rfl,hv⟩:=G;obtain⟨Y,e,hq,he,UV⟩:=nG u;have hq' :q=Y :=by omega
        subst hq';obtain⟨E,D,H⟩:=h3 q e he;have hsb:=rM (μ:=μ) (n:=mem.length) hsc A H.1 UV rfl;have aae :q<es.length:=gL he;have hev:e.2=v' :=by have:=LK u;rw[Nat.sub_zero] at this;rw[he] at this;simpa using this
        obtain⟨f1,f2,f3⟩:=Cj (P:=P) hH (es' :=es.set q (k,v')) (aac :=G'.modify q fun e=>{ e with key:=K }) (aaa :=S) hb h1 W.1 ⟨by simpa using W.2.1,fun j O Z =>by
         rw[Array.getElem?_modify] at Z;split at Z
         ·simp only[Option.map_eq_some_iff] at Z
          obtain⟨E0,k1,rfl⟩:=Z;exact W.2.2 j E0 k1
         ·exact W.2.2 j O Z⟩ (by simpa using C) (fun j e' X =>by
         rw[List.getElem?_set] at X;by_cases J:q=j
         ·subst J
          simp only[if_true,aae,Option.some.injEq] at X;subst X;exact⟨{ E with key:=K },by simp[Array.getElem?_modify,D],A,by rw[←hev];exact H.2⟩
         ·rw[if_neg J] at X
          obtain⟨O,Z,F⟩:=h3 j e' X;exact⟨O,by simp[Array.getElem?_modify,J,Z],F⟩)
        refine⟨.tuple #[V',goInt q],_,μ,?_,?_,f2,f3⟩
        ·simp only[Instr.mapEntry,Sem.run_bind,run_underlying hd,Result.andThen_ok,hg]
         rw[show(10000:Nat)=20+9980 from rfl,B];simp only[Result.andThen_ok,g1,Sem.run_bind];have abm:(Instr.keyThatStays (((G'[q]?).map (·.key)).getD K) K).run P w=.ok K w:=by unfold Instr.keyThatStays;rw[D];simp only[Option.map_some,Option.getD_some,hsb,if_true];rfl
         rw[abm];simp only[Result.andThen_ok,f1,Sem.run_pure];rw[D];simp only[Option.map_some,Option.getD_some,W.2.2 q E D]
        ·simp only[List.length_set,aeU]
         exact⟨[V',goInt q],rfl,br.2 ⟨hv,br.2 ⟨by simp[aeU,goInt],by simp[aeV]⟩⟩⟩
      ·cases h
     ·rename_i u
      cases h;obtain⟨R,g1,G⟩:=gQ hT z A e2 e3 u w;cases R with
      |some x=>exact G.elim
      |none=>
       have hz:=xl μ mem.length j.zero;obtain⟨f1,f2,f3⟩:=Cj (P:=P) hH (es' :=es++[(k,jb j.zero)]) (aac :=G'.push { key:=K,val:=j.zero,born:=S }) (aaa :=S+1) hb h1 W.1 ⟨by simp[W.2.1],fun j O Z =>by
        rw[Array.getElem?_push] at Z;split at Z
        next hj=>cases Z;rw[hj];exact W.2.1
        ·exact W.2.2 j O Z⟩ (by simp[C]) (fun Y e' X =>by
        by_cases hj' :Y <es.length
        ·rw[List.getElem?_append_left hj'] at X
         obtain⟨O,Z,F⟩:=h3 Y e' X;exact⟨O,by rw[Array.getElem?_push,if_neg (by omega)];exact Z,F⟩
        ·have hje:Y =es.length:=by have:=(gL X);simp at this;omega
         subst hje;simp at X;subst X;exact⟨{ key:=K,val:=j.zero,born:=S },by rw[Array.getElem?_push,if_pos C.symm],A,hz⟩)
       refine⟨.tuple #[j.zero,goInt S],_,μ,?_,?_,f2,f3⟩
       ·simp only[Instr.mapEntry,Sem.run_bind,run_underlying hd,Result.andThen_ok,hg]
        rw[show(10000:Nat)=20+9980 from rfl,B];simp only[Result.andThen_ok,g1,Sem.run_bind,eY hT hj,f1,Sem.run_pure]
       ·simp only[List.length_set,aeU]
        exact⟨[j.zero,goInt S],rfl,br.2 ⟨hz,br.2 ⟨by simp[aeU,goInt,W.2.1,C],by simp[aeV]⟩⟩⟩
     ·cases h
    ·cases h
   ·cases h
  ·cases h
end
end Go.Eng
namespace Go.Eng
def aUn(A:UnOp)(x:AV):Option AV:=
 match A,x with
 |.not,.bool b=>some (.bool (!b))
 |.neg,.int k n=>some (.int k (k.wrap (0-n)))
 |_,_=>none
def aOp(T:TypeId→Option TyI)(env:Env)(mem:Mem)(A:Op):Option (AV×Mem):=
 match A with
 |.move x=>some (get env x,mem)
 |.assign x=>some (get env x,mem)
 |.pick c a b=>match get env c with
  |.bool t=>some (if t then get env a else get env b,mem)
  |_=>none
 |.alloc e=>th T mem e
 |.box _ x=>YH mem (get env x)
 |.build t ps=>match bW T t (ps.toList.map fun p=>(p.1,get env p.2)) with
  |some v=>some (v,mem)
  |none=>none
 |.buildSlice t n ps=>fZ T mem t n (ps.toList.map fun p=>(p.1,get env p.2))
 |.load t a=>match Rv T mem t (get env a) with
  |some v=>some (v,mem)
  |none=>none
 |.store t a x=>match tl T mem t (get env a) (get env x) with
  |some m=>some (.undef,m)
  |none=>none
 |.nilCheck x=>match get env x with
  |.ptr b o=>some (.ptr b o,mem)
  |.func f Z=>some (.func f Z,mem)
  |_=>none
 |.binOp A t x y _=>match Zt T A t (ra x) (ra y) (get env x) (get env y) with
  |some v=>some (v,mem)
  |none=>none
 |.unOp A _ x=>match aUn A (get env x) with
  |some v=>some (v,mem)
  |none=>none
 |.convert s d x=>match Ad T s d (get env x) with
  |some v=>some (v,mem)
  |none=>nr T mem s d (get env x)
 |.makeFunc (.func f) first abD=>if first.size=0 then some (.func f (YI env abD),mem) else none
 |.makeSlice t l c=>kD T mem t (get env l) (get env c)
 |.slice t x lo hi none=>match Pw T mem t (get env x) (lo.map (get env)) (hi.map (get env)) with
  |some v=>some (v,mem)
  |none=>match xq T mem t (get env x) (lo.map (get env)) (hi.map (get env)) with
   |some r=>some r
   |none=>match BH T t (get env x) (lo.map (get env)) (hi.map (get env)) none with
    |some v=>some (v,mem)
    |none=>none
 |.slice t x lo hi (some mx)=>match BH T t (get env x) (lo.map (get env)) (hi.map (get env)) (some (get env mx)) with
  |some v=>some (v,mem)
  |none=>none
 |.fieldAddr t x f=>match sa T t (get env x) f with
  |some v=>some (v,mem)
  |none=>none
 |.field t x f=>match ns T t (get env x) f with
  |some v=>some (v,mem)
  |none=>none
 |.indexAddr t x i=>match sd T t (get env x) (get env i) with
  |some v=>some (v,mem)
  |none=>none
 |.index t x i=>match Pv T t (get env x) (get env i) with
  |some v=>some (v,mem)
  |none=>none
 |.makeMap _ none=>some (.map mem.length,mem++[.map []])
 |.lookup t m k ok=>match kR T mem t (get env m) (get env k) ok with
  |some v=>some (v,mem)
  |none=>none
 |.mapUpdate t m k x=>match fA T mem t (get env m) (get env k) (get env x) with
  |some m=>some (.undef,m)
  |none=>none
 |.mapEntry t m k=>qP T mem t (get env m) (get env k)
 |.entryStore _ m s x=>match kQ mem (get env m) (get env s) (get env x) with
  |some m=>some (.undef,m)
  |none=>none
 |.extract t i=>match get env t with
  |.tuple Z=>match Z[i]? with
   |some v=>some (v,mem)
   |none=>none
  |_=>none
 |.call { callee:=.builtin .len,args:=⟨[x]⟩,argTypes:=⟨[t]⟩ }=>match DB T t mem (get env x) with
  |some v=>some (v,mem)
  |none=>none
 |.call { callee:=.builtin .append,args:=⟨[s,x]⟩,argTypes:=⟨[t,t2]⟩ }=>if PL (T t2) then vG T mem t (get env s) (get env x) else
  match jk T mem t t2 (get env s) (get env x) with
  |some r=>some r
  |none=>rZ T mem t t2 (get env s) (get env x)
 |.call { callee:=.builtin .cap,args:=⟨[x]⟩,argTypes:=⟨[t]⟩ }=>match Zu T t (get env x) with
  |some v=>some (v,mem)
  |none=>none
 |.call { callee:=.builtin .clear,args:=⟨[x]⟩,argTypes:=⟨[t]⟩ }=>match Lf T mem t (get env x) with
  |some m=>some (.tuple [],m)
  |none=>none
 |.call { callee:=.builtin .unsafeSliceData,args:=⟨[x]⟩,argTypes:=_ }=>match se mem (get env x) with
  |some v=>some (v,mem)
  |none=>none
 |.call { callee:=.builtin .unsafeString,args:=⟨[x,y]⟩,argTypes:=⟨[pt,_]⟩ }=>xr T mem pt (get env x) (get env y)
 |.call { callee:=.builtin .min,args:=⟨[x,y]⟩,argTypes:=_ }=>match get env x,get env y with
  |.int k a,.int k' b=>if k=k' then some (.int k (if b<a then b else a),mem) else none
  |.str a,.str b=>some (.str (if Op.bytesLess a b||a==b then a else b),mem)
  |_,_=>none
 |.call { callee:=.builtin .max,args:=⟨[x,y]⟩,argTypes:=_ }=>match get env x,get env y with
  |.int k a,.int k' b=>if k=k' then some (.int k (if a<b then b else a),mem) else none
  |.str a,.str b=>some (.str (if Op.bytesLess a b then b else a),mem)
  |_,_=>none
 |_=>none
variable{a:Act}{s u:List UInt8}{ts:Array TypeId}
section
variable {P:Program}{T:TypeId→Option TyI}{μ:Nat→Place}{mem:Mem}{base:Nat}{w:World}
def ZY(μ:Nat→Place)(n:Nat)(N:Next)(v:AV):Prop:=(∃V,N=.value V∧aeU μ n v V)∨(N=.skip∧v=.undef)
def afQ(P:Program)(x:Sem Next)(base:Nat) (μ:Nat→Place)(mem:Mem)(w:World)(v:AV) (A :Mem):Prop:=
 ∃N w' μ',x.run P w=.ok N w' ∧ZY μ' A.length N v∧ae5 base μ' A w' ∧Step mem.length μ mem w μ' A w'
theorem afQ.afM{x:Sem Value}{v:AV}{A :Mem}(h:afY P x base μ mem w v A):afQ P (do pure (.value (←x))) base μ mem w v A :=by obtain⟨V,w',μ',Z,X,h3,W⟩:=h;exact⟨.value V,w',μ',by simp[Z],.inl ⟨V,rfl,X⟩,h3,W⟩
theorem afQ.afe{x:Sem Value}{v:AV}(A:ae5 base μ mem w)(h:Val P x w μ mem.length v):afQ P (do pure (.value (←x))) base μ mem w v mem:=
 .afM (.afe A h)
theorem afQ.pure{V:Value}{v:AV}(A:ae5 base μ mem w)(h:aeU μ mem.length v V):afQ P (Pure.pure (.value V)) base μ mem w v mem:=
 ⟨.value V,w,μ,rfl,.inl ⟨V,rfl,h⟩,A,.refl (Nat.le_refl _)⟩
theorem Mk{env:Env}{n:Nat}(G:afo μ n env a.tmps)(A:Array (Nat×Operand)):
  (A.toList.map fun p=>(p.1,a.eval p.2)).map (·.1)=(A.toList.map fun p=>(p.1,get env p.2)).map (·.1)∧
  aeV μ n ((A.toList.map fun p=>(p.1,get env p.2)).map (·.2)) ((A.toList.map fun p=>(p.1,a.eval p.2)).map (·.2)):=by
 constructor
 ·simp[Function.comp_def]
 ·have:=Aj G (A.toList.map (·.2))
  simpa [Function.comp_def] using this
theorem rB{env:Env}{n:Nat}(A:afo μ n env a.tmps)(x:Option Operand):
  (x.map (get env)=none∧x.map a.eval=none)∨∃l L,x.map (get env)=some l∧x.map a.eval=some L∧aeU μ n l L:=by
 cases x with
 |none=>exact .inl ⟨rfl,rfl⟩
 |some x=>exact .inr ⟨_,_,rfl,rfl,aZ A x⟩
theorem WW{n:Nat}{ty:TypeId}{X Y:Value}(A:aeU μ n (.str s) X)(G:aeU μ n (.str u) Y):Val P (Builtin.min_ ts ty #[X,Y]) w μ n (.str (if Op.bytesLess s u||s==u then s else u)):=by rw[A.str,G.str];refine .str ?_;simp[Builtin.min_,Builtin.min2,Op.stringOp,asBool];split<;>rfl
theorem WT{n:Nat}{ty:TypeId}{X Y:Value}(A:aeU μ n (.str s) X)(G:aeU μ n (.str u) Y):Val P (Builtin.max_ ts ty #[X,Y]) w μ n (.str (if Op.bytesLess s u then u else s)):=by rw[A.str,G.str];refine .str ?_;simp[Builtin.max_,Builtin.max2,Op.stringOp,asBool];cases Op.bytesLess s u<;>simp
theorem TX(hT:cW P T)(G:ae5 base μ mem w){env:Env}{o:Oper}{v:AV}{H :Mem}(A:afo μ mem.length env a.tmps)(h:aOp T env mem o.op=some (v,H)):afQ P (execOp a.eval o) base μ mem w v H :=by
 unfold aOp at h;split at h
 ·rename_i x Z
  cases h;simp only[execOp,Z];exact .pure G (aZ A x)
 ·rename_i x Z
  cases h;simp only[execOp,Z];exact .pure G (aZ A x)
 ·rename_i c x y Z
  split at h
  ·rename_i t hc
   cases h;have:=aZ A c;rw[hc] at this;simp only[execOp,Z,this.bool,asBool,pure_bind];cases t
   ·exact .pure G (aZ A y)
   ·exact .pure G (aZ A x)
  ·cases h
 ·rename_i e Z
  simp only[execOp,Z];exact .afM (Ld hT G h)
 ·rename_i e x Z
  simp only[execOp,Z];exact .afM (Rr G (aZ A x) h)
 ·rename_i t F Z
  split at h
  ·rename_i S X
   cases h;obtain⟨I,p2⟩:=Mk A F;simp only[execOp,Z];refine .afe G ?_;have:=Le (P:=P) hT X I p2 w;have e:(⟨F.toList.map fun p=>(p.1,a.eval p.2)⟩:Array (Nat×Value))=F.map fun(i,x)=>(i,a.eval x):=by apply Array.ext';simp
   rw[e] at this;exact this
  ·cases h
 ·rename_i t n F Z
  obtain⟨I,p2⟩:=Mk A F;simp only[execOp,Z];refine .afM ?_;have:=xn (P:=P) hT G I p2 h;have e:(⟨F.toList.map fun p=>(p.1,a.eval p.2)⟩:Array (Nat×Value))=F.map fun(i,x)=>(i,a.eval x):=by apply Array.ext';simp
  rw[e] at this;exact this
 ·rename_i t x Z
  split at h
  ·rename_i S X
   cases h;simp only[execOp,Z];exact .afe G (BE hT G (aZ A x) X)
  ·cases h
 ·rename_i t x y Z
  split at h
  ·rename_i m X
   cases h;obtain⟨w',z,J,h3⟩:=Ln (P:=P) hT G (aZ A x) (aZ A y) X;simp only[execOp,Z];exact⟨.skip,w',μ,by simp[z],.inr ⟨rfl,rfl⟩,J,h3⟩
  ·cases h
 ·rename_i x Z
  split at h
  ·rename_i b o W
   cases h;have:=aZ A x;rw[W] at this;simp only[execOp,Z,this.ptr.2];refine .pure G ?_;rw[this.ptr.2] at this;exact this
  ·rename_i f cs W
   cases h;have:=aZ A x;rw[W] at this;have J:=this;simp only[aeU] at J;obtain⟨Us,R,_⟩:=J;simp only[execOp,Z,R];refine .pure G ?_;rw[R] at this;exact this
  ·cases h
 ·rename_i op t x y yt Z
  split at h
  ·rename_i S X
   cases h;simp only[execOp,Z];exact .afe G (Rp hT (aZ A x) (aZ A y) x y X w)
  ·cases h
 ·rename_i op t x Z
  split at h
  ·rename_i S X
   cases h;simp only[execOp,Z];refine .afe G ?_;have W:=aZ A x;unfold aUn at X;split at X
   next D=>cases X;rw[D] at W;rw[W.bool];exact .bool rfl
   next D=>cases X;rw[D] at W;rw[W.int];exact .int rfl
   ·cases X
  ·cases h
 ·rename_i s d x Z
  split at h
  ·rename_i S X
   cases h;simp only[execOp,Z];exact .afe G (DA hT (aZ A x) X w)
  ·simp only[execOp,Z];exact .afM (zH hT G (aZ A x) h)
 ·rename_i f first C Z
  split at h
  ·rename_i hf
   cases h;simp only[execOp,Z];refine .afe G ⟨.func (.func f) (first.map a.eval) (C.map a.eval),rfl,?_⟩;simp only[aeU];have:first= #[]:=Array.eq_empty_of_size_eq_zero hf
   subst this;refine⟨C.toList.map a.eval,?_,Aj A C.toList⟩;simp only[Array.map_empty];congr 1;apply Array.ext';simp
  ·cases h
 ·rename_i t l c Z
  simp only[execOp,Z];exact .afM (zL hT G (aZ A l) (aZ A c) h)
 ·rename_i t x Y K Z
  split at h
  ·rename_i S X
   cases h;simp only[execOp,Z];refine .afe G ?_;simp only[Option.map_none];exact Ll hT G (aZ A x) (rB A Y) (rB A K) X
  ·simp only[execOp,Z]
   simp only[Option.map_none];split at h
   ·rename_i r X
    cases h;exact .afM (Gu hT G (aZ A x) (rB A Y) (rB A K) X)
   ·split at h
    ·rename_i S X
     cases h;exact .afe G (vJ hT (aZ A x) (rB A Y) (rB A K) (.inl ⟨rfl,rfl⟩) X)
    ·cases h
 ·rename_i t x Y K mx Z
  split at h
  ·rename_i S X
   cases h;simp only[execOp,Z];refine .afe G ?_;simp only[Option.map_some];exact vJ hT (aZ A x) (rB A Y) (rB A K) (.inr ⟨_,_,rfl,rfl,aZ A mx⟩) X
  ·cases h
 ·rename_i t x f Z
  split at h
  ·rename_i S X
   cases h;simp only[execOp,Z];exact .afe G (zI hT (aZ A x) X w)
  ·cases h
 ·rename_i t x f Z
  split at h
  ·rename_i S X
   cases h;simp only[execOp,Z];exact .afe G (Li hT (aZ A x) X w)
  ·cases h
 ·rename_i t x i Z
  split at h
  ·rename_i S X
   cases h;simp only[execOp,Z];exact .afe G (zJ hT (aZ A x) (aZ A i) X w)
  ·cases h
 ·rename_i t x i Z
  split at h
  ·rename_i S X
   cases h;simp only[execOp,Z];exact .afe G (Lj hT (aZ A x) (aZ A i) X w)
  ·cases h
 ·rename_i t Z
  cases h;simp only[execOp,Z,Option.map_none];exact .afM (G0 G)
 ·rename_i t m k ok Z
  split at h
  ·rename_i S X
   cases h;simp only[execOp,Z];exact .afe G (Gs hT G (aZ A m) (aZ A k) X)
  ·cases h
 ·rename_i t m k x Z
  split at h
  ·rename_i m' X
   cases h;obtain⟨w',z,J,h3⟩:=zN (P:=P) hT G (aZ A m) (aZ A k) (aZ A x) X;simp only[execOp,Z];exact⟨.skip,w',μ,by simp[z],.inr ⟨rfl,rfl⟩,J,h3⟩
  ·cases h
 ·rename_i t m k Z
  simp only[execOp,Z];exact .afM (BG hT G (aZ A m) (aZ A k) h)
 ·rename_i t m s x Z
  split at h
  ·rename_i m' X
   cases h;obtain⟨w',z,J,h3⟩:=xp (P:=P) (t:=t) G (aZ A m) (aZ A s) (aZ A x) X;simp only[execOp,Z];exact⟨.skip,w',μ,by simp[z],.inr ⟨rfl,rfl⟩,J,h3⟩
  ·cases h
 ·rename_i t i Z
  split at h
  ·rename_i cs W
   split at h
   ·rename_i S K
    cases h;have:=aZ A t;rw[W] at this;simp only[aeU] at this;obtain⟨Us,R,hr⟩:=this;obtain⟨V,hV,hv⟩:=hr.get i _ K;simp only[execOp,Z,R];exact .afe G ⟨V,by simp[Instr.extract,hV],hv⟩
   ·cases h
  ·cases h
 ·rename_i x t Z
  split at h
  ·rename_i S X
   cases h;simp only[execOp,Z,resolve,invoke,builtin,pure_bind];rw[show Array.map a.eval ⟨[x]⟩= #[a.eval x] by simp];exact .afe G (Ru hT G (aZ A x) X)
  ·cases h
 ·rename_i s x t t2 Z
  simp only[execOp,Z,resolve,invoke,builtin,pure_bind];rw[show Array.map a.eval ⟨[s,x]⟩= #[a.eval s,a.eval x] by simp];split at h
  ·rename_i K
   exact .afM (Dz hT G (aZ A s) (aZ A x) K h)
  ·split at h
   ·rename_i r X
    cases h;exact .afM (Gr hT G (aZ A s) (aZ A x) X)
   ·exact .afM (Dx hT G (aZ A s) (aZ A x) h)
 ·rename_i x t Z
  split at h
  ·rename_i S X
   cases h;simp only[execOp,Z,resolve,invoke,builtin,pure_bind];rw[show Array.map a.eval ⟨[x]⟩= #[a.eval x] by simp];exact .afe G (Rs hT (aZ A x) X)
  ·cases h
 ·rename_i x t Z
  split at h
  ·rename_i m' X
   cases h;simp only[execOp,Z,resolve,invoke,builtin,pure_bind];rw[show Array.map a.eval ⟨[x]⟩= #[a.eval x] by simp];exact .afM (Lh hT G (aZ A x) X)
  ·cases h
 ·rename_i x ts Z
  split at h
  ·rename_i S X
   cases h;simp only[execOp,Z,resolve,invoke,builtin,pure_bind];rw[show Array.map a.eval ⟨[x]⟩= #[a.eval x] by simp];exact .afe G (zO G _ _ (aZ A x) X)
  ·cases h
 ·rename_i x y pt it Z
  simp only[execOp,Z,resolve,invoke,builtin,pure_bind];rw[show Array.map a.eval ⟨[x,y]⟩= #[a.eval x,a.eval y] by simp];exact .afM (Gw hT G (aZ A x) (aZ A y) h)
 ·rename_i x y ts Z
  split at h
  ·rename_i k i k' j W B
   split at h
   ·rename_i hk
    cases h;subst hk;have O:=aZ A x;have M:=aZ A y;rw[W] at O;rw[B] at M;simp only[execOp,Z,resolve,invoke,builtin,pure_bind];refine .afe G (.int ?_);simp[Builtin.min_,Builtin.min2,O.int,M.int]
   ·cases h
  ·rename_i s u W B
   cases h;have O:=aZ A x;have M:=aZ A y;rw[W] at O;rw[B] at M;simp only[execOp,Z,resolve,invoke,builtin,pure_bind];rw[show Array.map a.eval ⟨[x,y]⟩= #[a.eval x,a.eval y] by simp];exact .afe G (WW O M)
  ·cases h
 ·rename_i x y ts Z
  split at h
  ·rename_i k i k' j W B
   split at h
   ·rename_i hk
    cases h;subst hk;have O:=aZ A x;have M:=aZ A y;rw[W] at O;rw[B] at M;simp only[execOp,Z,resolve,invoke,builtin,pure_bind];refine .afe G (.int ?_);simp[Builtin.max_,Builtin.max2,O.int,M.int]
   ·cases h
  ·rename_i s u W B
   cases h;have O:=aZ A x;have M:=aZ A y;rw[W] at O;rw[B] at M;simp only[execOp,Z,resolve,invoke,builtin,pure_bind];rw[show Array.map a.eval ⟨[x,y]⟩= #[a.eval x,a.eval y] by simp];exact .afe G (WT O M)
  ·cases h
 ·cases h
end
end Go.Eng
namespace Go.Eng
def VC(P:Program)(f:FuncId):Prop:=∃fn,P.funcs[f]? =some fn∧fn.body.isSome=true∧(fn.name == "runtime.NumGoroutine")=false
abbrev Fr(A:Option Nat):Fence:={ Fence.wide with round:=A }
variable{f:FuncId}{ro:Option Nat}
theorem Ag{n:Nat}{P:Program}{args:Array Value}{w:World}{R:Ending→World→Prop}:CallsIn (Fr ro) n P f args w R↔Calls P f args w R:=
 callsIn_wide (n:=n)
def xC:String:=String.ofList ([105,110,116,101,114,110,97,108,47,115,116,114,99,111,110,118,46,117,105,110,116,54,52,112,111,119,49,48].map Char.ofNat)
structure GOk (P:Program)(base:Nat)(w:World):Prop where
 below:P.globals.size≤base
 tab:Lib.TabIs P w xC .u64 Lib.pow10Tab
theorem GOk.ag2{P:Program}{A:Nat}{w:World}(h:GOk P A w){s:String}(hs:xC=s):Lib.TabIs P w s .u64 Lib.pow10Tab:=hs▸h.tab
theorem PV{A:Nat}{μ:Nat→Place}{mem:Mem}{w:World}(G:ae5 A μ mem w){b:Nat}(H:eh mem b):A≤(μ b).blk:=by
 obtain⟨s,X,Z⟩:=H;have:=G.slot b s X;cases s with
 |aeP=>cases Z
 |cells own es cs=>simp only[aeY.own] at Z;subst Z;simp only[ae7] at this;obtain⟨_,_,_,_,_,_,_,h⟩:=this;exact(h trivial).2.2.2
 |map es=>simp only[ae7] at this;obtain⟨_,_,_,h,_⟩:=this;exact h.1
 |afr es=>cases Z
 |loop r=>simp only[ae7] at this;obtain⟨_,_,h,_⟩:=this;exact h
variable{name:String}
theorem DI{P:Program}{g:Nat}(h:P.globalNamed name=some g):g<P.globals.size:=by
 unfold Program.globalNamed at h;split at h
 ·rename_i X Z
  cases h;have:g∈(List.range P.globals.size).filter fun g=>(P.globals[g]?).any (·.name==name):=by rw[Z];simp
  simpa using (List.mem_filter.1 this).1
 ·cases h
variable{w' :World}
theorem Qe{P:Program}{w:World}(h:∀k,k<P.globals.size→w'.heap[k]? =w.heap[k]?):w'.var? P name=w.var? P name:=by
 unfold World.var?;cases hg:P.globalNamed name with
 |none=>rfl
 |some g=>simp only[Option.bind_some];rw[h g (DI hg)]
variable{m0:Nat}{μ' :Nat→Place}
theorem GOk.step{P:Program}{A:Nat}{μ:Nat→Place}{mem G :Mem}{w:World}(h:GOk P A w)(H:ae5 A μ mem w)(I:Step m0 μ mem w μ' G w'):GOk P A w' :=by
 refine⟨h.below,?_⟩;have:=h.tab;unfold Lib.TabIs at this ⊢;rw[←this];refine Qe fun k X=>I.frame k ?_ fun b Z=>?_
 ·have:=h.below;have:=H.ae1;omega
 ·have:=PV H Z;have:=h.below;omega
structure MOk (P:Program)(base h0:Nat)(w:World)(ds:List Deferred):Prop where
 af7:GOk P base w
 ae1:base≤h0
 le:h0≤w.heap.size
 each:∀d∈ds,∃r,d={ target:=.collected r,args:= #[] }∧h0≤r∧w.heap[r]? =some (.deferred (some []))
 nodup:(ds.map (·.target)).Nodup
variable{h0:Nat}
theorem MOk.nil{P:Program}{A:Nat}(w:World)(G:GOk P A w)(H:A≤h0)(h:h0≤w.heap.size):MOk P A h0 w []:=⟨G,H,h,fun _ h=>by(cases h),by simp⟩
theorem pq{A:Nat}{μ:Nat→Place}{mem:Mem}{w:World}(H:ae5 A μ mem w){r:Nat}{x}(G:w.heap[r]? =some (.deferred x)){b:Nat}{s:aeY}(I:mem[b]? =some s)(hs:s≠ .aeP):(μ b).blk≠r:=by
 intro e;have:=H.slot b s I;cases s with
 |aeP=>exact hs rfl
 |cells own es cs=>simp only[ae7] at this;obtain⟨_,_,_,Z,_⟩:=this;rw[e,G] at Z;cases Z
 |map es=>simp only[ae7] at this;obtain⟨_,_,Z,_⟩:=this;rw[e,G] at Z;cases Z
 |afr es=>simp only[ae7] at this;obtain⟨_,_,Z,_⟩:=this;rw[e,G] at Z;cases Z
 |loop r=>simp only[ae7] at this;obtain⟨_,Z,_⟩:=this;rw[e,G] at Z;cases Z
theorem MOk.step{P:Program}{A:Nat}{μ:Nat→Place}{mem G :Mem}{w:World}{ds:List Deferred}(h:MOk P A h0 w ds)(I:ae5 A μ mem w)(H:Step m0 μ mem w μ' G w'):MOk P A h0 w' ds:=by refine⟨h.af7.step I H,h.ae1,Nat.le_trans h.le H.size,fun d W=>?_,h.nodup⟩;obtain⟨r,e,V,Z⟩:=h.each d W;refine⟨r,e,V,?_⟩;rw[H.frame r (Array.getElem?_eq_some_iff.1 Z).1 fun b X=>?_,Z];obtain⟨s,X,S⟩:=X;exact pq I Z X (aeY.aft S)
def afu(P:Program)(f:FuncId)(args:List AV)(mem:Mem)(R:AV→Mem→Prop):Prop:=
 VC P f∧∀base μ w Vs,GOk P base w→ae5 base μ mem w→aeV μ mem.length args Vs→
  Calls P f ⟨Vs⟩ w fun e w' =>∃V v mem' μ',e=.returned V∧aeU μ' mem'.length v V∧ae5 base μ' mem' w' ∧Step mem.length μ mem w μ' mem' w' ∧R v mem'
def kO(P:Program)(f:FuncId)(args:List AV)(mem:Mem)(v:AV) (A :Mem):Prop:=afu P f args mem fun Z X=>Z=v∧X=A
theorem afu.mono{P f args mem}{R A :AV→Mem→Prop}(h:afu P f args mem R)(G:∀v m,R v m→A v m):afu P f args mem A :=
 ⟨h.1,fun base μ w Vs h0 h1 h2=>(h.2 base μ w Vs h0 h1 h2).mono fun _ _ ⟨V,v,m,μ',a,b,c,d,r⟩=>⟨V,v,m,μ',a,b,c,d,G _ _ r⟩⟩
def afH(P:Program)(b:Nat)(args:List AV)(mem:Mem)(R:AV→Mem→Prop):Prop:=
 ∀base μ w Vs,GOk P base w→ae5 base μ mem w→aeV μ mem.length args Vs→b<mem.length→∃f Z assign X,
  (Instr.yield (μ b).blk ⟨Vs⟩).run P w=.ok (.round (μ b).blk f Z assign X) w∧
  RoundIn Fence.wide 0 P (μ b).blk f Z assign X w fun e w' =>∃V v mem' μ',e=.returned V∧aeU μ' mem'.length v V∧ae5 base μ' mem' w' ∧Step mem.length μ mem w μ' mem' w' ∧R v mem'
def pG(P:Program)(b:Nat)(args:List AV)(mem:Mem)(v:AV) (A :Mem):Prop:=afH P b args mem fun Z X=>Z=v∧X=A
def As(env:Env):Op→Option (Nat×List AV)
 |.call { callee:=.value x,args,argTypes:=_ }=>match get env x with
  |.yield b=>some (b,YI env args)
  |_=>none
 |_=>none
def GG(env:Env):Op→Option (FuncId×List AV)
 |.call { callee:=.value x,args,argTypes:=_ }=>match get env x with
  |.func f Z=>some (f,YI env args++Z)
  |_=>none
 |_=>none
def rQ(ops:Array Oper)(env:Env)(o:Oper):Option Bool:=
 match o.guard with
 |none=>some true
 |some (j,ab')=>match (ops[j]?).bind (·.dst) with
  |some d=>match ad env d with
   |.bool b=>some (b==ab')
   |.tuple []=>some false
   |_=>none
  |none=>none
def afO(env:Env)(A:Option Tmp)(v:AV):Env:=
 match A with
 |some d=>(d,v)::env
 |none=>env
structure St where
 env:Env
 mem:Mem
def DH(N:Nat)(o:Oper):Bool:=match o.dst with
 |some d=>decide (d<N)
 |none=>true
def wJ(P:Program)(T:TypeId→Option TyI)(env:Env)(mem:Mem)(o:Oper)(v:AV) (A :Mem):Prop:=
 aOp T env mem o.op=some (v,A)∨(∃f Z,GG env o.op=some (f,Z)∧kO P f Z mem v A)∨
  ∃b Z,As env o.op=some (b,Z)∧pG P b Z mem v A
def mN(P:Program)(T:TypeId→Option TyI)(N:Nat)(ops:Array Oper):List Oper→St→St→Prop
 | [],st,P' =>P' =st
 |o::os,st,P' =>∃b,rQ ops st.env o=some b∧DH N o=true∧
   (b=false→mN P T N ops os ⟨afO st.env o.dst (.tuple []),st.mem⟩ P')∧
   (b=true→∃v Z,wJ P T st.env st.mem o v Z ∧mN P T N ops os ⟨afO st.env o.dst v,Z⟩ P')
variable{o:Oper}
section
variable {P:Program}{T:TypeId→Option TyI}{μ:Nat→Place}{mem:Mem}{base:Nat}{w:World}
theorem afo.afO{n N:Nat}{env:Env}{a:Act}{v:AV}{V:Value}(h:afo μ n env a.tmps)(G:a.tmps.size=N)(A:DH N o=true)(H:aeU μ n v V):
  afo μ n (afO env o.dst v) (a.put o.dst V).tmps:=by
 unfold DH at A;cases ho:o.dst with
 |none=>simpa [Go.Eng.afO,Act.put] using h
 |some d=>
  rw[ho] at A;simp only[decide_eq_true_eq] at A;exact h.put (by rw[G];exact A) H
theorem fD(a:Act)(d:Option Tmp)(V:Value):(a.put d V).tmps.size=a.tmps.size:=by cases d<;>simp[Act.put]
theorem fQ(a:Act)(d:Option Tmp)(V:Value):(a.put d V).defers=a.defers:=by cases d<;>rfl
theorem oZ{env:Env}{n:Nat}{ops:Array Oper}{a:Act}{b:Bool}(A:afo μ n env a.tmps)(h:rQ ops env o=some b):
  Region.wanted o (yielded ops a.tmps)=b:=by
 unfold rQ at h;unfold Region.wanted;split at h
 next W=>cases h;simp[W]
 ·rename_i j X W
  simp only[W];split at h
  ·rename_i d O
   split at h
   ·rename_i M V
    cases h;have:=A d;rw[V] at this;have Z:=this.bool;simp only[yielded,O,Option.bind_some];have S:a.tmps[d]? =some (.bool M):=by
     rw[Array.getD_eq_getD_getElem?] at Z;cases hx:a.tmps[d]? with
     |none=>rw[hx] at Z;simp[undef] at Z
     |some y=>rw[hx] at Z;simp at Z;rw[Z]
    rw[S];cases M <;>cases X<;>rfl
   ·rename_i V
    cases h;have:=A d;rw[V] at this;simp only[aeU,aeV] at this;obtain⟨K,Z,rfl⟩:=this;simp only[yielded,O,Option.bind_some];rw[Array.getD_eq_getD_getElem?] at Z;cases hx:a.tmps[d]? with
    |none=>rfl
    |some y=>rw[hx] at Z;simp only[Option.getD_some] at Z;rw[Z];cases X<;>rfl
   ·cases h
  ·cases h
theorem yq(h:VC P f)(args:Array Value)(w:World):(callFunc f args).run P w=.ok (.enter f args) w:=by
 obtain⟨fn,X,Z,h3⟩:=h;have W:¬fn.body=none:=by intro e;rw[e] at Z;cases Z
 have V:¬fn.name = "runtime.NumGoroutine" := by simpa using h3
 simp[callFunc,X,V,W]
theorem Gt{T:TypeId→Option TyI}{env:Env}{mem:Mem}{A:Op}{r}(h:aOp T env mem A=some r):∀c,A≠ .defer c:=by intro c e;subst e;simp[aOp] at h
theorem rA(hT:cW P T)(hG:GOk P base w)(Y:ae5 base μ mem w){N:Nat}{env:Env}{a:Act}{v:AV}{A :Mem}(G:afo μ mem.length env a.tmps)(H:a.tmps.size=N)(I:DH N o=true)(h:wJ P T env mem o v A){K:Act→World→Prop}{Q:Exit→Act→World→Prop}(R:∀V w' μ',aeU μ' A.length v V→ae5 base μ' A w' →afo μ' A.length (afO env o.dst v) (a.put o.dst V).tmps→Step mem.length μ mem w μ' A w' →K (a.put o.dst V) w'):
  o.wpIn (Fr ro) 0 P a w K Q:=by
 refine⟨fun _ _=>trivial,?_⟩;rcases h with h | ⟨f,W,hc,S⟩ | ⟨b,W,hc,hy⟩
 ·rw[Oper.semAt_eq _ _ _ (Gt h)]
  obtain⟨N',w',μ',z,u,h3,B⟩:=TX hT Y G h;rw[z];have O :afo μ' A.length env a.tmps:=G.mono B.len B.agree;rcases u with⟨V,rfl,M⟩ | ⟨rfl,rfl⟩
  ·exact R V w' μ' M h3 (O.afO H I M) B
  ·have M:aeU μ' A.length .undef undef:=by simp[aeU]
   exact R undef w' μ' M h3 (O.afO H I M) B
 ·unfold GG at hc
  split at hc
  ·rename_i x X ts J
   split at hc
   ·rename_i f' caps m
    cases hc;have Z:=aZ G x;rw[m] at Z;simp only[aeU] at Z;obtain⟨Us,j,hus⟩:=Z;have X':(execOp a.eval o).run P w=.ok (.enter f ⟨X.toList.map a.eval++Us⟩) w:=by simp only[execOp,J,resolve,j,Deferred.ofValue,pure_bind,invoke];rw[yq S.1];congr 2;apply Array.ext';simp
    rw[Oper.semAt_eq _ _ _ (by rw[J];intro c e;cases e),X'];refine⟨fun h=>by simp[Fence.wide] at h,Ag.2 ((S.2 base μ w _ hG Y ((Aj G X.toList).append hus)).mono ?_)⟩;rintro e w' ⟨V,v',m',μ',rfl,q1,q2,q3,rfl,rfl⟩;exact R V w' μ' q1 q2 ((G.mono q3.len q3.agree).afO H I q1) q3
   ·cases hc
  ·cases hc
 ·unfold As at hc
  split at hc
  ·rename_i x X ts J
   split at hc
   ·rename_i b' m
    cases hc;have Z:=aZ G x;rw[m] at Z;simp only[aeU] at Z;obtain⟨hb,j⟩:=Z;obtain⟨f,D,asg,C,z,u⟩:=hy base μ w _ hG Y (Aj G X.toList) hb;have X':(execOp a.eval o).run P w=.ok (.round (μ b).blk f D asg C) w:=by
     rw[←z];simp only[execOp,J,resolve,j,Deferred.ofValue,pure_bind,invoke];have e: #[]++X.map a.eval=(⟨X.toList.map a.eval⟩:Array Value):=by apply Array.ext';simp
     rw[e]
    rw[Oper.semAt_eq _ _ _ (by rw[J];intro c e;cases e),X'];refine⟨fun h=>by simp[Fence.wide] at h,RoundIn.mono (F:=Fr ro) u ?_⟩;rintro e w' ⟨V,v',m',μ',rfl,q1,q2,q3,rfl,rfl⟩;exact R V w' μ' q1 q2 ((G.mono q3.len q3.agree).afO H I q1) q3
   ·cases hc
  ·cases hc
theorem wk(hT:cW P T){N:Nat}{ops:Array Oper}{Q:Exit→Act→World→Prop}:∀{l:List Oper}{A G :St}{μ:Nat→Place}{w:World}{a:Act}{m0:Nat}{μ0:Nat→Place}{mem0:Mem}{w0:World}{h0:Nat}{ro:Option Nat},
  mN P T N ops l A G →ae5 base μ A.mem w→afo μ A.mem.length A.env a.tmps→a.tmps.size=N→MOk P base h0 w a.defers→m0≤A.mem.length→Step m0 μ0 mem0 w0 μ A.mem w→
  (∀a' w' μ',ae5 base μ' G.mem w' →afo μ' G.mem.length G.env a'.tmps→a'.tmps.size=N→MOk P base h0 w' a'.defers→m0≤G.mem.length→Step m0 μ0 mem0 w0 μ' G.mem w' →Q .normal a' w')→
  wpListIn (Fr ro) 0 P ops Q l a w
 | [],A,G,μ,w,a,m0,μ0,mem0,w0,h0,ro,h,hH,hR,hN,hdf,hm,hS,hQ=>by simp only[mN] at h;subst h;exact wpListIn_nil (hQ a w μ hH hR hN hdf hm hS)
 |o::os,A,G,μ,w,a,m0,μ0,mem0,w0,h0,ro,h,hH,hR,hN,hdf,hm,hS,hQ=>by
  obtain⟨b,O,X,M,J⟩:=h;refine wpListIn_step fun K W=>?_
  rw[oZ hR O];cases b with
  |false=>
   simp only[Bool.false_eq_true,if_false];refine⟨fun _ _=>trivial,?_⟩;refine W _ _ (wk hT (M rfl) hH (hR.afO hN X (by simp[aeU,aeV,undef])) (by rw[fD];exact hN) (by rw[fQ];exact hdf) hm hS hQ)
  |true=>
   simp only[if_true];obtain⟨v,S,Z,F⟩:=J rfl;refine rA hT hdf.af7 hH hR hN X Z fun V w' μ' q1 q2 q3 q4=>W _ _ ?_
   exact wk hT F q2 q3 (by rw[fD];exact hN) (by rw[fQ];exact hdf.step hH q4) (Nat.le_trans hm q4.len) (hS.trans (q4.mono hm)) hQ
end
end Go.Eng
namespace Go.Eng
def AWP(P:Program)(tp:Bool)(N m0:Nat)(c:Code)(A:St)(Q:Exit→St→Prop):Prop:=
 ∀(X:Option Nat) (W:Nat) base μ w a,(tp=true→X=none)→ae5 base μ A.mem w→afo μ A.mem.length A.env a.tmps→a.tmps.size=N→MOk P base W w a.defers→m0≤A.mem.length→
  c.wpIn (Fr X) 0 P (fun e Z w' =>∃P' μ',ae5 base μ' P'.mem w' ∧afo μ' P'.mem.length P'.env Z.tmps∧Z.tmps.size=N∧MOk P base W w' Z.defers∧m0≤P'.mem.length∧
   Step m0 μ A.mem w μ' P'.mem w' ∧Q e P') a w
variable{Q' :Exit→St→Prop}{c:Code}{id:Nat}
section
variable {P:Program}{T:TypeId→Option TyI}{tp:Bool}{N m0:Nat}{Q:Exit→St→Prop}{st:St}
theorem AWP.mono(h:AWP P tp N m0 c st Q)(hq:∀e s,Q e s→Q' e s):AWP P tp N m0 c st Q' :=
 fun ro h0 base μ w a hro h1 h2 h3 h4 h5=>wpIn_mono (h ro h0 base μ w a hro h1 h2 h3 h4 h5) fun _ _ _ ⟨s,μ',a1,a2,a3,a4,a5,a6,a7⟩=>⟨s,μ',a1,a2,a3,a4,a5,a6,hq _ _ a7⟩
theorem Wt(h:Q .normal st):AWP P tp N m0 .skip st Q:=
 fun _ _ _ μ _ _ _ h1 h2 h3 h4 h5=>wpIn_skip ⟨st,μ,h1,h2,h3,h4,h5,.refl h5,h⟩
theorem Wq(h:Q (.exit id) st):AWP P tp N m0 (.exit id) st Q:=
 fun _ _ _ μ _ _ _ h1 h2 h3 h4 h5=>wpIn_exit ⟨st,μ,h1,h2,h3,h4,h5,.refl h5,h⟩
theorem XM(h:Q .ret st):AWP P tp N m0 .ret st Q:=
 fun _ _ _ μ _ _ _ h1 h2 h3 h4 h5=>wpIn_ret ⟨st,μ,h1,h2,h3,h4,h5,.refl h5,h⟩
def Zl(R:St→Prop)(Q:Exit→St→Prop):Exit→St→Prop
 |.normal,s=>R s
 |e,s=>Q e s
theorem xt{x y:Code}(h:AWP P tp N m0 x st (Zl (fun s=>AWP P tp N m0 y s Q) Q)):AWP P tp N m0 (.seq x y) st Q:=by
 intro ro h0 base μ w a hro h1 h2 h3 h4 h5;refine wpIn_seq (wpIn_mono (h ro h0 base μ w a hro h1 h2 h3 h4 h5) ?_);rintro e a' w' ⟨s,μ',b1,b2,b3,b4,b5,b6,b7⟩;cases e with
 |normal=>
  refine wpIn_mono (b7 ro h0 base μ' w' a' hro b1 b2 b3 b4 b5) ?_;rintro e a2 w2 ⟨s2,μ2,c1,c2,c3,c4,c5,c6,c7⟩;exact⟨s2,μ2,c1,c2,c3,c4,c5,b6.trans c6,c7⟩
 |_=>exact⟨s,μ',b1,b2,b3,b4,b5,b6,b7⟩
theorem Px{c:Operand}{x y:Code}{b:Bool}(hc:get st.env c=.bool b)(A:b=true→AWP P tp N m0 x st Q)(G:b=false→AWP P tp N m0 y st Q):
  AWP P tp N m0 (.cond c x y) st Q:=by
 intro ro h0 base μ w a hro h1 h2 h3 h4 h5;have Z:=aZ h2 c;rw[hc] at Z;exact wpIn_cond_split Z.bool (fun e=>A e ro h0 base μ w a hro h1 h2 h3 h4 h5) (fun e=>G e ro h0 base μ w a hro h1 h2 h3 h4 h5)
def Pz(id:Nat)(Q:Exit→St→Prop):Exit→St→Prop
 |.exit i,s=>if i=id then Q .normal s else Q (.exit i) s
 |e,s=>Q e s
theorem BJ(h:AWP P tp N m0 c st (Pz id Q)):AWP P tp N m0 (.block id c) st Q:=by
 intro ro h0 base μ w a hro h1 h2 h3 h4 h5;refine wpIn_block (wpIn_mono (h ro h0 base μ w a hro h1 h2 h3 h4 h5) ?_);rintro e a' w' ⟨s,μ',b1,b2,b3,b4,b5,b6,b7⟩;cases e with
 |exit i=>
  simp only[Exit.inBlock,Pz] at b7 ⊢;split at b7
  next Z=>rw[if_pos Z];exact⟨s,μ',b1,b2,b3,b4,b5,b6,b7⟩
  next Z=>rw[if_neg Z];exact⟨s,μ',b1,b2,b3,b4,b5,b6,b7⟩
 |_=>exact⟨s,μ',b1,b2,b3,b4,b5,b6,b7⟩
theorem RA(hT:cW P T){ops:Array Oper}{A :St}(h:mN P T N ops ops.toList st A)(hq:Q .normal A):
  AWP P tp N m0 (.region id ops false) st Q:=by
 intro ro h0 base μ w a hro h1 h2 h3 h4 h5;exact wpIn_region_list (wk hT h h1 h2 h3 h4 h5 (.refl h5) fun a' w' μ' c1 c2 c3 c4 c5 c6=>⟨A,μ',c1,c2,c3,c4,c5,c6,hq⟩)
theorem yV{F:Fence}{r:Nat}{σ:Type}{Q:Exit→Act→World→Prop}(I:σ→Act→World→Prop)(m:σ→Nat)(A:∀s a w,I s a w→c.wpIn F r P (Exit.then (fun W w' =>∃O,I O W w' ∧m O <m s) Q) a w):
  ∀{s a w},I s a w→(Code.loop c).wpIn F r P Q a w:=by
 intro s a w h₀ b k cs hro hb hr;have M:∀n s a w,m s=n→I s a w→
   ∃e W w',Q e W w' ∧ArrivesIn (Machine.fenced P F) P (lone (b.atR a (.code c::.inLoop c::k)) cs w) b k cs e W w' :=by
  intro n;induction n using Nat.strongRecOn with
  |_ n ih=>
   intro s a w D C;obtain⟨e,V,S,hq,Z⟩:=A s a w C b (.inLoop c::k) cs hro hb hr;cases e with
   |normal=>
    obtain⟨O,K,B⟩:=hq;obtain⟨z,u,j,J,X⟩:=ih (m O) (D▸B) O V S rfl K;exact⟨z,u,j,J,.of_steps (StepsIn.trans Z (.one (fenced_calm hb hr rfl) stepR_inLoop)) X⟩
   |exit id=>exact⟨_,V,S,hq,.pass (x:=.inLoop c) rfl (fun _ _=>.inl (by simp)) Z⟩
   |goto l=>exact⟨_,V,S,hq,.pass (x:=.inLoop c) rfl (fun _ _=>.inl (by simp)) Z⟩
   |ret=>exact⟨_,V,S,hq,.pass (x:=.inLoop c) rfl (fun _ _=>.inl (by simp)) Z⟩
   |panic ch=>exact⟨_,V,S,hq,.pass (x:=.inLoop c) rfl (fun _ _=>.inl (by simp)) Z⟩
   |outgrown=>exact⟨_,V,S,hq,.pass (x:=.inLoop c) rfl (fun _ _=>.inl (by simp)) Z⟩
 obtain⟨e,W,w',hq,Z⟩:=M _ s a w rfl h₀;exact⟨e,W,w',hq,.of_steps (.one (fenced_calm hb hr rfl) stepR_loop) Z⟩
theorem Wr{σ:Type}(I:σ→St→Prop)(m:σ→Nat){s:σ}(G:I s st)(A:∀s st,I s st→AWP P tp N m0 c st (Zl (fun Z =>∃W,I W Z ∧m W <m s) Q)):AWP P tp N m0 (.loop c) st Q:=by
 intro ro h0 base μ w a hro h1 h2 h3 h4 h5;refine yV (σ:=σ) (fun s X w' =>∃Z μ',ae5 base μ' Z.mem w' ∧afo μ' Z.mem.length Z.env X.tmps∧X.tmps.size=N∧MOk P base h0 w' X.defers∧m0≤Z.mem.length∧
   Step m0 μ st.mem w μ' Z.mem w' ∧I s Z) m ?_ (s:=s) ⟨st,μ,h1,h2,h3,h4,h5,.refl h5,G⟩
 rintro s X w' ⟨Z,μ',b1,b2,b3,b4,b5,b6,b7⟩;refine wpIn_mono (A s Z b7 ro h0 base μ' w' X hro b1 b2 b3 b4 b5) ?_;rintro e a2 w2 ⟨s2,μ2,c1,c2,c3,c4,c5,c6,c7⟩;cases e with
 |normal=>
  obtain⟨W,d1,d2⟩:=c7;exact⟨W,⟨s2,μ2,c1,c2,c3,c4,c5,b6.trans c6,d1⟩,d2⟩
 |_=>exact⟨s2,μ2,c1,c2,c3,c4,c5,b6.trans c6,c7⟩
def afP(m0:Nat)(st st1:St):Prop:=∀base μ w tmps,ae5 base μ st.mem w→afo μ st.mem.length st.env tmps→m0≤st.mem.length→
 ∃μ1,ae5 base μ1 st1.mem w∧afo μ1 st1.mem.length st1.env tmps∧m0≤st1.mem.length∧Step m0 μ st.mem w μ1 st1.mem w
theorem Wu{st1:St}(A:afP m0 st st1)(h:AWP P tp N m0 c st1 Q):AWP P tp N m0 c st Q:=by intro ro h0 base μ w a hro h1 h2 h3 h4 h5;obtain⟨μ1,Z,X,W,V⟩:=A base μ w a.tmps h1 h2 h5;refine wpIn_mono (h ro h0 base μ1 w a hro Z X h3 h4 W) ?_;rintro e a2 w2 ⟨s2,μ2,c1,c2,c3,c4,c5,c6,c7⟩;exact⟨s2,μ2,c1,c2,c3,c4,c5,V.trans c6,c7⟩
theorem afP.trans{s1 A G:St}(h:afP m0 s1 A)(H :afP m0 A G):afP m0 s1 G:=by intro base μ w tmps h1 h2 h3;obtain⟨μ1,Z,X,W,V⟩:=h base μ w tmps h1 h2 h3;obtain⟨μ2,S,O,M,K⟩:=H base μ1 w tmps Z X W;exact⟨μ2,S,O,M,V.trans K⟩
theorem afP.env{env A:Env}{mem:Mem}(h:∀t,ad A t=ad env t∨ad A t=.undef):afP m0 ⟨env,mem⟩ ⟨A,mem⟩:=by
 intro base μ w tmps h1 h2 h3;refine⟨μ,h1,fun t=>?_,h3,.refl h3⟩;rcases h t with e | e
 ·rw[e];exact h2 t
 ·rw[e];simp[aeU]
theorem AWP.ahk(h:AWP P tp N m0 c st Q')(hq:∀e s,Q' e s→∃Z,afP m0 s Z∧Q e Z):AWP P tp N m0 c st Q:=by intro ro h0 base μ w a hro h1 h2 h3 h4 h5;refine wpIn_mono (h ro h0 base μ w a hro h1 h2 h3 h4 h5) ?_;rintro e a2 w2 ⟨s2,μ2,c1,c2,c3,c4,c5,c6,c7⟩;obtain⟨Z,X,hQ⟩:=hq e s2 c7;obtain⟨μ1,W,V,S,O⟩:=X base μ2 w2 a2.tmps c1 c2 c5;exact⟨Z,μ1,W,V,c3,c4,S,c6.trans O,hQ⟩
end
end Go.Eng
namespace Go.Eng
def rho(m0:Nat)(ks:List Nat)(b:Nat):Option Nat:=if b<m0 then some b else (ks.idxOf? b).map (m0+·)
def yP(ρ:Nat→Option Nat)(env:Env):Env:=env.map fun e=>(e.1,e.2.ren ρ)
def aeY.ren(ρ:Nat→Option Nat):aeY→aeY
 |.aeP=>.aeP
 |.cells own es cs=>.cells own es (AV.ae3 ρ cs)
 |.map es=>.map (es.map fun e=>(e.1.ren ρ,e.2.ren ρ))
 |.afr es=>.afr (es.map fun e=>(e.1.ren ρ,e.2.ren ρ))
 |.loop r=>.loop { r with env:=yP ρ r.env }
def afI(m0:Nat)(ks:List Nat)(mem:Mem):Mem:=ks.map fun k=>(mem.getD k .aeP).ren (rho m0 ks)
def ae4(m0:Nat)(ks:List Nat)(mem:Mem):Mem:=(mem.take m0).map (aeY.ren (rho m0 ks))++afI m0 ks mem
def L3(m0 n:Nat)(ks:List Nat):Bool:=decide ks.Nodup&&ks.all fun k=>decide (m0≤k∧k<n)
theorem iG(ρ:Nat→Option Nat):∀(env:Env)(t:Nat),ad (yP ρ env) t=(ad env t).ren ρ
 | [],t=>by simp[yP,ad,AV.ren]
 |(k,v)::r,t=>by
  simp only[yP,List.map_cons,ad];by_cases h:k=t
  ·simp[h]
  ·simp only[h,if_false];exact iG ρ r t
variable{ks:List Nat}{p:Place}
section
variable {μ:Nat→Place}{mem:Mem}{base:Nat}{w:World}
theorem ae7.ren{μ μ' :Nat→Place}{n A base:Nat}{w:World}{s:aeY}{ρ:Nat→Option Nat}(hρ:∀b b',b<n→ρ b=some b' →b' <A ∧μ' b' =μ b)(h:ae7 μ n base w p s):ae7 μ' A base w p (s.ren ρ):=by
 cases s with
 |aeP=>trivial
 |cells own es cs=>
  simp only[ae7,aeY.ren] at h ⊢;obtain⟨K,e,fr,Z,X,h3,M,u⟩:=h;refine⟨K,e,fr,Z,X,by rw[gb,List.length_map];exact h3,fun j v J=>?_,u⟩;rw[gb,List.getElem?_map] at J;simp only[Option.map_eq_some_iff] at J;obtain⟨m,F,rfl⟩:=J;obtain⟨V,Y,R⟩:=M j m F;exact⟨V,Y,R.ren hρ⟩
 |map es=>
  simp only[ae7,aeY.ren] at h ⊢;obtain⟨D,C,Z,X,h3,M⟩:=h;refine⟨D,C,Z,X,by rw[List.length_map];exact h3,fun j e he=>?_⟩;rw[List.getElem?_map] at he;simp only[Option.map_eq_some_iff] at he;obtain⟨B,W,rfl⟩:=he;obtain⟨E,z,S,O⟩:=M j B W;exact⟨E,z,S.ren hρ,O.ren hρ⟩
 |afr es=>
  simp only[ae7,aeY.ren] at h ⊢;obtain⟨D,C,Z,X,h3,M⟩:=h;refine⟨D,C,Z,X,by rw[List.length_map];exact h3,fun j e he=>?_⟩;rw[List.getElem?_map] at he;simp only[Option.map_eq_some_iff] at he;obtain⟨B,W,rfl⟩:=he;obtain⟨E,z,S,O⟩:=M j B W;exact⟨E,z,S.ren hρ,O.ren hρ⟩
 |loop r=>
  simp only[ae7,aeY.ren] at h ⊢;obtain⟨L,Z,X,h3⟩:=h;exact⟨L,Z,X,{ h3 with tmps:=fun t=>by rw[iG];exact(h3.tmps t).ren hρ }⟩
theorem aeY.agp(ρ:Nat→Option Nat)(s:aeY):(s.ren ρ).own=s.own:=by cases s<;>rfl
theorem Cd{m0 n:Nat}(h:L3 m0 n ks=true):ks.Nodup∧∀k∈ks,m0≤k∧k<n:=by simp only[L3,Bool.and_eq_true,decide_eq_true_eq,List.all_eq_true] at h;exact h
theorem fF{m0:Nat}(A:m0≤mem.length):(ae4 m0 ks mem).length=m0+ks.length:=by simp[ae4,afI];omega
def ik(m0:Nat)(ks:List Nat)(b:Nat):Nat:=if b<m0 then b else ks.getD (b-m0) 0
theorem uG{m0:Nat}(G:m0≤mem.length)(A:L3 m0 mem.length ks=true){b:Nat}{s:aeY}(h:(ae4 m0 ks mem)[b]? =some s):
  ∃Z,mem[ik m0 ks b]? =some Z∧s=Z.ren (rho m0 ks):=by
 obtain⟨_,W⟩:=Cd A;have J:((mem.take m0).map (aeY.ren (rho m0 ks))).length=m0:=by simp;omega
 unfold ae4 at h;by_cases V:b<m0
 ·rw[List.getElem?_append_left (by omega),List.getElem?_map,List.getElem?_take_of_lt V] at h
  simp only[Option.map_eq_some_iff] at h;obtain⟨Z,X,S⟩:=h;exact⟨Z,by simpa [ik,V] using X,S.symm⟩
 ·rw[List.getElem?_append_right (by omega),J] at h
  unfold afI at h;rw[List.getElem?_map] at h;simp only[Option.map_eq_some_iff] at h;obtain⟨k,X,S⟩:=h;have O:=List.mem_of_getElem? X;obtain⟨_,K⟩:=W k O;have M:mem[k]? =some mem[k]:=by simp[K]
  refine⟨mem[k],?_,?_⟩
  ·simp[ik,V,X,K]
  ·rw[←S];simp[List.getD,M]
theorem RB{m0:Nat}(A:L3 m0 mem.length ks=true){x y:Nat}(G:x<m0+ks.length)(H:y<m0+ks.length)(h:ik m0 ks x=ik m0 ks y):x=y:=by
 obtain⟨X,W⟩:=Cd A;have Z:∀z,¬z<m0→z<m0+ks.length→m0≤ks.getD (z-m0) 0:=by
  intro z V S;have K:z-m0<ks.length:=by omega
  have:ks.getD (z-m0) 0=ks[z-m0]:=by simp[K]
  rw[this];exact(W _ (by simp)).1
 unfold ik at h;by_cases V:x<m0<;>by_cases S:y<m0<;>simp only[V,S,if_true,if_false] at h
 ·exact h
 ·have:=Z y S H;omega
 ·have:=Z x V G;omega
 ·have O :x-m0<ks.length:=by omega
  have M :y-m0<ks.length:=by omega
  have J:ks.getD (x-m0) 0=ks[x-m0]:=by simp[O]
  have F:ks.getD (y-m0) 0=ks[y-m0]:=by simp[M]
  rw[J,F] at h;have:=(List.getElem_inj X).1 h;omega
theorem ae5.ae4{m0:Nat}(H:ae5 base μ mem w)(A:m0≤mem.length)(G:L3 m0 mem.length ks=true):
  ae5 base (fun b=>μ (ik m0 ks b)) (ae4 m0 ks mem) w∧
  (∀b X,b<mem.length→rho m0 ks b=some X →X <(Eng.ae4 m0 ks mem).length∧(fun b=>μ (ik m0 ks b)) X =μ b)∧
  Step m0 μ mem w (fun b=>μ (ik m0 ks b)) (Eng.ae4 m0 ks mem) w:=by
 obtain⟨m,j⟩:=Cd G;have hρ:∀b X,b<mem.length→rho m0 ks b=some X →X <(Eng.ae4 m0 ks mem).length∧(fun b=>μ (ik m0 ks b)) X =μ b:=by
  intro b X M W;rw[fF A];unfold rho at W;by_cases Z:b<m0
  ·rw[if_pos Z] at W
   cases W;exact⟨by omega,by simp[ik,Z]⟩
  ·rw[if_neg Z] at W
   simp only[Option.map_eq_some_iff] at W;obtain⟨i,Y,rfl⟩:=W;have J :=List.idxOf?_eq_some_iff.1 Y;obtain⟨K,F,_⟩:=J;refine⟨by omega,?_⟩;simp only[ik];rw[if_neg (by omega)];have:ks.getD (m0+i-m0) 0=b:=by rw[Nat.add_sub_cancel_left];simp[K,F]
   rw[this]
 have V:∀x,eh (Eng.ae4 m0 ks mem) x→eh mem (ik m0 ks x)∧x<m0+ks.length:=by intro x D;obtain⟨s,hc,R⟩:=D;have K:=gL hc;rw[fF A] at K;obtain⟨S,Z,rfl⟩:=uG A G hc;exact⟨⟨S,Z,by rw[←aeY.agp];exact R⟩,K⟩
 refine⟨⟨H.ae1,fun b s I=>?_,fun x y s D u S' C=>?_⟩,hρ,?_⟩
 ·obtain⟨S,Z,rfl⟩:=uG A G I
  exact(H.slot _ S Z).ren hρ
 ·obtain⟨B,z⟩:=V x D
  have O:=gL u;rw[fF A] at O;obtain⟨S,Z,rfl⟩:=uG A G u;refine H.sep _ _ S B Z ?_ fun e=>C (RB G z O e)
  rintro rfl;exact S' rfl
 ·refine⟨by rw[fF A];omega,fun b M=>by simp[ik,M],rfl,rfl,rfl,Nat.le_refl _,fun _ _ _=>rfl,fun b M _=>?_,Nat.le_refl _⟩
  exact⟨_,(V b M).1,rfl⟩
theorem afP.ae4{m0:Nat}{env:Env}{mem:Mem}(ks:List Nat)(A:L3 m0 mem.length ks=true):
  afP m0 ⟨env,mem⟩ ⟨yP (rho m0 ks) env,ae4 m0 ks mem⟩:=by
 intro base μ w tmps h1 h2 h3;obtain⟨Z,X,W⟩:=h1.ae4 h3 A;refine⟨_,Z,fun t=>?_,by rw[fF h3];omega,W⟩;rw[iG];exact(h2 t).ren X
end
mutual
theorem aeU.lower{μ μ' :Nat→Place}{n A :Nat}(hμ:∀b,b<n→μ' b=μ b):∀{v V V'},aeU μ n v V→aeU μ' A v V' →aeU μ n v V'
 |.undef,_,_,_,_=>by simp[aeU]
 |.bool _,_,_,_,h=>by simpa [aeU] using h
 |.int _ _,_,_,_,h=>by simpa [aeU] using h
 |.str _,_,_,_,h=>by simpa [aeU] using h
 |.ptr b o,_,_,h,Z =>by simp only[aeU] at h Z ⊢;exact⟨h.1,by rw[←hμ b h.1];exact Z.2⟩
 |.afd,_,_,_,h=>by simpa [aeU] using h
 |.slice b o l c,_,_,h,Z =>by simp only[aeU] at h Z ⊢;exact⟨h.1,by rw[←hμ b h.1];exact Z.2⟩
 |.y9,_,_,_,h=>by simpa [aeU] using h
 |.map b,_,_,h,Z =>by simp only[aeU] at h Z ⊢;exact⟨h.1,by rw[←hμ b h.1];exact Z.2⟩
 |.yield b,_,_,h,Z =>by simp only[aeU] at h Z ⊢;exact⟨h.1,by rw[←hμ b h.1];exact Z.2⟩
 |.afl,_,_,_,h=>by simpa [aeU] using h
 |.func f S,_,_,h,Z =>by simp only[aeU] at h Z ⊢;obtain⟨O,e,h⟩:=h;obtain⟨X,W,Z⟩:=Z;exact⟨X,W,aeV.lower hμ h Z⟩
 |.nilFunc,_,_,_,h=>by simpa [aeU] using h
 |.iface t v,_,_,h,Z =>by simp only[aeU] at h Z ⊢;obtain⟨U,e,h⟩:=h;obtain⟨M,W,Z⟩:=Z;exact⟨M,W,aeU.lower hμ h Z⟩
 |.nilIface,_,_,_,h=>by simpa [aeU] using h
 |.agg S,_,_,h,Z =>by simp only[aeU] at h Z ⊢;obtain⟨O,e,h⟩:=h;obtain⟨X,W,Z⟩:=Z;exact⟨X,W,aeV.lower hμ h Z⟩
 |.tuple S,_,_,h,Z =>by simp only[aeU] at h Z ⊢;obtain⟨O,e,h⟩:=h;obtain⟨X,W,Z⟩:=Z;exact⟨X,W,aeV.lower hμ h Z⟩
theorem aeV.lower{μ μ' :Nat→Place}{n A :Nat}(hμ:∀b,b<n→μ' b=μ b):∀{vs Us Us'},aeV μ n vs Us→aeV μ' A vs Us' →aeV μ n vs Us'
 | [],_,_,_,h=>by simpa [aeV] using h
 |v::vs,_,_,h,h' =>by simp only[aeV] at h h' ⊢;obtain⟨U,K,e,V,S⟩:=h;obtain⟨O,Z,M,X,W⟩:=h';exact⟨O,Z,M,aeU.lower hμ V X,aeV.lower hμ S W⟩
end
theorem ae7.lower{μ μ' :Nat→Place}{n G base:Nat}{w w' :World}{s:aeY}(hμ:∀b,b<n→μ' b=μ b)(h:ae7 μ n base w p s)(A :ae7 μ' G base w' p s):ae7 μ n base w' p s:=by
 cases s with
 |aeP=>trivial
 |cells own es cs=>
  simp only[ae7] at h A ⊢;obtain⟨_,_,_,_,_,_,J,_⟩:=h;obtain⟨D,e,fr,Z,X,g3,F,R⟩:=A;refine⟨D,e,fr,Z,X,g3,fun j v Y=>?_,R⟩;obtain⟨V,_,I⟩:=J j v Y;obtain⟨H,C,B⟩:=F j v Y;exact⟨H,C,I.lower hμ B⟩
 |map es=>
  simp only[ae7] at h A ⊢;obtain⟨_,_,_,_,_,J⟩:=h;obtain⟨z,u,Z,X,g3,F⟩:=A;refine⟨z,u,Z,X,g3,fun j e he=>?_⟩;obtain⟨E,_,W,S⟩:=J j e he;obtain⟨m,O,M,K⟩:=F j e he;exact⟨m,O,W.lower hμ M,S.lower hμ K⟩
 |afr es=>
  simp only[ae7] at h A ⊢;obtain⟨_,_,_,_,_,J⟩:=h;obtain⟨z,u,Z,X,g3,F⟩:=A;refine⟨z,u,Z,X,g3,fun j e he=>?_⟩;obtain⟨E,_,W,S⟩:=J j e he;obtain⟨m,O,M,K⟩:=F j e he;exact⟨m,O,W.lower hμ M,S.lower hμ K⟩
 |loop r=>
  simp only[ae7] at h A ⊢;obtain⟨L,_,_,h3⟩:=h;obtain⟨L',Z,X,g3⟩:=A;exact⟨L',Z,X,{ g3 with tmps:=fun t=>(h3.tmps t).lower hμ (g3.tmps t) }⟩
theorem ae5.swap{A:Nat}{μ:Nat→Place}{G H:Mem}{w:World}(h:ae5 A μ G w)(I:H.length=G.length)(hs:∀b X,H[b]? =some X→∃Z,G[b]? =some Z∧Z.own=X.own∧(Z=.aeP→X=.aeP)∧ae7 μ G.length A w (μ b) X):ae5 A μ H w:=by
 refine⟨h.ae1,fun b s W=>?_,fun b S O W M K V=>?_⟩
 ·obtain⟨Z,_,_,_,J⟩:=hs b s W;rw[I];exact J
 ·obtain⟨s,F,D⟩:=W
  obtain⟨Z,C,B,_,_⟩:=hs b s F;obtain⟨z,u,_,m,_⟩:=hs S O M;exact h.sep b S z ⟨Z,C,by rw[B];exact D⟩ u (fun e=>K (m e)) V
end Go.Eng
namespace Go.Eng
def dX:Nat→List AV→Env
 |_,[]=>[]
 |i,v::vs=>(i,v)::dX (i+1) vs
def Zz(T:TypeId→Option TyI)(env:Env)(mem:Mem):ResultVar→Option AV
 |.tmp t=>some (ad env t)
 |.cell a t=>Rv T mem t (ad env a)
def xN(T:TypeId→Option TyI)(env:Env)(mem:Mem):List ResultVar→Option (List AV)
 | []=>some []
 |r::rs=>match Zz T env mem r,xN T env mem rs with
  |some v,some vs=>some (v::vs)
  |_,_=>none
def kq(T:TypeId→Option TyI)(A:List ResultVar)(env:Env)(mem:Mem):Option AV:=
 match xN T env mem A with
 |some [v]=>some v
 |some vs=>some (.tuple vs)
 |none=>none
def Fin(mem:Mem)(v:AV) (A :Mem)(R:AV→Mem→Prop):Prop:=
 ∃Z,L3 mem.length A.length Z=true∧
  ((A.take mem.length=mem∧R (v.ren (rho mem.length Z)) (mem++afI mem.length Z A))∨R (v.ren (rho mem.length Z)) (ae4 mem.length Z A))
variable{fn:Func}{r:Nat}
section
variable {P:Program}{T:TypeId→Option TyI}{μ:Nat→Place}{mem:Mem}{base:Nat}{w:World}
theorem xG{n:Nat}{μ:Nat→Place}:∀{vs:List AV}{Vs:List Value}(i:Nat),aeV μ n vs Vs→∀t,aeU μ n (ad (dX i vs) t) (if t<i then undef else Vs.getD (t-i) undef)
 | [],Vs,i,h,t=>by simp[dX,ad,aeU]
 |v::vs,Vs,i,h,t=>by
  simp only[aeV] at h;obtain⟨U,S,rfl,W,V⟩:=h;simp only[dX,ad];by_cases Z:i=t
  ·subst Z;simpa using W
  ·simp only[Z,if_false]
   have:=xG (i+1) V t;by_cases X:t<i
   ·rw[if_pos (by omega)] at this;rw[if_pos X];exact this
   ·rw[if_neg (by omega)] at this
    rw[if_neg X];have e:t-i=(t-(i+1))+1:=by omega
    rw[e];simpa using this
def rvS(tmps:Array Value):ResultVar→Sem Value
 |.tmp t=>pure (tmps.getD t undef)
 |.cell a t=>do loadVar t (←asAddr (tmps.getD a undef))
theorem oU(hT:cW P T)(H:ae5 base μ mem w){env:Env}{tmps:Array Value}(A:afo μ mem.length env tmps):
  ∀{G:List ResultVar}{vs:List AV},xN T env mem G=some vs→∃X,aeV μ mem.length vs X∧
   (G.mapM (rvS tmps)).run P w=.ok X w
 | [],vs,h=>by simp only[xN,Option.some.injEq] at h;subst h;exact⟨[],by simp[aeV],by simp⟩
 |r::G,vs,h=>by
  simp only[xN] at h;split at h
  ·rename_i v D Z C
   cases h;obtain⟨X,K,J⟩:=oU hT H A C;cases r with
   |tmp t=>
    simp only[Zz,Option.some.injEq] at Z;subst Z;exact⟨_::X,br.2 ⟨A t,K⟩,by rw[List.mapM_cons,rvS,pure_bind,Sem.run_bind,J];rfl⟩
   |cell a t=>
    simp only[Zz] at Z;obtain⟨V,S,B⟩:=BE (P:=P) hT H (A a) Z;refine⟨V::X,br.2 ⟨B,K⟩,?_⟩;have O:∃b o,ad env a=.ptr b o:=by
     unfold Rv at Z;split at Z
     next b o _ M=>exact⟨b,o,M⟩
     ·cases Z
    obtain⟨b,o,M⟩:=O;have F:=A a;rw[M] at F;have W:=F.ptr.2;rw[W] at S;simp only[Instr.loadAt,Instr.sureAddr,Sem.run_bind,Sem.run_pure,Result.andThen_ok] at S;rw[List.mapM_cons,rvS,W,Sem.run_bind];simp only[asAddr,pure_bind,S,Result.andThen_ok];rw[Sem.run_bind,J];rfl
  ·cases h
theorem tD(hT:cW P T)(A:ae5 base μ mem w){env:Env}{tmps:Array Value}(G:afo μ mem.length env tmps){v:AV}(h:kq T fn.results.toList env mem=some v):∃V,(results fn tmps).run P w=.ok V w∧aeU μ mem.length v V:=by
 unfold kq at h;have run:∀Z,(fn.results.toList.mapM (rvS tmps)).run P w=.ok Z w→
   (results fn tmps).run P w=.ok (if h:Z.toArray.size=1 then Z.toArray[0] else .tuple Z.toArray) w:=by
  intro Z W;unfold results;rw[Array.mapM_eq_mapM_toList,Sem.run_bind,Sem.run_map];erw [W];rfl
 split at h
 ·rename_i J S
  cases h;obtain⟨Z,X,O⟩:=oU hT A G S;simp only[aeV] at X;obtain⟨U,F,rfl,g3,rfl⟩:=X;exact⟨U,by rw[run _ O];simp,g3⟩
 ·rename_i M K S
  cases h;obtain⟨Z,X,O⟩:=oU hT A G S;refine⟨.tuple Z.toArray,?_,by simp only[aeU];exact⟨Z,rfl,X⟩⟩;rw[run _ O];have:¬Z.toArray.size=1:=by
   have:=X.length;intro e;simp at e;rw[e] at this
   match M,this with
   | [x],_=>exact K x rfl
  rw[dif_neg this]
 ·cases h
theorem zY{P:Program}{w:World}(h:w.heap[r]? =some (.deferred (some []))):
  (Instr.takeDeferred r).run P w=.ok [] { w with heap:=w.heap.setIfInBounds r (.deferred none) }:=by
 have Z:(getObj r).run P w=.ok (.deferred (some [])) w:=by simp[getObj,Sem.run,h]
 have X:(setObj r (.deferred none)).run P w=.ok () { w with heap:=w.heap.setIfInBounds r (.deferred none) }:=sG h (by intro c e f;simp);simp only[Instr.takeDeferred,Sem.run_bind,Z,Result.andThen_ok];rw[X];rfl
theorem ae5.shut{base:Nat}{μ:Nat→Place}{mem:Mem}{w:World}{r:Nat}{x y}(A:ae5 base μ mem w)(h:w.heap[r]? =some (.deferred x)):
  ae5 base μ mem { w with heap:=w.heap.setIfInBounds r (.deferred y) }:=by
 refine⟨by simpa using A.ae1,fun b s Z=>?_,A.sep⟩;by_cases h0:s=.aeP
 ·subst h0;trivial
 ·refine(A.slot b s Z).mono (Nat.le_refl _) (fun _ _=>rfl) fun _=>?_
  exact Array.getElem?_setIfInBounds_ne (Ne.symm (pq A h Z h0))
theorem Step.shut{m0:Nat}{μ μ' :Nat→Place}{mem mem' :Mem}{w w' :World}{o:Obj}(h:Step m0 μ mem w μ' mem' w')(A:w.heap.size≤r):
  Step m0 μ mem w μ' mem' { w' with heap:=w'.heap.setIfInBounds r o }:=by
 refine⟨h.len,h.agree,h.os,h.tape,h.output,by simpa using h.size,fun k Z X=>?_,h.owner,h.drawn⟩;rw[←h.frame k Z X];exact Array.getElem?_setIfInBounds_ne (by omega)
theorem MOk.shut{P:Program}{base h0 r:Nat}{w:World}{ds:List Deferred}{o:Obj}(h:MOk P base h0 w ({ target:=.collected r,args:= #[] }::ds)):
  MOk P base h0 { w with heap:=w.heap.setIfInBounds r o } ds:=by
 have V:h0≤r:=by obtain⟨q,e,Z,_⟩:=h.each _ (List.mem_cons_self ..);cases e;exact Z
 refine⟨⟨h.af7.below,?_⟩,h.ae1,by simpa using h.le,fun d W=>?_,?_⟩
 ·have:=h.af7.tab
  unfold Lib.TabIs at this ⊢;rw[←this];refine Qe fun k M=>Array.getElem?_setIfInBounds_ne ?_
  have:=h.af7.below;have:=h.ae1;omega
 ·obtain⟨q,e,Z,S⟩:=h.each d (by simp[W])
  refine⟨q,e,Z,?_⟩;have O:r≠q:=by intro X;have:=h.nodup;simp only[List.map_cons,List.nodup_cons,List.mem_map,not_exists] at this;exact this.1 d ⟨W,by rw[e,X]⟩
  show(w.heap.setIfInBounds r o)[q]? =_
  rw[Array.getElem?_setIfInBounds_ne O,S]
 ·have:=h.nodup
  simp only[List.map_cons,List.nodup_cons] at this;exact this.2
theorem rh{P:Program}{fn:Func}{tmps:Array Value}{R:Ending→World→Prop}{base m0:Nat}{μ μ0:Nat→Place}{mem mem0:Mem}{w0:World}:
  ∀(ds:List Deferred) (w:World),MOk P base w0.heap.size w ds→ae5 base μ mem w→Step m0 μ0 mem0 w0 μ mem w→
   (∀w',ae5 base μ mem w' →Step m0 μ0 mem0 w0 μ mem w' →∃v,(results fn tmps).run P w' =.ok v w' ∧R (.returned v) w')→
   LeavesInM (Fr none) 0 P fn tmps R ds .returning w
 | [],w,_,hH,hS,hq=>hq w hH hS
 |d::ds,w,hM,hH,hS,hq=>by obtain⟨r,rfl,X,Z⟩:=hM.each d (by simp);refine⟨by simp,.inl ⟨r,_,rfl,zY Z,?_⟩⟩;exact rh ds _ hM.shut (hH.shut Z) (hS.shut X) hq
theorem afu.intro(hT:cW P T){f:FuncId}{c:Code}{args:List AV}{mem:Mem}{R:AV→Mem→Prop}(hf:P.funcs[f]? =some fn)(A:fn.body=some c)(hn:(fn.name == "runtime.NumGoroutine")=false)(hl:args.length≤fn.ntmps)(h:AWP P true fn.ntmps mem.length c ⟨dX 0 args,mem⟩ fun e X =>(e=.normal∨e=.ret)∧∃v,kq T fn.results.toList X.env X.mem=some v∧Fin mem v X.mem R):
  afu P f args mem R:=by
 refine⟨⟨fn,hf,by simp[A],hn⟩,fun base μ w Vs hG hH hV=>?_⟩;refine Ag.1 (callsIn_of_wp_marks (F:=Fr none) (n:=0) hf A trivial (wpIn_mono (h none w.heap.size base μ w _ (fun _=>rfl) hH ?_ ?_ (MOk.nil w hG hH.ae1 (Nat.le_refl _)) (Nat.le_refl _)) ?_) rfl)
 ·intro t
  have:=xG 0 hV t;simp only[Nat.not_lt_zero,if_false,Nat.sub_zero] at this;by_cases ht:t<Vs.length
  ·have e:(⟨Vs⟩++Array.replicate (fn.ntmps-(⟨Vs⟩:Array Value).size) undef:Array Value).getD t undef=Vs.getD t undef:=by simp only[Array.getD_eq_getD_getElem?];rw[Array.getElem?_append_left (by simpa using ht)];simp[List.getD]
   show aeU μ mem.length (ad (dX 0 args) t) ((⟨Vs⟩++Array.replicate (fn.ntmps-(⟨Vs⟩:Array Value).size) undef:Array Value).getD t undef)
   rw[e];exact this
  ·have:ad (dX 0 args) t=.undef:=by
    have u:=hV.length;have:∀(J:List AV) (i:Nat),i+J.length≤t→ad (dX i J) t=.undef:=by
     intro J;induction J with
     |nil=>intro i _;rfl
     |cons v J ih=>
      intro i hi;simp only[List.length_cons] at hi;simp only[dX,ad];rw[if_neg (by omega)];exact ih (i+1) (by omega)
    exact this args 0 (by omega)
   show aeU μ mem.length (ad (dX 0 args) t) _
   rw[this];simp[aeU]
 ·simp only[Array.size_append,List.size_toArray,Array.size_replicate,hV.length];omega
 ·rintro e a' w' ⟨X,μ',b1,b2,b3,b4,b5,b6,he,v,hv,ks,hks,hR⟩
  have O:LeavesInM (Fr none) 0 P fn a'.tmps (fun e w' =>∃V v mem' μ',e=.returned V∧aeU μ' mem'.length v V∧ae5 base μ' mem' w' ∧Step mem.length μ mem w μ' mem' w' ∧R v mem') a'.defers .returning w' :=by
   refine rh a'.defers w' b4 b1 b6 fun w2 Y D=>?_
   obtain⟨V,I,m⟩:=tD (P:=P) (fn:=fn) hT Y b2 hv;obtain⟨H,c2,c3⟩:=Y.ae4 b5 hks;refine⟨V,I,?_⟩;rcases hR with⟨W,G⟩ | G
   ·have u:(mem++afI mem.length ks X.mem).length=(ae4 mem.length ks X.mem).length:=by rw[fF b5];simp[afI]
    have C:∀b Z,(mem++afI mem.length ks X.mem)[b]? =some Z→∃B,(ae4 mem.length ks X.mem)[b]? =some B∧B.own=Z.own∧(B=.aeP→Z=.aeP)∧
      ae7 (fun b=>μ' (ik mem.length ks b)) (ae4 mem.length ks X.mem).length base w2 (μ' (ik mem.length ks b)) Z:=by
     intro b Z A;unfold ae4;rw[W];by_cases M:b<mem.length
     ·rw[List.getElem?_append_left M] at A
      refine⟨Z.ren (rho mem.length ks),by rw[List.getElem?_append_left (by simpa using M),List.getElem?_map,A];rfl,aeY.agp _ _,?_,?_⟩
      ·intro h;cases Z<;>simp[aeY.ren] at h ⊢
      ·have acQ:ik mem.length ks b=b:=by simp[ik,M]
       rw[acQ];have z:=hH.slot b Z A;have K:=Y.slot b Z (by rw[←A,←W,List.getElem?_take_of_lt M]);rw[D.agree b M] at K ⊢;have g3:=ae7.lower (w' :=w2) (fun b A=>D.agree b A) z K;refine g3.mono ?_ (fun b A=>?_) fun _=>rfl
       ·simp[afI]
       ·show μ' (ik mem.length ks b)=μ b
        rw[show ik mem.length ks b=b by simp[ik,A],D.agree b A]
     ·have j :(ae4 mem.length ks X.mem)[b]? =some Z:=by unfold ae4;rw[W,List.getElem?_append_right (by simp;omega)];rw[List.getElem?_append_right (by omega)] at A;simpa using A
      have:=H.slot b Z j;unfold ae4 at j this;rw[W] at j this;exact⟨Z,j,rfl,id,this⟩
    have hsw:=H.swap u C;refine⟨V,_,_,_,rfl,m.ren fun b b' z K=>?_,hsw,?_,G⟩
    ·obtain⟨g3,g4⟩:=c2 b b' z K
     exact⟨by rw[u];exact g3,g4⟩
    ·have S:=D.trans c3
     refine⟨by rw[u];exact S.len,S.agree,S.os,S.tape,S.output,S.size,S.frame,fun b A M=>?_,S.drawn⟩;obtain⟨s,z,K⟩:=A;obtain⟨B,I,m,_,_⟩:=C b s z;exact S.owner b ⟨B,I,by rw[m];exact K⟩ M
   ·exact⟨V,_,_,_,rfl,m.ren c2,H,D.trans c3,G⟩
  rcases he with rfl | rfl
  ·exact O
  ·exact O
end
end Go.Eng
