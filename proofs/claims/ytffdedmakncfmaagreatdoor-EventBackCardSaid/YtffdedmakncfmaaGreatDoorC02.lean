/- See C54. -/
import Derived.Test.YtffdedmakncfmaaGreatDoorC01
import Derived.Lib.UnsafeStr
import Derived.RangeFuncLeaves
import Derived.OrdersIn
import Derived.TacticsIn
import Derived.Lib.ItoaNum
import Derived.Lib.LaidTab
set_option linter.all false
namespace Go.Eng
variable{V X:Value}{cs:List AV}{mem' :Mem}{v x:AV}
section
variable {P:Program}{T:TypeId→Option TyI}{μ:Nat→Place}{mem:Mem}{base:Nat}{w:World}
def agV(P:Program)(x:Sem Value)(base:Nat) (μ:Nat→Place)(mem:Mem)(w:World)(v:AV) (mem' :Mem):Prop:=
 ∃V w' μ',x.run P w=.ok V w' ∧afQ μ' mem'.length v V∧af3 base μ' mem' w' ∧Step mem.length μ mem w μ' mem' w'
theorem agV.agb{x:Sem Value}(y:af3 base μ mem w)(h:Val P x w μ mem.length v):agV P x base μ mem w v mem:=by obtain⟨V,Z,U⟩:=h;exact⟨V,w,μ,Z,U,y,.refl (Nat.le_refl _)⟩
theorem tZ(I:af3 base μ mem w)(e:TypeId)(y:Array Value)(es:Nat)(H:1000≤es→e+1=es / 1000)(cs:List AV)(h:∀(j:Nat) v,cs[j]? =some v→∃V,y[j]? =some V∧afQ μ mem.length v V):
  af3 base (upd μ mem.length ⟨w.heap.size,0,y.size,es%1000⟩) (mem++[.cells true es cs]) (w.alloc (.cells y e))∧
  Step mem.length μ mem w (upd μ mem.length ⟨w.heap.size,0,y.size,es%1000⟩) (mem++[.cells true es cs]) (w.alloc (.cells y e)):=by
 refine I.push _ _ _ rfl ?_;simp only[af5];refine⟨y,e,(0,0),heap_alloc_new w _,⟨rfl,H⟩,?_,fun j v Z=>?_,fun _=>by simp;exact I.afY⟩
 ·rcases Nat.eq_zero_or_pos cs.length with h0 | h0
  ·omega
  ·obtain⟨V,hV,_⟩:=h (cs.length-1) cs[cs.length-1] (by simp)
   have:=(Array.getElem?_eq_some_iff.1 hV).1;omega
 ·obtain⟨V,hV,U⟩:=h j v Z
  exact⟨V,by simpa using hV,U.mono (Nat.le_succ _) fun b S=>xR S⟩
theorem zd{n:Nat}{vs:List AV}{cur Vs:List Value}{o:Nat}(H:o+vs.length≤cs.length)(h:∀(j:Nat) v,cs[j]? =some v→∃V,cur[j]? =some V∧afQ μ n v V)(y:afS μ n vs Vs):
  ∀(j:Nat) v,(cs.take o++vs++cs.drop (o+vs.length))[j]? =some v→∃V,(cur.take o++Vs++cur.drop (o+Vs.length))[j]? =some V∧afQ μ n v V:=by
 have N:=y.length;have S:cs.length≤cur.length:=by
  rcases Nat.eq_zero_or_pos cs.length with h0 | h0
  ·omega
  ·obtain⟨V,hV,_⟩:=h (cs.length-1) cs[cs.length-1] (by simp)
   have:=gL hV;omega
 have R:(cs.take o).length=o:=by simp;omega
 have Q:(cur.take o).length=o:=by simp;omega
 intro j v Z;rw[List.append_assoc] at Z ⊢;by_cases U:j<o
 ·rw[List.getElem?_append_left (by omega),List.getElem?_take_of_lt U] at Z
  rw[List.getElem?_append_left (by omega),List.getElem?_take_of_lt U];exact h j v Z
 ·rw[List.getElem?_append_right (by omega),R] at Z
  rw[List.getElem?_append_right (by omega),Q];by_cases O:j-o<vs.length
  ·rw[List.getElem?_append_left O] at Z
   rw[List.getElem?_append_left (by omega)];exact y.get _ v Z
  ·rw[List.getElem?_append_right (by omega),List.getElem?_drop] at Z
   rw[List.getElem?_append_right (by omega),List.getElem?_drop];rw[show o+Vs.length+(j-o-Vs.length)=o+vs.length+(j-o-vs.length) by omega];exact h _ v Z
def HP(T:TypeId→Option TyI)(e:TypeId)(i:TyI):Bool:=match i.desc with
 |.struct fs=>match fs[0]? with
  |some f=>match T f.type with
   |some k=>match k.desc with
    |.pointer e' =>e' ==e
    |_=>false
   |none=>false
  |none=>false
 |_=>false
def ux(T:TypeId→Option TyI)(mem:Mem)(e:TypeId):Option (AV×Mem):=
 match T e with
 |some i=>some (.ptr mem.length 0,mem++[.cells true (if HP T e i then 1000*(e+1) else 0) (jI i.zero).cells])
 |none=>none
theorem zR(H:af3 base μ mem w)(e:TypeId)(es:Nat)(y:1000≤es→e+1=es / 1000)(h:afS μ mem.length cs V.cells.toList):
  agV P (do pure (.pointer (some (←newVar e V)))) base μ mem w (.ptr mem.length 0) (mem++[.cells true es cs]):=by
 obtain⟨Z,S⟩:=tZ H e V.cells es y cs (fun j v R=>by obtain⟨U,Q,O⟩:=h.get j v R;exact⟨U,by simpa using Q,O⟩)
 refine⟨.pointer (some ⟨w.heap.size,0,none⟩),_,_,?_,?_,Z,S⟩
 ·simp only[newVar,newRow,Sem.run_bind,run_newObj,Result.andThen_ok,Sem.run_pure]
  rfl
 ·simp[afQ,eI]
theorem Lw(hT:cX P T)(y:af3 base μ mem w){e:TypeId}(h:ux T mem e=some (v,mem')):
  agV P (Instr.alloc e true (.tuple #[])) base μ mem w v mem' :=by
 unfold ux at h;split at h
 ·rename_i i Z
  cases h;have:=zR (P:=P) y e (if HP T e i then 1000*(e+1) else 0) (by cases HP T e i with | false=>simp | true=>simp only[if_true];intro _;rw[Nat.mul_div_cancel_left _ (by omega)]) (V:=i.zero) (j9 μ mem.length i.zero);obtain⟨V,w',μ',U,S⟩:=this;refine⟨V,w',μ',?_,S⟩;simp only[Instr.alloc,Sem.run_bind,eJ hT Z,Result.andThen_ok];exact U
 ·cases h
def Yz(mem:Mem)(x:AV):Option (AV×Mem):=if x.known then some (.ptr mem.length 0,mem++[.cells true 0 x.cells]) else none
theorem RU(y:af3 base μ mem w){e:TypeId}(H:afQ μ mem.length x X)(h:Yz mem x=some (v,mem')):
  agV P (Instr.box e X) base μ mem w v mem' :=by
 unfold Yz at h;split at h
 ·rename_i Z
  cases h;exact zR (P:=P) y e 0 (by omega) (H.cells Z)
 ·cases h
theorem LH(hT:cX P T)(H:af3 base μ mem w){t:TypeId}(I:afQ μ mem.length x X)(y:afQ μ mem.length v V)(h:uy T mem t x v=some mem'):∃w',(Instr.storeAt t X V).run P w=.ok () w' ∧af3 base μ mem' w' ∧Step mem.length μ mem w μ mem' w' :=by
 unfold uy at h;split at h
 ·rename_i i b o ht
  split at h
  ·rename_i es cs O
   split at h
   ·rename_i B
    cases h;simp only[Bool.and_eq_true,decide_eq_true_eq,List.all_eq_true] at B;obtain⟨⟨⟨L,S⟩,K⟩,G⟩:=B;obtain⟨hbn,rfl⟩:=I.ptr;have m:=H.slot b _ O;simp only[af5] at m;obtain⟨Z,el,fr,Y,g2,g3,W,g5⟩:=m;obtain⟨N,g7,g8,g9⟩:=g5 trivial;subst g7;have R:=y.cells L;have Q:V.cells.size=i.size:=by rw[←Array.length_toList,R.length,S]
    have h1:∀u∈V.cells.toList,u.oneCell' =true:=by
     intro u F;obtain⟨j,J⟩:=List.getElem?_of_mem F;have D :j<v.cells.length:=by rw[←R.length];exact(gL J)
     obtain⟨U,M,C⟩:=R.get j v.cells[j] (by simp[D]);rw[J] at M;cases M;exact C.ahc (G _ (by simp))
    have Z6:=run_storeCells_at (P:=P) (μ b).blk o el V.cells.toList 0 Z w Y (by rw[R.length,S];omega) h1;refine⟨w.setRow (μ b).blk (Z.toList.take (o+0)++V.cells.toList++Z.toList.drop (o+0+V.cells.toList.length)).toArray,?_,H.write O (kc O) (fun _=>⟨_,List.getElem?_set_self (gL O),rfl⟩) rfl rfl rfl rfl (by simp[World.setRow]) (fun k L=>setRow_other w _ k _ L) ?_⟩
    ·simp only[Instr.storeAt,Instr.sureAddr,Sem.run_bind,Sem.run_pure,Result.andThen_ok,storeVar,cN hT ht,Q,ne_eq,not_true_eq_false,if_false,N,Nat.zero_add]
     exact Z6
    ·simp only[af5]
     refine⟨_,el,(0,0),setRow_heap w (μ b).blk Z _ el (0,0) Y,g2,?_,fun j u F=>?_,fun _=>⟨N,rfl,?_,g9⟩⟩
     ·simp only[List.length_append,List.length_take,List.length_drop,S];omega
     ·rw[N] at W
      have:=zd (cs:=cs) (vs:=v.cells) (Vs:=V.cells.toList) (o:=o) (cur:=Z.toList) (by rw[S];exact K) (fun j v y=>by simpa using W j v y) R j u (by rw[S];exact F);obtain⟨U,M,C⟩:=this;refine⟨U,?_,C⟩;rw[N];simpa using M
     ·simp only[List.size_toArray,List.length_append,List.length_take,List.length_drop,Array.length_toList,Q];omega
   ·cases h
  ·cases h
 ·cases h
end
end Go.Eng
namespace Go.Eng
section
variable {P:Program}{T:TypeId→Option TyI}{μ:Nat→Place}{mem:Mem}{base:Nat}{w:World}
def fY(z:List AV):Nat→List AV
 |0=>[]
 |k+1=>z++fY z k
theorem ix(z:List AV):∀k,(fY z k).length=k*z.length
 |0=>by simp[fY]
 |k+1=>by simp[fY,ix z k,Nat.add_mul,Nat.add_comm]
theorem uh{n:Nat}{z:List AV}{Z:Array Value}(hz:afS μ n z Z.toList):∀(k:Nat) (j:Nat) v,(fY z k)[j]? =some v→
  ∃V,Z[j%Z.size]! =V∧afQ μ n v V∧j<k*Z.size
 |0,j,v,h=>by simp[fY] at h
 |k+1,j,v,h=>by
  have X:Z.size=z.length:=by rw[←Array.length_toList,hz.length]
  rw[fY] at h;by_cases S:j<z.length
  ·rw[List.getElem?_append_left S] at h
   obtain⟨V,hV,U⟩:=hz.get j v h;refine⟨V,?_,U,by rw[X,Nat.add_mul];omega⟩;rw[Nat.mod_eq_of_lt (by omega)];have:Z[j]? =some V:=by simpa using hV
   simp[getElem!_def,this]
  ·rw[List.getElem?_append_right (by omega)] at h
   obtain⟨V,hV,U,R⟩:=uh hz k (j-z.length) v h;refine⟨V,?_,U,by rw[X] at R ⊢;rw[Nat.add_mul];omega⟩;rw[←hV,X];congr 1;rw[Nat.mod_eq_sub_mod (by omega)]
theorem F1{Z:Array Value}{m j:Nat}(h:j<m):((Array.range m).map (fun i=>Z[i%Z.size]!))[j]? =some (Z[j%Z.size]!):=by simp[h]
def gh(T:TypeId→Option TyI)(mem:Mem)(t:TypeId)(y:Nat)(parts:List (Nat×AV)):Option (AV×Mem):=
 match T t with
 |none=>none
 |some i=>
  match i.desc with
  |.slice e=>
   match T e with
   |none=>none
   |some j=>
    if y*j.size≤16777216∧0<j.size∧j.size<1000 then
     match qX (fun k=>some (k*j.size,j.size)) (fY (jI j.zero).cells y) parts with
     |some cs=>some (.slice mem.length 0 y none,mem++[.cells true j.size cs])
     |none=>none
    else none
  |_=>none
theorem yF(hT:cX P T)(hH:af3 base μ mem w){t:TypeId}{y:Nat}{parts:List (Nat×AV)}{H:List (Nat×Value)}{v:AV}{I :Mem}(hp:H.map (·.1)=parts.map (·.1))(hv:afS μ mem.length (parts.map (·.2)) (H.map (·.2)))(h:gh T mem t y parts=some (v,I)):
  agV P (Instr.buildSlice t y ⟨H⟩) base μ mem w v I :=by
 unfold gh at h;cases ht:T t with
 |none=>rw[ht] at h;cases h
 |some i=>
  rw[ht] at h;simp only at h;have B:=(hT t i ht).desc;split at h
  ·rename_i e F'
   rw[F'] at B;split at h
   ·cases h
   ·rename_i j M
    split at h
    ·rename_i o
     split at h
     ·rename_i cs Y
      cases h;have W:=j9 μ mem.length j.zero;have R:=(hT e j M).ahe;have Q:(jI j.zero).cells.length=j.size:=by rw[←W.length,Array.length_toList,R]
      have L:afS μ mem.length (fY (jI j.zero).cells y) ((Array.range (y*j.size)).map (fun i=>j.zero.cells[i%j.zero.cells.size]!)).toList:=by
       refine afS.agT (by simp[ix,Q]) fun q u K=>?_
       obtain⟨V,G,F,h3⟩:=uh W y q u K;refine⟨V,?_,F⟩;have:=F1 (Z:=j.zero.cells) (m:=y*j.size) (j:=q) (by rw[R] at h3;exact h3);rw[G] at this;rw[Array.getElem?_toList];exact this
      obtain⟨J,hF,O⟩:=tS Y L hp hv;obtain⟨G,F⟩:=tZ hH e ⟨J⟩ j.size (by omega) cs (fun q u K=>by obtain⟨U,hU,hr⟩:=O.get q u K;exact⟨U,by simpa using hU,hr⟩)
      have G':J.length=y*j.size:=by
       rw[O.length];have:∀{pl:Nat→Option (Nat×Nat)}{N:List (Nat×AV)}{a b:List AV},qX pl a N=some b→b.length=a.length:=by
        intro pl N;induction N with
        |nil=>intro a b X;simp only[qX,Option.some.injEq] at X;rw[X]
        |cons p N ih=>
         obtain⟨pi,pv⟩:=p;intro a b X;rw[qX] at X;cases hpl:pl pi with
         |none=>rw[hpl] at X;cases X
         |some os=>
          obtain⟨off,size⟩:=os;rw[hpl] at X;simp only at X;split at X
          ·rename_i D
           simp only[Bool.and_eq_true,decide_eq_true_eq] at D;rw[ih X];simp only[List.length_append,List.length_take,List.length_drop];omega
          ·cases X
       rw[this Y,ix,Q]
      refine⟨.slice (some ⟨w.heap.size,0,none⟩) y y,_,_,?_,?_,G,F⟩
      ·simp only[Instr.buildSlice,Sem.run_bind,run_underlying B,Result.andThen_ok,cN hT M]
       rw[if_neg (by omega)];have S :=hF;rw[show(⟨((Array.range (y*j.size)).map (fun i=>j.zero.cells[i%j.zero.cells.size]!)).toList⟩:Array Value)=(Array.range (y*j.size)).map (fun i=>j.zero.cells[i%j.zero.cells.size]!) from rfl] at S;by_cases C:y*j.size=0
       ·rw[if_pos C]
        rw[C] at S ⊢;simp only[Sem.run_bind,Sem.run_pure,Result.andThen_ok,Array.range_zero',Array.map_empty] at S ⊢;rw[S];simp only[newRow,Sem.run_bind,run_newObj,Result.andThen_ok,Sem.run_pure];rfl
       ·rw[if_neg C]
        simp only[Sem.run_bind,Sem.run_pure,Result.andThen_ok,eJ hT M];rw[S];simp only[newRow,Sem.run_bind,run_newObj,Result.andThen_ok,Sem.run_pure];rfl
      ·simp only[afQ,eI,kH,List.length_append,List.length_singleton]
       refine⟨by omega,?_⟩;simp only[Nat.sub_zero,G',List.size_toArray,Nat.mod_eq_of_lt o.2.2,Nat.mul_div_cancel _ o.2.1]
     ·cases h
    ·cases h
  ·cases h
end
variable{n:Int}
theorem af(h0: -9223372036854775808≤n:=by omega)(Z:n≤9223372036854775807:=by omega):IntKind.i64.wrap n=n:=by simp only[IntKind.wrap,IntKind.bits,IntKind.signed,Bool.true_and,ge_iff_le,decide_eq_true_eq,Nat.reduceSub];split<;>omega
theorem cG(h0:0≤n)(h1:n≤18446744073709551615):IntKind.u64.wrap n=n:=by simp only[IntKind.wrap,IntKind.bits,IntKind.signed,Bool.false_and,Bool.false_eq_true,if_false];omega
section
variable {P:Program}{T:TypeId→Option TyI}{μ:Nat→Place}{mem:Mem}{base:Nat}{w:World}
def lf(T:TypeId→Option TyI)(mem:Mem)(t:TypeId)(l c:AV):Option (AV×Mem):=
 match T t with
 |none=>none
 |some i=>
  match i.desc,l,c with
  |.slice e,.int _ l,.int _ c=>
   match T e with
   |none=>none
   |some j=>
    if 0≤l∧l≤c∧(j.bytes:Int)*c≤281474976710656∧c≤281474976710656∧0<j.size∧j.size<1000 then
     some (.slice mem.length 0 l.toNat none,mem++[.cells true j.size (fY (jI j.zero).cells l.toNat)])
    else none
  |_,_,_=>none
theorem AQ(hT:cX P T)(H:af3 base μ mem w){t:TypeId}{l c v:AV}{L C:Value}{y :Mem}(I:afQ μ mem.length l L)(hc:afQ μ mem.length c C)(h:lf T mem t l c=some (v,y)):
  agV P (Instr.makeSlice t L C) base μ mem w v y :=by
 unfold lf at h;cases ht:T t with
 |none=>rw[ht] at h;cases h
 |some i=>
  rw[ht] at h;simp only at h;have G:=(hT t i ht).desc;split at h
  ·rename_i e k1 l k2 c D
   rw[D] at G;split at h
   ·cases h
   ·rename_i j S
    split at h
    ·rename_i R
     obtain⟨g1,g2,g3,g4,B,o⟩:=R;cases h;rw[I.int,hc.int];have F:=j9 μ mem.length j.zero;have X:=(hT e j S).ahe;have Y:(jI j.zero).cells.length=j.size:=by rw[←F.length,Array.length_toList,X]
     obtain⟨f,W,J,U,hfz⟩:=z8 hT S w;have w1:IntKind.i64.wrap l=l:=af;have w2:IntKind.i64.wrap c=c:=af;obtain⟨h1,h2⟩:=tZ H e ((Array.range (c.toNat*j.size)).map (fun i=>j.zero.cells[i%j.zero.cells.size]!)) j.size (by omega) (fY (jI j.zero).cells l.toNat) (fun q u hu=>by obtain⟨V,e1,e2,e3⟩:=uh F _ q u hu;refine⟨V,?_,e2⟩;rw[X] at e3;have hle:l.toNat*j.size≤c.toNat*j.size:=Nat.mul_le_mul_right _ (by omega);have:=F1 (Z:=j.zero.cells) (m:=c.toNat*j.size) (j:=q) (by omega);rw[e1] at this;exact this)
     refine⟨.slice (some ⟨w.heap.size,0,none⟩) l.toNat c.toNat,_,_,?_,?_,h1,h2⟩
     ·have hb:¬(281474976710656<(f.bytes:Int)*c):=by rw[U];omega
      have hb2:¬((f.bytes:Int)*c>2 ^ 48):=by rw[U];omega
      have Q:¬c<0:=by omega
      have O:¬l<0:=by omega
      have N:¬l>c:=by omega
      simp only[Instr.makeSlice,Sem.run_bind,run_underlying G,asInt,asIntOf,Sem.run_pure,Result.andThen_ok,W,w1,w2];have Y':((decide (c<0)||decide ((f.bytes:Int)*c>2 ^ 48))||decide (l<0)||decide (l>c))=false:=by simp[Q,O,N,hb]
      simp only[Y',Bool.false_eq_true,if_false];have M:∀n,(askRoom n).run P w=.ok () w:=by intro n;unfold askRoom;split<;>simp[mark,Sem.run]
      simp only[Sem.run_bind,M,Result.andThen_ok,cN hT S];by_cases K:c.toNat*j.size=0
      ·rw[if_pos K]
       rw[K];simp only[Sem.run_bind,Sem.run_pure,Result.andThen_ok,Array.range_zero',Array.map_empty,newRow,run_newObj];rfl
      ·rw[if_neg K]
       simp only[Sem.run_bind,Sem.run_pure,Result.andThen_ok,eJ hT S,newRow,run_newObj];rfl
     ·simp only[afQ,eI,kH,List.length_append,List.length_singleton]
      refine⟨by omega,?_⟩;simp only[Nat.sub_zero,Array.size_map,Array.size_range,Nat.mod_eq_of_lt o,Nat.mul_div_cancel _ B]
    ·cases h
  ·cases h
def nM(T:TypeId→Option TyI)(mem:Mem)(y:Nat)(t2:TypeId):AV→Option (Nat×List AV)
 |.qF=>some (0,[])
 |.slice b o m _=>match mem[b]? with
  |some (.cells _ _ cs)=>if o+m*y≤cs.length then some (m,(cs.drop o).take (m*y)) else none
  |_=>if m=0 then some (0,[]) else none
 |.str s=>match T t2 with
  |some i=>match i.desc with
   |.string=>if y=1 then some (s.length,s.map fun c=>.int .u8 c.toNat) else none
   |_=>none
  |none=>none
 |_=>none
def A7(i:TyI):Bool:=match i.desc with
 |.slice _=>true
 |.string=>true
 |_=>false
def zb(j:TyI)(e:TypeId):Nat:=match j.desc with
 |.int .u8=>j.size+1000*(e+1)
 |_=>j.size
def qg(T:TypeId→Option TyI)(mem:Mem)(t t2:TypeId)(s x:AV):Option (AV×Mem):=
 match T t with
 |none=>none
 |some i=>
  match i.desc with
  |.slice e=>
   match T e,T t2 with
   |some j,some i2=>
    if j.size=0∨1000≤j.size∨A7 i2=false then none else
    match nM T mem j.size t2 x with
    |none=>none
    |some (m,news)=>
     if news.all AV.afR=true then
      match s with
      |.qF=>
       if m=0 then some (.qF,mem)
       else if m*j.bytes≤140737488355328∧m≤140737488355328 then some (.slice mem.length 0 m none,mem++[.cells true (zb j e) news])
       else none
      |.slice b 0 n none=>
       match mem[b]? with
       |some (.cells true es cs)=>
        if (es=j.size∨es=zb j e)∧n*j.size≤cs.length∧(n+m)*j.bytes≤140737488355328∧n+m≤140737488355328 then
         some (.slice mem.length 0 (n+m) none,mem.set b .qK++[.cells true es (cs.take (n*j.size)++news)])
        else none
       |_=>none
      |_=>none
     else none
   |_,_=>none
  |_=>none
theorem uG(I:af3 base μ mem w){y:Nat}{t2:TypeId}{x:AV}{X:Value}{m:Nat}{news:List AV}(H:afQ μ mem.length x X)(h:nM T mem y t2 x=some (m,news)):
  ∃R,afS μ mem.length news R∧news.length=m*y∧(Builtin.lenOf X).run P w=.ok m w∧
   ∀w',(∀a,w'.cell? a=w.cell? a)→(Builtin.firstCells y m X).run P w' =.ok ⟨R⟩ w' :=by
 unfold nM at h;split at h
 ·cases h
  simp only[afQ] at H;subst H;exact⟨[],by simp[afS],by simp,by simp[Builtin.lenOf],fun w' _=>by simp[Builtin.firstCells]⟩
 ·rename_i b o k c
  split at h
  ·rename_i own es F N
   split at h
   ·rename_i V
    cases h;obtain⟨U,rfl⟩:=H.slice;obtain⟨Q,M,L,h3⟩:=I.cells N V;refine⟨Q,M,by simp;omega,by simp[Builtin.lenOf],fun w' O=>?_⟩;exact run_firstCells_some w' y m _ _ _ Q L (fun j v Z=>by rw[O];exact h3 j v Z)
   ·cases h
  ·split at h
   ·rename_i K
    cases h;subst K;obtain⟨U,rfl⟩:=H.slice;refine⟨[],by simp[afS],by simp,by simp[Builtin.lenOf],fun w' O=>?_⟩;exact run_firstCells_some w' y 0 _ _ _ [] (by simp) (fun j v Z=>by simp at Z)
   ·cases h
 ·rename_i s
  split at h
  ·split at h
   ·split at h
    ·rename_i S
     cases h;subst S;rw[H.str];refine⟨s.map fun c=>.int .u8 c.toNat,?_,by simp,by simp[Builtin.lenOf,tM],fun w' _=>?_⟩
     ·refine afS.agT (by simp) fun i v Z=>?_
      simp only[List.getElem?_map,Option.map_eq_some_iff] at Z ⊢;obtain⟨c,G,rfl⟩:=Z;exact⟨_,⟨c,G,rfl⟩,by simp[afQ]⟩
     ·simp only[Builtin.firstCells,Sem.run_pure,Result.ok.injEq,and_true]
      have:(ByteArray.mk s.toArray).extract 0 s.length=⟨s.toArray⟩:=by apply ByteArray.ext;apply Array.ext';simp[List.extract]
      rw[this];simp
    ·cases h
   ·cases h
  ·cases h
 ·cases h
end
end Go.Eng
namespace Go.Eng
variable{b:Nat}{j:TyI}
section
variable {P:Program}{T:TypeId→Option TyI}{μ:Nat→Place}{mem:Mem}{base:Nat}{w:World}
section
variable (hT:cX P T){t t2 ty e:TypeId}(hd:P.underlying t=some (.slice e))(hj:T e=some j)(ht2:(∃e2,P.underlying t2=some (.slice e2))∨P.underlying t2=some .string)(bs:Option Addr)
include hT t t2 ty e hd hj ht2 bs
theorem vN(n c m:Nat)(X:Value)(w:World)(H:(Builtin.lenOf X).run P w=.ok m w)(y:n+m≤c):
  (Builtin.append_ #[t,t2] ty #[.slice bs n c,X]).run P w=
   ((Builtin.firstCells j.size m X).run P w).andThen fun V w' =>match bs with
    |some a=>((storeCells (a.add (n*j.size)) V.toList).run P w').andThen fun _ U =>.ok (.slice bs (n+m) c) U
    |none=>.ok (.slice bs (n+m) c) w' :=by
 rcases ht2 with⟨S,Z⟩ | Z<;>
  simp[Builtin.append_,run_underlying hd,run_underlying Z,cN hT hj,H,y]<;>cases bs<;>simp
theorem CG(n c m:Nat)(X:Value)(w:World)(Os Ns:List Value)(H:(Builtin.lenOf X).run P w=.ok m w)(y:c<n+m)(I:(n+m)*j.bytes≤140737488355328)(Y:n+m≤140737488355328)(J:(Builtin.firstCells j.size n (.slice bs n c)).run P w.drew=.ok ⟨Os⟩ w.drew)(W:(Builtin.firstCells j.size m X).run P w.drew=.ok ⟨Ns⟩ w.drew):
  ∃V,n+m≤V∧(Builtin.append_ #[t,t2] ty #[.slice bs n c,X]).run P w=
   .ok (.slice (some ⟨w.heap.size,0,none⟩) (n+m) V) (w.drew.alloc (.cells (⟨Os⟩++(⟨Ns⟩++Builtin.zeroCells j.zero.cells (V-(n+m)))) e)):=by
 obtain⟨f,L,U,S,R⟩:=(hT e j hj).info;have Q:¬(n+m≤c):=by omega
 have O:¬(9223372036854775807<((n:Int)+(m:Int))):=by omega
 have N:¬(281474976710656<Builtin.nextslicecap (n+m) c*f.bytes):=by have:=growslice_fits y (bytes:=f.bytes) (by rw[S];exact I);omega
 have M:∀n w,(askRoom n).run P w=.ok () w:=by intro n w;unfold askRoom;split<;>simp[mark,Sem.run]
 refine⟨grownCap w (n+m) c e,grownCap_ge w (n+m) c e,?_⟩;rcases ht2 with⟨K,Z⟩ | Z<;>
  simp[Builtin.append_,run_underlying hd,run_underlying Z,sizeOf,typeInfo,zeroValue,L,U,R,H,Q,O,N,Question.forced,J,W,newRow,grownCap,M]
end
theorem af3.drop{s:afU}(y:af3 base μ mem w)(H:mem[b]? =some s):af3 base μ (mem.set b .qK) w:=by
 have R:b<mem.length:=gL H;have own:∀x,ef (mem.set b .qK) x→ef mem x∧x≠b:=by
  intro x V;by_cases Z:x=b
  ·subst Z
   obtain⟨N,X,Q⟩:=V;rw[List.getElem?_set_self R] at X;cases X;cases Q
  ·obtain⟨N,X,Q⟩:=V
   rw[List.getElem?_set_ne (Ne.symm Z)] at X;exact⟨⟨N,X,Q⟩,Z⟩
 refine⟨y.afY,fun x t U=>?_,fun x M t V S L O=>?_⟩
 ·rw[List.length_set]
  by_cases Z:x=b
  ·subst Z;rw[List.getElem?_set_self R] at U;cases U;trivial
  ·rw[List.getElem?_set_ne (Ne.symm Z)] at U;exact y.slot x t U
 ·by_cases Z:M =b
  ·subst Z;rw[List.getElem?_set_self R] at S;cases S;exact absurd rfl L
  ·rw[List.getElem?_set_ne (Ne.symm Z)] at S
   exact y.sep x M t (own x V).1 S L O
theorem Step.drop{m0:Nat}{μ:Nat→Place}{mem:Mem}{w:World}(h:m0≤mem.length):Step m0 μ mem w μ (mem.set b .qK) w:=by
 refine⟨by simpa using h,fun _ _=>rfl,rfl,rfl,rfl,Nat.le_refl _,fun _ _ _=>rfl,fun x U _=>⟨x,?_,rfl⟩,Nat.le_refl _⟩;by_cases X:x=b
 ·subst X
  by_cases R:x<mem.length
  ·obtain⟨S,Z,V⟩:=U
   rw[List.getElem?_set_self R] at Z;cases Z;cases V
  ·obtain⟨S,Z,V⟩:=U
   have:=gL Z;simp at this;omega
 ·obtain⟨S,Z,V⟩:=U
  rw[List.getElem?_set_ne (Ne.symm X)] at Z;exact⟨S,Z,V⟩
theorem af3.rename{es:Nat}{cs H :List AV}{w' :World}(hH:af3 base μ mem w)(hb:mem[b]? =some (.cells true es cs))(I:w'.drawn=w.drawn)(J:w'.os=w.os)(W:w'.tape=w.tape)(Y:w'.output=w.output)(hsz:w'.heap.size=w.heap.size)(abZ:∀k,k≠(μ b).blk→w'.heap[k]? =w.heap[k]?)(hs:af5 μ mem.length base w' (μ b) (.cells true es H)):
  af3 base (upd μ mem.length (μ b)) (mem.set b .qK++[.cells true es H]) w' ∧
  Step mem.length μ mem w (upd μ mem.length (μ b)) (mem.set b .qK++[.cells true es H]) w' :=by
 have G:b<mem.length:=gL hb;have V:ef mem b:=kc hb;have hw:=hH.write (s' :=.cells true es H) hb V (fun _=>⟨_,List.getElem?_set_self G,rfl⟩) I J W Y hsz abZ hs;have hμ:∀x,x<mem.length→upd μ mem.length (μ b) x=μ x:=fun x S=>xR S
 have G':(mem.set b .qK).length=mem.length:=by simp
 have own:∀x,ef (mem.set b .qK++[.cells true es H]) x→(x<mem.length∧x≠b∧ef mem x)∨x=mem.length:=by
  intro x S;by_cases R:x<mem.length
  ·refine .inl ⟨R,?_⟩
   have F :ef (mem.set b .qK) x:=by obtain⟨M,X,O⟩:=S;rw[List.getElem?_append_left (by omega)] at X;exact⟨M,X,O⟩
   by_cases Z:x=b
   ·subst Z
    obtain⟨M,X,O⟩:=F;rw[List.getElem?_set_self G] at X;cases X;cases O
   ·refine⟨Z,?_⟩
    obtain⟨M,X,O⟩:=F;rw[List.getElem?_set_ne (Ne.symm Z)] at X;exact⟨M,X,O⟩
  ·refine .inr ?_
   obtain⟨M,X,O⟩:=S;have:=gL X;simp at this;omega
 constructor
 ·refine⟨hw.1.afY,fun x t U=>?_,fun x L t S F B K=>?_⟩
  ·rw[List.length_append,List.length_singleton,G']
   by_cases R:x<mem.length
   ·rw[List.getElem?_append_left (by omega)] at U
    rw[hμ x R];by_cases Z:x=b
    ·subst Z;rw[List.getElem?_set_self G] at U;cases U;trivial
    ·rw[List.getElem?_set_ne (Ne.symm Z)] at U
     have:=hw.1.slot x t (by rw[List.getElem?_set_ne (Ne.symm Z)];exact U);rw[List.length_set] at this;exact this.mono (Nat.le_succ _) hμ fun _=>rfl
   ·have u:x=mem.length:=by have:=gL U;simp at this;omega
    subst u;rw[List.getElem?_append_right (by omega),G'] at U;simp at U;subst U;rw[eI];exact hs.mono (Nat.le_succ _) hμ fun _=>rfl
  ·have o:∀y s,(mem.set b .qK++[.cells true es H])[y]? =some s→s≠ .qK→(y<mem.length∧y≠b∧mem[y]? =some s)∨y=mem.length:=by
    intro y s N m;by_cases hyl:y<mem.length
    ·rw[List.getElem?_append_left (by omega)] at N
     by_cases Q:y=b
     ·subst Q;rw[List.getElem?_set_self G] at N;cases N;exact absurd rfl m
     ·rw[List.getElem?_set_ne (Ne.symm Q)] at N;exact .inl ⟨hyl,Q,N⟩
    ·exact .inr (by have:=gL N;simp at this;omega)
   rcases own x S with⟨D,a2,C⟩ | rfl<;>rcases o L t F B with⟨b1,b2,b3⟩ | rfl
   ·rw[hμ x D,hμ L b1];exact hH.sep x L t C b3 B K
   ·rw[hμ x D,eI];exact hH.sep x b _ C hb (by simp) a2
   ·rw[hμ L b1,eI];exact hH.sep b L t V b3 B (Ne.symm b2)
   ·exact absurd rfl K
 ·refine⟨by simp,hμ,J,W,Y,by omega,fun k hk hf=>abZ k fun he=>hf b V he.symm,fun x S Z5 =>?_,Nat.le_of_eq I.symm⟩
  rcases own x S with⟨D,_,C⟩ | rfl
  ·exact⟨x,C,by rw[hμ x D]⟩
  ·exact⟨b,V,by rw[eI]⟩
end
end Go.Eng
namespace Go.Eng
section
variable {P:Program}{T:TypeId→Option TyI}{μ:Nat→Place}{mem:Mem}{base:Nat}{w:World}
theorem af3.drew(h:af3 base μ mem w):af3 base μ mem w.drew:=h.agU rfl
theorem afS.agB{n:Nat}{vs:List AV}{Vs:List Value}(h:afS μ n vs Vs)(y:vs.all AV.afR=true):∀u∈Vs,u.oneCell' =true:=by
 intro u V;obtain⟨j,Z⟩:=List.getElem?_of_mem V;have S:j<vs.length:=by rw[←h.length];exact(gL Z)
 obtain⟨U,X,R⟩:=h.get j vs[j] (by simp[S]);rw[Z] at X;cases X;exact R.ahc (List.all_eq_true.1 y _ (by simp))
theorem HL{j:TyI}{e:TypeId}(h:j.size<1000):zb j e%1000=j.size∧(1000≤zb j e→e+1=zb j e / 1000):=by
 unfold zb;split
 ·refine⟨by rw[Nat.add_mul_mod_self_left,Nat.mod_eq_of_lt h],fun _=>by rw[Nat.add_mul_div_left _ _ (by omega),Nat.div_eq_of_lt h,Nat.zero_add]⟩
 ·exact⟨Nat.mod_eq_of_lt h,fun Z=>by omega⟩
theorem O5(Y:af3 base μ mem w){e:TypeId}{y need H es:Nat}(I:es%1000=y∧(1000≤es→e+1=es / 1000)){olds news:List AV}{Os Ns:List Value}{z:Array Value}(h0:0<y)(hz:z.size=y)(J:afS μ mem.length olds Os)(W:afS μ mem.length news Ns)(hl:olds.length+news.length=need*y)(hnc:need≤H){x:Sem Value}(hx:x.run P w=.ok (.slice (some ⟨w.heap.size,0,none⟩) need H) (w.drew.alloc (.cells (⟨Os⟩++(⟨Ns⟩++Builtin.zeroCells z (H-need))) e))):
  agV P x base μ mem w (.slice mem.length 0 need none) (mem++[.cells true es (olds++news)]):=by
 have Z:(⟨Os⟩++(⟨Ns⟩++Builtin.zeroCells z (H-need)):Array Value).size=H*y:=by simp only[Array.size_append,List.size_toArray,size_zeroCells,hz,J.length,W.length];rw[←Nat.add_assoc,hl,←Nat.add_mul];congr 1;omega
 obtain⟨V,S⟩:=tZ Y.drew e (⟨Os⟩++(⟨Ns⟩++Builtin.zeroCells z (H-need))) es I.2 (olds++news) (fun j v R=>by obtain⟨U,X,Q⟩:=(J.append W).get j v R;refine⟨U,?_,Q⟩;have O:j<(Os++Ns).length:=gL X;rw[←Array.append_assoc,Array.getElem?_append_left (by simpa using O)];simpa using X)
 refine⟨_,_,_,hx,?_,V,?_⟩
 ·simp only[afQ,eI,kH,List.length_append,List.length_singleton,World.size_drew]
  refine⟨by omega,?_⟩;rw[Nat.sub_zero,Z,I.1,Nat.mul_div_cancel _ h0]
 ·exact(Step.drew (m0:=mem.length) (Nat.le_refl _)).trans S
theorem G8(hT:cX P T)(H:af3 base μ mem w){t t2 ty:TypeId}{s x v:AV}{S X:Value}{y :Mem}(hs:afQ μ mem.length s S)(hx:afQ μ mem.length x X)(h:qg T mem t t2 s x=some (v,y)):
  agV P (Builtin.append_ #[t,t2] ty #[S,X]) base μ mem w v y :=by
 unfold qg at h;cases ht:T t with
 |none=>rw[ht] at h;cases h
 |some i=>
  rw[ht] at h;simp only at h;have B:=(hT t i ht).desc;split at h
  ·rename_i e F'
   rw[F'] at B;split at h
   ·rename_i j i2 Y hi2
    split at h
    ·cases h
    ·rename_i Y'
     have O:=(hT t2 i2 hi2).desc;have N:(∃W,P.underlying t2=some (.slice W))∨P.underlying t2=some .string:=by
      have K:A7 i2=true:=by
       cases J:A7 i2 with
       |true=>rfl
       |false=>exact absurd (.inr (.inr J)) Y'
      unfold A7 at K;split at K
      next W J=>rw[J] at O;exact .inl ⟨W,O⟩
      next J=>rw[J] at O;exact .inr O
      ·cases K
     have G:0<j.size:=by
      rcases Nat.eq_zero_or_pos j.size with h0 | h0
      ·exact absurd (.inl h0) Y'
      ·exact h0
     have F:j.size<1000:=by
      rcases Nat.lt_or_ge j.size 1000 with h0 | h0
      ·exact h0
      ·exact absurd (.inr (.inl h0)) Y'
     have I:=(hT e j Y).ahe;split at h
     ·cases h
     ·rename_i m Z acP
      split at h
      ·rename_i UV
       obtain⟨L,g1,g2,g3,g4⟩:=uG (P:=P) H hx acP;split at h
       ·
        simp only[afQ] at hs;subst hs;split at h
        ·rename_i hm
         cases h;subst hm;have Q:=vN hT (ty:=ty) B Y N none 0 0 0 X w g3 (Nat.le_refl _);rw[g4 w (fun _=>rfl)] at Q;exact agV.agb H ⟨_,Q,by simp[afQ]⟩
        ·rename_i hm
         split at h
         ·rename_i D
          cases h;obtain⟨nc,M,Q⟩:=CG hT (ty:=ty) B Y N none 0 0 m X w [] L g3 (by omega) (by simpa using D.1) (by simpa using D.2) (by simp[Builtin.firstCells]) (g4 w.drew (fun _=>rfl));simp only[Nat.zero_add] at Q M;have:=O5 (P:=P) H (es:=zb j e) (HL F) (olds:=[]) (news:=Z) G I (by simp[afS]) g1 (by simpa using g2) M Q;simpa using this
         ·cases h
       ·rename_i b n
        split at h
        ·rename_i es cs D
         split at h
         ·rename_i hc
          obtain⟨k1,k2,k3,k4⟩:=hc;cases h;obtain⟨hbn,rfl⟩:=hs.slice;have hsl:=H.slot b _ D;simp only[af5] at hsl;obtain⟨R,el,fr,s1,s2,s3,s4,s5⟩:=hsl;obtain⟨s6,s7,s8,s9⟩:=s5 trivial;subst s7;have hes:es%1000=j.size∧(1000≤es→e+1=es / 1000):=by
           rcases k1 with rfl | rfl
           ·exact⟨Nat.mod_eq_of_lt F,fun h1=>by omega⟩
           ·exact HL F
          have s2' :(μ b).es=j.size:=by rw[s2.1];exact hes.1
          have aa8:kH (μ b) 0 none=(μ b).tot / j.size:=by simp[kH,s2']
          have aa9:(μ b).off+0=0:=by omega
          rw[aa9,aa8];obtain⟨Os,o1,o2,o3⟩:=H.cells D (o:=0) (k:=n*j.size) (by omega);simp only[List.drop_zero] at o1;rw[aa9] at o3;have afD:0<j.size:=G;by_cases aav:n+m≤(μ b).tot / j.size
          ·have Q:=vN hT (ty:=ty) B Y N (some ⟨(μ b).blk,0,none⟩) n _ m X w g3 aav
           rw[g4 w (fun _=>rfl)] at Q;have C:(n+m)*j.size≤(μ b).tot:=by have:=Nat.mul_le_mul_right j.size aav;exact Nat.le_trans this (Nat.div_mul_le_self _ _)
           have hNl:L.length=m*j.size:=by rw[g1.length,g2,]
           have Z6:=run_storeCells_at (P:=P) (μ b).blk (n*j.size) el L 0 R w s1 (by rw[hNl,s8,Nat.add_zero,←Nat.add_mul];exact C) (g1.agB UV);simp only[Result.andThen_ok,Addr.add_lit,Nat.zero_add,Z6] at Q;have G':cs.length≤R.size:=by rw[s8];exact s3
           have hs' :af5 μ mem.length base (w.setRow (μ b).blk (R.toList.take (n*j.size+0)++L++R.toList.drop (n*j.size+0+L.length)).toArray) (μ b) (.cells true es (cs.take (n*j.size)++Z)):=by
            simp only[af5];refine⟨_,el,(0,0),setRow_heap w (μ b).blk R _ el (0,0) s1,s2,?_,fun q u hu=>?_,fun _=>⟨s6,rfl,?_,s9⟩⟩
            ·simp only[List.length_append,List.length_take,g2]
             rw[Nat.add_mul] at C;omega
            ·rw[s6,Nat.zero_add]
             have e1:(cs.take (n*j.size)).length=n*j.size:=by simp;omega
             have W:(R.toList.take (n*j.size+0)).length=n*j.size:=by simp;omega
             simp only[List.getElem?_toArray,List.append_assoc];by_cases hq:q<n*j.size
             ·rw[List.getElem?_append_left (by omega),List.getElem?_take_of_lt hq] at hu
              rw[List.getElem?_append_left (by omega),List.getElem?_take_of_lt (by omega)];obtain⟨U,hU,Q⟩:=s4 q u hu;rw[s6,Nat.zero_add] at hU;exact⟨U,by simpa using hU,Q⟩
             ·rw[List.getElem?_append_right (by omega),e1] at hu
              rw[List.getElem?_append_right (by omega),W];obtain⟨U,hU,Q⟩:=g1.get _ u hu;rw[List.getElem?_append_left (gL hU)];exact⟨U,hU,Q⟩
            ·simp only[List.size_toArray,List.length_append,List.length_take,List.length_drop,Array.length_toList,hNl]
             rw[Nat.add_mul] at C;omega
           obtain⟨r1,r2⟩:=H.rename (w' :=w.setRow (μ b).blk (R.toList.take (n*j.size+0)++L++R.toList.drop (n*j.size+0+L.length)).toArray) D rfl rfl rfl rfl (by simp[World.setRow]) (fun k hk=>setRow_other w _ k _ hk) hs';refine⟨_,_,_,Q,?_,r1,r2⟩;simp only[afQ,eI,kH,List.length_append,List.length_set,List.length_singleton];refine⟨by omega,?_⟩;rw[s2',s6];rfl
          ·have hO:(Builtin.firstCells j.size n (.slice (some ⟨(μ b).blk,0,none⟩) n ((μ b).tot / j.size))).run P w.drew=.ok ⟨Os⟩ w.drew:=
            run_firstCells_some w.drew j.size n _ _ _ Os (by rw[o2,]) (fun q u hq=>o3 q u hq)
           obtain⟨nc,M,Q⟩:=CG hT (ty:=ty) B Y N (some ⟨(μ b).blk,0,none⟩) n _ m X w Os L g3 (by omega) k3 k4 hO (g4 w.drew (fun _=>rfl));have hH2:=H.drop D;have G':(mem.set b .qK).length=mem.length:=by simp
           have:=O5 (P:=P) hH2 (es:=es) hes (olds:=cs.take (n*j.size)) (news:=Z) G I (by rw[G'];exact o1) (by rw[G'];exact g1) (by rw[List.length_take,g2,Nat.add_mul];omega) M Q;obtain⟨V,w',μ',q1,q2,q3,q4⟩:=this;rw[] at q2 q3 q4;rw[G'] at q2 q4;exact⟨V,w',μ',q1,q2,q3,(Step.drop (b:=b) (Nat.le_refl _)).trans q4⟩
         ·cases h
        ·cases h
       ·cases h
      ·cases h
   ·cases h
  ·cases h
end
def Uy(T:TypeId→Option TyI)(q:TypeId→AV→Bool)(y:List AV):List Field→Bool
 | []=>true
 |f::fs=>
  match T f.type with
  |none=>false
  |some i=>match jR i y f.offset with
   |some a=>q f.type a&&Uy T q y fs
   |none=>false
def Mf(q:AV→Bool)(i:TyI)(y:List AV):List Nat→Bool
 | []=>true
 |j::js=>match jR i y (j*i.size) with
  |some a=>q a&&Mf q i y js
  |none=>false
def mG(T:TypeId→Option TyI):Nat→TypeId→AV→Bool
 |0,_,_=>false
 |d+1,t,x=>
  match T t with
  |none=>false
  |some i=>
   match i.desc,x with
   |.bool,.bool _=>true
   |.int _,.int _ _=>true
   |.string,.str _=>true
   |.struct fs,.agg xs=>Uy T (mG T d) xs fs.toList
   |.array n e,.agg xs=>match T e with
    |some j=>Mf (mG T d e) j xs (List.range' 0 n)
    |none=>false
   |_,_=>false
def jZ(T:TypeId→Option TyI)(y:TypeId)(k:AV):List (AV×AV)→Nat→Option (Option (Nat×AV))
 | [],_=>some none
 |e::es,i=>match kU T 20 y k e.1 with
  |some true=>some (some (i,e.2))
  |some false=>jZ T y k es (i+1)
  |none=>none
def AV.agE:AV→Bool
 |.bool _ | .int _ _ | .str _=>true
 |_=>false
def kv(mem:Mem):AV→Option (List (AV×AV))
 |.age=>some []
 |.map b=>match mem[b]? with
  |some (.map es)=>some es
  |some (.agq es)=>some es
  |_=>none
 |_=>none
def lQ(T:TypeId→Option TyI)(mem:Mem)(t:TypeId)(m k:AV)(ok:Bool):Option AV:=
 match T t with
 |none=>none
 |some i=>
  match i.desc with
  |.map kt et=>
   match T et,kv mem m with
   |some j,some es=>
    if mG T 20 kt k then
     match jZ T kt k es 0 with
     |some (some (_,v))=>some (if ok then .tuple [v,.bool true] else v)
     |some none=>some (if ok then .tuple [jI j.zero,.bool false] else jI j.zero)
     |none=>none
    else none
   |_,_=>none
  |_=>none
def fz(T:TypeId→Option TyI)(mem:Mem)(t:TypeId)(m k v:AV):Option Mem:=
 match T t with
 |none=>none
 |some i=>
  match i.desc,m with
  |.map kt _,.map b=>
   match mem[b]? with
   |some (.map es)=>
    if mG T 20 kt k then
     match jZ T kt k es 0 with
     |some (some (i,_))=>if k.agE then some (mem.set b (.map (es.set i (k,v)))) else none
     |some none=>some (mem.set b (.map (es++[(k,v)])))
     |none=>none
    else none
   |_=>none
  |_,_=>none
variable{K:Value}{k:AV}
section
variable {P:Program}{T:TypeId→Option TyI}{μ:Nat→Place}{mem:Mem}{base:Nat}{w:World}{n:Nat}
theorem Dd(hT:cX P T){d:Nat}{q:TypeId→AV→Bool}{em:Bool}
  (H:∀{t:TypeId}{x:AV}{X:Value},q t x=true→afQ μ n x X→∀(w:World),(Instr.checkKey em d t X).run P w=.ok () w)
  {I:List AV}{J:List Value}(W:afS μ n I J) (w:World):∀{y:List Field},Uy T q I y=true→
  ((forIn y PUnit.unit fun f _=>(do
    if f.name ≠ "_" then
     let a ←part f.type ⟨J⟩ f.offset
     Instr.checkKey em d f.type a
     pure (ForInStep.yield PUnit.unit)
    else pure (ForInStep.yield PUnit.unit):Sem (ForInStep PUnit))).run P w=.ok PUnit.unit w)
 | [],_=>by simp
 |f::y,h=>by
  rw[Uy] at h;split at h
  ·cases h
  ·rename_i i S
   split at h
   ·rename_i a R
    simp only[Bool.and_eq_true] at h;obtain⟨A,Q,V⟩:=jr (P:=P) (μ:=μ) (n:=n) hT S R W w;have O:=H h.1 V w;have U:=Dd hT H W w h.2;rw[List.forIn_cons];by_cases Z:f.name = "_"
    ·simp only[Z,ne_eq,not_true_eq_false,if_false,pure_bind]
     simp only[ne_eq] at U;exact U
    ·simp only[Z,ne_eq,not_false_eq_true,if_true,Sem.run_bind,Q,O,Result.andThen_ok,Sem.run_pure]
     exact U
   ·cases h
theorem Dc(hT:cX P T){d:Nat}{e:TypeId}{i:TyI}(y:T e=some i){q:AV→Bool}{em:Bool}
  (I:∀{x:AV}{X:Value},q x=true→afQ μ n x X→∀(w:World),(Instr.checkKey em d e X).run P w=.ok () w)
  {J:List AV}{W:List Value}(Y:afS μ n J W) (w:World):∀{H:List Nat},Mf q i J H=true→
  ((forIn H PUnit.unit fun j _=>(do
    let s ←sizeOf e
    let a ←part e ⟨W⟩ (j*s)
    Instr.checkKey em d e a
    pure (ForInStep.yield PUnit.unit):Sem (ForInStep PUnit))).run P w=.ok PUnit.unit w)
 | [],_=>by simp
 |j::H,h=>by
  rw[Mf] at h;split at h
  ·rename_i a V
   simp only[Bool.and_eq_true] at h;obtain⟨A,U,Z⟩:=jr (P:=P) (μ:=μ) (n:=n) hT y V Y w;have S:=I h.1 Z w;have R:=Dc hT y I Y w h.2;rw[List.forIn_cons];simp only[Sem.run_bind,cN hT y,U,S,Result.andThen_ok,Sem.run_pure];exact R
  ·cases h
theorem mg(hT:cX P T)(em:Bool):∀(d:Nat) {t:TypeId} {x:AV} {X:Value},mG T d t x=true→afQ μ n x X→
  ∀(k:Nat) (w:World),(Instr.checkKey em (d+k) t X).run P w=.ok () w
 |0,_,_,_,h,_,_,_=>by simp[mG] at h
 |d+1,t,x,X,h,hx,k,w=>by
  rw[mG] at h;rw[show d+1+k=d+k+1 by omega];cases ht:T t with
  |none=>rw[ht] at h;cases h
  |some i=>
   rw[ht] at h;simp only at h;have Z:=(hT t i ht).desc;split at h
   next V=>rw[V] at Z;rw[hx.bool,Instr.checkKey];simp[run_underlying Z]
   next V=>rw[V] at Z;rw[hx.int,Instr.checkKey];simp[run_underlying Z]
   next V=>rw[V] at Z;rw[hx.str,Instr.checkKey];simp[run_underlying Z]
   ·rename_i M Q V
    rw[V] at Z;obtain⟨O,rfl,U⟩:=hx.agg;have:=Dd (em:=em) hT (fun S R w=>mg hT em d S R k w) U w h;rw[Instr.checkKey];simp only[Sem.run_bind,run_underlying Z,Result.andThen_ok];rw[←Array.forIn_toList];rw[this];rfl
   ·rename_i m e Q V
    rw[V] at Z;split at h
    ·rename_i j N
     obtain⟨O,rfl,U⟩:=hx.agg;have:=Dc (em:=em) hT N (fun S R w=>mg hT em d S R k w) U w h;rw[Instr.checkKey];simp only[Sem.run_bind,run_underlying Z,Result.andThen_ok];simp only[Std.Legacy.Range.forIn_eq_forIn_range',Std.Legacy.Range.size,Nat.sub_zero,Nat.add_sub_cancel,Nat.div_one];rw[this];rfl
    ·cases h
   ·cases h
def PK(μ:Nat→Place)(n:Nat):Option (Nat×AV)→Option (Nat×Value)→Prop
 |some (a,v),some (b,V)=>a=b∧afQ μ n v V
 |none,none=>True
 |_,_=>False
theorem qR(hT:cX P T){H:TypeId}{k:AV}{K:Value}(hk:afQ μ n k K)(w:World):∀{es:List (AV×AV)} {y:List MapEntry} {i:Nat} {r:Option (Nat×AV)},
  y.length=es.length→(∀(j:Nat) e,es[j]? =some e→∃E,y[j]? =some E∧QI μ n e E)→jZ T H k es i=some r→
  ∃R,(Instr.findAsking H K y i).run P w=.ok R w∧PK μ n r R
 | [],y,i,r,hl,_,h=>by have:y=[]:=List.eq_nil_of_length_eq_zero hl;subst this;simp only[jZ,Option.some.injEq] at h;subst h;exact⟨none,by simp[Instr.findAsking],trivial⟩
 |e::es,[],i,r,hl,_,h=>by simp at hl
 |e::es,E::y,i,r,hl,hr,h=>by
  rw[jZ] at h;obtain⟨X,Q,V⟩:=hr 0 e rfl;simp at Q;subst Q;have U:∀(j:Nat) Z,es[j]? =some Z →∃X,y[j]? =some X ∧QI μ n Z X :=fun j Z O=>by simpa using hr (j+1) Z (by simpa using O)
  split at h
  ·rename_i S
   cases h;have:=jo hT 20 S hk V.1 9980 w;refine⟨some (i,E.val),?_,rfl,V.2⟩;simp only[Instr.findAsking,Sem.run_bind];rw[show Op.equal H K E.key=Op.equalIn (20+9980) H K E.key from rfl,this];simp
  ·rename_i S
   have:=jo hT 20 S hk V.1 9980 w;obtain⟨R,N,M⟩:=qR hT hk w (by simpa using hl) U h;refine⟨R,?_,M⟩;simp only[Instr.findAsking,Sem.run_bind];rw[show Op.equal H K E.key=Op.equalIn (20+9980) H K E.key from rfl,this];simpa using N
  ·cases h
theorem uB(hT:cX P T){y:TypeId}{kd:TypeDesc}(I:P.underlying y=some kd){k:AV}{K:Value}(hk:afQ μ n k K)(w:World):
  ∀{es:List (AV×AV)}{H:List MapEntry}{i:Nat}{r:Option (Nat×AV)}{R:Option (Nat×Value)},
  H.length=es.length→(∀(j:Nat) e,es[j]? =some e→∃E,H[j]? =some E∧QI μ n e E)→jZ T y k es i=some r→Instr.findNow kd K H i=some R→
  (Instr.findAsking y K H i).run P w=.ok R w
 | [],H,i,r,R,hl,_,_,h=>by have:H=[]:=List.eq_nil_of_length_eq_zero hl;subst this;simp only[Instr.findNow,Option.some.injEq] at h;subst h;simp[Instr.findAsking]
 |e::es,[],i,r,R,hl,_,_,h=>by simp at hl
 |e::es,E::H,i,r,R,hl,hr,hf,h=>by
  obtain⟨N,F,D⟩:=hr 0 e rfl;simp at F;subst F;have M:∀(j:Nat) O,es[j]? =some O →∃N,H[j]? =some N ∧QI μ n O N :=fun j O Z=>by simpa using hr (j+1) O (by simpa using Z)
  rw[jZ] at hf;have V:∀b,kU T 20 y k e.1=some b→∀U,Instr.sameNow kd K E.key=some U →U =b:=by
   intro b L U X;have Z:=jo hT 20 L hk D.1 9980 w;unfold Instr.sameNow at X;split at X
   ·rename_i B a u c C S
    split at X
    ·rename_i G
     cases X;rw[S] at Z;subst G;rw[run_equalIn_int w _ y _ _ _ _ I] at Z;cases Z;rfl
    ·cases X
   ·rename_i a c C S
    cases X;rw[S] at Z;rw[run_equalIn_string w _ y _ _ I] at Z;cases Z;rw[beq_toListBytes]
   ·rename_i a c C S
    cases X;rw[S] at Z;rw[run_equalIn_bool' w _ y _ _ I] at Z;cases Z;rfl
   ·cases X
  rw[Instr.findNow] at h;have step:∀b,kU T 20 y k e.1=some b→(Instr.findAsking y K (E::H) i).run P w=if b then .ok (some (i,E.val)) w else (Instr.findAsking y K H (i+1)).run P w:=by intro b L;have Z:=jo hT 20 L hk D.1 9980 w;simp only[Instr.findAsking,Sem.run_bind];rw[show Op.equal y K E.key=Op.equalIn (20+9980) y K E.key from rfl,Z];cases b<;>simp
  split at hf
  ·rename_i Q
   rw[step _ Q];cases hs:Instr.sameNow kd K E.key with
   |none=>rw[hs] at h;cases h
   |some U =>
    have:=V _ Q _ hs;subst this;rw[hs] at h;simp only[Option.some.injEq] at h;subst h;simp
  ·rename_i Q
   rw[step _ Q];cases hs:Instr.sameNow kd K E.key with
   |none=>rw[hs] at h;cases h
   |some U =>
    have:=V _ Q _ hs;subst this;rw[hs] at h;simp only at h;simpa using uB hT I hk w (by simpa using hl) M hf h
  ·cases hf
theorem iq(hT:cX P T){y:TypeId}{I:TyI}(J:T y=some I)(hk:afQ μ n k K){es:List (AV×AV)}{H:List MapEntry}{r:Option (Nat×AV)}(W:H.length=es.length)(hr:∀(j:Nat) e,es[j]? =some e→∃E,H[j]? =some E∧QI μ n e E)(h:jZ T y k es 0=some r)(w:World):
  ∃R,(Instr.findKey y K H).run P w=.ok R w∧PK μ n r R:=by
 have Z:=(hT y I J).desc;obtain⟨R,X,V⟩:=qR hT hk w W hr h;refine⟨R,?_,V⟩;simp only[Instr.findKey,Sem.run_bind,run_underlying Z,Result.andThen_ok];cases hn:Instr.findNow I.desc K H 0 with
 |none=>simpa using X
 |some R' =>
  have:=uB hT Z hk w W hr h hn;rw[this] at X;cases X;simp
theorem G9(hT:cX P T)(hH:af3 base μ mem w){t:TypeId}{m k v:AV}{M:Value}{ok:Bool}(y:afQ μ mem.length m M)(hk:afQ μ mem.length k K)(h:lQ T mem t m k ok=some v):Val P (Instr.lookup t M K ok) w μ mem.length v:=by
 unfold lQ at h;cases ht:T t with
 |none=>rw[ht] at h;cases h
 |some i=>
  rw[ht] at h;simp only at h;have O:=(hT t i ht).desc;split at h
  ·rename_i kt et F'
   rw[F'] at O;split at h
   ·rename_i j es hj Z
    split at h
    ·rename_i X
     have B:∃S:Array MapEntry,(M=.map none∧S= #[]∨∃r c,M=.map (some r)∧(getObj r).run P w=.ok (.map S c) w)∧S.toList.length=es.length∧
       ∀(j:Nat) e,es[j]? =some e→∃E,S.toList[j]? =some E∧QI μ mem.length e E:=by
      unfold kv at Z;split at Z
      ·cases Z
       simp only[afQ] at y;subst y;exact⟨#[],.inl ⟨rfl,rfl⟩,rfl,by simp⟩
      ·rename_i b
       split at Z
       ·rename_i u o
        cases Z;simp only[afQ] at y;obtain⟨_,rfl⟩:=y;have N:=hH.slot b _ o;simp only[af5] at N;obtain⟨Y,W,J,_,I,h3⟩:=N;refine⟨Y,.inr ⟨_,W,rfl,by simp[getObj,Sem.run,J]⟩,by simpa using I,fun j e H=>?_⟩;obtain⟨E,hE,hr⟩:=h3 j e H;exact⟨E,by simpa using hE,hr⟩
       ·rename_i u o
        cases Z;simp only[afQ] at y;obtain⟨_,rfl⟩:=y;have N:=hH.slot b _ o;simp only[af5] at N;obtain⟨Y,W,J,_,I,h3⟩:=N;refine⟨Y,.inr ⟨_,W,rfl,by simp[getObj,Sem.run,J]⟩,by simpa using I,fun j e H=>?_⟩;obtain⟨E,hE,hr⟩:=h3 j e H;exact⟨E,by simpa using hE,hr⟩
       ·cases Z
      ·cases Z
     obtain⟨S,Q,e2,e3⟩:=B;have U:=mg (P:=P) (n:=mem.length) hT S.isEmpty 20 X hk 9980 w;have hkt:∃D,T kt=some D:=by
      rw[mG] at X;cases hx:T kt with
      |none=>rw[hx] at X;cases X
      |some D=>exact⟨D,rfl⟩
     obtain⟨D,L⟩:=hkt;split at h
     ·rename_i q v' hf
      cases h;obtain⟨R,G,C⟩:=iq hT L hk e2 e3 hf w;cases R with
      |none=>exact C.elim
      |some x=>
       obtain⟨_,V⟩:=x;have F:=C.2;refine⟨if ok then .tuple #[V,.bool true] else V,?_,?_⟩
       ·rcases Q with⟨rfl,rfl⟩ | ⟨r,c,rfl,Q⟩
        ·simp only[Instr.lookup,Sem.run_bind,run_underlying O,Result.andThen_ok,Sem.run_pure]
         rw[show(10000:Nat)=20+9980 from rfl,U];simp only[Result.andThen_ok,G,Sem.run_pure,Sem.run_bind]
        ·simp only[Instr.lookup,Sem.run_bind,run_underlying O,Result.andThen_ok,Q,Sem.run_pure]
         rw[show(10000:Nat)=20+9980 from rfl,U];simp only[Result.andThen_ok,G,Sem.run_pure,Sem.run_bind]
       ·cases ok
        ·exact F
        ·simp only[if_true,afQ];exact⟨[V,.bool true],rfl,bO.2 ⟨F,bO.2 ⟨by simp[afQ],by simp[afS]⟩⟩⟩
     ·rename_i hf
      cases h;obtain⟨R,G,C⟩:=iq hT L hk e2 e3 hf w;cases R with
      |some x=>exact C.elim
      |none=>
       have F:=yD μ mem.length j.zero;refine⟨if ok then .tuple #[j.zero,.bool false] else j.zero,?_,?_⟩
       ·rcases Q with⟨rfl,rfl⟩ | ⟨r,c,rfl,Q⟩
        ·simp only[Instr.lookup,Sem.run_bind,run_underlying O,Result.andThen_ok,Sem.run_pure]
         rw[show(10000:Nat)=20+9980 from rfl,U];simp only[Result.andThen_ok,G,Sem.run_pure,Sem.run_bind,eJ hT hj]
        ·simp only[Instr.lookup,Sem.run_bind,run_underlying O,Result.andThen_ok,Q,Sem.run_pure]
         rw[show(10000:Nat)=20+9980 from rfl,U];simp only[Result.andThen_ok,G,Sem.run_pure,Sem.run_bind,eJ hT hj]
       ·cases ok
        ·exact F
        ·simp only[if_true,afQ];exact⟨[j.zero,.bool false],rfl,bO.2 ⟨F,bO.2 ⟨by simp[afQ],by simp[afS]⟩⟩⟩
     ·cases h
    ·cases h
   ·cases h
  ·cases h
theorem tn{H :Value}{e:AV}{b:Bool}{I:TypeId}(hs:k.agE=true)(hk:afQ μ n k K)(y:afQ μ n e H)(h:kU T 20 I k e=some b)(J:b=true):
  Instr.sameBits 10000 H K=true:=by
 subst J;rw[kU] at h;cases ht:T I with
 |none=>rw[ht] at h;cases h
 |some i=>
  rw[ht] at h;simp only at h;split at h
  ·rw[hk.bool,y.bool]
   simp only[Option.some.injEq] at h;simp only[Instr.sameBits];rw[beq_iff_eq] at h ⊢;exact h.symm
  ·split at h
   ·rename_i Z
    subst Z;simp only[Option.some.injEq,decide_eq_true_eq] at h;rw[hk.int,y.int,h];simp[Instr.sameBits]
   ·cases h
  ·rw[hk.str,y.str]
   simp only[Option.some.injEq,beq_iff_eq] at h;rw[h];simp only[Instr.sameBits];rw[beq_toListBytes];simp
  ·cases hs
  ·cases hs
  ·cases h
theorem oI{y:TypeId}{k:AV}:∀{es:List (AV×AV)} {i q:Nat} {v:AV},jZ T y k es i=some (some (q,v))→∃j e,q=i+j∧es[j]? =some e∧kU T 20 y k e.1=some true
 | [],i,q,v,h=>by simp[jZ] at h
 |e::es,i,q,v,h=>by
  rw[jZ] at h;split at h
  next Z=>cases h;exact⟨0,e,rfl,rfl,Z⟩
  ·obtain⟨j,X,U,V,h3⟩:=oI h
   exact⟨j+1,X,by omega,by simpa using V,h3⟩
  ·cases h
theorem ud{r:Nat}{o o' :Obj}(h:w.heap[r]? =some o)(y:∀c e f,o≠ .cells c e f):(setObj r o').run P w=.ok () { w with heap:=w.heap.setIfInBounds r o' }:=by simp only[setObj,Sem.run,h];try (split<;>first | (rename_i Z;cases Z;exact absurd rfl (y _ _ _)) | rfl | simp_all)
theorem AS(hT:cX P T)(hH:af3 base μ mem w){t:TypeId}{m k v:AV}{M K V:Value}{mem' :Mem}(hm:afQ μ mem.length m M)(hk:afQ μ mem.length k K)(hv:afQ μ mem.length v V)(h:fz T mem t m k v=some mem'):∃w',(Instr.mapUpdate t M K V).run P w=.ok () w' ∧af3 base μ mem' w' ∧Step mem.length μ mem w μ mem' w' :=by
 unfold fz at h;cases ht:T t with
 |none=>rw[ht] at h;cases h
 |some i=>
  rw[ht] at h;simp only at h;have y:=(hT t i ht).desc;split at h
  ·rename_i kt et b F'
   rw[F'] at y;split at h
   ·rename_i es hb
    split at h
    ·rename_i N
     simp only[afQ] at hm;obtain⟨hbn,rfl⟩:=hm;have hs:=hH.slot b _ hb;simp only[af5] at hs;obtain⟨D,C,h1,S,Y,h3⟩:=hs;have hg:(getObj (μ b).blk).run P w=.ok (.map D C) w:=by simp[getObj,Sem.run,h1]
     have B:=mg (P:=P) (n:=mem.length) hT false 20 N hk 9980 w;have hkt:∃W,T kt=some W:=by
      rw[mG] at N;cases hx:T kt with
      |none=>rw[hx] at N;cases N
      |some W=>exact⟨W,rfl⟩
     obtain⟨W,u⟩:=hkt;have e2:D.toList.length=es.length:=by simpa using Y
     have e3:∀(j:Nat) e,es[j]? =some e→∃E,D.toList[j]? =some E∧QI μ mem.length e E:=fun j e J=>by obtain⟨E,I,hr⟩:=h3 j e J;exact⟨E,by simpa using I,hr⟩
     have FS:(μ b).blk<w.heap.size:=(Array.getElem?_eq_some_iff.1 h1).1;have o:∀(U :Array MapEntry) (Q :Nat) (O :List (AV×AV)),E9 U Q →U.size=O.length→(∀(j:Nat) e,O[j]? =some e→∃E,U[j]? =some E∧QI μ mem.length e E)→
       (setObj (μ b).blk (.map U Q)).run P w=.ok () { w with heap:=w.heap.setIfInBounds (μ b).blk (.map U Q) }∧
       af3 base μ (mem.set b (.map O)) { w with heap:=w.heap.setIfInBounds (μ b).blk (.map U Q) }∧Step mem.length μ mem w μ (mem.set b (.map O)) { w with heap:=w.heap.setIfInBounds (μ b).blk (.map U Q) }:=by
      intro U Q O g0 g1 g2;refine⟨ud h1 (by simp),hH.write hb (Mz hb) (fun _=>⟨_,List.getElem?_set_self (gL hb),rfl⟩) rfl rfl rfl rfl (by simp) (fun q hq=>?_) ?_⟩
      ·simp[Array.getElem?_setIfInBounds_ne (Ne.symm hq)]
      ·simp only[af5]
       exact⟨U,Q,by simp[FS],⟨S.1,g0⟩,g1,g2⟩
     split at h
     ·rename_i q v' H
      split at h
      ·rename_i hsc
       cases h;obtain⟨R,g1,g2⟩:=iq hT u hk e2 e3 H w;cases R with
       |none=>exact g2.elim
       |some x=>
        obtain⟨q',V'⟩:=x;obtain⟨rfl,_⟩:=g2;obtain⟨j,e,hq,J,X'⟩:=oI H;have hq' :q=j:=by omega
        subst hq';obtain⟨E,I,hr⟩:=h3 q e J;have hsb:=tn (μ:=μ) (n:=mem.length) hsc hk hr.1 X' rfl;obtain⟨f1,f2,f3⟩:=o (D.modify q fun e=>{ e with key:=K,val:=V }) C (es.set q (k,v)) ⟨by simpa using S.2.1,fun j L Z =>by
         rw[Array.getElem?_modify] at Z;split at Z
         ·simp only[Option.map_eq_some_iff] at Z
          obtain⟨E0,k1,rfl⟩:=Z;exact S.2.2 j E0 k1
         ·exact S.2.2 j L Z⟩ (by simpa using Y) (fun j e' X =>by
         rw[List.getElem?_set] at X;by_cases G:q=j
         ·subst G
          have Z5 :q<es.length:=gL J;simp only[if_true,Z5,Option.some.injEq] at X;subst X;exact⟨{ E with key:=K,val:=V },by simp[Array.getElem?_modify,I],hk,hv⟩
         ·rw[if_neg G] at X
          obtain⟨L,Z,F⟩:=h3 j e' X;exact⟨L,by simp[Array.getElem?_modify,G,Z],F⟩)
        refine⟨_,?_,f2,f3⟩;simp only[Instr.mapUpdate,Sem.run_bind,run_underlying y,Result.andThen_ok,hg];rw[show(10000:Nat)=20+9980 from rfl,B];simp only[Result.andThen_ok,g1,Sem.run_bind];have aaV:(Instr.keyThatStays (((D[q]?).map (·.key)).getD K) K).run P w=.ok K w:=by unfold Instr.keyThatStays;rw[I];simp only[Option.map_some,Option.getD_some,hsb,if_true];rfl
        rw[aaV];simpa using f1
      ·cases h
     ·rename_i H
      cases h;obtain⟨R,g1,g2⟩:=iq hT u hk e2 e3 H w;cases R with
      |some x=>exact g2.elim
      |none=>
       obtain⟨f1,f2,f3⟩:=o (D.push { key:=K,val:=V,born:=C }) (C+1) (es++[(k,v)]) ⟨by simp[S.2.1],fun j L Z =>by
        rw[Array.getElem?_push] at Z;split at Z
        next hj=>cases Z;rw[hj];exact S.2.1
        ·exact S.2.2 j L Z⟩ (by simp[Y]) (fun j e' X =>by
        by_cases hj:j<es.length
        ·rw[List.getElem?_append_left hj] at X
         obtain⟨L,Z,F⟩:=h3 j e' X;exact⟨L,by rw[Array.getElem?_push,if_neg (by omega)];exact Z,F⟩
        ·have hje:j=es.length:=by have:=(gL X);simp at this;omega
         subst hje;simp at X;subst X;exact⟨{ key:=K,val:=V,born:=C },by rw[Array.getElem?_push,if_pos Y.symm],hk,hv⟩)
       refine⟨_,?_,f2,f3⟩;simp only[Instr.mapUpdate,Sem.run_bind,run_underlying y,Result.andThen_ok,hg];rw[show(10000:Nat)=20+9980 from rfl,B];simp only[Result.andThen_ok,g1];exact f1
     ·cases h
    ·cases h
   ·cases h
  ·cases h
theorem HB(y:af3 base μ mem w){t:TypeId}:agV P (Instr.makeMap t none) base μ mem w (.map mem.length) (mem++[.map []]):=by
 obtain⟨Z,X⟩:=y.push (.map #[] 0) (.map []) ⟨w.heap.size,0,0,0⟩ rfl (by simp only[af5];exact⟨#[],0,heap_alloc_new w _,⟨y.afY,rfl,by simp⟩,rfl,by simp⟩)
 refine⟨.map (some w.heap.size),_,_,?_,?_,Z,X⟩
 ·simp only[Instr.makeMap,Sem.run_bind,Sem.run_pure,run_newObj,Result.andThen_ok]
  rfl
 ·simp[afQ,eI]
end
end Go.Eng
namespace Go.Eng
def jv:List AV→Option (List UInt8)
 | []=>some []
 |.int .u8 n::l=>if 0≤n∧n<256 then match jv l with
  |some r=>some (UInt8.ofNat n.toNat::r)
  |none=>none
  else none
 |_::_=>none
def tK(mem:Mem)(x:AV):Option AV:=match x with
 |.slice b o n none=>match mem[b]? with
  |some (.cells _ es cs)=>if 0<n∧0<es%1000∧o+n*(es%1000)≤cs.length then some (.ptr b o) else none
  |_=>none
 |_=>none
def yJ(T:TypeId→Option TyI)(mem:Mem)(pt:TypeId)(x l:AV):Option (AV×Mem):=match T pt,x,l with
 |some i,.ptr b 0,.int .i64 n=>match i.desc with
  |.pointer e=>match T e,mem[b]? with
   |some j,some (.cells true es cs)=>
    if j.size=1∧es=1+1000*(e+1)∧0<n∧n≤cs.length∧n≤9223372036854775807 then match jv (cs.take n.toNat) with
     |some s=>some (.str s,mem.set b .qK)
     |none=>none
    else none
   |_,_=>none
  |_=>none
 |_,_,_=>none
theorem YN(a es:Nat)(h:es=1+1000*(a+1)):1000≤es∧es / 1000=a+1∧es%1000=1:=by omega
theorem Fk:∀{l:List AV} {s:List UInt8},jv l=some s→s.length=l.length∧∀(j:Nat) x,s[j]? =some x→l[j]? =some (.int .u8 (x.toNat:Int))
 | [],s,h=>by cases h;exact⟨rfl,fun j x Z=>by simp at Z⟩
 |v::l,s,h=>by
  cases v<;>try (unfold jv at h;cases h;done)
  rename_i k n;cases k<;>try (unfold jv at h;cases h;done)
  unfold jv at h;split at h
  ·rename_i S
   split at h
   ·rename_i r X
    cases h;obtain⟨V,U⟩:=Fk X;refine⟨by simp[V],fun j x Z=>?_⟩;cases j with
    |zero=>
     simp at Z;subst Z;simp only[List.getElem?_cons_zero,Option.some.injEq,AV.int.injEq,true_and];rw[UInt8.toNat_ofNat'];have:n.toNat%256=n.toNat:=Nat.mod_eq_of_lt (by omega);show n=((n.toNat%256:Nat):Int)
     rw[this];omega
    |succ j=>simpa using U j x (by simpa using Z)
   ·cases h
  ·cases h
theorem O4(w:World)(a:Addr)(n:Nat):(w.freeze a n).heap.size=w.heap.size:=by unfold World.freeze;split<;>simp
theorem Mb(w:World)(a:Addr)(n k:Nat)(h:k≠a.block):(w.freeze a n).heap[k]? =w.heap[k]? :=by
 unfold World.freeze;split
 ·rfl
 ·simp only[Array.getElem?_modify,if_neg (Ne.symm h)]
section
variable {P:Program}{T:TypeId→Option TyI}{μ:Nat→Place}{mem:Mem}{base:Nat}{w:World}
theorem AT(y:af3 base μ mem w){x v:AV}{X:Value}(ts:Array TypeId)(ty:TypeId)(H:afQ μ mem.length x X)(h:tK mem x=some v):Val P (Builtin.unsafeSliceData_ ts ty #[X]) w μ mem.length v:=by
 unfold tK at h;split at h
 ·rename_i b o n
  split at h
  ·rename_i own es N S
   split at h
   ·rename_i R
    cases h;obtain⟨Z,rfl⟩:=H.slice;have U:=y.slot b _ S;simp only[af5] at U;obtain⟨Q,el,M,L,O,K,_,_⟩:=U;have V:kH (μ b) o none≠0:=by
     simp only[kH,O.1];have:n≤((μ b).tot-o) / (es%1000):=by rw[Nat.le_div_iff_mul_le R.2.1];omega
     omega
    exact⟨_,Lib.run_unsafeSliceData_row _ _ _ _ _ _ V,by simp[afQ,Z]⟩
   ·cases h
  ·cases h
 ·cases h
theorem Hd(hT:cX P T)(H:af3 base μ mem w){pt I ty:TypeId}{x l v:AV}{X L:Value}{y :Mem}(J:afQ μ mem.length x X)(W:afQ μ mem.length l L)(h:yJ T mem pt x l=some (v,y)):
  agV P (Builtin.unsafeString_ #[pt,I] ty #[X,L]) base μ mem w v y :=by
 unfold yJ at h;split at h
 ·rename_i i b n Y
  split at h
  ·rename_i e hd
   split at h
   ·rename_i j es cs hj Q
    split at h
    ·rename_i hc
     obtain⟨c1,c2,c3,c4,c5⟩:=hc;split at h
     ·rename_i s hs
      cases h;obtain⟨g1,g2⟩:=Fk hs;have hX:=J.ptr;have hL:=W.int;have Z:=(hT pt i Y).desc;rw[hd] at Z;obtain⟨f,hf,O,_,_⟩:=(hT e j hj).info;have N:P.cellsOf e=1:=by unfold Program.cellsOf;rw[hf];simp[O,c1]
      have U:=H.slot b _ Q;simp only[af5] at U;obtain⟨S,el,fr,C,s2,s3,s4,s5⟩:=U;obtain⟨B,rfl,s8,s9⟩:=s5 trivial;have M:el=e:=by obtain⟨q1,q2,_⟩:=YN e es c2;have:=s2.2 q1;rw[q2] at this;exact Nat.succ.inj this
      subst M;have K:s.length=n.toNat:=by rw[g1,List.length_take];omega
      have hn:n=(s.length:Int):=by omega
      rw[hX.2,hL,hn,B];have G:w.shape? (μ b).blk=some (el,S.size):=by simp[World.shape?,C]
      have F:=Lib.run_unsafeString_row (P:=P) w pt I ty el Z N (μ b).blk S.size G s (by intro e;rw[e] at K;simp at K;omega) (by rw[s8];omega) (by omega) (fun q u o=>by
       have m:=g2 q u o;have D:q<n.toNat:=by rw[←K];exact(gL o)
       rw[List.getElem?_take_of_lt D] at m;obtain⟨V,hV,hr⟩:=s4 q _ m;rw[hr.int] at hV;rw[B,Nat.zero_add] at hV;simp only[Addr.add_lit,World.cell?,C,Nat.zero_add];exact hV)
      have I':¬s.length=0:=by omega
      have R:(w.freeze ⟨(μ b).blk,0,none⟩ s.length).os=w.os∧(w.freeze ⟨(μ b).blk,0,none⟩ s.length).tape=w.tape∧(w.freeze ⟨(μ b).blk,0,none⟩ s.length).output=w.output∧(w.freeze ⟨(μ b).blk,0,none⟩ s.length).drawn=w.drawn:=by unfold World.freeze;rw[if_neg I'];exact⟨rfl,rfl,rfl,rfl⟩
      obtain⟨k1,k2⟩:=H.write (w' :=w.freeze ⟨(μ b).blk,0,none⟩ s.length) (s' :=.qK) Q (kc Q) (fun h=>absurd rfl h) R.2.2.2 R.1 R.2.1 R.2.2.1 (O4 ..) (fun k hk=>Mb _ _ _ _ hk) trivial;refine⟨_,_,μ,F,by simp[afQ],k1,?_⟩;exact k2
     ·cases h
    ·cases h
   ·cases h
  ·cases h
 ·cases h
end
section
variable {P:Program}{T:TypeId→Option TyI}{μ:Nat→Place}{mem:Mem}{base:Nat}{w:World}
def ot(T:TypeId→Option TyI)(mem:Mem)(s d:TypeId):AV→Option (AV×Mem)
 |.str l=>match T s,T d with
  |some i,some j=>match i.desc,j.desc with
   |.string,.slice e=>match T e with
    |some k=>match k.desc with
     |.int .u8=>some (.slice mem.length 0 l.length none,mem++[.cells false 1 (l.map fun c=>.int .u8 c.toNat)])
     |_=>none
    |none=>none
   |_,_=>none
  |_,_=>none
 |_=>none
theorem Ma(w:World)(y:Array Value)(e:TypeId)(n:Nat):
  (w.alloc (.cells y e)).freeze ⟨w.heap.size,n,none⟩ 1=w.alloc (.cells y e (n,n+1)):=by
 unfold World.freeze;rw[if_neg (by decide)];simp only[World.alloc];congr 1;apply Array.ext
 ·simp
 ·intro k Z V
  simp only[Array.getElem_modify,Array.getElem_push];by_cases X:k<w.heap.size
  ·simp[X];omega
  ·simp at Z
   have:k=w.heap.size:=by omega
   subst this;simp
theorem AM(hT:cX P T)(H:af3 base μ mem w){s d:TypeId}{x v:AV}{X:Value}{y :Mem}(I:afQ μ mem.length x X)(h:ot T mem s d x=some (v,y)):
  agV P (convert s d X) base μ mem w v y :=by
 unfold ot at h;split at h
 ·rename_i l
  split at h
  ·rename_i i j C B
   have L:=(hT s i C).desc;have K:=(hT d j B).desc;split at h
   ·rename_i e U S
    rw[U] at L;rw[S] at K;split at h
    ·rename_i k o
     have h3:=(hT e k o).desc;split at h
     ·rename_i R
      rw[R] at h3;cases h;rw[I.str];let c:=grownCap w l.length 0 e
      have m:l.length≤c:=grownCap_ge w l.length 0 e;let Cs:Array Value:=(l.map fun c=>Value.int .u8 c.toNat).toArray++Array.replicate (c-l.length) (.int .u8 0)
      have Z:Cs.size=c:=by simp[Cs];omega
      have Q:af3 base μ mem w.drew:=H.agU rfl;obtain⟨Y,W⟩:=Q.push (.cells Cs e (Cs.size,Cs.size+1)) (.cells false 1 (l.map fun c=>.int .u8 c.toNat)) ⟨w.heap.size,0,Cs.size,1⟩ rfl (by simp only[af5];refine⟨Cs,e,(Cs.size,Cs.size+1),heap_alloc_new w.drew _,ahQ.small rfl (by decide),by simp[Z];exact m,fun q u G=>?_,fun h=>by cases h⟩;rw[List.getElem?_map,Option.map_eq_some_iff] at G;obtain⟨a,F,rfl⟩:=G;have J:=gL F;refine⟨.int .u8 a.toNat,?_,by simp[afQ]⟩;simp only[Nat.zero_add,Cs];rw[Array.getElem?_append_left (by simpa using J)];simp[F])
      refine⟨.slice (some ⟨w.heap.size,0,none⟩) l.length c,w.drew.alloc (.cells Cs e (Cs.size,Cs.size+1)),_,?_,?_,Y,?_⟩
      ·have hf:(Question.appendCap l.length 0 e).forced=false:=by simp[Question.forced]
       have PP:(ByteArray.mk l.toArray).size=l.length:=tM ..;have O :(ByteArray.mk l.toArray).data.map (fun b=>Value.int .u8 b.toNat)++Array.replicate (c-l.length) (.int .u8 0)=Cs:=by simp[Cs]
       have N:(w.drew.alloc (.cells Cs e)).shape? w.heap.size=some (e,Cs.size):=by unfold World.shape?;rw[show(w.drew.alloc (.cells Cs e)).heap[w.heap.size]? =_ from heap_alloc_new w.drew _]
       have V:=Ma w.drew Cs e Cs.size;have D:w.drew.heap.size=w.heap.size:=rfl;rw[D] at V;simp only[convert,Sem.run_bind,run_underlying L,run_underlying K,run_underlying h3,Result.andThen_ok,Conv.stringToBytes,choose,Sem.run,hf,Bool.false_eq_true,if_false,PP];change ((newRow e ((ByteArray.mk l.toArray).data.map (fun b=>Value.int .u8 b.toNat)++Array.replicate (c-l.length) (.int .u8 0))).run P w.drew).andThen _=_;rw[O];simp only[newRow,run_newObj,Result.andThen_ok,Sem.run_bind,markStringish,shape,freeze,Sem.run];have M:({ heap:=w.drew.heap.push (Obj.cells Cs e),tape:=w.drew.tape,drawn:=w.drew.drawn,os:=w.drew.os,output:=w.drew.output }:World)=w.drew.alloc (.cells Cs e):=rfl;simp only[Sem.run_pure,Result.andThen_ok,M,D,N,Sem.run,V];rfl
      ·simp only[afQ,eI,kH,List.length_append,List.length_singleton]
       refine⟨by omega,?_⟩;simp[Z]
      ·exact(Step.drew (m0:=mem.length) (Nat.le_refl _)).trans W
     ·cases h
    ·cases h
   ·cases h
  ·cases h
 ·cases h
end
section
variable {P:Program}{T:TypeId→Option TyI}{μ:Nat→Place}{mem:Mem}{base:Nat}{w:World}
def Qc:Option TyI→Bool
 |some i=>match i.desc with
  |.int _=>true
  |_=>false
 |none=>false
def Zl(T:TypeId→Option TyI)(t:TypeId)(x:AV):Option AV:=
 match T t with
 |none=>none
 |some i=>match i.desc,x with
  |.slice _,.qF=>some (.int .i64 0)
  |_,_=>none
theorem RV(hT:cX P T){n:Nat}{t ty:TypeId}{x v:AV}{X:Value}(y:afQ μ n x X)(h:Zl T t x=some v):Val P (Builtin.cap_ #[t] ty #[X]) w μ n v:=by
 unfold Zl at h;cases ht:T t with
 |none=>rw[ht] at h;cases h
 |some i=>
  rw[ht] at h;simp only at h;have Z:=(hT t i ht).desc;split at h
  ·rename_i e V
   rw[V] at Z;cases h;simp only[afQ] at y;subst y;refine .int ?_;simp[Builtin.cap_,run_underlying Z,goInt]
  ·cases h
def xf(T:TypeId→Option TyI)(mem:Mem)(t:TypeId)(s x:AV):Option (AV×Mem):=
 match T t with
 |none=>none
 |some i=>
  match i.desc,s,x with
  |.slice e,.qF,.int _ n=>
   match T e with
   |some j=>if 0<n∧n*j.bytes≤140737488355328∧n≤140737488355328∧0<j.size∧j.size<1000 then some (.slice mem.length 0 n.toNat none,mem++[.cells true (zb j e) (fY (jI j.zero).cells n.toNat)]) else none
   |none=>none
  |_,_,_=>none
theorem xV{n:Nat}{z:List AV}{Z:Array Value}(hz:afS μ n z Z.toList)(k:Nat):afS μ n (fY z k) (Builtin.zeroCells Z k).toList:=by
 have X:Z.size=z.length:=by rw[←Array.length_toList,hz.length]
 refine afS.agT (by rw[Array.length_toList,size_zeroCells,ix,X]) fun j v U=>?_
 obtain⟨V,S,R,h3⟩:=uh hz k j v U;refine⟨V,?_,R⟩;rw[Array.getElem?_toList,←S];unfold Builtin.zeroCells;have:j<k*Z.size:=h3;simp[this]
theorem LL(hT:cX P T){t t2 ty e:TypeId}{j:TyI}(hd:P.underlying t=some (.slice e))(I:T e=some j){kd:IntKind}(y:P.underlying t2=some (.int kd))(m:Nat)(k:IntKind)(w:World)(H:0<m)(J:m*j.bytes≤140737488355328)(W:m≤140737488355328)(hs:0<j.size):
  ∃X,m≤X∧(Builtin.append_ #[t,t2] ty #[.slice none 0 0,.int k m]).run P w=
   .ok (.slice (some ⟨w.heap.size,0,none⟩) m X) (w.drew.alloc (.cells (#[]++(Builtin.zeroCells j.zero.cells m++Builtin.zeroCells j.zero.cells (X-m))) e)):=by
 obtain⟨f,M,V,Z,U⟩:=(hT e j I).info;have S:¬(9223372036854775807<(m:Int)):=by omega
 have w1:IntKind.i64.wrap (m:Int)=m:=af;have L:¬((m:Int)<0):=by omega
 have R:¬(281474976710656<(m:Int)*(f.bytes:Int)):=by
  rw[Z];have:(m:Int)*(j.bytes:Int)=((m*j.bytes:Nat):Int):=by simp
  omega
 have Q:¬(281474976710656<Builtin.nextslicecap m 0*f.bytes):=by have:=growslice_fits (need:=m) (old:=0) (bytes:=f.bytes) (by omega) (by rw[Z];exact J);omega
 have O:¬(m=0):=by omega
 have N:∀n w,(askRoom n).run P w=.ok () w:=by intro n w;unfold askRoom;split<;>simp[mark,Sem.run]
 refine⟨grownCap w m 0 e,grownCap_ge w m 0 e,?_⟩;simp[Builtin.append_,run_underlying hd,run_underlying y,sizeOf,typeInfo,zeroValue,M,V,U,asInt,asIntOf,w1,L,S,Q,R,O,Question.forced,Builtin.firstCells,newRow,grownCap,N];intro h;exact absurd h (by have:=Nat.mul_pos H hs;omega)
theorem EM(hT:cX P T)(I:af3 base μ mem w){t t2 ty:TypeId}{s x v:AV}{S X:Value}{y :Mem}(hs:afQ μ mem.length s S)(J:afQ μ mem.length x X)(H:Qc (T t2)=true)(h:xf T mem t s x=some (v,y)):
  agV P (Builtin.append_ #[t,t2] ty #[S,X]) base μ mem w v y :=by
 unfold xf at h;cases ht:T t with
 |none=>rw[ht] at h;cases h
 |some i=>
  rw[ht] at h;simp only at h;have Q:=(hT t i ht).desc;split at h
  ·rename_i e k n L
   rw[L] at Q;split at h
   ·rename_i j O
    split at h
    ·rename_i K
     obtain⟨o,Y,W,N,G⟩:=K;cases h;obtain⟨kd,V⟩:∃kd,P.underlying t2=some (.int kd):=by
      unfold Qc at H;split at H
      ·rename_i F D
       split at H
       ·rename_i kd C
        have:=(hT t2 F D).desc;rw[C] at this;exact⟨kd,this⟩
       ·cases H
      ·cases H
     simp only[afQ] at hs;subst hs;rw[J.int];obtain⟨m,rfl⟩:∃m:Nat,n=m:=⟨n.toNat,by omega⟩
     have B:m*j.bytes≤140737488355328:=by
      have:(m:Int)*(j.bytes:Int)=((m*j.bytes:Nat):Int):=by simp
      omega
     obtain⟨nc,U,u⟩:=LL hT (ty:=ty) Q O V m k w (by omega) B (by omega) N;have M:=j9 μ mem.length j.zero;have Z:=(hT e j O).ahe;have R:(jI j.zero).cells.length=j.size:=by rw[←M.length,Array.length_toList,Z]
     have:=O5 (P:=P) I (es:=zb j e) (HL G) (olds:=[]) (news:=fY (jI j.zero).cells m) (Os:=[]) (Ns:=(Builtin.zeroCells j.zero.cells m).toList) N Z (by simp[afS]) (xV M m) (by simp[ix,R]) U u;simpa using this
    ·cases h
   ·cases h
  ·cases h
def Ly(T:TypeId→Option TyI)(mem:Mem)(t:TypeId)(x:AV):Option Mem:=
 match T t with
 |none=>none
 |some i=>
  match i.desc,x with
  |.slice _,.qF=>some mem
  |.slice e,.slice b o n _=>
   if n=0 then some mem else
   match T e,mem[b]? with
   |some j,some (.cells true es cs)=>
    if o+n*j.size≤cs.length∧(fY (jI j.zero).cells n).all AV.afR=true then some (mem.set b (.cells true es (cs.take o++fY (jI j.zero).cells n++cs.drop (o+n*j.size)))) else none
   |_,_=>none
  |_,_=>none
theorem LA(hT:cX P T)(H:af3 base μ mem w){t ty:TypeId}{x:AV}{X:Value}{y :Mem}(I:afQ μ mem.length x X)(h:Ly T mem t x=some y):
  agV P (Builtin.clear_ #[t] ty #[X]) base μ mem w (.tuple []) y :=by
 unfold Ly at h;cases ht:T t with
 |none=>rw[ht] at h;cases h
 |some i=>
  rw[ht] at h;simp only at h;have R:=(hT t i ht).desc;split at h
  ·rename_i e K
   rw[K] at R;cases h;simp only[afQ] at I;subst I;exact⟨.tuple #[],w,μ,by simp[Builtin.clear_,run_underlying R],by simp[afQ,afS],H,.refl (Nat.le_refl _)⟩
  ·rename_i e b o n c K
   rw[K] at R;obtain⟨hbn,rfl⟩:=I.slice;split at h
   ·rename_i B
    cases h;subst B;exact⟨.tuple #[],w,μ,by simp[Builtin.clear_,run_underlying R],by simp[afQ,afS],H,.refl (Nat.le_refl _)⟩
   ·rename_i B
    split at h
    ·rename_i j es N m M
     split at h
     ·rename_i hc
      obtain⟨G,UV⟩:=hc;cases h;have Y:=H.slot b _ M;simp only[af5] at Y;obtain⟨Z,el,fr,W,g2,g3,J,g5⟩:=Y;obtain⟨L,g7,g8,g9⟩:=g5 trivial;subst g7;have hz:=j9 μ mem.length j.zero;have F:=(hT e j m).ahe;have D:(jI j.zero).cells.length=j.size:=by rw[←hz.length,Array.length_toList,F]
      have V:=xV hz n;have S:(fY (jI j.zero).cells n).length=n*j.size:=by rw[ix,D]
      obtain⟨Q,O⟩:=xE (Builtin.zeroCells j.zero.cells n);rw[←O] at V;have C:Q.size=n*j.size:=by rw[←Array.length_toList,V.length,S]
      have h1:=V.agB UV;have Z6:=run_storeCells_at (P:=P) (μ b).blk o el Q.toList 0 Z w W (by rw[V.length,S];omega) h1;have hw:=H.write (w' :=w.setRow (μ b).blk (Z.toList.take (o+0)++Q.toList++Z.toList.drop (o+0+Q.toList.length)).toArray) (s' :=.cells true es (N.take o++fY (jI j.zero).cells n++N.drop (o+n*j.size)))
       M (kc M) (fun _=>⟨_,List.getElem?_set_self (gL M),rfl⟩) rfl rfl rfl rfl (by simp[World.setRow]) (fun k hk=>setRow_other w _ k _ hk) ?_
      ·refine⟨.tuple #[],_,μ,?_,by simp[afQ,afS],hw.1,hw.2⟩
       simp only[Builtin.clear_,List.getElem?_toArray,List.getElem?_cons_zero,Sem.run_bind,run_underlying R,Result.andThen_ok,L,Nat.zero_add,eJ hT m,←O];rw[Z6];rfl
      ·simp only[af5]
       refine⟨_,el,(0,0),setRow_heap w (μ b).blk Z _ el (0,0) W,g2,?_,fun q u hu=>?_,fun _=>⟨L,rfl,?_,g9⟩⟩
       ·simp only[List.length_append,List.length_take,List.length_drop,S];omega
       ·rw[L] at J
        obtain⟨U,hU,hr⟩:=zd (cs:=N) (vs:=fY (jI j.zero).cells n) (Vs:=Q.toList) (o:=o) (cur:=Z.toList) (by rw[S];exact G) (fun j v hv=>by simpa using J j v hv) V q u (by rw[S];exact hu);refine⟨U,?_,hr⟩;rw[L];simpa using hU
       ·simp only[List.size_toArray,List.length_append,List.length_take,List.length_drop,Array.length_toList,C];omega
     ·cases h
    ·cases h
  ·cases h
end
def yI(T:TypeId→Option TyI)(mem:Mem)(t:TypeId)(x:AV)(y H:Option AV):Option (AV×Mem):=
 match T t,x with
 |some i,.slice b o n none=>
  match i.desc with
  |.slice e=>match T e,mem[b]? with
   |some j,some (.cells _ es cs)=>match H,y with
    |none,some (.int _ l)=>if l=n∧0<n∧es=j.size∧0<es∧es<1000∧o+n*es≤cs.length then some (.slice mem.length 0 0 none,mem++[.qK]) else none
    |_,_=>none
   |_,_=>none
  |_=>none
 |_,_=>none
section
variable {P:Program}{T:TypeId→Option TyI}{μ:Nat→Place}{mem:Mem}{base:Nat}{w:World}
theorem af3.qK(h:af3 base μ mem w)(p:Place):af3 base (upd μ mem.length p) (mem++[.qK]) w∧Step mem.length μ mem w (upd μ mem.length p) (mem++[.qK]) w:=by
 have hμ:∀b,b<mem.length→upd μ mem.length p b=μ b:=fun b X=>xR X
 have low:∀{b:Nat}{s:afU},(mem++[afU.qK])[b]? =some s→s≠ .qK→b<mem.length∧mem[b]? =some s:=by
  intro b s Z U;by_cases S:b<mem.length
  ·rw[List.getElem?_append_left S] at Z;exact⟨S,Z⟩
  ·exfalso
   have R:b=mem.length:=by have:=gL Z;simp at this;omega
   subst R;simp at Z;exact U Z.symm
 have own:∀{b:Nat},ef (mem++[afU.qK]) b→b<mem.length∧ef mem b:=by rintro b ⟨s,Z,ho⟩;have:=low Z (afU.agr ho);exact⟨this.1,s,this.2,ho⟩
 refine⟨⟨h.afY,fun b s Z=>?_,fun b L K X G U Q=>?_⟩,?_⟩
 ·by_cases V:s=.qK
  ·subst V;trivial
  ·obtain⟨S,O⟩:=low Z V
   rw[hμ b S];exact(h.slot b s O).mono (by simp) hμ fun _=>rfl
 ·obtain⟨N,M⟩:=own X
  obtain⟨h3,F⟩:=low G U;rw[hμ b N,hμ L h3];exact h.sep b L K M F U Q
 ·exact⟨by simp,hμ,rfl,rfl,rfl,Nat.le_refl _,fun _ _ _=>rfl,fun b X _=>by obtain⟨N,M⟩:=own X;exact⟨b,M,(congrArg Place.blk (hμ b N)).symm⟩,Nat.le_refl _⟩
theorem Hb(hT:cX P T)(hH:af3 base μ mem w){t:TypeId}{x v:AV}{X:Value}{H I:Option AV}{J W:Option Value}{y :Mem}(hx:afQ μ mem.length x X)(Y:(H=none∧J=none)∨∃l L,H=some l∧J=some L∧afQ μ mem.length l L)(hhi:(I=none∧W=none)∨∃l L,I=some l∧W=some L∧afQ μ mem.length l L)(h:yI T mem t x H I=some (v,y)):
  agV P (Instr.sliceAt t X J W none) base μ mem w v y :=by
 unfold yI at h;split at h
 ·rename_i i b o n F
  split at h
  ·rename_i e D
   have M:=(hT t i F).desc;rw[D] at M;split at h
   ·rename_i j own es cs C B
    split at h
    ·rename_i k l
     split at h
     ·rename_i u
      obtain⟨rfl,g1,m,K,R,g7⟩:=u;cases h;rcases hhi with⟨_,rfl⟩ | ⟨_,_,U,_⟩
      ·rcases Y with⟨U,_⟩ | ⟨a,L,U,rfl,hL⟩
       ·cases U
       ·cases U
        rw[hL.int];obtain⟨hbn,rfl⟩:=hx.slice;have G:=hH.slot b _ B;simp only[af5] at G;obtain⟨cur,el,fr,hs1,hs2,hs3,_,_⟩:=G;have hs2:=hs2.es R;subst hs2;have Q:n≤kH (μ b) o none:=by simp only[kH];rw[Nat.le_div_iff_mul_le K];omega
        obtain⟨c,O⟩:=xE (kH (μ b) o none);rw[←O] at Q ⊢;obtain⟨S,Z⟩:=xE (if c=n then (μ b).off+o else (μ b).off+(o+n*(μ b).es));obtain⟨a1,a2⟩:=hH.qK ⟨(μ b).blk,S,(c-n)*(μ b).es,(μ b).es⟩;have P':(Instr.sliceBounds true n c (some (.int k (n:Int))) none none).run P w=.ok (n,n,c) w:=by
         have S':(0:Int)≤(n:Int):=by omega
         have N:(n:Int)≤((n:Nat):Int):=Int.le_refl _;simp[Instr.sliceBounds,cv S' N]
        refine⟨.slice (some ⟨(μ b).blk,S,none⟩) 0 (c-n),w,_,?_,?_,a1,a2⟩
        ·simp[Instr.sliceAt,Instr.slice,run_underlying M,P',cN hT C]
         by_cases V:c=n
         ·rw[if_pos V] at Z
          simp[V,Z]
         ·rw[if_neg V] at Z
          simp[V,Z,Addr.add_lit,m,Nat.add_assoc]
        ·simp only[afQ,eI,kH,List.length_append,List.length_singleton,Nat.add_zero,Nat.sub_zero]
         refine⟨by omega,?_⟩;rw[Nat.mul_div_cancel _ K]
      ·cases U
     ·cases h
    ·cases h
   ·cases h
  ·cases h
 ·cases h
end
def CC(T:TypeId→Option TyI)(t:TypeId)(x:AV)(I y H:Option AV):Option AV:=
 match T t,x with
 |some i,.slice b o n (some c)=>
  match i.desc with
  |.slice e=>
   match T e,Fx n y,Mj I,Fx c H with
   |some j,some h,some l,some m=>
    if 0≤l∧l≤h∧h≤m∧m≤c∧(H=none∨y.isSome=true) then some (.slice b (if m=l then o else o+l.toNat*j.size) (h.toNat-l.toNat) (some (m.toNat-l.toNat))) else none
   |_,_,_,_=>none
  |_=>none
 |_,_=>none
def tH(T:TypeId→Option TyI)(mem:Mem)(t t2:TypeId)(s x:AV):Option (AV×Mem):=
 match T t,s with
 |some i,.slice b 0 n (some c)=>
  match i.desc with
  |.slice e=>
   match T e,T t2,mem[b]? with
   |some j,some i2,some (.cells true es cs)=>
    if j.size=0∨1000≤j.size∨A7 i2=false then none else
    match nM T mem j.size t2 x with
    |none=>none
    |some (m,news)=>
     if news.all AV.afR=true∧es=j.size∧n+m≤c∧(n+m)*j.size≤cs.length then
      some (.slice b 0 (n+m) (some c),mem.set b (.cells true es (cs.take (n*j.size)++news++cs.drop ((n+m)*j.size)))) else none
   |_,_,_=>none
  |_=>none
 |_,_=>none
section
variable {P:Program}{T:TypeId→Option TyI}{μ:Nat→Place}{mem:Mem}{base:Nat}{w:World}
theorem xi(hT:cX P T){t:TypeId}{x v:AV}{X:Value}{Y hi mx:Option AV}{I J W:Option Value}(hx:afQ μ mem.length x X)(y:(Y=none∧I=none)∨∃l L,Y=some l∧I=some L∧afQ μ mem.length l L)(H:(hi=none∧J=none)∨∃l L,hi=some l∧J=some L∧afQ μ mem.length l L)(hmx:(mx=none∧W=none)∨∃l L,mx=some l∧W=some L∧afQ μ mem.length l L)(h:CC T t x Y hi mx=some v):
  Val P (Instr.sliceAt t X I J W) w μ mem.length v:=by
 unfold CC at h;split at h
 ·rename_i i b o n c ht
  have u:=(hT t i ht).desc;split at h
  ·rename_i e F'
   rw[F'] at u;split at h
   ·rename_i j N S Q hj Z V D
    split at h
    ·rename_i hc
     obtain⟨h0,h1,h2,h3,h4⟩:=hc;cases h;obtain⟨hbn,rfl⟩:=hx.slice;have P':(Instr.sliceBounds true n c I J W).run P w=.ok (S.toNat,N.toNat,Q.toNat) w:=by
      have K :S≤((N.toNat:Nat):Int):=by omega
      have R :0≤N:=by omega
      have U :N≤((Q.toNat:Nat):Int):=by omega
      have G :0≤Q:=by omega
      rcases hmx with⟨rfl,rfl⟩ | ⟨m,M,rfl,rfl,hM⟩
      ·simp only[Fx,Option.some.injEq] at D
       subst D;rw[Int.toNat_natCast] at U;rcases H with⟨rfl,rfl⟩ | ⟨a,A,rfl,rfl,F⟩<;>rcases y with⟨rfl,rfl⟩ | ⟨b,B,rfl,rfl,C⟩
       ·simp only[Fx,Mj,Option.some.injEq] at Z V;subst Z;subst V
        simp[Instr.sliceBounds]
       ·cases b<;>simp only[Fx,Mj,reduceCtorEq,Option.some.injEq] at Z V
        subst Z;subst V;rw[C.int];simp[Instr.sliceBounds,cv h0 h1]
       ·cases a<;>simp only[Fx,Mj,reduceCtorEq,Option.some.injEq] at Z V
        subst Z;subst V;rw[F.int];simp[Instr.sliceBounds,cv R U]
       ·cases a<;>simp only[Fx,reduceCtorEq,Option.some.injEq] at Z
        cases b<;>simp only[Mj,reduceCtorEq,Option.some.injEq] at V;subst Z;subst V;rw[F.int,C.int];simp[Instr.sliceBounds,cv R U,cv h0 K]
      ·cases m<;>simp only[Fx,reduceCtorEq,Option.some.injEq] at D
       subst D;rw[hM.int];rcases H with⟨rfl,rfl⟩ | ⟨a,A,rfl,rfl,F⟩<;>rcases y with⟨rfl,rfl⟩ | ⟨b,B,rfl,rfl,C⟩
       ·simp at h4
       ·simp at h4
       ·cases a<;>simp only[Fx,Mj,reduceCtorEq,Option.some.injEq] at Z V
        subst Z;subst V;rw[F.int];simp[Instr.sliceBounds,cv G h3,cv R U]
       ·cases a<;>simp only[Fx,reduceCtorEq,Option.some.injEq] at Z
        cases b<;>simp only[Mj,reduceCtorEq,Option.some.injEq] at V;subst Z;subst V;rw[F.int,C.int];simp[Instr.sliceBounds,cv G h3,cv R U,cv h0 K]
     refine⟨.slice (some ⟨(μ b).blk,(μ b).off+(if Q=S then o else o+S.toNat*j.size),none⟩) (N.toNat-S.toNat) (Q.toNat-S.toNat),?_,by simp only[afQ,kH];exact⟨hbn,trivial⟩⟩;have hml:(Q.toNat=S.toNat)=(Q=S):=by rw[eq_iff_iff];omega
     by_cases O:Q=S
     ·simp[Instr.sliceAt,Instr.slice,run_underlying u,P',cN hT hj,O,kH]
     ·simp[Instr.sliceAt,Instr.slice,run_underlying u,P',cN hT hj,hml,O,kH,Addr.add_lit,Nat.add_assoc]
    ·cases h
   ·cases h
  ·cases h
 ·cases h
theorem EK(hT:cX P T)(H:af3 base μ mem w){t t2 ty:TypeId}{s x v:AV}{S X:Value}{y :Mem}(hs:afQ μ mem.length s S)(hx:afQ μ mem.length x X)(h:tH T mem t t2 s x=some (v,y)):
  agV P (Builtin.append_ #[t,t2] ty #[S,X]) base μ mem w v y :=by
 unfold tH at h;split at h
 ·rename_i i b n c ht
  have hd:=(hT t i ht).desc;split at h
  ·rename_i e F'
   rw[F'] at hd;split at h
   ·rename_i j Y es N hj W C
    split at h
    ·cases h
    ·rename_i Y'
     have R:=(hT t2 Y W).desc;have J:(∃I,P.underlying t2=some (.slice I))∨P.underlying t2=some .string:=by
      have Q:A7 Y=true:=by
       cases M:A7 Y with
       |true=>rfl
       |false=>exact absurd (.inr (.inr M)) Y'
      unfold A7 at Q;split at Q
      next I M=>rw[M] at R;exact .inl ⟨I,R⟩
      next M=>rw[M] at R;exact .inr R
      ·cases Q
     have hsk:j.size<1000:=by
      rcases Nat.lt_or_ge j.size 1000 with h0 | h0
      ·exact h0
      ·exact absurd (.inr (.inl h0)) Y'
     split at h
     ·cases h
     ·rename_i m V acP
      split at h
      ·rename_i hc
       obtain⟨UV,rfl,aav,adh⟩:=hc;cases h;obtain⟨L,g1,B,g3,g4⟩:=uG (P:=P) H hx acP;obtain⟨hbn,rfl⟩:=hs.slice;have K:=H.slot b _ C;simp only[af5] at K;obtain⟨Z,el,fr,s1,s2,s3,s4,s5⟩:=K;obtain⟨s6,s7,s8,s9⟩:=s5 trivial;subst s7;have G:(μ b).off+0=0:=by omega
       have F:=vN hT (ty:=ty) hd hj J (some ⟨(μ b).blk,0,none⟩) n c m X w g3 aav;rw[g4 w (fun _=>rfl)] at F;have D:L.length=m*j.size:=by rw[g1.length,B]
       have O:n*j.size+m*j.size=(n+m)*j.size:=(Nat.add_mul _ _ _).symm;have G':N.length≤Z.size:=by rw[s8];exact s3
       have Z6:=run_storeCells_at (P:=P) (μ b).blk (n*j.size) el L 0 Z w s1 (by rw[D,Nat.add_zero,O];omega) (g1.agB UV);simp only[Result.andThen_ok,Addr.add_lit,Nat.zero_add,Z6] at F;have hw:=H.write (w' :=w.setRow (μ b).blk (Z.toList.take (n*j.size+0)++L++Z.toList.drop (n*j.size+0+L.length)).toArray) (s' :=.cells true j.size (N.take (n*j.size)++V++N.drop ((n+m)*j.size)))
        C (kc C) (fun _=>⟨_,List.getElem?_set_self (gL C),rfl⟩) rfl rfl rfl rfl (by simp[World.setRow]) (fun k hk=>setRow_other w _ k _ hk) ?_
       ·refine⟨.slice (some ⟨(μ b).blk,0,none⟩) (n+m) c,_,μ,?_,?_,hw.1,hw.2⟩
        ·rw[←F]
         simp only[kH,G]
        ·simp only[afQ,kH,G,List.length_set]
         exact⟨hbn,trivial⟩
       ·simp only[af5]
        refine⟨_,el,(0,0),setRow_heap w (μ b).blk Z _ el (0,0) s1,s2,?_,fun q u hu=>?_,fun _=>⟨s6,rfl,?_,s9⟩⟩
        ·simp only[List.length_append,List.length_take,List.length_drop,B];omega
        ·rw[s6] at s4
         rw[show(n+m)*j.size=n*j.size+V.length by rw[B,O]] at hu;obtain⟨U,hU,F⟩:=zd (cs:=N) (vs:=V) (Vs:=L) (o:=n*j.size) (cur:=Z.toList) (by rw[B,O];exact adh) (fun j v hv=>by simpa using s4 j v hv) g1 q u hu;refine⟨U,?_,F⟩;rw[s6];simpa using hU
        ·simp only[List.size_toArray,List.length_append,List.length_take,List.length_drop,Array.length_toList,D];omega
      ·cases h
   ·cases h
  ·cases h
 ·cases h
end
def sz(T:TypeId→Option TyI)(mem:Mem)(t:TypeId)(m k:AV):Option (AV×Mem):=
 match T t with
 |none=>none
 |some i=>
  match i.desc,m with
  |.map kt et,.map b=>
   match T et,mem[b]? with
   |some j,some (.map es)=>
    if mG T 20 kt k then
     match jZ T kt k es 0 with
     |some (some (q,v))=>if k.agE then some (.tuple [v,.int .i64 q],mem.set b (.map (es.set q (k,v)))) else none
     |some none=>some (.tuple [jI j.zero,.int .i64 es.length],mem.set b (.map (es++[(k,jI j.zero)])))
     |none=>none
    else none
   |_,_=>none
  |_,_=>none
def lP(mem:Mem)(m s v:AV):Option Mem:=
 match m,s with
 |.map b,.int _ (.ofNat q)=>match mem[b]? with
  |some (.map es)=>match es[q]? with
   |some e=>some (mem.set b (.map (es.set q (e.1,v))))
   |none=>none
  |_=>none
 |_,_=>none
variable{H':Array MapEntry}
section
variable {P:Program}{T:TypeId→Option TyI}{μ:Nat→Place}{mem:Mem}{base:Nat}{w:World}{n:Nat}
theorem L5{y:TypeId}{k:AV}:∀{es:List (AV×AV)} {i q:Nat} {v:AV},jZ T y k es i=some (some (q,v))→(es[q-i]?).map (·.2)=some v
 | [],i,q,v,h=>by simp[jZ] at h
 |e::es,i,q,v,h=>by
  have X:=oI h;rw[jZ] at h;split at h
  ·cases h;simp
  ·have:=L5 h
   obtain⟨j,V,Z,U,h3⟩:=oI h;subst Z;rw[show i+1+j-(i+1)=j by omega] at this;rw[show i+1+j-i=j+1 by omega];simpa using this
  ·cases h
theorem Dn(H:af3 base μ mem w){b I aaa :Nat}{es es' :List (AV×AV)}{aac :Array MapEntry}(hb:mem[b]? =some (.map es))(h1:w.heap[(μ b).blk]? =some (.map H' I))(y:base≤(μ b).blk)(J:E9 aac aaa)(g1:aac.size=es'.length)(g2:∀(j:Nat) e,es'[j]? =some e→∃E,aac[j]? =some E∧QI μ mem.length e E):
  (setObj (μ b).blk (.map aac aaa)).run P w=.ok () { w with heap:=w.heap.setIfInBounds (μ b).blk (.map aac aaa) }∧
  af3 base μ (mem.set b (.map es')) { w with heap:=w.heap.setIfInBounds (μ b).blk (.map aac aaa) }∧Step mem.length μ mem w μ (mem.set b (.map es')) { w with heap:=w.heap.setIfInBounds (μ b).blk (.map aac aaa) }:=by
 have Z:(μ b).blk<w.heap.size:=(Array.getElem?_eq_some_iff.1 h1).1;refine⟨ud h1 (by simp),H.write hb (Mz hb) (fun _=>⟨_,List.getElem?_set_self (gL hb),rfl⟩) rfl rfl rfl rfl (by simp) (fun q X=>?_) ?_⟩
 ·simp[Array.getElem?_setIfInBounds_ne (Ne.symm X)]
 ·simp only[af5]
  exact⟨aac,aaa,by simp[Z],⟨y,J⟩,g1,g2⟩
theorem SQ{y i:Nat}(h:E9 H' y)(H:i<H'.size):H'.findIdx? (fun e=>(e.born:Int)==(i:Int))=some i:=by
 rw[Array.findIdx?_eq_some_iff_getElem];refine⟨H,?_,?_⟩
 ·have:=h.2 i H'[i] (by simp)
  simp[this]
 ·intro j Z
  have:=h.2 j H'[j] (by simp);simp[this];omega
theorem yH(y:af3 base μ mem w){t:TypeId}{m s v:AV}{M S V:Value}{mem' :Mem}(H:afQ μ mem.length m M)(hs:afQ μ mem.length s S)(I:afQ μ mem.length v V)(h:lP mem m s v=some mem'):∃w',(Instr.entryStore t M S V).run P w=.ok () w' ∧af3 base μ mem' w' ∧Step mem.length μ mem w μ mem' w' :=by
 unfold lP at h;split at h
 ·rename_i b k q
  split at h
  ·rename_i es hb
   split at h
   ·rename_i e K
    cases h;simp only[afQ] at H;obtain⟨_,rfl⟩:=H;have Q:=y.slot b _ hb;simp only[af5] at Q;obtain⟨H',G,F,X,D,h3⟩:=Q;have C:(getObj (μ b).blk).run P w=.ok (.map H' G) w:=by simp[getObj,Sem.run,F]
    have B:q<es.length:=gL K;have u:=SQ X.2 (i:=q) (by omega);obtain⟨f1,f2,f3⟩:=Dn (P:=P) y (es' :=es.set q (e.1,v)) (aac :=H'.modify q fun e=>{ e with val:=V }) (aaa :=G) hb F X.1 ⟨by simpa using X.2.1,fun j O Z =>by
     rw[Array.getElem?_modify] at Z;split at Z
     ·simp only[Option.map_eq_some_iff] at Z
      obtain⟨o,Y,rfl⟩:=Z;exact X.2.2 j o Y
     ·exact X.2.2 j O Z⟩ (by simpa using D) (fun j W U =>by
     rw[List.getElem?_set] at U;by_cases R:q=j
     ·subst R
      simp only[if_true,B,Option.some.injEq] at U;subst U;obtain⟨E,J,hr⟩:=h3 q e K;exact⟨{ E with val:=V },by simp[Array.getElem?_modify,J],hr.1,I⟩
     ·rw[if_neg R] at U
      obtain⟨O,Z,N⟩:=h3 j W U;exact⟨O,by simp[Array.getElem?_modify,R,Z],N⟩)
    refine⟨_,?_,f2,f3⟩;rw[hs.int];have L :H'.findIdx? (fun e=>(e.born:Int)==Int.ofNat q)=some q:=u;simp only[Instr.entryStore,Sem.run_bind,Result.andThen_ok,C,asInt,asIntOf,Sem.run_pure,L];exact f1
   ·cases h
  ·cases h
 ·cases h
theorem CB(hT:cX P T)(y:af3 base μ mem w){t:TypeId}{m k v:AV}{M K:Value}{mem' :Mem}(hm:afQ μ mem.length m M)(hk:afQ μ mem.length k K)(h:sz T mem t m k=some (v,mem')):agV P (Instr.mapEntry t M K) base μ mem w v mem' :=by
 unfold sz at h;cases ht:T t with
 |none=>rw[ht] at h;cases h
 |some i=>
  rw[ht] at h;simp only at h;have W:=(hT t i ht).desc;split at h
  ·rename_i kt et b F'
   rw[F'] at W;split at h
   ·rename_i j es J hb
    split at h
    ·rename_i U
     simp only[afQ] at hm;obtain⟨hbn,rfl⟩:=hm;have hs:=y.slot b _ hb;simp only[af5] at hs;obtain⟨H',S,I,V,G,h3⟩:=hs;have hg:(getObj (μ b).blk).run P w=.ok (.map H' S) w:=by simp[getObj,Sem.run,I]
     have F:=mg (P:=P) (n:=mem.length) hT false 20 U hk 9980 w;have H:∃o,T kt=some o:=by
      rw[mG] at U;cases hx:T kt with
      |none=>rw[hx] at U;cases U
      |some o=>exact⟨o,rfl⟩
     obtain⟨o,D⟩:=H;have e2:H'.toList.length=es.length:=by simpa using G
     have e3:∀(j:Nat) e,es[j]? =some e→∃E,H'.toList[j]? =some E∧QI μ mem.length e E:=fun j e C=>by obtain⟨E,L,Y⟩:=h3 j e C;exact⟨E,by simpa using L,Y⟩
     split at h
     ·rename_i q v' B
      split at h
      ·rename_i hsc
       cases h;obtain⟨R,g1,g2⟩:=iq hT D hk e2 e3 B w;cases R with
       |none=>exact g2.elim
       |some x=>
        obtain⟨q',V'⟩:=x;obtain⟨rfl,hv⟩:=g2;obtain⟨u,e,hq,C,X'⟩:=oI B;have hq' :q=u :=by omega
        subst hq';obtain⟨E,L,Y⟩:=h3 q e C;have hsb:=tn (μ:=μ) (n:=mem.length) hsc hk Y.1 X' rfl;have Z5 :q<es.length:=gL C;have hev:e.2=v' :=by have:=L5 B;rw[Nat.sub_zero] at this;rw[C] at this;simpa using this
        obtain⟨f1,f2,f3⟩:=Dn (P:=P) y (es' :=es.set q (k,v')) (aac :=H'.modify q fun e=>{ e with key:=K }) (aaa :=S) hb I V.1 ⟨by simpa using V.2.1,fun j Q Z =>by
         rw[Array.getElem?_modify] at Z;split at Z
         ·simp only[Option.map_eq_some_iff] at Z
          obtain⟨E0,k1,rfl⟩:=Z;exact V.2.2 j E0 k1
         ·exact V.2.2 j Q Z⟩ (by simpa using G) (fun j e' X =>by
         rw[List.getElem?_set] at X;by_cases O:q=j
         ·subst O
          simp only[if_true,Z5,Option.some.injEq] at X;subst X;exact⟨{ E with key:=K },by simp[Array.getElem?_modify,L],hk,by rw[←hev];exact Y.2⟩
         ·rw[if_neg O] at X
          obtain⟨Q,Z,N⟩:=h3 j e' X;exact⟨Q,by simp[Array.getElem?_modify,O,Z],N⟩)
        refine⟨.tuple #[V',goInt q],_,μ,?_,?_,f2,f3⟩
        ·simp only[Instr.mapEntry,Sem.run_bind,run_underlying W,Result.andThen_ok,hg]
         rw[show(10000:Nat)=20+9980 from rfl,F];simp only[Result.andThen_ok,g1,Sem.run_bind];have aaV:(Instr.keyThatStays (((H'[q]?).map (·.key)).getD K) K).run P w=.ok K w:=by unfold Instr.keyThatStays;rw[L];simp only[Option.map_some,Option.getD_some,hsb,if_true];rfl
         rw[aaV];simp only[Result.andThen_ok,f1,Sem.run_pure];rw[L];simp only[Option.map_some,Option.getD_some,V.2.2 q E L]
        ·simp only[List.length_set,afQ]
         exact⟨[V',goInt q],rfl,bO.2 ⟨hv,bO.2 ⟨by simp[afQ,goInt],by simp[afS]⟩⟩⟩
      ·cases h
     ·rename_i B
      cases h;obtain⟨R,g1,g2⟩:=iq hT D hk e2 e3 B w;cases R with
      |some x=>exact g2.elim
      |none=>
       have hz:=yD μ mem.length j.zero;obtain⟨f1,f2,f3⟩:=Dn (P:=P) y (es' :=es++[(k,jI j.zero)]) (aac :=H'.push { key:=K,val:=j.zero,born:=S }) (aaa :=S+1) hb I V.1 ⟨by simp[V.2.1],fun j Q Z =>by
        rw[Array.getElem?_push] at Z;split at Z
        next J=>cases Z;rw[J];exact V.2.1
        ·exact V.2.2 j Q Z⟩ (by simp[G]) (fun u e' X =>by
        by_cases hj' :u <es.length
        ·rw[List.getElem?_append_left hj'] at X
         obtain⟨Q,Z,N⟩:=h3 u e' X;exact⟨Q,by rw[Array.getElem?_push,if_neg (by omega)];exact Z,N⟩
        ·have hje:u =es.length:=by have:=(gL X);simp at this;omega
         subst hje;simp at X;subst X;exact⟨{ key:=K,val:=j.zero,born:=S },by rw[Array.getElem?_push,if_pos G.symm],hk,hz⟩)
       refine⟨.tuple #[j.zero,goInt S],_,μ,?_,?_,f2,f3⟩
       ·simp only[Instr.mapEntry,Sem.run_bind,run_underlying W,Result.andThen_ok,hg]
        rw[show(10000:Nat)=20+9980 from rfl,F];simp only[Result.andThen_ok,g1,Sem.run_bind,eJ hT J,f1,Sem.run_pure]
       ·simp only[List.length_set,afQ]
        exact⟨[j.zero,goInt S],rfl,bO.2 ⟨hz,bO.2 ⟨by simp[afQ,goInt,V.2.1,G],by simp[afS]⟩⟩⟩
     ·cases h
    ·cases h
   ·cases h
  ·cases h
end
end Go.Eng
namespace Go.Eng
def aUn(y:UnOp)(x:AV):Option AV:=
 match y,x with
 |.not,.bool b=>some (.bool (!b))
 |.neg,.int k n=>some (.int k (k.wrap (0-n)))
 |_,_=>none
def aOp(T:TypeId→Option TyI)(env:Env)(mem:Mem)(H:Op):Option (AV×Mem):=
 match H with
 |.move x=>some (get env x,mem)
 |.assign x=>some (get env x,mem)
 |.pick c a b=>match get env c with
  |.bool t=>some (if t then get env a else get env b,mem)
  |_=>none
 |.alloc e=>ux T mem e
 |.box _ x=>Yz mem (get env x)
 |.build t ps=>match bN T t (ps.toList.map fun p=>(p.1,get env p.2)) with
  |some v=>some (v,mem)
  |none=>none
 |.buildSlice t n ps=>gh T mem t n (ps.toList.map fun p=>(p.1,get env p.2))
 |.load t a=>match RY T mem t (get env a) with
  |some v=>some (v,mem)
  |none=>none
 |.store t a x=>match uy T mem t (get env a) (get env x) with
  |some m=>some (.undef,m)
  |none=>none
 |.nilCheck x=>match get env x with
  |.ptr b o=>some (.ptr b o,mem)
  |.func f Z=>some (.func f Z,mem)
  |_=>none
 |.binOp H t x y _=>match Zk T H t (sL x) (sL y) (get env x) (get env y) with
  |some v=>some (v,mem)
  |none=>none
 |.unOp H _ x=>match aUn H (get env x) with
  |some v=>some (v,mem)
  |none=>none
 |.convert s d x=>match Be T s d (get env x) with
  |some v=>some (v,mem)
  |none=>ot T mem s d (get env x)
 |.makeFunc (.func f) first ab1=>if first.size=0 then some (.func f (YE env ab1),mem) else none
 |.makeSlice t l c=>lf T mem t (get env l) (get env c)
 |.slice t x lo hi none=>match PQ T mem t (get env x) (lo.map (get env)) (hi.map (get env)) with
  |some v=>some (v,mem)
  |none=>match yI T mem t (get env x) (lo.map (get env)) (hi.map (get env)) with
   |some r=>some r
   |none=>match CC T t (get env x) (lo.map (get env)) (hi.map (get env)) none with
    |some v=>some (v,mem)
    |none=>none
 |.slice t x lo hi (some mx)=>match CC T t (get env x) (lo.map (get env)) (hi.map (get env)) (some (get env mx)) with
  |some v=>some (v,mem)
  |none=>none
 |.fieldAddr t x f=>match tI T t (get env x) f with
  |some v=>some (v,mem)
  |none=>none
 |.field t x f=>match mV T t (get env x) f with
  |some v=>some (v,mem)
  |none=>none
 |.indexAddr t x i=>match tJ T t (get env x) (get env i) with
  |some v=>some (v,mem)
  |none=>none
 |.index t x i=>match PO T t (get env x) (get env i) with
  |some v=>some (v,mem)
  |none=>none
 |.makeMap _ none=>some (.map mem.length,mem++[.map []])
 |.lookup t m k ok=>match lQ T mem t (get env m) (get env k) ok with
  |some v=>some (v,mem)
  |none=>none
 |.mapUpdate t m k x=>match fz T mem t (get env m) (get env k) (get env x) with
  |some m=>some (.undef,m)
  |none=>none
 |.mapEntry t m k=>sz T mem t (get env m) (get env k)
 |.entryStore _ m s x=>match lP mem (get env m) (get env s) (get env x) with
  |some m=>some (.undef,m)
  |none=>none
 |.extract t i=>match get env t with
  |.tuple Z=>match Z[i]? with
   |some v=>some (v,mem)
   |none=>none
  |_=>none
 |.call { callee:=.builtin .len,args:=⟨[x]⟩,argTypes:=⟨[t]⟩ }=>match XE T t mem (get env x) with
  |some v=>some (v,mem)
  |none=>none
 |.call { callee:=.builtin .append,args:=⟨[s,x]⟩,argTypes:=⟨[t,t2]⟩ }=>if Qc (T t2) then xf T mem t (get env s) (get env x) else
  match qg T mem t t2 (get env s) (get env x) with
  |some r=>some r
  |none=>tH T mem t t2 (get env s) (get env x)
 |.call { callee:=.builtin .cap,args:=⟨[x]⟩,argTypes:=⟨[t]⟩ }=>match Zl T t (get env x) with
  |some v=>some (v,mem)
  |none=>none
 |.call { callee:=.builtin .clear,args:=⟨[x]⟩,argTypes:=⟨[t]⟩ }=>match Ly T mem t (get env x) with
  |some m=>some (.tuple [],m)
  |none=>none
 |.call { callee:=.builtin .unsafeSliceData,args:=⟨[x]⟩,argTypes:=_ }=>match tK mem (get env x) with
  |some v=>some (v,mem)
  |none=>none
 |.call { callee:=.builtin .unsafeString,args:=⟨[x,y]⟩,argTypes:=⟨[pt,_]⟩ }=>yJ T mem pt (get env x) (get env y)
 |.call { callee:=.builtin .min,args:=⟨[x,y]⟩,argTypes:=_ }=>match get env x,get env y with
  |.int k a,.int k' b=>if k=k' then some (.int k (if b<a then b else a),mem) else none
  |.str a,.str b=>some (.str (if Op.bytesLess a b||a==b then a else b),mem)
  |_,_=>none
 |.call { callee:=.builtin .max,args:=⟨[x,y]⟩,argTypes:=_ }=>match get env x,get env y with
  |.int k a,.int k' b=>if k=k' then some (.int k (if a<b then b else a),mem) else none
  |.str a,.str b=>some (.str (if Op.bytesLess a b then b else a),mem)
  |_,_=>none
 |_=>none
variable{a:Act}{s u:List UInt8}{ts:Array TypeId}
section
variable {P:Program}{T:TypeId→Option TyI}{μ:Nat→Place}{mem:Mem}{base:Nat}{w:World}
def ZX(μ:Nat→Place)(n:Nat)(N:Next)(v:AV):Prop:=(∃V,N=.value V∧afQ μ n v V)∨(N=.skip∧v=.undef)
def agO(P:Program)(x:Sem Next)(base:Nat) (μ:Nat→Place)(mem:Mem)(w:World)(v:AV) (y :Mem):Prop:=
 ∃N w' μ',x.run P w=.ok N w' ∧ZX μ' y.length N v∧af3 base μ' y w' ∧Step mem.length μ mem w μ' y w'
theorem agO.agF{x:Sem Value}{v:AV}{y :Mem}(h:agV P x base μ mem w v y):agO P (do pure (.value (←x))) base μ mem w v y :=by obtain⟨V,w',μ',Z,X,h3,U⟩:=h;exact⟨.value V,w',μ',by simp[Z],.inl ⟨V,rfl,X⟩,h3,U⟩
theorem agO.agb{x:Sem Value}{v:AV}(y:af3 base μ mem w)(h:Val P x w μ mem.length v):agO P (do pure (.value (←x))) base μ mem w v mem:=
 .agF (.agb y h)
theorem agO.pure{V:Value}{v:AV}(y:af3 base μ mem w)(h:afQ μ mem.length v V):agO P (Pure.pure (.value V)) base μ mem w v mem:=
 ⟨.value V,w,μ,rfl,.inl ⟨V,rfl,h⟩,y,.refl (Nat.le_refl _)⟩
theorem MC{env:Env}{n:Nat}(H:agn μ n env a.tmps)(y:Array (Nat×Operand)):
  (y.toList.map fun p=>(p.1,a.eval p.2)).map (·.1)=(y.toList.map fun p=>(p.1,get env p.2)).map (·.1)∧
  afS μ n ((y.toList.map fun p=>(p.1,get env p.2)).map (·.2)) ((y.toList.map fun p=>(p.1,a.eval p.2)).map (·.2)):=by
 constructor
 ·simp[Function.comp_def]
 ·have:=Bl H (y.toList.map (·.2))
  simpa [Function.comp_def] using this
theorem sW{env:Env}{n:Nat}(y:agn μ n env a.tmps)(x:Option Operand):
  (x.map (get env)=none∧x.map a.eval=none)∨∃l L,x.map (get env)=some l∧x.map a.eval=some L∧afQ μ n l L:=by
 cases x with
 |none=>exact .inl ⟨rfl,rfl⟩
 |some x=>exact .inr ⟨_,_,rfl,rfl,bp y x⟩
theorem WT{n:Nat}{ty:TypeId}{X Y:Value}(y:afQ μ n (.str s) X)(H:afQ μ n (.str u) Y):Val P (Builtin.min_ ts ty #[X,Y]) w μ n (.str (if Op.bytesLess s u||s==u then s else u)):=by rw[y.str,H.str];refine .str ?_;simp[Builtin.min_,Builtin.min2,Op.stringOp,asBool];split<;>rfl
theorem WR{n:Nat}{ty:TypeId}{X Y:Value}(y:afQ μ n (.str s) X)(H:afQ μ n (.str u) Y):Val P (Builtin.max_ ts ty #[X,Y]) w μ n (.str (if Op.bytesLess s u then u else s)):=by rw[y.str,H.str];refine .str ?_;simp[Builtin.max_,Builtin.max2,Op.stringOp,asBool];cases Op.bytesLess s u<;>simp
theorem TK(hT:cX P T)(I:af3 base μ mem w){env:Env}{o:Oper}{v:AV}{J :Mem}(H:agn μ mem.length env a.tmps)(h:aOp T env mem o.op=some (v,J)):agO P (execOp a.eval o) base μ mem w v J :=by
 unfold aOp at h;split at h
 ·rename_i x Z
  cases h;simp only[execOp,Z];exact .pure I (bp H x)
 ·rename_i x Z
  cases h;simp only[execOp,Z];exact .pure I (bp H x)
 ·rename_i c x y Z
  split at h
  ·rename_i t hc
   cases h;have:=bp H c;rw[hc] at this;simp only[execOp,Z,this.bool,asBool,pure_bind];cases t
   ·exact .pure I (bp H y)
   ·exact .pure I (bp H x)
  ·cases h
 ·rename_i e Z
  simp only[execOp,Z];exact .agF (Lw hT I h)
 ·rename_i e x Z
  simp only[execOp,Z];exact .agF (RU I (bp H x) h)
 ·rename_i t M Z
  split at h
  ·rename_i S X
   cases h;obtain⟨C,B⟩:=MC H M;simp only[execOp,Z];refine .agb I ?_;have:=Lx (P:=P) hT X C B w;have e:(⟨M.toList.map fun p=>(p.1,a.eval p.2)⟩:Array (Nat×Value))=M.map fun(i,x)=>(i,a.eval x):=by apply Array.ext';simp
   rw[e] at this;exact this
  ·cases h
 ·rename_i t n M Z
  obtain⟨C,B⟩:=MC H M;simp only[execOp,Z];refine .agF ?_;have:=yF (P:=P) hT I C B h;have e:(⟨M.toList.map fun p=>(p.1,a.eval p.2)⟩:Array (Nat×Value))=M.map fun(i,x)=>(i,a.eval x):=by apply Array.ext';simp
  rw[e] at this;exact this
 ·rename_i t x Z
  split at h
  ·rename_i S X
   cases h;simp only[execOp,Z];exact .agb I (Cz hT I (bp H x) X)
  ·cases h
 ·rename_i t x y Z
  split at h
  ·rename_i m X
   cases h;obtain⟨w',G,N,h3⟩:=LH (P:=P) hT I (bp H x) (bp H y) X;simp only[execOp,Z];exact⟨.skip,w',μ,by simp[G],.inr ⟨rfl,rfl⟩,N,h3⟩
  ·cases h
 ·rename_i x Z
  split at h
  ·rename_i b o U
   cases h;have:=bp H x;rw[U] at this;simp only[execOp,Z,this.ptr.2];refine .pure I ?_;rw[this.ptr.2] at this;exact this
  ·rename_i f cs U
   cases h;have:=bp H x;rw[U] at this;have N:=this;simp only[afQ] at N;obtain⟨Us,D,_⟩:=N;simp only[execOp,Z,D];refine .pure I ?_;rw[D] at this;exact this
  ·cases h
 ·rename_i op t x y yt Z
  split at h
  ·rename_i S X
   cases h;simp only[execOp,Z];exact .agb I (RS hT (bp H x) (bp H y) x y X w)
  ·cases h
 ·rename_i op t x Z
  split at h
  ·rename_i S X
   cases h;simp only[execOp,Z];refine .agb I ?_;have U:=bp H x;unfold aUn at X;split at X
   next Y=>cases X;rw[Y] at U;rw[U.bool];exact .bool rfl
   next Y=>cases X;rw[Y] at U;rw[U.int];exact .int rfl
   ·cases X
  ·cases h
 ·rename_i s d x Z
  split at h
  ·rename_i S X
   cases h;simp only[execOp,Z];exact .agb I (EN hT (bp H x) X w)
  ·simp only[execOp,Z];exact .agF (AM hT I (bp H x) h)
 ·rename_i f first L Z
  split at h
  ·rename_i hf
   cases h;simp only[execOp,Z];refine .agb I ⟨.func (.func f) (first.map a.eval) (L.map a.eval),rfl,?_⟩;simp only[afQ];have:first= #[]:=Array.eq_empty_of_size_eq_zero hf
   subst this;refine⟨L.toList.map a.eval,?_,Bl H L.toList⟩;simp only[Array.map_empty];congr 1;apply Array.ext';simp
  ·cases h
 ·rename_i t l c Z
  simp only[execOp,Z];exact .agF (AQ hT I (bp H l) (bp H c) h)
 ·rename_i t x F O Z
  split at h
  ·rename_i S X
   cases h;simp only[execOp,Z];refine .agb I ?_;simp only[Option.map_none];exact LF hT I (bp H x) (sW H F) (sW H O) X
  ·simp only[execOp,Z]
   simp only[Option.map_none];split at h
   ·rename_i r X
    cases h;exact .agF (Hb hT I (bp H x) (sW H F) (sW H O) X)
   ·split at h
    ·rename_i S X
     cases h;exact .agb I (xi hT (bp H x) (sW H F) (sW H O) (.inl ⟨rfl,rfl⟩) X)
    ·cases h
 ·rename_i t x F O mx Z
  split at h
  ·rename_i S X
   cases h;simp only[execOp,Z];refine .agb I ?_;simp only[Option.map_some];exact xi hT (bp H x) (sW H F) (sW H O) (.inr ⟨_,_,rfl,rfl,bp H mx⟩) X
  ·cases h
 ·rename_i t x f Z
  split at h
  ·rename_i S X
   cases h;simp only[execOp,Z];exact .agb I (AN hT (bp H x) X w)
  ·cases h
 ·rename_i t x f Z
  split at h
  ·rename_i S X
   cases h;simp only[execOp,Z];exact .agb I (LB hT (bp H x) X w)
  ·cases h
 ·rename_i t x i Z
  split at h
  ·rename_i S X
   cases h;simp only[execOp,Z];exact .agb I (AO hT (bp H x) (bp H i) X w)
  ·cases h
 ·rename_i t x i Z
  split at h
  ·rename_i S X
   cases h;simp only[execOp,Z];exact .agb I (LC hT (bp H x) (bp H i) X w)
  ·cases h
 ·rename_i t Z
  cases h;simp only[execOp,Z,Option.map_none];exact .agF (HB I)
 ·rename_i t m k ok Z
  split at h
  ·rename_i S X
   cases h;simp only[execOp,Z];exact .agb I (G9 hT I (bp H m) (bp H k) X)
  ·cases h
 ·rename_i t m k x Z
  split at h
  ·rename_i m' X
   cases h;obtain⟨w',G,N,h3⟩:=AS (P:=P) hT I (bp H m) (bp H k) (bp H x) X;simp only[execOp,Z];exact⟨.skip,w',μ,by simp[G],.inr ⟨rfl,rfl⟩,N,h3⟩
  ·cases h
 ·rename_i t m k Z
  simp only[execOp,Z];exact .agF (CB hT I (bp H m) (bp H k) h)
 ·rename_i t m s x Z
  split at h
  ·rename_i m' X
   cases h;obtain⟨w',G,N,h3⟩:=yH (P:=P) (t:=t) I (bp H m) (bp H s) (bp H x) X;simp only[execOp,Z];exact⟨.skip,w',μ,by simp[G],.inr ⟨rfl,rfl⟩,N,h3⟩
  ·cases h
 ·rename_i t i Z
  split at h
  ·rename_i cs U
   split at h
   ·rename_i S O
    cases h;have:=bp H t;rw[U] at this;simp only[afQ] at this;obtain⟨Us,D,hr⟩:=this;obtain⟨V,hV,hv⟩:=hr.get i _ O;simp only[execOp,Z,D];exact .agb I ⟨V,by simp[Instr.extract,hV],hv⟩
   ·cases h
  ·cases h
 ·rename_i x t Z
  split at h
  ·rename_i S X
   cases h;simp only[execOp,Z,resolve,invoke,builtin,pure_bind];rw[show Array.map a.eval ⟨[x]⟩= #[a.eval x] by simp];exact .agb I (RX hT I (bp H x) X)
  ·cases h
 ·rename_i s x t t2 Z
  simp only[execOp,Z,resolve,invoke,builtin,pure_bind];rw[show Array.map a.eval ⟨[s,x]⟩= #[a.eval s,a.eval x] by simp];split at h
  ·rename_i O
   exact .agF (EM hT I (bp H s) (bp H x) O h)
  ·split at h
   ·rename_i r X
    cases h;exact .agF (G8 hT I (bp H s) (bp H x) X)
   ·exact .agF (EK hT I (bp H s) (bp H x) h)
 ·rename_i x t Z
  split at h
  ·rename_i S X
   cases h;simp only[execOp,Z,resolve,invoke,builtin,pure_bind];rw[show Array.map a.eval ⟨[x]⟩= #[a.eval x] by simp];exact .agb I (RV hT (bp H x) X)
  ·cases h
 ·rename_i x t Z
  split at h
  ·rename_i m' X
   cases h;simp only[execOp,Z,resolve,invoke,builtin,pure_bind];rw[show Array.map a.eval ⟨[x]⟩= #[a.eval x] by simp];exact .agF (LA hT I (bp H x) X)
  ·cases h
 ·rename_i x ts Z
  split at h
  ·rename_i S X
   cases h;simp only[execOp,Z,resolve,invoke,builtin,pure_bind];rw[show Array.map a.eval ⟨[x]⟩= #[a.eval x] by simp];exact .agb I (AT I _ _ (bp H x) X)
  ·cases h
 ·rename_i x y pt it Z
  simp only[execOp,Z,resolve,invoke,builtin,pure_bind];rw[show Array.map a.eval ⟨[x,y]⟩= #[a.eval x,a.eval y] by simp];exact .agF (Hd hT I (bp H x) (bp H y) h)
 ·rename_i x y ts Z
  split at h
  ·rename_i k i k' j U K
   split at h
   ·rename_i W
    cases h;subst W;have R:=bp H x;have Q:=bp H y;rw[U] at R;rw[K] at Q;simp only[execOp,Z,resolve,invoke,builtin,pure_bind];refine .agb I (.int ?_);simp[Builtin.min_,Builtin.min2,R.int,Q.int]
   ·cases h
  ·rename_i s u U K
   cases h;have R:=bp H x;have Q:=bp H y;rw[U] at R;rw[K] at Q;simp only[execOp,Z,resolve,invoke,builtin,pure_bind];rw[show Array.map a.eval ⟨[x,y]⟩= #[a.eval x,a.eval y] by simp];exact .agb I (WT R Q)
  ·cases h
 ·rename_i x y ts Z
  split at h
  ·rename_i k i k' j U K
   split at h
   ·rename_i W
    cases h;subst W;have R:=bp H x;have Q:=bp H y;rw[U] at R;rw[K] at Q;simp only[execOp,Z,resolve,invoke,builtin,pure_bind];refine .agb I (.int ?_);simp[Builtin.max_,Builtin.max2,R.int,Q.int]
   ·cases h
  ·rename_i s u U K
   cases h;have R:=bp H x;have Q:=bp H y;rw[U] at R;rw[K] at Q;simp only[execOp,Z,resolve,invoke,builtin,pure_bind];rw[show Array.map a.eval ⟨[x,y]⟩= #[a.eval x,a.eval y] by simp];exact .agb I (WR R Q)
  ·cases h
 ·cases h
end
end Go.Eng
namespace Go.Eng
def Vw(P:Program)(f:FuncId):Prop:=∃fn,P.funcs[f]? =some fn∧fn.body.isSome=true∧(fn.name == "runtime.NumGoroutine")=false
abbrev Fr(y:Option Nat):Fence:={ Fence.wide with round:=y }
variable{f:FuncId}{ro:Option Nat}
theorem Bi{n:Nat}{P:Program}{args:Array Value}{w:World}{R:Ending→World→Prop}:CallsIn (Fr ro) n P f args w R↔Calls P f args w R:=
 callsIn_wide (n:=n)
def yU:String:=String.ofList ([105,110,116,101,114,110,97,108,47,115,116,114,99,111,110,118,46,117,105,110,116,54,52,112,111,119,49,48].map Char.ofNat)
structure GOk (P:Program)(base:Nat)(w:World):Prop where
 below:P.globals.size≤base
 tab:Lib.TabIs P w yU .u64 Lib.pow10Tab
theorem GOk.ahR{P:Program}{y:Nat}{w:World}(h:GOk P y w){s:String}(hs:yU=s):Lib.TabIs P w s .u64 Lib.pow10Tab:=hs▸h.tab
theorem Qo{y:Nat}{μ:Nat→Place}{mem:Mem}{w:World}(H:af3 y μ mem w){b:Nat}(I:ef mem b):y≤(μ b).blk:=by
 obtain⟨s,X,Z⟩:=I;have:=H.slot b s X;cases s with
 |qK=>cases Z
 |cells own es cs=>simp only[afU.own] at Z;subst Z;simp only[af5] at this;obtain⟨_,_,_,_,_,_,_,h⟩:=this;exact(h trivial).2.2.2
 |map es=>simp only[af5] at this;obtain⟨_,_,_,h,_⟩:=this;exact h.1
 |agq es=>cases Z
 |loop r=>simp only[af5] at this;obtain⟨_,_,h,_⟩:=this;exact h
variable{name:String}
theorem ET{P:Program}{g:Nat}(h:P.globalNamed name=some g):g<P.globals.size:=by
 unfold Program.globalNamed at h;split at h
 ·rename_i X Z
  cases h;have:g∈(List.range P.globals.size).filter fun g=>(P.globals[g]?).any (·.name==name):=by rw[Z];simp
  simpa using (List.mem_filter.1 this).1
 ·cases h
variable{w' :World}
theorem QG{P:Program}{w:World}(h:∀k,k<P.globals.size→w'.heap[k]? =w.heap[k]?):w'.var? P name=w.var? P name:=by
 unfold World.var?;cases hg:P.globalNamed name with
 |none=>rfl
 |some g=>simp only[Option.bind_some];rw[h g (ET hg)]
variable{m0:Nat}{μ' :Nat→Place}
theorem GOk.step{P:Program}{y:Nat}{μ:Nat→Place}{mem H :Mem}{w:World}(h:GOk P y w)(I:af3 y μ mem w)(hS:Step m0 μ mem w μ' H w'):GOk P y w' :=by
 refine⟨h.below,?_⟩;have:=h.tab;unfold Lib.TabIs at this ⊢;rw[←this];refine QG fun k X=>hS.frame k ?_ fun b Z=>?_
 ·have:=h.below;have:=I.afY;omega
 ·have:=Qo I Z;have:=h.below;omega
structure MOk (P:Program)(base h0:Nat)(w:World)(ds:List Deferred):Prop where
 ag1:GOk P base w
 afY:base≤h0
 le:h0≤w.heap.size
 each:∀d∈ds,∃r,d={ target:=.collected r,args:= #[] }∧h0≤r∧w.heap[r]? =some (.deferred (some []))
 nodup:(ds.map (·.target)).Nodup
variable{h0:Nat}
theorem MOk.nil{P:Program}{y:Nat}(w:World)(hg:GOk P y w)(H:y≤h0)(h:h0≤w.heap.size):MOk P y h0 w []:=⟨hg,H,h,fun _ h=>by(cases h),by simp⟩
theorem qT{y:Nat}{μ:Nat→Place}{mem:Mem}{w:World}(H:af3 y μ mem w){r:Nat}{x}(hr:w.heap[r]? =some (.deferred x)){b:Nat}{s:afU}(I:mem[b]? =some s)(hs:s≠ .qK):(μ b).blk≠r:=by
 intro e;have:=H.slot b s I;cases s with
 |qK=>exact hs rfl
 |cells own es cs=>simp only[af5] at this;obtain⟨_,_,_,Z,_⟩:=this;rw[e,hr] at Z;cases Z
 |map es=>simp only[af5] at this;obtain⟨_,_,Z,_⟩:=this;rw[e,hr] at Z;cases Z
 |agq es=>simp only[af5] at this;obtain⟨_,_,Z,_⟩:=this;rw[e,hr] at Z;cases Z
 |loop r=>simp only[af5] at this;obtain⟨_,Z,_⟩:=this;rw[e,hr] at Z;cases Z
theorem MOk.step{P:Program}{y:Nat}{μ:Nat→Place}{mem H :Mem}{w:World}{I:List Deferred}(h:MOk P y h0 w I)(J:af3 y μ mem w)(hS:Step m0 μ mem w μ' H w'):MOk P y h0 w' I:=by refine⟨h.ag1.step J hS,h.afY,Nat.le_trans h.le hS.size,fun d V=>?_,h.nodup⟩;obtain⟨r,e,U,Z⟩:=h.each d V;refine⟨r,e,U,?_⟩;rw[hS.frame r (Array.getElem?_eq_some_iff.1 Z).1 fun b X=>?_,Z];obtain⟨s,X,S⟩:=X;exact qT J Z X (afU.agr S)
def ags(P:Program)(f:FuncId)(args:List AV)(mem:Mem)(R:AV→Mem→Prop):Prop:=
 Vw P f∧∀base μ w Vs,GOk P base w→af3 base μ mem w→afS μ mem.length args Vs→
  Calls P f ⟨Vs⟩ w fun e w' =>∃V v mem' μ',e=.returned V∧afQ μ' mem'.length v V∧af3 base μ' mem' w' ∧Step mem.length μ mem w μ' mem' w' ∧R v mem'
def kO(P:Program)(f:FuncId)(args:List AV)(mem:Mem)(v:AV) (y :Mem):Prop:=ags P f args mem fun Z X=>Z=v∧X=y
theorem ags.mono{P f args mem}{R y :AV→Mem→Prop}(h:ags P f args mem R)(hr:∀v m,R v m→y v m):ags P f args mem y :=
 ⟨h.1,fun base μ w Vs h0 h1 h2=>(h.2 base μ w Vs h0 h1 h2).mono fun _ _ ⟨V,v,m,μ',a,b,c,d,r⟩=>⟨V,v,m,μ',a,b,c,d,hr _ _ r⟩⟩
def agC(P:Program)(b:Nat)(args:List AV)(mem:Mem)(R:AV→Mem→Prop):Prop:=
 ∀base μ w Vs,GOk P base w→af3 base μ mem w→afS μ mem.length args Vs→b<mem.length→∃f Z assign X,
  (Instr.yield (μ b).blk ⟨Vs⟩).run P w=.ok (.round (μ b).blk f Z assign X) w∧
  RoundIn Fence.wide 0 P (μ b).blk f Z assign X w fun e w' =>∃V v mem' μ',e=.returned V∧afQ μ' mem'.length v V∧af3 base μ' mem' w' ∧Step mem.length μ mem w μ' mem' w' ∧R v mem'
def gk(P:Program)(b:Nat)(args:List AV)(mem:Mem)(v:AV) (y :Mem):Prop:=agC P b args mem fun Z X=>Z=v∧X=y
def BB(env:Env):Op→Option (Nat×List AV)
 |.call { callee:=.value x,args,argTypes:=_ }=>match get env x with
  |.yield b=>some (b,YE env args)
  |_=>none
 |_=>none
def Hl(env:Env):Op→Option (FuncId×List AV)
 |.call { callee:=.value x,args,argTypes:=_ }=>match get env x with
  |.func f Z=>some (f,YE env args++Z)
  |_=>none
 |_=>none
def tE(ops:Array Oper)(env:Env)(o:Oper):Option Bool:=
 match o.guard with
 |none=>some true
 |some (j,acE)=>match (ops[j]?).bind (·.dst) with
  |some d=>match ad env d with
   |.bool b=>some (b==acE)
   |.tuple []=>some false
   |_=>none
  |none=>none
def agH(env:Env)(y:Option Tmp)(v:AV):Env:=
 match y with
 |some d=>(d,v)::env
 |none=>env
structure St where
 env:Env
 mem:Mem
def ES(N:Nat)(o:Oper):Bool:=match o.dst with
 |some d=>decide (d<N)
 |none=>true
def xY(P:Program)(T:TypeId→Option TyI)(env:Env)(mem:Mem)(o:Oper)(v:AV) (y :Mem):Prop:=
 aOp T env mem o.op=some (v,y)∨(∃f Z,Hl env o.op=some (f,Z)∧kO P f Z mem v y)∨
  ∃b Z,BB env o.op=some (b,Z)∧gk P b Z mem v y
def nP(P:Program)(T:TypeId→Option TyI)(N:Nat)(ops:Array Oper):List Oper→St→St→Prop
 | [],st,T' =>T' =st
 |o::os,st,T' =>∃b,tE ops st.env o=some b∧ES N o=true∧
   (b=false→nP P T N ops os ⟨agH st.env o.dst (.tuple []),st.mem⟩ T')∧
   (b=true→∃v Z,xY P T st.env st.mem o v Z ∧nP P T N ops os ⟨agH st.env o.dst v,Z⟩ T')
variable{o:Oper}
section
variable {P:Program}{T:TypeId→Option TyI}{μ:Nat→Place}{mem:Mem}{base:Nat}{w:World}
theorem agn.agH{n N:Nat}{env:Env}{a:Act}{v:AV}{V:Value}(h:agn μ n env a.tmps)(y:a.tmps.size=N)(hd:ES N o=true)(H:afQ μ n v V):
  agn μ n (agH env o.dst v) (a.put o.dst V).tmps:=by
 unfold ES at hd;cases ho:o.dst with
 |none=>simpa [Go.Eng.agH,Act.put] using h
 |some d=>
  rw[ho] at hd;simp only[decide_eq_true_eq] at hd;exact h.put (by rw[y];exact hd) H
theorem fE(a:Act)(d:Option Tmp)(V:Value):(a.put d V).tmps.size=a.tmps.size:=by cases d<;>simp[Act.put]
theorem fU(a:Act)(d:Option Tmp)(V:Value):(a.put d V).defers=a.defers:=by cases d<;>rfl
theorem qM{env:Env}{n:Nat}{ops:Array Oper}{a:Act}{b:Bool}(H:agn μ n env a.tmps)(h:tE ops env o=some b):
  Region.wanted o (yielded ops a.tmps)=b:=by
 unfold tE at h;unfold Region.wanted;split at h
 next V=>cases h;simp[V]
 ·rename_i j X V
  simp only[V];split at h
  ·rename_i d R
   split at h
   ·rename_i Q U
    cases h;have:=H d;rw[U] at this;have Z:=this.bool;simp only[yielded,R,Option.bind_some];have S:a.tmps[d]? =some (.bool Q):=by
     rw[Array.getD_eq_getD_getElem?] at Z;cases hx:a.tmps[d]? with
     |none=>rw[hx] at Z;simp[undef] at Z
     |some y=>rw[hx] at Z;simp at Z;rw[Z]
    rw[S];cases Q <;>cases X<;>rfl
   ·rename_i U
    cases h;have:=H d;rw[U] at this;simp only[afQ,afS] at this;obtain⟨O,Z,rfl⟩:=this;simp only[yielded,R,Option.bind_some];rw[Array.getD_eq_getD_getElem?] at Z;cases hx:a.tmps[d]? with
    |none=>rfl
    |some y=>rw[hx] at Z;simp only[Option.getD_some] at Z;rw[Z];cases X<;>rfl
   ·cases h
  ·cases h
theorem zE(h:Vw P f)(args:Array Value)(w:World):(callFunc f args).run P w=.ok (.enter f args) w:=by
 obtain⟨fn,X,Z,h3⟩:=h;have V:¬fn.body=none:=by intro e;rw[e] at Z;cases Z
 have U:¬fn.name = "runtime.NumGoroutine" := by simpa using h3
 simp[callFunc,X,U,V]
theorem Ha{T:TypeId→Option TyI}{env:Env}{mem:Mem}{y:Op}{r}(h:aOp T env mem y=some r):∀c,y≠ .defer c:=by intro c e;subst e;simp[aOp] at h
theorem sU(hT:cX P T)(hG:GOk P base w)(W:af3 base μ mem w){N:Nat}{env:Env}{a:Act}{v:AV}{y :Mem}(H:agn μ mem.length env a.tmps)(I:a.tmps.size=N)(hd:ES N o=true)(h:xY P T env mem o v y){K:Act→World→Prop}{Q:Exit→Act→World→Prop}(J:∀V w' μ',afQ μ' y.length v V→af3 base μ' y w' →agn μ' y.length (agH env o.dst v) (a.put o.dst V).tmps→Step mem.length μ mem w μ' y w' →K (a.put o.dst V) w'):
  o.wpIn (Fr ro) 0 P a w K Q:=by
 refine⟨fun _ _=>trivial,?_⟩;rcases h with h | ⟨f,R,Z,O⟩ | ⟨b,R,Z,hy⟩
 ·rw[Oper.semAt_eq _ _ _ (Ha h)]
  obtain⟨N',w',μ',u,m,h3,B⟩:=TK hT W H h;rw[u];have M :agn μ' y.length env a.tmps:=H.mono B.len B.agree;rcases m with⟨V,rfl,L⟩ | ⟨rfl,rfl⟩
  ·exact J V w' μ' L h3 (M.agH I hd L) B
  ·have L:afQ μ' y.length .undef undef:=by simp[afQ]
   exact J undef w' μ' L h3 (M.agH I hd L) B
 ·unfold Hl at Z
  split at Z
  ·rename_i x S ts G
   split at Z
   ·rename_i f' caps j
    cases Z;have X:=bp H x;rw[j] at X;simp only[afQ] at X;obtain⟨Us,Y,hus⟩:=X;have U:(execOp a.eval o).run P w=.ok (.enter f ⟨S.toList.map a.eval++Us⟩) w:=by simp only[execOp,G,resolve,Y,Deferred.ofValue,pure_bind,invoke];rw[zE O.1];congr 2;apply Array.ext';simp
    rw[Oper.semAt_eq _ _ _ (by rw[G];intro c e;cases e),U];refine⟨fun h=>by simp[Fence.wide] at h,Bi.2 ((O.2 base μ w _ hG W ((Bl H S.toList).append hus)).mono ?_)⟩;rintro e w' ⟨V,v',m',μ',rfl,q1,q2,q3,rfl,rfl⟩;exact J V w' μ' q1 q2 ((H.mono q3.len q3.agree).agH I hd q1) q3
   ·cases Z
  ·cases Z
 ·unfold BB at Z
  split at Z
  ·rename_i x S ts G
   split at Z
   ·rename_i b' j
    cases Z;have X:=bp H x;rw[j] at X;simp only[afQ] at X;obtain⟨hb,Y⟩:=X;obtain⟨f,D,Z8,C,u,m⟩:=hy base μ w _ hG W (Bl H S.toList) hb;have U:(execOp a.eval o).run P w=.ok (.round (μ b).blk f D Z8 C) w:=by
     rw[←u];simp only[execOp,G,resolve,Y,Deferred.ofValue,pure_bind,invoke];have e: #[]++S.map a.eval=(⟨S.toList.map a.eval⟩:Array Value):=by apply Array.ext';simp
     rw[e]
    rw[Oper.semAt_eq _ _ _ (by rw[G];intro c e;cases e),U];refine⟨fun h=>by simp[Fence.wide] at h,RoundIn.mono (F:=Fr ro) m ?_⟩;rintro e w' ⟨V,v',m',μ',rfl,q1,q2,q3,rfl,rfl⟩;exact J V w' μ' q1 q2 ((H.mono q3.len q3.agree).agH I hd q1) q3
   ·cases Z
  ·cases Z
theorem xD(hT:cX P T){N:Nat}{ops:Array Oper}{Q:Exit→Act→World→Prop}:∀{l:List Oper}{y H :St}{μ:Nat→Place} {w:World} {a:Act} {m0:Nat}{μ0:Nat→Place} {mem0:Mem} {w0:World} {h0:Nat} {ro:Option Nat},
  nP P T N ops l y H →af3 base μ y.mem w→agn μ y.mem.length y.env a.tmps→a.tmps.size=N→MOk P base h0 w a.defers→m0≤y.mem.length→Step m0 μ0 mem0 w0 μ y.mem w→
  (∀a' w' μ',af3 base μ' H.mem w' →agn μ' H.mem.length H.env a'.tmps→a'.tmps.size=N→MOk P base h0 w' a'.defers→m0≤H.mem.length→Step m0 μ0 mem0 w0 μ' H.mem w' →Q .normal a' w')→
  wpListIn (Fr ro) 0 P ops Q l a w
 | [],y,H,μ,w,a,m0,μ0,mem0,w0,h0,ro,h,hH,hR,hN,hdf,hm,hS,hQ=>by simp only[nP] at h;subst h;exact wpListIn_nil (hQ a w μ hH hR hN hdf hm hS)
 |o::os,y,H,μ,w,a,m0,μ0,mem0,w0,h0,ro,h,hH,hR,hN,hdf,hm,hS,hQ=>by
  obtain⟨b,O,U,M,L⟩:=h;refine wpListIn_step fun K S=>?_
  rw[qM hR O];cases b with
  |false=>
   simp only[Bool.false_eq_true,if_false];refine⟨fun _ _=>trivial,?_⟩;refine S _ _ (xD hT (M rfl) hH (hR.agH hN U (by simp[afQ,afS,undef])) (by rw[fE];exact hN) (by rw[fU];exact hdf) hm hS hQ)
  |true=>
   simp only[if_true];obtain⟨v,R,Z,X⟩:=L rfl;refine sU hT hdf.ag1 hH hR hN U Z fun V w' μ' q1 q2 q3 q4=>S _ _ ?_
   exact xD hT X q2 q3 (by rw[fE];exact hN) (by rw[fU];exact hdf.step hH q4) (Nat.le_trans hm q4.len) (hS.trans (q4.mono hm)) hQ
end
end Go.Eng
namespace Go.Eng
def AWP(P:Program)(tp:Bool)(N m0:Nat)(c:Code)(y:St)(Q:Exit→St→Prop):Prop:=
 ∀(X:Option Nat) (V:Nat) base μ w a,(tp=true→X=none)→af3 base μ y.mem w→agn μ y.mem.length y.env a.tmps→a.tmps.size=N→MOk P base V w a.defers→m0≤y.mem.length→
  c.wpIn (Fr X) 0 P (fun e Z w' =>∃T' μ',af3 base μ' T'.mem w' ∧agn μ' T'.mem.length T'.env Z.tmps∧Z.tmps.size=N∧MOk P base V w' Z.defers∧m0≤T'.mem.length∧
   Step m0 μ y.mem w μ' T'.mem w' ∧Q e T') a w
variable{Q' :Exit→St→Prop}{c:Code}{id:Nat}
section
variable {P:Program}{T:TypeId→Option TyI}{tp:Bool}{N m0:Nat}{Q:Exit→St→Prop}{st:St}
theorem AWP.mono(h:AWP P tp N m0 c st Q)(hq:∀e s,Q e s→Q' e s):AWP P tp N m0 c st Q' :=
 fun ro h0 base μ w a hro h1 h2 h3 h4 h5=>wpIn_mono (h ro h0 base μ w a hro h1 h2 h3 h4 h5) fun _ _ _ ⟨s,μ',a1,a2,a3,a4,a5,a6,a7⟩=>⟨s,μ',a1,a2,a3,a4,a5,a6,hq _ _ a7⟩
theorem Wt(h:Q .normal st):AWP P tp N m0 .skip st Q:=
 fun _ _ _ μ _ _ _ h1 h2 h3 h4 h5=>wpIn_skip ⟨st,μ,h1,h2,h3,h4,h5,.refl h5,h⟩
theorem Wq(h:Q (.exit id) st):AWP P tp N m0 (.exit id) st Q:=
 fun _ _ _ μ _ _ _ h1 h2 h3 h4 h5=>wpIn_exit ⟨st,μ,h1,h2,h3,h4,h5,.refl h5,h⟩
theorem XG(h:Q .ret st):AWP P tp N m0 .ret st Q:=
 fun _ _ _ μ _ _ _ h1 h2 h3 h4 h5=>wpIn_ret ⟨st,μ,h1,h2,h3,h4,h5,.refl h5,h⟩
def Zg(R:St→Prop)(Q:Exit→St→Prop):Exit→St→Prop
 |.normal,s=>R s
 |e,s=>Q e s
theorem yK{x y:Code}(h:AWP P tp N m0 x st (Zg (fun s=>AWP P tp N m0 y s Q) Q)):AWP P tp N m0 (.seq x y) st Q:=by
 intro ro h0 base μ w a hro h1 h2 h3 h4 h5;refine wpIn_seq (wpIn_mono (h ro h0 base μ w a hro h1 h2 h3 h4 h5) ?_);rintro e a' w' ⟨s,μ',b1,b2,b3,b4,b5,b6,b7⟩;cases e with
 |normal=>
  refine wpIn_mono (b7 ro h0 base μ' w' a' hro b1 b2 b3 b4 b5) ?_;rintro e a2 w2 ⟨s2,μ2,c1,c2,c3,c4,c5,c6,c7⟩;exact⟨s2,μ2,c1,c2,c3,c4,c5,b6.trans c6,c7⟩
 |_=>exact⟨s,μ',b1,b2,b3,b4,b5,b6,b7⟩
theorem PR{c:Operand}{x y:Code}{b:Bool}(hc:get st.env c=.bool b)(H:b=true→AWP P tp N m0 x st Q)(hf:b=false→AWP P tp N m0 y st Q):
  AWP P tp N m0 (.cond c x y) st Q:=by
 intro ro h0 base μ w a hro h1 h2 h3 h4 h5;have Z:=bp h2 c;rw[hc] at Z;exact wpIn_cond_split Z.bool (fun e=>H e ro h0 base μ w a hro h1 h2 h3 h4 h5) (fun e=>hf e ro h0 base μ w a hro h1 h2 h3 h4 h5)
def PU(id:Nat)(Q:Exit→St→Prop):Exit→St→Prop
 |.exit i,s=>if i=id then Q .normal s else Q (.exit i) s
 |e,s=>Q e s
theorem CJ(h:AWP P tp N m0 c st (PU id Q)):AWP P tp N m0 (.block id c) st Q:=by
 intro ro h0 base μ w a hro h1 h2 h3 h4 h5;refine wpIn_block (wpIn_mono (h ro h0 base μ w a hro h1 h2 h3 h4 h5) ?_);rintro e a' w' ⟨s,μ',b1,b2,b3,b4,b5,b6,b7⟩;cases e with
 |exit i=>
  simp only[Exit.inBlock,PU] at b7 ⊢;split at b7
  next Z=>rw[if_pos Z];exact⟨s,μ',b1,b2,b3,b4,b5,b6,b7⟩
  next Z=>rw[if_neg Z];exact⟨s,μ',b1,b2,b3,b4,b5,b6,b7⟩
 |_=>exact⟨s,μ',b1,b2,b3,b4,b5,b6,b7⟩
theorem R6(hT:cX P T){ops:Array Oper}{y :St}(h:nP P T N ops ops.toList st y)(hq:Q .normal y):
  AWP P tp N m0 (.region id ops false) st Q:=by
 intro ro h0 base μ w a hro h1 h2 h3 h4 h5;exact wpIn_region_list (xD hT h h1 h2 h3 h4 h5 (.refl h5) fun a' w' μ' c1 c2 c3 c4 c5 c6=>⟨y,μ',c1,c2,c3,c4,c5,c6,hq⟩)
theorem Ad{F:Fence}{r:Nat}{σ:Type}{Q:Exit→Act→World→Prop}(I:σ→Act→World→Prop)(m:σ→Nat)(y:∀s a w,I s a w→c.wpIn F r P (Exit.then (fun U w' =>∃O,I O U w' ∧m O <m s) Q) a w):
  ∀{s a w},I s a w→(Code.loop c).wpIn F r P Q a w:=by
 intro s a w h₀ b k cs hro hb hr;have M:∀n s a w,m s=n→I s a w→
   ∃e U w',Q e U w' ∧ArrivesIn (Machine.fenced P F) P (lone (b.atR a (.code c::.inLoop c::k)) cs w) b k cs e U w' :=by
  intro n;induction n using Nat.strongRecOn with
  |_ n ih=>
   intro s a w G D;obtain⟨e,S,R,X,Z⟩:=y s a w D b (.inLoop c::k) cs hro hb hr;cases e with
   |normal=>
    obtain⟨O,L,C⟩:=X;obtain⟨B,u,o,K,V⟩:=ih (m O) (G▸C) O S R rfl L;exact⟨B,u,o,K,.of_steps (StepsIn.trans Z (.one (fenced_calm hb hr rfl) stepR_inLoop)) V⟩
   |exit id=>exact⟨_,S,R,X,.pass (x:=.inLoop c) rfl (fun _ _=>.inl (by simp)) Z⟩
   |goto l=>exact⟨_,S,R,X,.pass (x:=.inLoop c) rfl (fun _ _=>.inl (by simp)) Z⟩
   |ret=>exact⟨_,S,R,X,.pass (x:=.inLoop c) rfl (fun _ _=>.inl (by simp)) Z⟩
   |panic ch=>exact⟨_,S,R,X,.pass (x:=.inLoop c) rfl (fun _ _=>.inl (by simp)) Z⟩
   |outgrown=>exact⟨_,S,R,X,.pass (x:=.inLoop c) rfl (fun _ _=>.inl (by simp)) Z⟩
 obtain⟨e,U,w',X,Z⟩:=M _ s a w rfl h₀;exact⟨e,U,w',X,.of_steps (.one (fenced_calm hb hr rfl) stepR_loop) Z⟩
theorem Wr{σ:Type}(I:σ→St→Prop)(m:σ→Nat){s:σ}(H:I s st)(y:∀s st,I s st→AWP P tp N m0 c st (Zg (fun Z =>∃V,I V Z ∧m V <m s) Q)):AWP P tp N m0 (.loop c) st Q:=by
 intro ro h0 base μ w a hro h1 h2 h3 h4 h5;refine Ad (σ:=σ) (fun s X w' =>∃Z μ',af3 base μ' Z.mem w' ∧agn μ' Z.mem.length Z.env X.tmps∧X.tmps.size=N∧MOk P base h0 w' X.defers∧m0≤Z.mem.length∧
   Step m0 μ st.mem w μ' Z.mem w' ∧I s Z) m ?_ (s:=s) ⟨st,μ,h1,h2,h3,h4,h5,.refl h5,H⟩
 rintro s X w' ⟨Z,μ',b1,b2,b3,b4,b5,b6,b7⟩;refine wpIn_mono (y s Z b7 ro h0 base μ' w' X hro b1 b2 b3 b4 b5) ?_;rintro e a2 w2 ⟨s2,μ2,c1,c2,c3,c4,c5,c6,c7⟩;cases e with
 |normal=>
  obtain⟨V,d1,d2⟩:=c7;exact⟨V,⟨s2,μ2,c1,c2,c3,c4,c5,b6.trans c6,d1⟩,d2⟩
 |_=>exact⟨s2,μ2,c1,c2,c3,c4,c5,b6.trans c6,c7⟩
def agN(m0:Nat)(st st1:St):Prop:=∀base μ w tmps,af3 base μ st.mem w→agn μ st.mem.length st.env tmps→m0≤st.mem.length→
 ∃μ1,af3 base μ1 st1.mem w∧agn μ1 st1.mem.length st1.env tmps∧m0≤st1.mem.length∧Step m0 μ st.mem w μ1 st1.mem w
theorem Wu{st1:St}(y:agN m0 st st1)(h:AWP P tp N m0 c st1 Q):AWP P tp N m0 c st Q:=by intro ro h0 base μ w a hro h1 h2 h3 h4 h5;obtain⟨μ1,Z,X,V,U⟩:=y base μ w a.tmps h1 h2 h5;refine wpIn_mono (h ro h0 base μ1 w a hro Z X h3 h4 V) ?_;rintro e a2 w2 ⟨s2,μ2,c1,c2,c3,c4,c5,c6,c7⟩;exact⟨s2,μ2,c1,c2,c3,c4,c5,U.trans c6,c7⟩
theorem agN.trans{s1 y H:St}(h:agN m0 s1 y)(h' :agN m0 y H):agN m0 s1 H:=by intro base μ w tmps h1 h2 h3;obtain⟨μ1,Z,X,V,U⟩:=h base μ w tmps h1 h2 h3;obtain⟨μ2,S,R,O,M⟩:=h' base μ1 w tmps Z X V;exact⟨μ2,S,R,O,U.trans M⟩
theorem agN.env{env y:Env}{mem:Mem}(h:∀t,ad y t=ad env t∨ad y t=.undef):agN m0 ⟨env,mem⟩ ⟨y,mem⟩:=by
 intro base μ w tmps h1 h2 h3;refine⟨μ,h1,fun t=>?_,h3,.refl h3⟩;rcases h t with e | e
 ·rw[e];exact h2 t
 ·rw[e];simp[afQ]
theorem AWP.aid(h:AWP P tp N m0 c st Q')(hq:∀e s,Q' e s→∃Z,agN m0 s Z∧Q e Z):AWP P tp N m0 c st Q:=by intro ro h0 base μ w a hro h1 h2 h3 h4 h5;refine wpIn_mono (h ro h0 base μ w a hro h1 h2 h3 h4 h5) ?_;rintro e a2 w2 ⟨s2,μ2,c1,c2,c3,c4,c5,c6,c7⟩;obtain⟨Z,X,hQ⟩:=hq e s2 c7;obtain⟨μ1,V,U,S,R⟩:=X base μ2 w2 a2.tmps c1 c2 c5;exact⟨Z,μ1,V,U,c3,c4,S,c6.trans R,hQ⟩
end
end Go.Eng
namespace Go.Eng
def rho(m0:Nat)(ks:List Nat)(b:Nat):Option Nat:=if b<m0 then some b else (ks.idxOf? b).map (m0+·)
def tf(ρ:Nat→Option Nat)(env:Env):Env:=env.map fun e=>(e.1,e.2.ren ρ)
def afU.ren(ρ:Nat→Option Nat):afU→afU
 |.qK=>.qK
 |.cells own es cs=>.cells own es (AV.af9 ρ cs)
 |.map es=>.map (es.map fun e=>(e.1.ren ρ,e.2.ren ρ))
 |.agq es=>.agq (es.map fun e=>(e.1.ren ρ,e.2.ren ρ))
 |.loop r=>.loop { r with env:=tf ρ r.env }
def agK(m0:Nat)(ks:List Nat)(mem:Mem):Mem:=ks.map fun k=>(mem.getD k .qK).ren (rho m0 ks)
def af2(m0:Nat)(ks:List Nat)(mem:Mem):Mem:=(mem.take m0).map (afU.ren (rho m0 ks))++agK m0 ks mem
def EW(m0 n:Nat)(ks:List Nat):Bool:=decide ks.Nodup&&ks.all fun k=>decide (m0≤k∧k<n)
theorem jb(ρ:Nat→Option Nat):∀(env:Env) (t:Nat),ad (tf ρ env) t=(ad env t).ren ρ
 | [],t=>by simp[tf,ad,AV.ren]
 |(k,v)::r,t=>by
  simp only[tf,List.map_cons,ad];by_cases h:k=t
  ·simp[h]
  ·simp only[h,if_false];exact jb ρ r t
variable{ks:List Nat}{p:Place}
section
variable {μ:Nat→Place}{mem:Mem}{base:Nat}{w:World}
theorem af5.ren{μ μ' :Nat→Place}{n n' base:Nat}{w:World}{s:afU}{ρ:Nat→Option Nat}(hρ:∀b b',b<n→ρ b=some b' →b' <n' ∧μ' b' =μ b)(h:af5 μ n base w p s):af5 μ' n' base w p (s.ren ρ):=by
 cases s with
 |qK=>trivial
 |cells own es cs=>
  simp only[af5,afU.ren] at h ⊢;obtain⟨N,e,B,Z,X,h3,O,u⟩:=h;refine⟨N,e,B,Z,X,by rw[jf,List.length_map];exact h3,fun j v M=>?_,u⟩;rw[jf,List.getElem?_map] at M;simp only[Option.map_eq_some_iff] at M;obtain⟨v0,K,rfl⟩:=M;obtain⟨V,hV,o⟩:=O j v0 K;exact⟨V,hV,o.ren hρ⟩
 |map es=>
  simp only[af5,afU.ren] at h ⊢;obtain⟨G,F,Z,X,h3,O⟩:=h;refine⟨G,F,Z,X,by rw[List.length_map];exact h3,fun j e U=>?_⟩;rw[List.getElem?_map] at U;simp only[Option.map_eq_some_iff] at U;obtain⟨D,S,rfl⟩:=U;obtain⟨E,C,R,Q⟩:=O j D S;exact⟨E,C,R.ren hρ,Q.ren hρ⟩
 |agq es=>
  simp only[af5,afU.ren] at h ⊢;obtain⟨G,F,Z,X,h3,O⟩:=h;refine⟨G,F,Z,X,by rw[List.length_map];exact h3,fun j e U=>?_⟩;rw[List.getElem?_map] at U;simp only[Option.map_eq_some_iff] at U;obtain⟨D,S,rfl⟩:=U;obtain⟨E,C,R,Q⟩:=O j D S;exact⟨E,C,R.ren hρ,Q.ren hρ⟩
 |loop r=>
  simp only[af5,afU.ren] at h ⊢;obtain⟨L,Z,X,h3⟩:=h;exact⟨L,Z,X,{ h3 with tmps:=fun t=>by rw[jb];exact(h3.tmps t).ren hρ }⟩
theorem afU.ahf(ρ:Nat→Option Nat)(s:afU):(s.ren ρ).own=s.own:=by cases s<;>rfl
theorem De{m0 n:Nat}(h:EW m0 n ks=true):ks.Nodup∧∀k∈ks,m0≤k∧k<n:=by simp only[EW,Bool.and_eq_true,decide_eq_true_eq,List.all_eq_true] at h;exact h
theorem fF{m0:Nat}(y:m0≤mem.length):(af2 m0 ks mem).length=m0+ks.length:=by simp[af2,agK];omega
def iG(m0:Nat)(ks:List Nat)(b:Nat):Nat:=if b<m0 then b else ks.getD (b-m0) 0
theorem vQ{m0:Nat}(y:m0≤mem.length)(hk:EW m0 mem.length ks=true){b:Nat}{s:afU}(h:(af2 m0 ks mem)[b]? =some s):
  ∃Z,mem[iG m0 ks b]? =some Z∧s=Z.ren (rho m0 ks):=by
 obtain⟨_,V⟩:=De hk;have N:((mem.take m0).map (afU.ren (rho m0 ks))).length=m0:=by simp;omega
 unfold af2 at h;by_cases U:b<m0
 ·rw[List.getElem?_append_left (by omega),List.getElem?_map,List.getElem?_take_of_lt U] at h
  simp only[Option.map_eq_some_iff] at h;obtain⟨Z,X,S⟩:=h;exact⟨Z,by simpa [iG,U] using X,S.symm⟩
 ·rw[List.getElem?_append_right (by omega),N] at h
  unfold agK at h;rw[List.getElem?_map] at h;simp only[Option.map_eq_some_iff] at h;obtain⟨k,X,S⟩:=h;have R:=List.mem_of_getElem? X;obtain⟨_,O⟩:=V k R;have Q:mem[k]? =some mem[k]:=by simp[O]
  refine⟨mem[k],?_,?_⟩
  ·simp[iG,U,X,O]
  ·rw[←S];simp[List.getD,Q]
theorem R7{m0:Nat}(hk:EW m0 mem.length ks=true){x y:Nat}(H:x<m0+ks.length)(I:y<m0+ks.length)(h:iG m0 ks x=iG m0 ks y):x=y:=by
 obtain⟨X,V⟩:=De hk;have Z:∀z,¬z<m0→z<m0+ks.length→m0≤ks.getD (z-m0) 0:=by
  intro z U S;have Q:z-m0<ks.length:=by omega
  have:ks.getD (z-m0) 0=ks[z-m0]:=by simp[Q]
  rw[this];exact(V _ (by simp)).1
 unfold iG at h;by_cases U:x<m0<;>by_cases S:y<m0<;>simp only[U,S,if_true,if_false] at h
 ·exact h
 ·have:=Z y S I;omega
 ·have:=Z x U H;omega
 ·have O :x-m0<ks.length:=by omega
  have R :y-m0<ks.length:=by omega
  have N:ks.getD (x-m0) 0=ks[x-m0]:=by simp[O]
  have M:ks.getD (y-m0) 0=ks[y-m0]:=by simp[R]
  rw[N,M] at h;have:=(List.getElem_inj X).1 h;omega
theorem af3.af2{m0:Nat}(I:af3 base μ mem w)(H:m0≤mem.length)(hk:EW m0 mem.length ks=true):
  af3 base (fun b=>μ (iG m0 ks b)) (af2 m0 ks mem) w∧
  (∀b X,b<mem.length→rho m0 ks b=some X →X <(Eng.af2 m0 ks mem).length∧(fun b=>μ (iG m0 ks b)) X =μ b)∧
  Step m0 μ mem w (fun b=>μ (iG m0 ks b)) (Eng.af2 m0 ks mem) w:=by
 obtain⟨B,u⟩:=De hk;have hρ:∀b X,b<mem.length→rho m0 ks b=some X →X <(Eng.af2 m0 ks mem).length∧(fun b=>μ (iG m0 ks b)) X =μ b:=by
  intro b X Q V;rw[fF H];unfold rho at V;by_cases Z:b<m0
  ·rw[if_pos Z] at V
   cases V;exact⟨by omega,by simp[iG,Z]⟩
  ·rw[if_neg Z] at V
   simp only[Option.map_eq_some_iff] at V;obtain⟨i,o,rfl⟩:=V;have N :=List.idxOf?_eq_some_iff.1 o;obtain⟨O,M,_⟩:=N;refine⟨by omega,?_⟩;simp only[iG];rw[if_neg (by omega)];have:ks.getD (m0+i-m0) 0=b:=by rw[Nat.add_sub_cancel_left];simp[O,M]
   rw[this]
 have U:∀x,ef (Eng.af2 m0 ks mem) x→ef mem (iG m0 ks x)∧x<m0+ks.length:=by intro x L;obtain⟨s,D,m⟩:=L;have O:=gL D;rw[fF H] at O;obtain⟨S,Z,rfl⟩:=vQ H hk D;exact⟨⟨S,Z,by rw[←afU.ahf];exact m⟩,O⟩
 refine⟨⟨I.afY,fun b s j=>?_,fun x y s L C Y K=>?_⟩,hρ,?_⟩
 ·obtain⟨S,Z,rfl⟩:=vQ H hk j
  exact(I.slot _ S Z).ren hρ
 ·obtain⟨G,F⟩:=U x L
  have R:=gL C;rw[fF H] at R;obtain⟨S,Z,rfl⟩:=vQ H hk C;refine I.sep _ _ S G Z ?_ fun e=>K (R7 hk F R e)
  rintro rfl;exact Y rfl
 ·refine⟨by rw[fF H];omega,fun b Q=>by simp[iG,Q],rfl,rfl,rfl,Nat.le_refl _,fun _ _ _=>rfl,fun b Q _=>?_,Nat.le_refl _⟩
  exact⟨_,(U b Q).1,rfl⟩
theorem agN.af2{m0:Nat}{env:Env}{mem:Mem}(ks:List Nat)(hk:EW m0 mem.length ks=true):
  agN m0 ⟨env,mem⟩ ⟨tf (rho m0 ks) env,af2 m0 ks mem⟩:=by
 intro base μ w tmps h1 h2 h3;obtain⟨Z,X,V⟩:=h1.af2 h3 hk;refine⟨_,Z,fun t=>?_,by rw[fF h3];omega,V⟩;rw[jb];exact(h2 t).ren X
end
mutual
theorem afQ.lower{μ μ' :Nat→Place}{n n' :Nat}(hμ:∀b,b<n→μ' b=μ b):∀{v V V'},afQ μ n v V→afQ μ' n' v V' →afQ μ n v V'
 |.undef,_,_,_,_=>by simp[afQ]
 |.bool _,_,_,_,h=>by simpa [afQ] using h
 |.int _ _,_,_,_,h=>by simpa [afQ] using h
 |.str _,_,_,_,h=>by simpa [afQ] using h
 |.ptr b o,_,_,h,Z =>by simp only[afQ] at h Z ⊢;exact⟨h.1,by rw[←hμ b h.1];exact Z.2⟩
 |.af4,_,_,_,h=>by simpa [afQ] using h
 |.slice b o l c,_,_,h,Z =>by simp only[afQ] at h Z ⊢;exact⟨h.1,by rw[←hμ b h.1];exact Z.2⟩
 |.qF,_,_,_,h=>by simpa [afQ] using h
 |.map b,_,_,h,Z =>by simp only[afQ] at h Z ⊢;exact⟨h.1,by rw[←hμ b h.1];exact Z.2⟩
 |.yield b,_,_,h,Z =>by simp only[afQ] at h Z ⊢;exact⟨h.1,by rw[←hμ b h.1];exact Z.2⟩
 |.age,_,_,_,h=>by simpa [afQ] using h
 |.func f R,_,_,h,Z =>by simp only[afQ] at h Z ⊢;obtain⟨Q,e,h⟩:=h;obtain⟨X,S,Z⟩:=Z;exact⟨X,S,afS.lower hμ h Z⟩
 |.nilFunc,_,_,_,h=>by simpa [afQ] using h
 |.iface t v,_,_,h,Z =>by simp only[afQ] at h Z ⊢;obtain⟨U,e,h⟩:=h;obtain⟨O,S,Z⟩:=Z;exact⟨O,S,afQ.lower hμ h Z⟩
 |.nilIface,_,_,_,h=>by simpa [afQ] using h
 |.agg R,_,_,h,Z =>by simp only[afQ] at h Z ⊢;obtain⟨Q,e,h⟩:=h;obtain⟨X,S,Z⟩:=Z;exact⟨X,S,afS.lower hμ h Z⟩
 |.tuple R,_,_,h,Z =>by simp only[afQ] at h Z ⊢;obtain⟨Q,e,h⟩:=h;obtain⟨X,S,Z⟩:=Z;exact⟨X,S,afS.lower hμ h Z⟩
theorem afS.lower{μ μ' :Nat→Place}{n n' :Nat}(hμ:∀b,b<n→μ' b=μ b):∀{vs Us Us'},afS μ n vs Us→afS μ' n' vs Us' →afS μ n vs Us'
 | [],_,_,_,h=>by simpa [afS] using h
 |v::vs,_,_,h,h' =>by simp only[afS] at h h' ⊢;obtain⟨U,N,e,S,R⟩:=h;obtain⟨Q,Z,O,X,V⟩:=h';exact⟨Q,Z,O,afQ.lower hμ S X,afS.lower hμ R V⟩
end
theorem af5.lower{μ μ' :Nat→Place}{n n' base:Nat}{w w' :World}{s:afU}(hμ:∀b,b<n→μ' b=μ b)(h:af5 μ n base w p s)(h' :af5 μ' n' base w' p s):af5 μ n base w' p s:=by
 cases s with
 |qK=>trivial
 |cells own es cs=>
  simp only[af5] at h h' ⊢;obtain⟨_,_,_,_,_,_,Q,_⟩:=h;obtain⟨N,e,B,g1,g2,g3,g4,u⟩:=h';refine⟨N,e,B,g1,g2,g3,fun j v C=>?_,u⟩;obtain⟨V,_,o⟩:=Q j v C;obtain⟨m,M,K⟩:=g4 j v C;exact⟨m,M,o.lower hμ K⟩
 |map es=>
  simp only[af5] at h h' ⊢;obtain⟨_,_,_,_,_,Q⟩:=h;obtain⟨G,F,g1,g2,g3,g4⟩:=h';refine⟨G,F,g1,g2,g3,fun j e O=>?_⟩;obtain⟨E,_,Z,X⟩:=Q j e O;obtain⟨D,U,S,R⟩:=g4 j e O;exact⟨D,U,Z.lower hμ S,X.lower hμ R⟩
 |agq es=>
  simp only[af5] at h h' ⊢;obtain⟨_,_,_,_,_,Q⟩:=h;obtain⟨G,F,g1,g2,g3,g4⟩:=h';refine⟨G,F,g1,g2,g3,fun j e O=>?_⟩;obtain⟨E,_,Z,X⟩:=Q j e O;obtain⟨D,U,S,R⟩:=g4 j e O;exact⟨D,U,Z.lower hμ S,X.lower hμ R⟩
 |loop r=>
  simp only[af5] at h h' ⊢;obtain⟨L,_,_,h3⟩:=h;obtain⟨Y,g1,g2,g3⟩:=h';exact⟨Y,g1,g2,{ g3 with tmps:=fun t=>(h3.tmps t).lower hμ (g3.tmps t) }⟩
theorem af3.swap{y:Nat}{μ:Nat→Place}{H I:Mem}{w:World}(h:af3 y μ H w)(J:I.length=H.length)(hs:∀b X,I[b]? =some X→∃Z,H[b]? =some Z∧Z.own=X.own∧(Z=.qK→X=.qK)∧af5 μ H.length y w (μ b) X):af3 y μ I w:=by
 refine⟨h.afY,fun b s V=>?_,fun b S R V Q O U=>?_⟩
 ·obtain⟨Z,_,_,_,N⟩:=hs b s V;rw[J];exact N
 ·obtain⟨s,M,L⟩:=V
  obtain⟨Z,K,G,_,_⟩:=hs b s M;obtain⟨F,D,_,C,_⟩:=hs S R Q;exact h.sep b S F ⟨Z,K,by rw[G];exact L⟩ D (fun e=>O (C e)) U
end Go.Eng
namespace Go.Eng
def dC:Nat→List AV→Env
 |_,[]=>[]
 |i,v::vs=>(i,v)::dC (i+1) vs
def Zq(T:TypeId→Option TyI)(env:Env)(mem:Mem):ResultVar→Option AV
 |.tmp t=>some (ad env t)
 |.cell a t=>RY T mem t (ad env a)
def za(T:TypeId→Option TyI)(env:Env)(mem:Mem):List ResultVar→Option (List AV)
 | []=>some []
 |r::rs=>match Zq T env mem r,za T env mem rs with
  |some v,some vs=>some (v::vs)
  |_,_=>none
def jK(T:TypeId→Option TyI)(y:List ResultVar)(env:Env)(mem:Mem):Option AV:=
 match za T env mem y with
 |some [v]=>some v
 |some vs=>some (.tuple vs)
 |none=>none
def Fin(mem:Mem)(v:AV) (y :Mem)(R:AV→Mem→Prop):Prop:=
 ∃Z,EW mem.length y.length Z=true∧
  ((y.take mem.length=mem∧R (v.ren (rho mem.length Z)) (mem++agK mem.length Z y))∨R (v.ren (rho mem.length Z)) (af2 mem.length Z y))
variable{fn:Func}{r:Nat}
section
variable {P:Program}{T:TypeId→Option TyI}{μ:Nat→Place}{mem:Mem}{base:Nat}{w:World}
theorem yW{n:Nat}{μ:Nat→Place}:∀{vs:List AV} {Vs:List Value} (i:Nat),afS μ n vs Vs→∀t,afQ μ n (ad (dC i vs) t) (if t<i then undef else Vs.getD (t-i) undef)
 | [],Vs,i,h,t=>by simp[dC,ad,afQ]
 |v::vs,Vs,i,h,t=>by
  simp only[afS] at h;obtain⟨U,R,rfl,V,S⟩:=h;simp only[dC,ad];by_cases Z:i=t
  ·subst Z;simpa using V
  ·simp only[Z,if_false]
   have:=yW (i+1) S t;by_cases X:t<i
   ·rw[if_pos (by omega)] at this;rw[if_pos X];exact this
   ·rw[if_neg (by omega)] at this
    rw[if_neg X];have e:t-i=(t-(i+1))+1:=by omega
    rw[e];simpa using this
def rvS(tmps:Array Value):ResultVar→Sem Value
 |.tmp t=>pure (tmps.getD t undef)
 |.cell a t=>do loadVar t (←asAddr (tmps.getD a undef))
theorem qB(hT:cX P T)(I:af3 base μ mem w){env:Env}{tmps:Array Value}(y:agn μ mem.length env tmps):
  ∀{H:List ResultVar}{vs:List AV},za T env mem H=some vs→∃X,afS μ mem.length vs X∧
   (H.mapM (rvS tmps)).run P w=.ok X w
 | [],vs,h=>by simp only[za,Option.some.injEq] at h;subst h;exact⟨[],by simp[afS],by simp⟩
 |r::H,vs,h=>by
  simp only[za] at h;split at h
  ·rename_i v L Z K
   cases h;obtain⟨X,O,N⟩:=qB hT I y K;cases r with
   |tmp t=>
    simp only[Zq,Option.some.injEq] at Z;subst Z;exact⟨_::X,bO.2 ⟨y t,O⟩,by rw[List.mapM_cons,rvS,pure_bind,Sem.run_bind,N];rfl⟩
   |cell a t=>
    simp only[Zq] at Z;obtain⟨V,S,G⟩:=Cz (P:=P) hT I (y a) Z;refine⟨V::X,bO.2 ⟨G,O⟩,?_⟩;have R:∃b o,ad env a=.ptr b o:=by
     unfold RY at Z;split at Z
     next b o _ Q=>exact⟨b,o,Q⟩
     ·cases Z
    obtain⟨b,o,Q⟩:=R;have M:=y a;rw[Q] at M;have U:=M.ptr.2;rw[U] at S;simp only[Instr.loadAt,Instr.sureAddr,Sem.run_bind,Sem.run_pure,Result.andThen_ok] at S;rw[List.mapM_cons,rvS,U,Sem.run_bind];simp only[asAddr,pure_bind,S,Result.andThen_ok];rw[Sem.run_bind,N];rfl
  ·cases h
theorem uF(hT:cX P T)(y:af3 base μ mem w){env:Env}{tmps:Array Value}(H:agn μ mem.length env tmps){v:AV}(h:jK T fn.results.toList env mem=some v):∃V,(results fn tmps).run P w=.ok V w∧afQ μ mem.length v V:=by
 unfold jK at h;have run:∀Z,(fn.results.toList.mapM (rvS tmps)).run P w=.ok Z w→
   (results fn tmps).run P w=.ok (if h:Z.toArray.size=1 then Z.toArray[0] else .tuple Z.toArray) w:=by
  intro Z S;unfold results;rw[Array.mapM_eq_mapM_toList,Sem.run_bind,Sem.run_map];erw [S];rfl
 split at h
 ·rename_i M R
  cases h;obtain⟨Z,X,Q⟩:=qB hT y H R;simp only[afS] at X;obtain⟨U,L,rfl,g3,rfl⟩:=X;exact⟨U,by rw[run _ Q];simp,g3⟩
 ·rename_i O N R
  cases h;obtain⟨Z,X,Q⟩:=qB hT y H R;refine⟨.tuple Z.toArray,?_,by simp only[afQ];exact⟨Z,rfl,X⟩⟩;rw[run _ Q];have:¬Z.toArray.size=1:=by
   have:=X.length;intro e;simp at e;rw[e] at this
   match O,this with
   | [x],_=>exact N x rfl
  rw[dif_neg this]
 ·cases h
theorem A8{P:Program}{w:World}(h:w.heap[r]? =some (.deferred (some []))):
  (Instr.takeDeferred r).run P w=.ok [] { w with heap:=w.heap.setIfInBounds r (.deferred none) }:=by
 have Z:(getObj r).run P w=.ok (.deferred (some [])) w:=by simp[getObj,Sem.run,h]
 have X:(setObj r (.deferred none)).run P w=.ok () { w with heap:=w.heap.setIfInBounds r (.deferred none) }:=ud h (by intro c e f;simp);simp only[Instr.takeDeferred,Sem.run_bind,Z,Result.andThen_ok];rw[X];rfl
theorem af3.shut{base:Nat}{μ:Nat→Place}{mem:Mem}{w:World}{r:Nat}{x y}(H:af3 base μ mem w)(h:w.heap[r]? =some (.deferred x)):
  af3 base μ mem { w with heap:=w.heap.setIfInBounds r (.deferred y) }:=by
 refine⟨by simpa using H.afY,fun b s Z=>?_,H.sep⟩;by_cases h0:s=.qK
 ·subst h0;trivial
 ·refine(H.slot b s Z).mono (Nat.le_refl _) (fun _ _=>rfl) fun _=>?_
  exact Array.getElem?_setIfInBounds_ne (Ne.symm (qT H h Z h0))
theorem Step.shut{m0:Nat}{μ μ' :Nat→Place}{mem mem' :Mem}{w w' :World}{o:Obj}(h:Step m0 μ mem w μ' mem' w')(hr:w.heap.size≤r):
  Step m0 μ mem w μ' mem' { w' with heap:=w'.heap.setIfInBounds r o }:=by
 refine⟨h.len,h.agree,h.os,h.tape,h.output,by simpa using h.size,fun k Z X=>?_,h.owner,h.drawn⟩;rw[←h.frame k Z X];exact Array.getElem?_setIfInBounds_ne (by omega)
theorem MOk.shut{P:Program}{base h0 r:Nat}{w:World}{ds:List Deferred}{o:Obj}(h:MOk P base h0 w ({ target:=.collected r,args:= #[] }::ds)):
  MOk P base h0 { w with heap:=w.heap.setIfInBounds r o } ds:=by
 have U:h0≤r:=by obtain⟨q,e,Z,_⟩:=h.each _ (List.mem_cons_self ..);cases e;exact Z
 refine⟨⟨h.ag1.below,?_⟩,h.afY,by simpa using h.le,fun d V=>?_,?_⟩
 ·have:=h.ag1.tab
  unfold Lib.TabIs at this ⊢;rw[←this];refine QG fun k Q=>Array.getElem?_setIfInBounds_ne ?_
  have:=h.ag1.below;have:=h.afY;omega
 ·obtain⟨q,e,Z,S⟩:=h.each d (by simp[V])
  refine⟨q,e,Z,?_⟩;have R:r≠q:=by intro X;have:=h.nodup;simp only[List.map_cons,List.nodup_cons,List.mem_map,not_exists] at this;exact this.1 d ⟨V,by rw[e,X]⟩
  show(w.heap.setIfInBounds r o)[q]? =_
  rw[Array.getElem?_setIfInBounds_ne R,S]
 ·have:=h.nodup
  simp only[List.map_cons,List.nodup_cons] at this;exact this.2
theorem sO{P:Program}{fn:Func}{tmps:Array Value}{R:Ending→World→Prop}{base m0:Nat}{μ μ0:Nat→Place}{mem mem0:Mem}{w0:World}:
  ∀(y:List Deferred) (w:World),MOk P base w0.heap.size w y→af3 base μ mem w→Step m0 μ0 mem0 w0 μ mem w→
   (∀w',af3 base μ mem w' →Step m0 μ0 mem0 w0 μ mem w' →∃v,(results fn tmps).run P w' =.ok v w' ∧R (.returned v) w')→
   LeavesInM (Fr none) 0 P fn tmps R y .returning w
 | [],w,_,hH,hS,hq=>hq w hH hS
 |d::y,w,hM,hH,hS,hq=>by obtain⟨r,rfl,X,Z⟩:=hM.each d (by simp);refine⟨by simp,.inl ⟨r,_,rfl,A8 Z,?_⟩⟩;exact sO y _ hM.shut (hH.shut Z) (hS.shut X) hq
theorem ags.intro(hT:cX P T){f:FuncId}{c:Code}{args:List AV}{mem:Mem}{R:AV→Mem→Prop}(hf:P.funcs[f]? =some fn)(y:fn.body=some c)(H:(fn.name == "runtime.NumGoroutine")=false)(hl:args.length≤fn.ntmps)(h:AWP P true fn.ntmps mem.length c ⟨dC 0 args,mem⟩ fun e X =>(e=.normal∨e=.ret)∧∃v,jK T fn.results.toList X.env X.mem=some v∧Fin mem v X.mem R):
  ags P f args mem R:=by
 refine⟨⟨fn,hf,by simp[y],H⟩,fun base μ w Vs hG hH hV=>?_⟩;refine Bi.1 (callsIn_of_wp_marks (F:=Fr none) (n:=0) hf y trivial (wpIn_mono (h none w.heap.size base μ w _ (fun _=>rfl) hH ?_ ?_ (MOk.nil w hG hH.afY (Nat.le_refl _)) (Nat.le_refl _)) ?_) rfl)
 ·intro t
  have:=yW 0 hV t;simp only[Nat.not_lt_zero,if_false,Nat.sub_zero] at this;by_cases ht:t<Vs.length
  ·have e:(⟨Vs⟩++Array.replicate (fn.ntmps-(⟨Vs⟩:Array Value).size) undef:Array Value).getD t undef=Vs.getD t undef:=by simp only[Array.getD_eq_getD_getElem?];rw[Array.getElem?_append_left (by simpa using ht)];simp[List.getD]
   show afQ μ mem.length (ad (dC 0 args) t) ((⟨Vs⟩++Array.replicate (fn.ntmps-(⟨Vs⟩:Array Value).size) undef:Array Value).getD t undef)
   rw[e];exact this
  ·have:ad (dC 0 args) t=.undef:=by
    have C:=hV.length;have:∀(M:List AV) (i:Nat),i+M.length≤t→ad (dC i M) t=.undef:=by
     intro M;induction M with
     |nil=>intro i _;rfl
     |cons v M ih=>
      intro i hi;simp only[List.length_cons] at hi;simp only[dC,ad];rw[if_neg (by omega)];exact ih (i+1) (by omega)
    exact this args 0 (by omega)
   show afQ μ mem.length (ad (dC 0 args) t) _
   rw[this];simp[afQ]
 ·simp only[Array.size_append,List.size_toArray,Array.size_replicate,hV.length];omega
 ·rintro e a' w' ⟨X,μ',b1,b2,b3,b4,b5,b6,he,v,hv,ks,hks,hR⟩
  have Q:LeavesInM (Fr none) 0 P fn a'.tmps (fun e w' =>∃V v mem' μ',e=.returned V∧afQ μ' mem'.length v V∧af3 base μ' mem' w' ∧Step mem.length μ mem w μ' mem' w' ∧R v mem') a'.defers .returning w' :=by
   refine sO a'.defers w' b4 b1 b6 fun w2 o L=>?_
   obtain⟨V,m,B⟩:=uF (P:=P) (fn:=fn) hT o b2 hv;obtain⟨j,J,I⟩:=o.af2 b5 hks;refine⟨V,m,?_⟩;rcases hR with⟨U,hr⟩ | hr
   ·have C:(mem++agK mem.length ks X.mem).length=(af2 mem.length ks X.mem).length:=by rw[fF b5];simp[agK]
    have K:∀b Z,(mem++agK mem.length ks X.mem)[b]? =some Z→∃G,(af2 mem.length ks X.mem)[b]? =some G∧G.own=Z.own∧(G=.qK→Z=.qK)∧
      af5 (fun b=>μ' (iG mem.length ks b)) (af2 mem.length ks X.mem).length base w2 (μ' (iG mem.length ks b)) Z:=by
     intro b Z y;unfold af2;rw[U];by_cases O:b<mem.length
     ·rw[List.getElem?_append_left O] at y
      refine⟨Z.ren (rho mem.length ks),by rw[List.getElem?_append_left (by simpa using O),List.getElem?_map,y];rfl,afU.ahf _ _,?_,?_⟩
      ·intro h;cases Z<;>simp[afU.ren] at h ⊢
      ·have Y:iG mem.length ks b=b:=by simp[iG,O]
       rw[Y];have D:=hH.slot b Z y;have N:=o.slot b Z (by rw[←y,←U,List.getElem?_take_of_lt O]);rw[L.agree b O] at N ⊢;have g3:=af5.lower (w' :=w2) (fun b y=>L.agree b y) D N;refine g3.mono ?_ (fun b y=>?_) fun _=>rfl
       ·simp[agK]
       ·show μ' (iG mem.length ks b)=μ b
        rw[show iG mem.length ks b=b by simp[iG,y],L.agree b y]
     ·have u :(af2 mem.length ks X.mem)[b]? =some Z:=by unfold af2;rw[U,List.getElem?_append_right (by simp;omega)];rw[List.getElem?_append_right (by omega)] at y;simpa using y
      have:=j.slot b Z u;unfold af2 at u this;rw[U] at u this;exact⟨Z,u,rfl,id,this⟩
    have W:=j.swap C K;refine⟨V,_,_,_,rfl,B.ren fun b b' D N=>?_,W,?_,hr⟩
    ·obtain⟨g3,g4⟩:=J b b' D N
     exact⟨by rw[C];exact g3,g4⟩
    ·have S:=L.trans I
     refine⟨by rw[C];exact S.len,S.agree,S.os,S.tape,S.output,S.size,S.frame,fun b y O=>?_,S.drawn⟩;obtain⟨s,D,N⟩:=y;obtain⟨G,m,B,_,_⟩:=K b s D;exact S.owner b ⟨G,m,by rw[B];exact N⟩ O
   ·exact⟨V,_,_,_,rfl,B.ren J,j,L.trans I,hr⟩
  rcases he with rfl | rfl
  ·exact Q
  ·exact Q
end
end Go.Eng
