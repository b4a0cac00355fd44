/- See B54. -/
import Derived.Test.YtffdedmakncfmaaGreatDoorB01
import Derived.Lib.UnsafeStr
import Derived.RangeFuncLeaves
import Derived.OrdersIn
import Derived.TacticsIn
import Derived.Lib.ItoaNum
import Derived.Lib.LaidTab
set_option linter.all false
namespace Go.Eng
variable{V X:Value}{cs:List AV}{mem' :Mem}{v x:AV}
section
variable {P:Program}{T:TypeId→Option TyI}{μ:Nat→Place}{mem:Mem}{base:Nat}{w:World}
def aga(P:Program)(x:Sem Value)(base:Nat) (μ:Nat→Place)(mem:Mem)(w:World)(v:AV) (mem' :Mem):Prop:=
 ∃V w' μ',x.run P w=.ok V w' ∧ae5 μ' mem'.length v V∧afj base μ' mem' w' ∧Step mem.length μ mem w μ' mem' w'
theorem aga.afq{x:Sem Value}(y:afj base μ mem w)(h:Val P x w μ mem.length v):aga P x base μ mem w v mem:=by obtain⟨V,Z,U⟩:=h;exact⟨V,w,μ,Z,U,y,.refl (Nat.le_refl _)⟩
theorem sO(H:afj base μ mem w)(e:TypeId)(y:Array Value)(es:Nat)(I:1000≤es→e+1=es / 1000)(cs:List AV)(h:∀(j:Nat) v,cs[j]? =some v→∃V,y[j]? =some V∧ae5 μ mem.length v V):
  afj base (upd μ mem.length ⟨w.heap.size,0,y.size,es%1000⟩) (mem++[.cells true es cs]) (w.alloc (.cells y e))∧
  Step mem.length μ mem w (upd μ mem.length ⟨w.heap.size,0,y.size,es%1000⟩) (mem++[.cells true es cs]) (w.alloc (.cells y e)):=by
 refine H.push _ _ _ rfl ?_;simp only[afl];refine⟨y,e,(0,0),heap_alloc_new w _,⟨rfl,I⟩,?_,fun j v Z=>?_,fun _=>by simp;exact H.afe⟩
 ·rcases Nat.eq_zero_or_pos cs.length with h0 | h0
  ·omega
  ·obtain⟨V,hV,_⟩:=h (cs.length-1) cs[cs.length-1] (by simp)
   have:=(Array.getElem?_eq_some_iff.1 hV).1;omega
 ·obtain⟨V,hV,U⟩:=h j v Z
  exact⟨V,by simpa using hV,U.mono (Nat.le_succ _) fun b S=>wR S⟩
theorem yp{n:Nat}{vs:List AV}{cur Vs:List Value}{o:Nat}(H:o+vs.length≤cs.length)(h:∀(j:Nat) v,cs[j]? =some v→∃V,cur[j]? =some V∧ae5 μ n v V)(y:ae7 μ n vs Vs):
  ∀(j:Nat) v,(cs.take o++vs++cs.drop (o+vs.length))[j]? =some v→∃V,(cur.take o++Vs++cur.drop (o+Vs.length))[j]? =some V∧ae5 μ n v V:=by
 have O:=y.length;have N:cs.length≤cur.length:=by
  rcases Nat.eq_zero_or_pos cs.length with h0 | h0
  ·omega
  ·obtain⟨V,hV,_⟩:=h (cs.length-1) cs[cs.length-1] (by simp)
   have:=gL hV;omega
 have S:(cs.take o).length=o:=by simp;omega
 have R:(cur.take o).length=o:=by simp;omega
 intro j v Z;rw[List.append_assoc] at Z ⊢;by_cases U:j<o
 ·rw[List.getElem?_append_left (by omega),List.getElem?_take_of_lt U] at Z
  rw[List.getElem?_append_left (by omega),List.getElem?_take_of_lt U];exact h j v Z
 ·rw[List.getElem?_append_right (by omega),S] at Z
  rw[List.getElem?_append_right (by omega),R];by_cases Q:j-o<vs.length
  ·rw[List.getElem?_append_left Q] at Z
   rw[List.getElem?_append_left (by omega)];exact y.get _ v Z
  ·rw[List.getElem?_append_right (by omega),List.getElem?_drop] at Z
   rw[List.getElem?_append_right (by omega),List.getElem?_drop];rw[show o+Vs.length+(j-o-Vs.length)=o+vs.length+(j-o-vs.length) by omega];exact h _ v Z
def G1(T:TypeId→Option TyI)(e:TypeId)(i:TyI):Bool:=match i.desc with
 |.struct fs=>match fs[0]? with
  |some f=>match T f.type with
   |some k=>match k.desc with
    |.pointer e' =>e' ==e
    |_=>false
   |none=>false
  |none=>false
 |_=>false
def th(T:TypeId→Option TyI)(mem:Mem)(e:TypeId):Option (AV×Mem):=
 match T e with
 |some i=>some (.ptr mem.length 0,mem++[.cells true (if G1 T e i then 1000*(e+1) else 0) (jc i.zero).cells])
 |none=>none
theorem yY(y:afj base μ mem w)(e:TypeId)(es:Nat)(H:1000≤es→e+1=es / 1000)(h:ae7 μ mem.length cs V.cells.toList):
  aga P (do pure (.pointer (some (←newVar e V)))) base μ mem w (.ptr mem.length 0) (mem++[.cells true es cs]):=by
 obtain⟨Z,S⟩:=sO y e V.cells es H cs (fun j v R=>by obtain⟨U,Q,O⟩:=h.get j v R;exact⟨U,by simpa using Q,O⟩)
 refine⟨.pointer (some ⟨w.heap.size,0,none⟩),_,_,?_,?_,Z,S⟩
 ·simp only[newVar,newRow,Sem.run_bind,run_newObj,Result.andThen_ok,Sem.run_pure]
  rfl
 ·simp[ae5,ez]
theorem Kn(hT:cW P T)(y:afj base μ mem w){e:TypeId}(h:th T mem e=some (v,mem')):
  aga P (Instr.alloc e true (.tuple #[])) base μ mem w v mem' :=by
 unfold th at h;split at h
 ·rename_i i Z
  cases h;have:=yY (P:=P) y e (if G1 T e i then 1000*(e+1) else 0) (by cases G1 T e i with | false=>simp | true=>simp only[if_true];intro _;rw[Nat.mul_div_cancel_left _ (by omega)]) (V:=i.zero) (jB μ mem.length i.zero);obtain⟨V,w',μ',U,S⟩:=this;refine⟨V,w',μ',?_,S⟩;simp only[Instr.alloc,Sem.run_bind,eC hT Z,Result.andThen_ok];exact U
 ·cases h
def WI(mem:Mem)(x:AV):Option (AV×Mem):=if x.known then some (.ptr mem.length 0,mem++[.cells true 0 x.cells]) else none
theorem Qv(y:afj base μ mem w){e:TypeId}(H:ae5 μ mem.length x X)(h:WI mem x=some (v,mem')):
  aga P (Instr.box e X) base μ mem w v mem' :=by
 unfold WI at h;split at h
 ·rename_i Z
  cases h;exact yY (P:=P) y e 0 (by omega) (H.cells Z)
 ·cases h
theorem Kx(hT:cW P T)(H:afj base μ mem w){t:TypeId}(I:ae5 μ mem.length x X)(y:ae5 μ mem.length v V)(h:tn T mem t x v=some mem'):∃w',(Instr.storeAt t X V).run P w=.ok () w' ∧afj base μ mem' w' ∧Step mem.length μ mem w μ mem' w' :=by
 unfold tn at h;split at h
 ·rename_i i b o W
  split at h
  ·rename_i es cs O
   split at h
   ·rename_i D
    cases h;simp only[Bool.and_eq_true,decide_eq_true_eq,List.all_eq_true] at D;obtain⟨⟨⟨L,R⟩,J⟩,Yf⟩:=D;obtain⟨Zc,rfl⟩:=I.ptr;have C:=H.slot b _ O;simp only[afl] at C;obtain⟨Z,el,fr,B,g2,g3,m,g5⟩:=C;obtain⟨N,g7,g8,g9⟩:=g5 trivial;subst g7;have S:=y.cells L;have Q:V.cells.size=i.size:=by rw[←Array.length_toList,S.length,R]
    have h1:∀u∈V.cells.toList,u.oneCell' =true:=by
     intro u K;obtain⟨j,Y⟩:=List.getElem?_of_mem K;have G :j<v.cells.length:=by rw[←S.length];exact(gL Y)
     obtain⟨U,M,F⟩:=S.get j v.cells[j] (by simp[G]);rw[Y] at M;cases M;exact F.ags (Yf _ (by simp))
    have UV:=run_storeCells_at (P:=P) (μ b).blk o el V.cells.toList 0 Z w B (by rw[S.length,R];omega) h1;refine⟨w.setRow (μ b).blk (Z.toList.take (o+0)++V.cells.toList++Z.toList.drop (o+0+V.cells.toList.length)).toArray,?_,H.write O (jC O) (fun _=>⟨_,List.getElem?_set_self (gL O),rfl⟩) rfl rfl rfl rfl (by simp[World.setRow]) (fun k L=>setRow_other w _ k _ L) ?_⟩
    ·simp only[Instr.storeAt,Instr.sureAddr,Sem.run_bind,Sem.run_pure,Result.andThen_ok,storeVar,cL hT W,Q,ne_eq,not_true_eq_false,if_false,N,Nat.zero_add]
     exact UV
    ·simp only[afl]
     refine⟨_,el,(0,0),setRow_heap w (μ b).blk Z _ el (0,0) B,g2,?_,fun j u K=>?_,fun _=>⟨N,rfl,?_,g9⟩⟩
     ·simp only[List.length_append,List.length_take,List.length_drop,R];omega
     ·rw[N] at m
      have:=yp (cs:=cs) (vs:=v.cells) (Vs:=V.cells.toList) (o:=o) (cur:=Z.toList) (by rw[R];exact J) (fun j v y=>by simpa using m j v y) S j u (by rw[R];exact K);obtain⟨U,M,F⟩:=this;refine⟨U,?_,F⟩;rw[N];simpa using M
     ·simp only[List.size_toArray,List.length_append,List.length_take,List.length_drop,Array.length_toList,Q];omega
   ·cases h
  ·cases h
 ·cases h
end
end Go.Eng
namespace Go.Eng
section
variable {P:Program}{T:TypeId→Option TyI}{μ:Nat→Place}{mem:Mem}{base:Nat}{w:World}
def fD(z:List AV):Nat→List AV
 |0=>[]
 |k+1=>z++fD z k
theorem gS(z:List AV):∀k,(fD z k).length=k*z.length
 |0=>by simp[fD]
 |k+1=>by simp[fD,gS z k,Nat.add_mul,Nat.add_comm]
theorem sS{n:Nat}{z:List AV}{Z:Array Value}(hz:ae7 μ n z Z.toList):∀(k:Nat) (j:Nat) v,(fD z k)[j]? =some v→
  ∃V,Z[j%Z.size]! =V∧ae5 μ n v V∧j<k*Z.size
 |0,j,v,h=>by simp[fD] at h
 |k+1,j,v,h=>by
  have X:Z.size=z.length:=by rw[←Array.length_toList,hz.length]
  rw[fD] at h;by_cases S:j<z.length
  ·rw[List.getElem?_append_left S] at h
   obtain⟨V,hV,U⟩:=hz.get j v h;refine⟨V,?_,U,by rw[X,Nat.add_mul];omega⟩;rw[Nat.mod_eq_of_lt (by omega)];have:Z[j]? =some V:=by simpa using hV
   simp[getElem!_def,this]
  ·rw[List.getElem?_append_right (by omega)] at h
   obtain⟨V,hV,U,R⟩:=sS hz k (j-z.length) v h;refine⟨V,?_,U,by rw[X] at R ⊢;rw[Nat.add_mul];omega⟩;rw[←hV,X];congr 1;rw[Nat.mod_eq_sub_mod (by omega)]
theorem Fb{Z:Array Value}{m j:Nat}(h:j<m):((Array.range m).map (fun i=>Z[i%Z.size]!))[j]? =some (Z[j%Z.size]!):=by simp[h]
def fH(T:TypeId→Option TyI)(mem:Mem)(t:TypeId)(y:Nat)(parts:List (Nat×AV)):Option (AV×Mem):=
 match T t with
 |none=>none
 |some i=>
  match i.desc with
  |.slice e=>
   match T e with
   |none=>none
   |some j=>
    if y*j.size≤16777216∧0<j.size∧j.size<1000 then
     match qd (fun k=>some (k*j.size,j.size)) (fD (jc j.zero).cells y) parts with
     |some cs=>some (.slice mem.length 0 y none,mem++[.cells true j.size cs])
     |none=>none
    else none
  |_=>none
theorem xH(hT:cW P T)(hH:afj base μ mem w){t:TypeId}{y:Nat}{parts:List (Nat×AV)}{H:List (Nat×Value)}{v:AV}{I :Mem}(hp:H.map (·.1)=parts.map (·.1))(hv:ae7 μ mem.length (parts.map (·.2)) (H.map (·.2)))(h:fH T mem t y parts=some (v,I)):
  aga P (Instr.buildSlice t y ⟨H⟩) base μ mem w v I :=by
 unfold fH at h;cases ht:T t with
 |none=>rw[ht] at h;cases h
 |some i=>
  rw[ht] at h;simp only at h;have B:=(hT t i ht).desc;split at h
  ·rename_i e C'
   rw[C'] at B;split at h
   ·cases h
   ·rename_i j M
    split at h
    ·rename_i o
     split at h
     ·rename_i cs Y
      cases h;have W:=jB μ mem.length j.zero;have R:=(hT e j M).agu;have Q:(jc j.zero).cells.length=j.size:=by rw[←W.length,Array.length_toList,R]
      have L:ae7 μ mem.length (fD (jc j.zero).cells y) ((Array.range (y*j.size)).map (fun i=>j.zero.cells[i%j.zero.cells.size]!)).toList:=by
       refine ae7.af8 (by simp[gS,Q]) fun q u K=>?_
       obtain⟨V,G,F,h3⟩:=sS W y q u K;refine⟨V,?_,F⟩;have:=Fb (Z:=j.zero.cells) (m:=y*j.size) (j:=q) (by rw[R] at h3;exact h3);rw[G] at this;rw[Array.getElem?_toList];exact this
      obtain⟨J,hF,O⟩:=sE Y L hp hv;obtain⟨G,F⟩:=sO hH e ⟨J⟩ j.size (by omega) cs (fun q u K=>by obtain⟨U,hU,hr⟩:=O.get q u K;exact⟨U,by simpa using hU,hr⟩)
      have D':J.length=y*j.size:=by
       rw[O.length];have:∀{pl:Nat→Option (Nat×Nat)}{N:List (Nat×AV)}{a b:List AV},qd pl a N=some b→b.length=a.length:=by
        intro pl N;induction N with
        |nil=>intro a b X;simp only[qd,Option.some.injEq] at X;rw[X]
        |cons p N ih=>
         obtain⟨pi,pv⟩:=p;intro a b X;rw[qd] at X;cases hpl:pl pi with
         |none=>rw[hpl] at X;cases X
         |some os=>
          obtain⟨off,size⟩:=os;rw[hpl] at X;simp only at X;split at X
          ·rename_i D
           simp only[Bool.and_eq_true,decide_eq_true_eq] at D;rw[ih X];simp only[List.length_append,List.length_take,List.length_drop];omega
          ·cases X
       rw[this Y,gS,Q]
      refine⟨.slice (some ⟨w.heap.size,0,none⟩) y y,_,_,?_,?_,G,F⟩
      ·simp only[Instr.buildSlice,Sem.run_bind,run_underlying B,Result.andThen_ok,cL hT M]
       rw[if_neg (by omega)];have S :=hF;rw[show(⟨((Array.range (y*j.size)).map (fun i=>j.zero.cells[i%j.zero.cells.size]!)).toList⟩:Array Value)=(Array.range (y*j.size)).map (fun i=>j.zero.cells[i%j.zero.cells.size]!) from rfl] at S;by_cases C:y*j.size=0
       ·rw[if_pos C]
        rw[C] at S ⊢;simp only[Sem.run_bind,Sem.run_pure,Result.andThen_ok,Array.range_zero',Array.map_empty] at S ⊢;rw[S];simp only[newRow,Sem.run_bind,run_newObj,Result.andThen_ok,Sem.run_pure];rfl
       ·rw[if_neg C]
        simp only[Sem.run_bind,Sem.run_pure,Result.andThen_ok,eC hT M];rw[S];simp only[newRow,Sem.run_bind,run_newObj,Result.andThen_ok,Sem.run_pure];rfl
      ·simp only[ae5,ez,jV,List.length_append,List.length_singleton]
       refine⟨by omega,?_⟩;simp only[Nat.sub_zero,D',List.size_toArray,Nat.mod_eq_of_lt o.2.2,Nat.mul_div_cancel _ o.2.1]
     ·cases h
    ·cases h
  ·cases h
end
variable{n:Int}
theorem ae(h0: -9223372036854775808≤n:=by omega)(Z:n≤9223372036854775807:=by omega):IntKind.i64.wrap n=n:=by simp only[IntKind.wrap,IntKind.bits,IntKind.signed,Bool.true_and,ge_iff_le,decide_eq_true_eq,Nat.reduceSub];split<;>omega
theorem cC(h0:0≤n)(h1:n≤18446744073709551615):IntKind.u64.wrap n=n:=by simp only[IntKind.wrap,IntKind.bits,IntKind.signed,Bool.false_and,Bool.false_eq_true,if_false];omega
section
variable {P:Program}{T:TypeId→Option TyI}{μ:Nat→Place}{mem:Mem}{base:Nat}{w:World}
def kD(T:TypeId→Option TyI)(mem:Mem)(t:TypeId)(l c:AV):Option (AV×Mem):=
 match T t with
 |none=>none
 |some i=>
  match i.desc,l,c with
  |.slice e,.int _ l,.int _ c=>
   match T e with
   |none=>none
   |some j=>
    if 0≤l∧l≤c∧(j.bytes:Int)*c≤281474976710656∧c≤281474976710656∧0<j.size∧j.size<1000 then
     some (.slice mem.length 0 l.toNat none,mem++[.cells true j.size (fD (jc j.zero).cells l.toNat)])
    else none
  |_,_,_=>none
theorem Aa(hT:cW P T)(H:afj base μ mem w){t:TypeId}{l c v:AV}{L C:Value}{y :Mem}(I:ae5 μ mem.length l L)(hc:ae5 μ mem.length c C)(h:kD T mem t l c=some (v,y)):
  aga P (Instr.makeSlice t L C) base μ mem w v y :=by
 unfold kD at h;cases ht:T t with
 |none=>rw[ht] at h;cases h
 |some i=>
  rw[ht] at h;simp only at h;have K:=(hT t i ht).desc;split at h
  ·rename_i e k1 l k2 c F
   rw[F] at K;split at h
   ·cases h
   ·rename_i j S
    split at h
    ·rename_i D
     obtain⟨g1,g2,g3,g4,B,o⟩:=D;cases h;rw[I.int,hc.int];have G:=jB μ mem.length j.zero;have X:=(hT e j S).agu;have Y:(jc j.zero).cells.length=j.size:=by rw[←G.length,Array.length_toList,X]
     obtain⟨f,W,J,U,hfz⟩:=zg hT S w;have w1:IntKind.i64.wrap l=l:=ae;have w2:IntKind.i64.wrap c=c:=ae;obtain⟨h1,h2⟩:=sO H e ((Array.range (c.toNat*j.size)).map (fun i=>j.zero.cells[i%j.zero.cells.size]!)) j.size (by omega) (fD (jc j.zero).cells l.toNat) (fun q u hu=>by obtain⟨V,e1,e2,e3⟩:=sS G _ q u hu;refine⟨V,?_,e2⟩;rw[X] at e3;have Ya:l.toNat*j.size≤c.toNat*j.size:=Nat.mul_le_mul_right _ (by omega);have:=Fb (Z:=j.zero.cells) (m:=c.toNat*j.size) (j:=q) (by omega);rw[e1] at this;exact this)
     refine⟨.slice (some ⟨w.heap.size,0,none⟩) l.toNat c.toNat,_,_,?_,?_,h1,h2⟩
     ·have hb:¬(281474976710656<(f.bytes:Int)*c):=by rw[U];omega
      have YL:¬((f.bytes:Int)*c>2 ^ 48):=by rw[U];omega
      have R:¬c<0:=by omega
      have Q:¬l<0:=by omega
      have O:¬l>c:=by omega
      simp only[Instr.makeSlice,Sem.run_bind,run_underlying K,asInt,asIntOf,Sem.run_pure,Result.andThen_ok,W,w1,w2];have S':((decide (c<0)||decide ((f.bytes:Int)*c>2 ^ 48))||decide (l<0)||decide (l>c))=false:=by simp[R,Q,O,hb]
      simp only[S',Bool.false_eq_true,if_false];have N:∀n,(askRoom n).run P w=.ok () w:=by intro n;unfold askRoom;split<;>simp[mark,Sem.run]
      simp only[Sem.run_bind,N,Result.andThen_ok,cL hT S];by_cases M:c.toNat*j.size=0
      ·rw[if_pos M]
       rw[M];simp only[Sem.run_bind,Sem.run_pure,Result.andThen_ok,Array.range_zero',Array.map_empty,newRow,run_newObj];rfl
      ·rw[if_neg M]
       simp only[Sem.run_bind,Sem.run_pure,Result.andThen_ok,eC hT S,newRow,run_newObj];rfl
     ·simp only[ae5,ez,jV,List.length_append,List.length_singleton]
      refine⟨by omega,?_⟩;simp only[Nat.sub_zero,Array.size_map,Array.size_range,Nat.mod_eq_of_lt o,Nat.mul_div_cancel _ B]
    ·cases h
  ·cases h
def mG(T:TypeId→Option TyI)(mem:Mem)(y:Nat)(t2:TypeId):AV→Option (Nat×List AV)
 |.qF=>some (0,[])
 |.slice b o m _=>match mem[b]? with
  |some (.cells _ _ cs)=>if o+m*y≤cs.length then some (m,(cs.drop o).take (m*y)) else none
  |_=>if m=0 then some (0,[]) else none
 |.str s=>match T t2 with
  |some i=>match i.desc with
   |.string=>if y=1 then some (s.length,s.map fun c=>.int .u8 c.toNat) else none
   |_=>none
  |none=>none
 |_=>none
def Ak(i:TyI):Bool:=match i.desc with
 |.slice _=>true
 |.string=>true
 |_=>false
def yk(j:TyI)(e:TypeId):Nat:=match j.desc with
 |.int .u8=>j.size+1000*(e+1)
 |_=>j.size
def oY(T:TypeId→Option TyI)(mem:Mem)(t t2:TypeId)(s x:AV):Option (AV×Mem):=
 match T t with
 |none=>none
 |some i=>
  match i.desc with
  |.slice e=>
   match T e,T t2 with
   |some j,some i2=>
    if j.size=0∨1000≤j.size∨Ak i2=false then none else
    match mG T mem j.size t2 x with
    |none=>none
    |some (m,news)=>
     if news.all AV.ae9=true then
      match s with
      |.qF=>
       if m=0 then some (.qF,mem)
       else if m*j.bytes≤140737488355328∧m≤140737488355328 then some (.slice mem.length 0 m none,mem++[.cells true (yk j e) news])
       else none
      |.slice b 0 n none=>
       match mem[b]? with
       |some (.cells true es cs)=>
        if (es=j.size∨es=yk j e)∧n*j.size≤cs.length∧(n+m)*j.bytes≤140737488355328∧n+m≤140737488355328 then
         some (.slice mem.length 0 (n+m) none,mem.set b .qK++[.cells true es (cs.take (n*j.size)++news)])
        else none
       |_=>none
      |_=>none
     else none
   |_,_=>none
  |_=>none
theorem tz(I:afj base μ mem w){y:Nat}{t2:TypeId}{x:AV}{X:Value}{m:Nat}{news:List AV}(H:ae5 μ mem.length x X)(h:mG T mem y t2 x=some (m,news)):
  ∃V,ae7 μ mem.length news V∧news.length=m*y∧(Builtin.lenOf X).run P w=.ok m w∧
   ∀w',(∀a,w'.cell? a=w.cell? a)→(Builtin.firstCells y m X).run P w' =.ok ⟨V⟩ w' :=by
 unfold mG at h;split at h
 ·cases h
  simp only[ae5] at H;subst H;exact⟨[],by simp[ae7],by simp,by simp[Builtin.lenOf],fun w' _=>by simp[Builtin.firstCells]⟩
 ·rename_i b o k c
  split at h
  ·rename_i own es F R
   split at h
   ·rename_i Q
    cases h;obtain⟨O,rfl⟩:=H.slice;obtain⟨U,N,M,h3⟩:=I.cells R Q;refine⟨U,N,by simp;omega,by simp[Builtin.lenOf],fun w' S=>?_⟩;exact run_firstCells_some w' y m _ _ _ U M (fun j v Z=>by rw[S];exact h3 j v Z)
   ·cases h
  ·split at h
   ·rename_i L
    cases h;subst L;obtain⟨O,rfl⟩:=H.slice;refine⟨[],by simp[ae7],by simp,by simp[Builtin.lenOf],fun w' S=>?_⟩;exact run_firstCells_some w' y 0 _ _ _ [] (by simp) (fun j v Z=>by simp at Z)
   ·cases h
 ·rename_i s
  split at h
  ·split at h
   ·split at h
    ·rename_i K
     cases h;subst K;rw[H.str];refine⟨s.map fun c=>.int .u8 c.toNat,?_,by simp,by simp[Builtin.lenOf,su],fun w' _=>?_⟩
     ·refine ae7.af8 (by simp) fun i v Z=>?_
      simp only[List.getElem?_map,Option.map_eq_some_iff] at Z ⊢;obtain⟨c,G,rfl⟩:=Z;exact⟨_,⟨c,G,rfl⟩,by simp[ae5]⟩
     ·simp only[Builtin.firstCells,Sem.run_pure,Result.ok.injEq,and_true]
      have:(ByteArray.mk s.toArray).extract 0 s.length=⟨s.toArray⟩:=by apply ByteArray.ext;apply Array.ext';simp[List.extract]
      rw[this];simp
    ·cases h
   ·cases h
  ·cases h
 ·cases h
end
end Go.Eng
namespace Go.Eng
variable{b:Nat}{j:TyI}
section
variable {P:Program}{T:TypeId→Option TyI}{μ:Nat→Place}{mem:Mem}{base:Nat}{w:World}
section
variable (hT:cW P T){t t2 ty e:TypeId}(hd:P.underlying t=some (.slice e))(hj:T e=some j)(ht2:(∃e2,P.underlying t2=some (.slice e2))∨P.underlying t2=some .string)(bs:Option Addr)
include hT t t2 ty e hd hj ht2 bs
theorem uA(n c m:Nat)(X:Value)(w:World)(y:(Builtin.lenOf X).run P w=.ok m w)(H:n+m≤c):
  (Builtin.append_ #[t,t2] ty #[.slice bs n c,X]).run P w=
   ((Builtin.firstCells j.size m X).run P w).andThen fun V w' =>match bs with
    |some a=>((storeCells (a.add (n*j.size)) V.toList).run P w').andThen fun _ U =>.ok (.slice bs (n+m) c) U
    |none=>.ok (.slice bs (n+m) c) w' :=by
 rcases ht2 with⟨S,Z⟩ | Z<;>
  simp[Builtin.append_,run_underlying hd,run_underlying Z,cL hT hj,y,H]<;>cases bs<;>simp
theorem BT(n c m:Nat)(X:Value)(w:World)(Os Ns:List Value)(y:(Builtin.lenOf X).run P w=.ok m w)(H:c<n+m)(I:(n+m)*j.bytes≤140737488355328)(Y:n+m≤140737488355328)(J:(Builtin.firstCells j.size n (.slice bs n c)).run P w.drew=.ok ⟨Os⟩ w.drew)(W:(Builtin.firstCells j.size m X).run P w.drew=.ok ⟨Ns⟩ w.drew):
  ∃V,n+m≤V∧(Builtin.append_ #[t,t2] ty #[.slice bs n c,X]).run P w=
   .ok (.slice (some ⟨w.heap.size,0,none⟩) (n+m) V) (w.drew.alloc (.cells (⟨Os⟩++(⟨Ns⟩++Builtin.zeroCells j.zero.cells (V-(n+m)))) e)):=by
 obtain⟨f,L,U,S,R⟩:=(hT e j hj).info;have Q:¬(n+m≤c):=by omega
 have O:¬(9223372036854775807<((n:Int)+(m:Int))):=by omega
 have N:¬(281474976710656<Builtin.nextslicecap (n+m) c*f.bytes):=by have:=growslice_fits H (bytes:=f.bytes) (by rw[S];exact I);omega
 have M:∀n w,(askRoom n).run P w=.ok () w:=by intro n w;unfold askRoom;split<;>simp[mark,Sem.run]
 refine⟨grownCap w (n+m) c e,grownCap_ge w (n+m) c e,?_⟩;rcases ht2 with⟨K,Z⟩ | Z<;>
  simp[Builtin.append_,run_underlying hd,run_underlying Z,sizeOf,typeInfo,zeroValue,L,U,R,y,Q,O,N,Question.forced,J,W,newRow,grownCap,M]
end
theorem afj.drop{s:afb}(y:afj base μ mem w)(H:mem[b]? =some s):afj base μ (mem.set b .qK) w:=by
 have R:b<mem.length:=gL H;have own:∀x,ek (mem.set b .qK) x→ek mem x∧x≠b:=by
  intro x V;by_cases Z:x=b
  ·subst Z
   obtain⟨N,X,Q⟩:=V;rw[List.getElem?_set_self R] at X;cases X;cases Q
  ·obtain⟨N,X,Q⟩:=V
   rw[List.getElem?_set_ne (Ne.symm Z)] at X;exact⟨⟨N,X,Q⟩,Z⟩
 refine⟨y.afe,fun x t U=>?_,fun x M t V S L O=>?_⟩
 ·rw[List.length_set]
  by_cases Z:x=b
  ·subst Z;rw[List.getElem?_set_self R] at U;cases U;trivial
  ·rw[List.getElem?_set_ne (Ne.symm Z)] at U;exact y.slot x t U
 ·by_cases Z:M =b
  ·subst Z;rw[List.getElem?_set_self R] at S;cases S;exact absurd rfl L
  ·rw[List.getElem?_set_ne (Ne.symm Z)] at S
   exact y.sep x M t (own x V).1 S L O
theorem Step.drop{m0:Nat}{μ:Nat→Place}{mem:Mem}{w:World}(h:m0≤mem.length):Step m0 μ mem w μ (mem.set b .qK) w:=by
 refine⟨by simpa using h,fun _ _=>rfl,rfl,rfl,rfl,Nat.le_refl _,fun _ _ _=>rfl,fun x V _=>⟨x,?_,rfl⟩,Nat.le_refl _⟩;by_cases S:x=b
 ·subst S
  by_cases R:x<mem.length
  ·obtain⟨U,Z,X⟩:=V
   rw[List.getElem?_set_self R] at Z;cases Z;cases X
  ·obtain⟨U,Z,X⟩:=V
   have:=gL Z;simp at this;omega
 ·obtain⟨U,Z,X⟩:=V
  rw[List.getElem?_set_ne (Ne.symm S)] at Z;exact⟨U,Z,X⟩
theorem afj.rename{es:Nat}{cs H :List AV}{w' :World}(hH:afj base μ mem w)(hb:mem[b]? =some (.cells true es cs))(I:w'.drawn=w.drawn)(J:w'.os=w.os)(W:w'.tape=w.tape)(Y:w'.output=w.output)(Yw:w'.heap.size=w.heap.size)(abd:∀k,k≠(μ b).blk→w'.heap[k]? =w.heap[k]?)(hs:afl μ mem.length base w' (μ b) (.cells true es H)):
  afj base (upd μ mem.length (μ b)) (mem.set b .qK++[.cells true es H]) w' ∧
  Step mem.length μ mem w (upd μ mem.length (μ b)) (mem.set b .qK++[.cells true es H]) w' :=by
 have K:b<mem.length:=gL hb;have G:ek mem b:=jC hb;have hw:=hH.write (s' :=.cells true es H) hb G (fun _=>⟨_,List.getElem?_set_self K,rfl⟩) I J W Y Yw abd hs;have hμ:∀x,x<mem.length→upd μ mem.length (μ b) x=μ x:=fun x V=>wR V
 have D':(mem.set b .qK).length=mem.length:=by simp
 have own:∀x,ek (mem.set b .qK++[.cells true es H]) x→(x<mem.length∧x≠b∧ek mem x)∨x=mem.length:=by
  intro x V;by_cases U:x<mem.length
  ·refine .inl ⟨U,?_⟩
   have F :ek (mem.set b .qK) x:=by obtain⟨N,Z,Q⟩:=V;rw[List.getElem?_append_left (by omega)] at Z;exact⟨N,Z,Q⟩
   by_cases S:x=b
   ·subst S
    obtain⟨N,Z,Q⟩:=F;rw[List.getElem?_set_self K] at Z;cases Z;cases Q
   ·refine⟨S,?_⟩
    obtain⟨N,Z,Q⟩:=F;rw[List.getElem?_set_ne (Ne.symm S)] at Z;exact⟨N,Z,Q⟩
  ·refine .inr ?_
   obtain⟨N,Z,Q⟩:=V;have:=gL Z;simp at this;omega
 constructor
 ·refine⟨hw.1.afe,fun x t X=>?_,fun x M t V F B L=>?_⟩
  ·rw[List.length_append,List.length_singleton,D']
   by_cases U:x<mem.length
   ·rw[List.getElem?_append_left (by omega)] at X
    rw[hμ x U];by_cases S:x=b
    ·subst S;rw[List.getElem?_set_self K] at X;cases X;trivial
    ·rw[List.getElem?_set_ne (Ne.symm S)] at X
     have:=hw.1.slot x t (by rw[List.getElem?_set_ne (Ne.symm S)];exact X);rw[List.length_set] at this;exact this.mono (Nat.le_succ _) hμ fun _=>rfl
   ·have u:x=mem.length:=by have:=gL X;simp at this;omega
    subst u;rw[List.getElem?_append_right (by omega),D'] at X;simp at X;subst X;rw[ez];exact hs.mono (Nat.le_succ _) hμ fun _=>rfl
  ·have o:∀y s,(mem.set b .qK++[.cells true es H])[y]? =some s→s≠ .qK→(y<mem.length∧y≠b∧mem[y]? =some s)∨y=mem.length:=by
    intro y s O m;by_cases hyl:y<mem.length
    ·rw[List.getElem?_append_left (by omega)] at O
     by_cases R:y=b
     ·subst R;rw[List.getElem?_set_self K] at O;cases O;exact absurd rfl m
     ·rw[List.getElem?_set_ne (Ne.symm R)] at O;exact .inl ⟨hyl,R,O⟩
    ·exact .inr (by have:=gL O;simp at this;omega)
   rcases own x V with⟨D,a2,C⟩ | rfl<;>rcases o M t F B with⟨b1,b2,b3⟩ | rfl
   ·rw[hμ x D,hμ M b1];exact hH.sep x M t C b3 B L
   ·rw[hμ x D,ez];exact hH.sep x b _ C hb (by simp) a2
   ·rw[hμ M b1,ez];exact hH.sep b M t G b3 B (Ne.symm b2)
   ·exact absurd rfl L
 ·refine⟨by simp,hμ,J,W,Y,by omega,fun k hk hf=>abd k fun he=>hf b G he.symm,fun x V T' =>?_,Nat.le_of_eq I.symm⟩
  rcases own x V with⟨D,_,C⟩ | rfl
  ·exact⟨x,C,by rw[hμ x D]⟩
  ·exact⟨b,G,by rw[ez]⟩
end
end Go.Eng
namespace Go.Eng
section
variable {P:Program}{T:TypeId→Option TyI}{μ:Nat→Place}{mem:Mem}{base:Nat}{w:World}
theorem afj.drew(h:afj base μ mem w):afj base μ mem w.drew:=h.af9 rfl
theorem ae7.afS{n:Nat}{vs:List AV}{Vs:List Value}(h:ae7 μ n vs Vs)(y:vs.all AV.ae9=true):∀u∈Vs,u.oneCell' =true:=by
 intro u V;obtain⟨j,Z⟩:=List.getElem?_of_mem V;have S:j<vs.length:=by rw[←h.length];exact(gL Z)
 obtain⟨U,X,R⟩:=h.get j vs[j] (by simp[S]);rw[Z] at X;cases X;exact R.ags (List.all_eq_true.1 y _ (by simp))
theorem GX{j:TyI}{e:TypeId}(h:j.size<1000):yk j e%1000=j.size∧(1000≤yk j e→e+1=yk j e / 1000):=by
 unfold yk;split
 ·refine⟨by rw[Nat.add_mul_mod_self_left,Nat.mod_eq_of_lt h],fun _=>by rw[Nat.add_mul_div_left _ _ (by omega),Nat.div_eq_of_lt h,Nat.zero_add]⟩
 ·exact⟨Nat.mod_eq_of_lt h,fun Z=>by omega⟩
theorem NT(Y:afj base μ mem w){e:TypeId}{y need H es:Nat}(I:es%1000=y∧(1000≤es→e+1=es / 1000)){olds news:List AV}{Os Ns:List Value}{z:Array Value}(h0:0<y)(hz:z.size=y)(J:ae7 μ mem.length olds Os)(W:ae7 μ mem.length news Ns)(hl:olds.length+news.length=need*y)(hnc:need≤H){x:Sem Value}(hx:x.run P w=.ok (.slice (some ⟨w.heap.size,0,none⟩) need H) (w.drew.alloc (.cells (⟨Os⟩++(⟨Ns⟩++Builtin.zeroCells z (H-need))) e))):
  aga P x base μ mem w (.slice mem.length 0 need none) (mem++[.cells true es (olds++news)]):=by
 have X:(⟨Os⟩++(⟨Ns⟩++Builtin.zeroCells z (H-need)):Array Value).size=H*y:=by simp only[Array.size_append,List.size_toArray,size_zeroCells,hz,J.length,W.length];rw[←Nat.add_assoc,hl,←Nat.add_mul];congr 1;omega
 obtain⟨V,S⟩:=sO Y.drew e (⟨Os⟩++(⟨Ns⟩++Builtin.zeroCells z (H-need))) es I.2 (olds++news) (fun j v R=>by obtain⟨U,Z,Q⟩:=(J.append W).get j v R;refine⟨U,?_,Q⟩;have O:j<(Os++Ns).length:=gL Z;rw[←Array.append_assoc,Array.getElem?_append_left (by simpa using O)];simpa using Z)
 refine⟨_,_,_,hx,?_,V,?_⟩
 ·simp only[ae5,ez,jV,List.length_append,List.length_singleton,World.size_drew]
  refine⟨by omega,?_⟩;rw[Nat.sub_zero,X,I.1,Nat.mul_div_cancel _ h0]
 ·exact(Step.drew (m0:=mem.length) (Nat.le_refl _)).trans S
theorem Gi(hT:cW P T)(H:afj base μ mem w){t t2 ty:TypeId}{s x v:AV}{S X:Value}{y :Mem}(hs:ae5 μ mem.length s S)(hx:ae5 μ mem.length x X)(h:oY T mem t t2 s x=some (v,y)):
  aga P (Builtin.append_ #[t,t2] ty #[S,X]) base μ mem w v y :=by
 unfold oY at h;cases ht:T t with
 |none=>rw[ht] at h;cases h
 |some i=>
  rw[ht] at h;simp only at h;have D:=(hT t i ht).desc;split at h
  ·rename_i e C'
   rw[C'] at D;split at h
   ·rename_i j i2 C hi2
    split at h
    ·cases h
    ·rename_i S'
     have O:=(hT t2 i2 hi2).desc;have N:(∃B,P.underlying t2=some (.slice B))∨P.underlying t2=some .string:=by
      have Yf:Ak i2=true:=by
       cases Y:Ak i2 with
       |true=>rfl
       |false=>exact absurd (.inr (.inr Y)) S'
      unfold Ak at Yf;split at Yf
      next B Y=>rw[Y] at O;exact .inl ⟨B,O⟩
      next Y=>rw[Y] at O;exact .inr O
      ·cases Yf
     have Yw:0<j.size:=by
      rcases Nat.eq_zero_or_pos j.size with h0 | h0
      ·exact absurd (.inl h0) S'
      ·exact h0
     have K:j.size<1000:=by
      rcases Nat.lt_or_ge j.size 1000 with h0 | h0
      ·exact h0
      ·exact absurd (.inr (.inl h0)) S'
     have W:=(hT e j C).agu;split at h
     ·cases h
     ·rename_i m Z ab4
      split at h
      ·rename_i PP
       obtain⟨L,J,g2,g3,g4⟩:=tz (P:=P) H hx ab4;split at h
       ·
        simp only[ae5] at hs;subst hs;split at h
        ·rename_i hm
         cases h;subst hm;have Q:=uA hT (ty:=ty) D C N none 0 0 0 X w g3 (Nat.le_refl _);rw[g4 w (fun _=>rfl)] at Q;exact aga.afq H ⟨_,Q,by simp[ae5]⟩
        ·rename_i hm
         split at h
         ·rename_i G
          cases h;obtain⟨nc,M,Q⟩:=BT hT (ty:=ty) D C N none 0 0 m X w [] L g3 (by omega) (by simpa using G.1) (by simpa using G.2) (by simp[Builtin.firstCells]) (g4 w.drew (fun _=>rfl));simp only[Nat.zero_add] at Q M;have:=NT (P:=P) H (es:=yk j e) (GX K) (olds:=[]) (news:=Z) Yw W (by simp[ae7]) J (by simpa using g2) M Q;simpa using this
         ·cases h
       ·rename_i b n
        split at h
        ·rename_i es cs G
         split at h
         ·rename_i hc
          obtain⟨k1,k2,k3,k4⟩:=hc;cases h;obtain⟨Zc,rfl⟩:=hs.slice;have Zr:=H.slot b _ G;simp only[afl] at Zr;obtain⟨R,el,fr,s1,s2,s3,s4,s5⟩:=Zr;obtain⟨s6,s7,s8,s9⟩:=s5 trivial;subst s7;have Z6:es%1000=j.size∧(1000≤es→e+1=es / 1000):=by
           rcases k1 with rfl | rfl
           ·exact⟨Nat.mod_eq_of_lt K,fun h1=>by omega⟩
           ·exact GX K
          have I :(μ b).es=j.size:=by rw[s2.1];exact Z6.1
          have ZR:jV (μ b) 0 none=(μ b).tot / j.size:=by simp[jV,I]
          have ZT:(μ b).off+0=0:=by omega
          rw[ZT,ZR];obtain⟨Os,o1,o2,o3⟩:=H.cells G (o:=0) (k:=n*j.size) (by omega);simp only[List.drop_zero] at o1;rw[ZT] at o3;have aeT:0<j.size:=Yw;by_cases YR:n+m≤(μ b).tot / j.size
          ·have Q:=uA hT (ty:=ty) D C N (some ⟨(μ b).blk,0,none⟩) n _ m X w g3 YR
           rw[g4 w (fun _=>rfl)] at Q;have F:(n+m)*j.size≤(μ b).tot:=by have:=Nat.mul_le_mul_right j.size YR;exact Nat.le_trans this (Nat.div_mul_le_self _ _)
           have hNl:L.length=m*j.size:=by rw[J.length,g2,]
           have UV:=run_storeCells_at (P:=P) (μ b).blk (n*j.size) el L 0 R w s1 (by rw[hNl,s8,Nat.add_zero,←Nat.add_mul];exact F) (J.afS PP);simp only[Result.andThen_ok,Addr.add_lit,Nat.zero_add,UV] at Q;have D':cs.length≤R.size:=by rw[s8];exact s3
           have YM :afl μ mem.length base (w.setRow (μ b).blk (R.toList.take (n*j.size+0)++L++R.toList.drop (n*j.size+0+L.length)).toArray) (μ b) (.cells true es (cs.take (n*j.size)++Z)):=by
            simp only[afl];refine⟨_,el,(0,0),setRow_heap w (μ b).blk R _ el (0,0) s1,s2,?_,fun q u hu=>?_,fun _=>⟨s6,rfl,?_,s9⟩⟩
            ·simp only[List.length_append,List.length_take,g2]
             rw[Nat.add_mul] at F;omega
            ·rw[s6,Nat.zero_add]
             have e1:(cs.take (n*j.size)).length=n*j.size:=by simp;omega
             have B:(R.toList.take (n*j.size+0)).length=n*j.size:=by simp;omega
             simp only[List.getElem?_toArray,List.append_assoc];by_cases hq:q<n*j.size
             ·rw[List.getElem?_append_left (by omega),List.getElem?_take_of_lt hq] at hu
              rw[List.getElem?_append_left (by omega),List.getElem?_take_of_lt (by omega)];obtain⟨U,hU,Q⟩:=s4 q u hu;rw[s6,Nat.zero_add] at hU;exact⟨U,by simpa using hU,Q⟩
             ·rw[List.getElem?_append_right (by omega),e1] at hu
              rw[List.getElem?_append_right (by omega),B];obtain⟨U,hU,Q⟩:=J.get _ u hu;rw[List.getElem?_append_left (gL hU)];exact⟨U,hU,Q⟩
            ·simp only[List.size_toArray,List.length_append,List.length_take,List.length_drop,Array.length_toList,hNl]
             rw[Nat.add_mul] at F;omega
           obtain⟨r1,r2⟩:=H.rename (w' :=w.setRow (μ b).blk (R.toList.take (n*j.size+0)++L++R.toList.drop (n*j.size+0+L.length)).toArray) G rfl rfl rfl rfl (by simp[World.setRow]) (fun k hk=>setRow_other w _ k _ hk) YM;refine⟨_,_,_,Q,?_,r1,r2⟩;simp only[ae5,ez,jV,List.length_append,List.length_set,List.length_singleton];refine⟨by omega,?_⟩;rw[I,s6];rfl
          ·have hO:(Builtin.firstCells j.size n (.slice (some ⟨(μ b).blk,0,none⟩) n ((μ b).tot / j.size))).run P w.drew=.ok ⟨Os⟩ w.drew:=
            run_firstCells_some w.drew j.size n _ _ _ Os (by rw[o2,]) (fun q u hq=>o3 q u hq)
           obtain⟨nc,M,Q⟩:=BT hT (ty:=ty) D C N (some ⟨(μ b).blk,0,none⟩) n _ m X w Os L g3 (by omega) k3 k4 hO (g4 w.drew (fun _=>rfl));have hH2:=H.drop G;have D':(mem.set b .qK).length=mem.length:=by simp
           have:=NT (P:=P) hH2 (es:=es) Z6 (olds:=cs.take (n*j.size)) (news:=Z) Yw W (by rw[D'];exact o1) (by rw[D'];exact J) (by rw[List.length_take,g2,Nat.add_mul];omega) M Q;obtain⟨V,w',μ',q1,q2,q3,q4⟩:=this;rw[] at q2 q3 q4;rw[D'] at q2 q4;exact⟨V,w',μ',q1,q2,q3,(Step.drop (b:=b) (Nat.le_refl _)).trans q4⟩
         ·cases h
        ·cases h
       ·cases h
      ·cases h
   ·cases h
  ·cases h
end
def SX(T:TypeId→Option TyI)(q:TypeId→AV→Bool)(y:List AV):List Field→Bool
 | []=>true
 |f::fs=>
  match T f.type with
  |none=>false
  |some i=>match jm i y f.offset with
   |some a=>q f.type a&&SX T q y fs
   |none=>false
def Ld(q:AV→Bool)(i:TyI)(y:List AV):List Nat→Bool
 | []=>true
 |j::js=>match jm i y (j*i.size) with
  |some a=>q a&&Ld q i y js
  |none=>false
def lU(T:TypeId→Option TyI):Nat→TypeId→AV→Bool
 |0,_,_=>false
 |d+1,t,x=>
  match T t with
  |none=>false
  |some i=>
   match i.desc,x with
   |.bool,.bool _=>true
   |.int _,.int _ _=>true
   |.string,.str _=>true
   |.struct fs,.agg xs=>SX T (lU T d) xs fs.toList
   |.array n e,.agg xs=>match T e with
    |some j=>Ld (lU T d e) j xs (List.range' 0 n)
    |none=>false
   |_,_=>false
def jz(T:TypeId→Option TyI)(y:TypeId)(k:AV):List (AV×AV)→Nat→Option (Option (Nat×AV))
 | [],_=>some none
 |e::es,i=>match jy T 20 y k e.1 with
  |some true=>some (some (i,e.2))
  |some false=>jz T y k es (i+1)
  |none=>none
def AV.afV:AV→Bool
 |.bool _ | .int _ _ | .str _=>true
 |_=>false
def jI(mem:Mem):AV→Option (List (AV×AV))
 |.aft=>some []
 |.map b=>match mem[b]? with
  |some (.map es)=>some es
  |some (.afH es)=>some es
  |_=>none
 |_=>none
def kS(T:TypeId→Option TyI)(mem:Mem)(t:TypeId)(m k:AV)(ok:Bool):Option AV:=
 match T t with
 |none=>none
 |some i=>
  match i.desc with
  |.map kt et=>
   match T et,jI mem m with
   |some j,some es=>
    if lU T 20 kt k then
     match jz T kt k es 0 with
     |some (some (_,v))=>some (if ok then .tuple [v,.bool true] else v)
     |some none=>some (if ok then .tuple [jc j.zero,.bool false] else jc j.zero)
     |none=>none
    else none
   |_,_=>none
  |_=>none
def eZ(T:TypeId→Option TyI)(mem:Mem)(t:TypeId)(m k v:AV):Option Mem:=
 match T t with
 |none=>none
 |some i=>
  match i.desc,m with
  |.map kt _,.map b=>
   match mem[b]? with
   |some (.map es)=>
    if lU T 20 kt k then
     match jz T kt k es 0 with
     |some (some (i,_))=>if k.afV then some (mem.set b (.map (es.set i (k,v)))) else none
     |some none=>some (mem.set b (.map (es++[(k,v)])))
     |none=>none
    else none
   |_=>none
  |_,_=>none
variable{K:Value}{k:AV}
section
variable {P:Program}{T:TypeId→Option TyI}{μ:Nat→Place}{mem:Mem}{base:Nat}{w:World}{n:Nat}
theorem Ch(hT:cW P T){d:Nat}{q:TypeId→AV→Bool}{em:Bool}
  (H:∀{t:TypeId}{x:AV}{X:Value},q t x=true→ae5 μ n x X→∀(w:World),(Instr.checkKey em d t X).run P w=.ok () w)
  {I:List AV}{J:List Value}(W:ae7 μ n I J) (w:World):∀{y:List Field},SX T q I y=true→
  ((forIn y PUnit.unit fun f _=>(do
    if f.name ≠ "_" then
     let a ←part f.type ⟨J⟩ f.offset
     Instr.checkKey em d f.type a
     pure (ForInStep.yield PUnit.unit)
    else pure (ForInStep.yield PUnit.unit):Sem (ForInStep PUnit))).run P w=.ok PUnit.unit w)
 | [],_=>by simp
 |f::y,h=>by
  rw[SX] at h;split at h
  ·cases h
  ·rename_i i S
   split at h
   ·rename_i a R
    simp only[Bool.and_eq_true] at h;obtain⟨A,Q,V⟩:=iI (P:=P) (μ:=μ) (n:=n) hT S R W w;have O:=H h.1 V w;have U:=Ch hT H W w h.2;rw[List.forIn_cons];by_cases Z:f.name = "_"
    ·simp only[Z,ne_eq,not_true_eq_false,if_false,pure_bind]
     simp only[ne_eq] at U;exact U
    ·simp only[Z,ne_eq,not_false_eq_true,if_true,Sem.run_bind,Q,O,Result.andThen_ok,Sem.run_pure]
     exact U
   ·cases h
theorem Cg(hT:cW P T){d:Nat}{e:TypeId}{i:TyI}(y:T e=some i){q:AV→Bool}{em:Bool}
  (I:∀{x:AV}{X:Value},q x=true→ae5 μ n x X→∀(w:World),(Instr.checkKey em d e X).run P w=.ok () w)
  {J:List AV}{W:List Value}(Y:ae7 μ n J W) (w:World):∀{H:List Nat},Ld q i J H=true→
  ((forIn H PUnit.unit fun j _=>(do
    let s ←sizeOf e
    let a ←part e ⟨W⟩ (j*s)
    Instr.checkKey em d e a
    pure (ForInStep.yield PUnit.unit):Sem (ForInStep PUnit))).run P w=.ok PUnit.unit w)
 | [],_=>by simp
 |j::H,h=>by
  rw[Ld] at h;split at h
  ·rename_i a V
   simp only[Bool.and_eq_true] at h;obtain⟨A,U,Z⟩:=iI (P:=P) (μ:=μ) (n:=n) hT y V Y w;have S:=I h.1 Z w;have R:=Cg hT y I Y w h.2;rw[List.forIn_cons];simp only[Sem.run_bind,cL hT y,U,S,Result.andThen_ok,Sem.run_pure];exact R
  ·cases h
theorem k9(hT:cW P T)(em:Bool):∀(d:Nat) {t:TypeId} {x:AV} {X:Value},lU T d t x=true→ae5 μ n x X→
  ∀(k:Nat) (w:World),(Instr.checkKey em (d+k) t X).run P w=.ok () w
 |0,_,_,_,h,_,_,_=>by simp[lU] at h
 |d+1,t,x,X,h,hx,k,w=>by
  rw[lU] at h;rw[show d+1+k=d+k+1 by omega];cases ht:T t with
  |none=>rw[ht] at h;cases h
  |some i=>
   rw[ht] at h;simp only at h;have Z:=(hT t i ht).desc;split at h
   next V=>rw[V] at Z;rw[hx.bool,Instr.checkKey];simp[run_underlying Z]
   next V=>rw[V] at Z;rw[hx.int,Instr.checkKey];simp[run_underlying Z]
   next V=>rw[V] at Z;rw[hx.str,Instr.checkKey];simp[run_underlying Z]
   ·rename_i M Q V
    rw[V] at Z;obtain⟨O,rfl,U⟩:=hx.agg;have:=Ch (em:=em) hT (fun S R w=>k9 hT em d S R k w) U w h;rw[Instr.checkKey];simp only[Sem.run_bind,run_underlying Z,Result.andThen_ok];rw[←Array.forIn_toList];rw[this];rfl
   ·rename_i m e Q V
    rw[V] at Z;split at h
    ·rename_i j N
     obtain⟨O,rfl,U⟩:=hx.agg;have:=Cg (em:=em) hT N (fun S R w=>k9 hT em d S R k w) U w h;rw[Instr.checkKey];simp only[Sem.run_bind,run_underlying Z,Result.andThen_ok];simp only[Std.Legacy.Range.forIn_eq_forIn_range',Std.Legacy.Range.size,Nat.sub_zero,Nat.add_sub_cancel,Nat.div_one];rw[this];rfl
    ·cases h
   ·cases h
def Ox(μ:Nat→Place)(n:Nat):Option (Nat×AV)→Option (Nat×Value)→Prop
 |some (a,v),some (b,V)=>a=b∧ae5 μ n v V
 |none,none=>True
 |_,_=>False
theorem pW(hT:cW P T){H:TypeId}{k:AV}{K:Value}(hk:ae5 μ n k K)(w:World):∀{es:List (AV×AV)} {y:List MapEntry} {i:Nat} {r:Option (Nat×AV)},
  y.length=es.length→(∀(j:Nat) e,es[j]? =some e→∃E,y[j]? =some E∧Pm μ n e E)→jz T H k es i=some r→
  ∃R,(Instr.findAsking H K y i).run P w=.ok R w∧Ox μ n r R
 | [],y,i,r,hl,_,h=>by have:y=[]:=List.eq_nil_of_length_eq_zero hl;subst this;simp only[jz,Option.some.injEq] at h;subst h;exact⟨none,by simp[Instr.findAsking],trivial⟩
 |e::es,[],i,r,hl,_,h=>by simp at hl
 |e::es,E::y,i,r,hl,hr,h=>by
  rw[jz] at h;obtain⟨X,S,V⟩:=hr 0 e rfl;simp at S;subst S;have Q:∀(j:Nat) Z,es[j]? =some Z →∃X,y[j]? =some X ∧Pm μ n Z X :=fun j Z O=>by simpa using hr (j+1) Z (by simpa using O)
  split at h
  ·rename_i U
   cases h;have:=iG hT 20 U hk V.1 9980 w;refine⟨some (i,E.val),?_,rfl,V.2⟩;simp only[Instr.findAsking,Sem.run_bind];rw[show Op.equal H K E.key=Op.equalIn (20+9980) H K E.key from rfl,this];simp
  ·rename_i U
   have:=iG hT 20 U hk V.1 9980 w;obtain⟨R,N,M⟩:=pW hT hk w (by simpa using hl) Q h;refine⟨R,?_,M⟩;simp only[Instr.findAsking,Sem.run_bind];rw[show Op.equal H K E.key=Op.equalIn (20+9980) H K E.key from rfl,this];simpa using N
  ·cases h
theorem tt(hT:cW P T){y:TypeId}{kd:TypeDesc}(I:P.underlying y=some kd){k:AV}{K:Value}(hk:ae5 μ n k K)(w:World):
  ∀{es:List (AV×AV)}{H:List MapEntry}{i:Nat}{r:Option (Nat×AV)}{R:Option (Nat×Value)},
  H.length=es.length→(∀(j:Nat) e,es[j]? =some e→∃E,H[j]? =some E∧Pm μ n e E)→jz T y k es i=some r→Instr.findNow kd K H i=some R→
  (Instr.findAsking y K H i).run P w=.ok R w
 | [],H,i,r,R,hl,_,_,h=>by have:H=[]:=List.eq_nil_of_length_eq_zero hl;subst this;simp only[Instr.findNow,Option.some.injEq] at h;subst h;simp[Instr.findAsking]
 |e::es,[],i,r,R,hl,_,_,h=>by simp at hl
 |e::es,E::H,i,r,R,hl,hr,hf,h=>by
  obtain⟨N,G,F⟩:=hr 0 e rfl;simp at G;subst G;have C:∀(j:Nat) O,es[j]? =some O →∃N,H[j]? =some N ∧Pm μ n O N :=fun j O Z=>by simpa using hr (j+1) O (by simpa using Z)
  rw[jz] at hf;have V:∀b,jy T 20 y k e.1=some b→∀U,Instr.sameNow kd K E.key=some U →U =b:=by
   intro b M U X;have Z:=iG hT 20 M hk F.1 9980 w;unfold Instr.sameNow at X;split at X
   ·rename_i B a u c D S
    split at X
    ·rename_i L
     cases X;rw[S] at Z;subst L;rw[run_equalIn_int w _ y _ _ _ _ I] at Z;cases Z;rfl
    ·cases X
   ·rename_i a c D S
    cases X;rw[S] at Z;rw[run_equalIn_string w _ y _ _ I] at Z;cases Z;rw[beq_toListBytes]
   ·rename_i a c D S
    cases X;rw[S] at Z;rw[run_equalIn_bool' w _ y _ _ I] at Z;cases Z;rfl
   ·cases X
  rw[Instr.findNow] at h;have step:∀b,jy T 20 y k e.1=some b→(Instr.findAsking y K (E::H) i).run P w=if b then .ok (some (i,E.val)) w else (Instr.findAsking y K H (i+1)).run P w:=by intro b M;have Z:=iG hT 20 M hk F.1 9980 w;simp only[Instr.findAsking,Sem.run_bind];rw[show Op.equal y K E.key=Op.equalIn (20+9980) y K E.key from rfl,Z];cases b<;>simp
  split at hf
  ·rename_i Q
   rw[step _ Q];cases hs:Instr.sameNow kd K E.key with
   |none=>rw[hs] at h;cases h
   |some U =>
    have:=V _ Q _ hs;subst this;rw[hs] at h;simp only[Option.some.injEq] at h;subst h;simp
  ·rename_i Q
   rw[step _ Q];cases hs:Instr.sameNow kd K E.key with
   |none=>rw[hs] at h;cases h
   |some U =>
    have:=V _ Q _ hs;subst this;rw[hs] at h;simp only at h;simpa using tt hT I hk w (by simpa using hl) C hf h
  ·cases hf
theorem gN(hT:cW P T){y:TypeId}{I:TyI}(J:T y=some I)(hk:ae5 μ n k K){es:List (AV×AV)}{H:List MapEntry}{r:Option (Nat×AV)}(W:H.length=es.length)(hr:∀(j:Nat) e,es[j]? =some e→∃E,H[j]? =some E∧Pm μ n e E)(h:jz T y k es 0=some r)(w:World):
  ∃R,(Instr.findKey y K H).run P w=.ok R w∧Ox μ n r R:=by
 have Z:=(hT y I J).desc;obtain⟨R,X,V⟩:=pW hT hk w W hr h;refine⟨R,?_,V⟩;simp only[Instr.findKey,Sem.run_bind,run_underlying Z,Result.andThen_ok];cases hn:Instr.findNow I.desc K H 0 with
 |none=>simpa using X
 |some R' =>
  have:=tt hT Z hk w W hr h hn;rw[this] at X;cases X;simp
theorem Gj(hT:cW P T)(hH:afj base μ mem w){t:TypeId}{m k v:AV}{M:Value}{ok:Bool}(y:ae5 μ mem.length m M)(hk:ae5 μ mem.length k K)(h:kS T mem t m k ok=some v):Val P (Instr.lookup t M K ok) w μ mem.length v:=by
 unfold kS at h;cases ht:T t with
 |none=>rw[ht] at h;cases h
 |some i=>
  rw[ht] at h;simp only at h;have S:=(hT t i ht).desc;split at h
  ·rename_i kt et C'
   rw[C'] at S;split at h
   ·rename_i j es hj Z
    split at h
    ·rename_i G
     have B:∃X:Array MapEntry,(M=.map none∧X= #[]∨∃r c,M=.map (some r)∧(getObj r).run P w=.ok (.map X c) w)∧X.toList.length=es.length∧
       ∀(j:Nat) e,es[j]? =some e→∃E,X.toList[j]? =some E∧Pm μ mem.length e E:=by
      unfold jI at Z;split at Z
      ·cases Z
       simp only[ae5] at y;subst y;exact⟨#[],.inl ⟨rfl,rfl⟩,rfl,by simp⟩
      ·rename_i b
       split at Z
       ·rename_i Zd u
        cases Z;simp only[ae5] at y;obtain⟨_,rfl⟩:=y;have Q:=hH.slot b _ u;simp only[afl] at Q;obtain⟨o,Y,W,_,J,h3⟩:=Q;refine⟨o,.inr ⟨_,Y,rfl,by simp[getObj,Sem.run,W]⟩,by simpa using J,fun j e I=>?_⟩;obtain⟨E,H,hr⟩:=h3 j e I;exact⟨E,by simpa using H,hr⟩
       ·rename_i Zd u
        cases Z;simp only[ae5] at y;obtain⟨_,rfl⟩:=y;have Q:=hH.slot b _ u;simp only[afl] at Q;obtain⟨o,Y,W,_,J,h3⟩:=Q;refine⟨o,.inr ⟨_,Y,rfl,by simp[getObj,Sem.run,W]⟩,by simpa using J,fun j e I=>?_⟩;obtain⟨E,H,hr⟩:=h3 j e I;exact⟨E,by simpa using H,hr⟩
       ·cases Z
      ·cases Z
     obtain⟨X,U,e2,e3⟩:=B;have F:=k9 (P:=P) (n:=mem.length) hT X.isEmpty 20 G hk 9980 w;have hkt:∃D,T kt=some D:=by
      rw[lU] at G;cases hx:T kt with
      |none=>rw[hx] at G;cases G
      |some D=>exact⟨D,rfl⟩
     obtain⟨D,O⟩:=hkt;split at h
     ·rename_i q v' hf
      cases h;obtain⟨R,N,C⟩:=gN hT O hk e2 e3 hf w;cases R with
      |none=>exact C.elim
      |some x=>
       obtain⟨_,V⟩:=x;have L:=C.2;refine⟨if ok then .tuple #[V,.bool true] else V,?_,?_⟩
       ·rcases U with⟨rfl,rfl⟩ | ⟨r,c,rfl,U⟩
        ·simp only[Instr.lookup,Sem.run_bind,run_underlying S,Result.andThen_ok,Sem.run_pure]
         rw[show(10000:Nat)=20+9980 from rfl,F];simp only[Result.andThen_ok,N,Sem.run_pure,Sem.run_bind]
        ·simp only[Instr.lookup,Sem.run_bind,run_underlying S,Result.andThen_ok,U,Sem.run_pure]
         rw[show(10000:Nat)=20+9980 from rfl,F];simp only[Result.andThen_ok,N,Sem.run_pure,Sem.run_bind]
       ·cases ok
        ·exact L
        ·simp only[if_true,ae5];exact⟨[V,.bool true],rfl,bK.2 ⟨L,bK.2 ⟨by simp[ae5],by simp[ae7]⟩⟩⟩
     ·rename_i hf
      cases h;obtain⟨R,N,C⟩:=gN hT O hk e2 e3 hf w;cases R with
      |some x=>exact C.elim
      |none=>
       have L:=xF μ mem.length j.zero;refine⟨if ok then .tuple #[j.zero,.bool false] else j.zero,?_,?_⟩
       ·rcases U with⟨rfl,rfl⟩ | ⟨r,c,rfl,U⟩
        ·simp only[Instr.lookup,Sem.run_bind,run_underlying S,Result.andThen_ok,Sem.run_pure]
         rw[show(10000:Nat)=20+9980 from rfl,F];simp only[Result.andThen_ok,N,Sem.run_pure,Sem.run_bind,eC hT hj]
        ·simp only[Instr.lookup,Sem.run_bind,run_underlying S,Result.andThen_ok,U,Sem.run_pure]
         rw[show(10000:Nat)=20+9980 from rfl,F];simp only[Result.andThen_ok,N,Sem.run_pure,Sem.run_bind,eC hT hj]
       ·cases ok
        ·exact L
        ·simp only[if_true,ae5];exact⟨[j.zero,.bool false],rfl,bK.2 ⟨L,bK.2 ⟨by simp[ae5],by simp[ae7]⟩⟩⟩
     ·cases h
    ·cases h
   ·cases h
  ·cases h
theorem rZ{H :Value}{e:AV}{b:Bool}{I:TypeId}(hs:k.afV=true)(hk:ae5 μ n k K)(y:ae5 μ n e H)(h:jy T 20 I k e=some b)(J:b=true):
  Instr.sameBits 10000 H K=true:=by
 subst J;rw[jy] at h;cases ht:T I with
 |none=>rw[ht] at h;cases h
 |some i=>
  rw[ht] at h;simp only at h;split at h
  ·rw[hk.bool,y.bool]
   simp only[Option.some.injEq] at h;simp only[Instr.sameBits];rw[beq_iff_eq] at h ⊢;exact h.symm
  ·split at h
   ·rename_i Z
    subst Z;simp only[Option.some.injEq,decide_eq_true_eq] at h;rw[hk.int,y.int,h];simp[Instr.sameBits]
   ·cases h
  ·rw[hk.str,y.str]
   simp only[Option.some.injEq,beq_iff_eq] at h;rw[h];simp only[Instr.sameBits];rw[beq_toListBytes];simp
  ·cases hs
  ·cases hs
  ·cases h
theorem nj{y:TypeId}{k:AV}:∀{es:List (AV×AV)} {i q:Nat} {v:AV},jz T y k es i=some (some (q,v))→∃j e,q=i+j∧es[j]? =some e∧jy T 20 y k e.1=some true
 | [],i,q,v,h=>by simp[jz] at h
 |e::es,i,q,v,h=>by
  rw[jz] at h;split at h
  next Z=>cases h;exact⟨0,e,rfl,rfl,Z⟩
  ·obtain⟨j,X,U,V,h3⟩:=nj h
   exact⟨j+1,X,by omega,by simpa using V,h3⟩
  ·cases h
theorem sR{r:Nat}{o o' :Obj}(h:w.heap[r]? =some o)(y:∀c e f,o≠ .cells c e f):(setObj r o').run P w=.ok () { w with heap:=w.heap.setIfInBounds r o' }:=by simp only[setObj,Sem.run,h];try (split<;>first | (rename_i Z;cases Z;exact absurd rfl (y _ _ _)) | rfl | simp_all)
theorem Ac(hT:cW P T)(hH:afj base μ mem w){t:TypeId}{m k v:AV}{M K V:Value}{mem' :Mem}(hm:ae5 μ mem.length m M)(hk:ae5 μ mem.length k K)(hv:ae5 μ mem.length v V)(h:eZ T mem t m k v=some mem'):∃w',(Instr.mapUpdate t M K V).run P w=.ok () w' ∧afj base μ mem' w' ∧Step mem.length μ mem w μ mem' w' :=by
 unfold eZ at h;cases ht:T t with
 |none=>rw[ht] at h;cases h
 |some i=>
  rw[ht] at h;simp only at h;have H:=(hT t i ht).desc;split at h
  ·rename_i kt et b C'
   rw[C'] at H;split at h
   ·rename_i es hb
    split at h
    ·rename_i u
     simp only[ae5] at hm;obtain⟨Zc,rfl⟩:=hm;have hs:=hH.slot b _ hb;simp only[afl] at hs;obtain⟨G,F,y,S,o,h3⟩:=hs;have hg:(getObj (μ b).blk).run P w=.ok (.map G F) w:=by simp[getObj,Sem.run,y]
     have ZB:=k9 (P:=P) (n:=mem.length) hT false 20 u hk 9980 w;have hkt:∃Y,T kt=some Y:=by
      rw[lU] at u;cases hx:T kt with
      |none=>rw[hx] at u;cases u
      |some Y=>exact⟨Y,rfl⟩
     obtain⟨Y,D⟩:=hkt;have e2:G.toList.length=es.length:=by simpa using o
     have e3:∀(j:Nat) e,es[j]? =some e→∃E,G.toList[j]? =some E∧Pm μ mem.length e E:=fun j e W=>by obtain⟨E,J,hr⟩:=h3 j e W;exact⟨E,by simpa using J,hr⟩
     have B':(μ b).blk<w.heap.size:=(Array.getElem?_eq_some_iff.1 y).1;have C:∀(U :Array MapEntry) (Q :Nat) (B :List (AV×AV)),El U Q →U.size=B.length→(∀(j:Nat) e,B[j]? =some e→∃E,U[j]? =some E∧Pm μ mem.length e E)→
       (setObj (μ b).blk (.map U Q)).run P w=.ok () { w with heap:=w.heap.setIfInBounds (μ b).blk (.map U Q) }∧
       afj base μ (mem.set b (.map B)) { w with heap:=w.heap.setIfInBounds (μ b).blk (.map U Q) }∧Step mem.length μ mem w μ (mem.set b (.map B)) { w with heap:=w.heap.setIfInBounds (μ b).blk (.map U Q) }:=by
      intro U Q B g0 g1 g2;refine⟨sR y (by simp),hH.write hb (Lx hb) (fun _=>⟨_,List.getElem?_set_self (gL hb),rfl⟩) rfl rfl rfl rfl (by simp) (fun q hq=>?_) ?_⟩
      ·simp[Array.getElem?_setIfInBounds_ne (Ne.symm hq)]
      ·simp only[afl]
       exact⟨U,Q,by simp[B'],⟨S.1,g0⟩,g1,g2⟩
     split at h
     ·rename_i q v' I
      split at h
      ·rename_i hsc
       cases h;obtain⟨R,g1,g2⟩:=gN hT D hk e2 e3 I w;cases R with
       |none=>exact g2.elim
       |some x=>
        obtain⟨q',V'⟩:=x;obtain⟨rfl,_⟩:=g2;obtain⟨j,e,hq,W,P'⟩:=nj I;have hq' :q=j:=by omega
        subst hq';obtain⟨E,J,hr⟩:=h3 q e W;have hsb:=rZ (μ:=μ) (n:=mem.length) hsc hk hr.1 P' rfl;obtain⟨f1,f2,f3⟩:=C (G.modify q fun e=>{ e with key:=K,val:=V }) F (es.set q (k,v)) ⟨by simpa using S.2.1,fun j O Z =>by
         rw[Array.getElem?_modify] at Z;split at Z
         ·simp only[Option.map_eq_some_iff] at Z
          obtain⟨E0,k1,rfl⟩:=Z;exact S.2.2 j E0 k1
         ·exact S.2.2 j O Z⟩ (by simpa using o) (fun j e' X =>by
         rw[List.getElem?_set] at X;by_cases N:q=j
         ·subst N
          have T' :q<es.length:=gL W;simp only[if_true,T',Option.some.injEq] at X;subst X;exact⟨{ E with key:=K,val:=V },by simp[Array.getElem?_modify,J],hk,hv⟩
         ·rw[if_neg N] at X
          obtain⟨O,Z,L⟩:=h3 j e' X;exact⟨O,by simp[Array.getElem?_modify,N,Z],L⟩)
        refine⟨_,?_,f2,f3⟩;simp only[Instr.mapUpdate,Sem.run_bind,run_underlying H,Result.andThen_ok,hg];rw[show(10000:Nat)=20+9980 from rfl,ZB];simp only[Result.andThen_ok,g1,Sem.run_bind];have aah:(Instr.keyThatStays (((G[q]?).map (·.key)).getD K) K).run P w=.ok K w:=by unfold Instr.keyThatStays;rw[J];simp only[Option.map_some,Option.getD_some,hsb,if_true];rfl
        rw[aah];simpa using f1
      ·cases h
     ·rename_i I
      cases h;obtain⟨R,g1,g2⟩:=gN hT D hk e2 e3 I w;cases R with
      |some x=>exact g2.elim
      |none=>
       obtain⟨f1,f2,f3⟩:=C (G.push { key:=K,val:=V,born:=F }) (F+1) (es++[(k,v)]) ⟨by simp[S.2.1],fun j O Z =>by
        rw[Array.getElem?_push] at Z;split at Z
        next hj=>cases Z;rw[hj];exact S.2.1
        ·exact S.2.2 j O Z⟩ (by simp[o]) (fun j e' X =>by
        by_cases hj:j<es.length
        ·rw[List.getElem?_append_left hj] at X
         obtain⟨O,Z,L⟩:=h3 j e' X;exact⟨O,by rw[Array.getElem?_push,if_neg (by omega)];exact Z,L⟩
        ·have Z5:j=es.length:=by have:=(gL X);simp at this;omega
         subst Z5;simp at X;subst X;exact⟨{ key:=K,val:=V,born:=F },by rw[Array.getElem?_push,if_pos o.symm],hk,hv⟩)
       refine⟨_,?_,f2,f3⟩;simp only[Instr.mapUpdate,Sem.run_bind,run_underlying H,Result.andThen_ok,hg];rw[show(10000:Nat)=20+9980 from rfl,ZB];simp only[Result.andThen_ok,g1];exact f1
     ·cases h
    ·cases h
   ·cases h
  ·cases h
theorem GK(y:afj base μ mem w){t:TypeId}:aga P (Instr.makeMap t none) base μ mem w (.map mem.length) (mem++[.map []]):=by
 obtain⟨Z,X⟩:=y.push (.map #[] 0) (.map []) ⟨w.heap.size,0,0,0⟩ rfl (by simp only[afl];exact⟨#[],0,heap_alloc_new w _,⟨y.afe,rfl,by simp⟩,rfl,by simp⟩)
 refine⟨.map (some w.heap.size),_,_,?_,?_,Z,X⟩
 ·simp only[Instr.makeMap,Sem.run_bind,Sem.run_pure,run_newObj,Result.andThen_ok]
  rfl
 ·simp[ae5,ez]
end
end Go.Eng
namespace Go.Eng
def iO:List AV→Option (List UInt8)
 | []=>some []
 |.int .u8 n::l=>if 0≤n∧n<256 then match iO l with
  |some r=>some (UInt8.ofNat n.toNat::r)
  |none=>none
  else none
 |_::_=>none
def ss(mem:Mem)(x:AV):Option AV:=match x with
 |.slice b o n none=>match mem[b]? with
  |some (.cells _ es cs)=>if 0<n∧0<es%1000∧o+n*(es%1000)≤cs.length then some (.ptr b o) else none
  |_=>none
 |_=>none
def xL(T:TypeId→Option TyI)(mem:Mem)(pt:TypeId)(x l:AV):Option (AV×Mem):=match T pt,x,l with
 |some i,.ptr b 0,.int .i64 n=>match i.desc with
  |.pointer e=>match T e,mem[b]? with
   |some j,some (.cells true es cs)=>
    if j.size=1∧es=1+1000*(e+1)∧0<n∧n≤cs.length∧n≤9223372036854775807 then match iO (cs.take n.toNat) with
     |some s=>some (.str s,mem.set b .qK)
     |none=>none
    else none
   |_,_=>none
  |_=>none
 |_,_,_=>none
theorem WT(a es:Nat)(h:es=1+1000*(a+1)):1000≤es∧es / 1000=a+1∧es%1000=1:=by omega
theorem Ex:∀{l:List AV} {s:List UInt8},iO l=some s→s.length=l.length∧∀(j:Nat) x,s[j]? =some x→l[j]? =some (.int .u8 (x.toNat:Int))
 | [],s,h=>by cases h;exact⟨rfl,fun j x Z=>by simp at Z⟩
 |v::l,s,h=>by
  cases v<;>try (unfold iO at h;cases h;done)
  rename_i k n;cases k<;>try (unfold iO at h;cases h;done)
  unfold iO at h;split at h
  ·rename_i S
   split at h
   ·rename_i r X
    cases h;obtain⟨V,U⟩:=Ex X;refine⟨by simp[V],fun j x Z=>?_⟩;cases j with
    |zero=>
     simp at Z;subst Z;simp only[List.getElem?_cons_zero,Option.some.injEq,AV.int.injEq,true_and];rw[UInt8.toNat_ofNat'];have:n.toNat%256=n.toNat:=Nat.mod_eq_of_lt (by omega);show n=((n.toNat%256:Nat):Int)
     rw[this];omega
    |succ j=>simpa using U j x (by simpa using Z)
   ·cases h
  ·cases h
theorem NS(w:World)(a:Addr)(n:Nat):(w.freeze a n).heap.size=w.heap.size:=by unfold World.freeze;split<;>simp
theorem KY(w:World)(a:Addr)(n k:Nat)(h:k≠a.block):(w.freeze a n).heap[k]? =w.heap[k]? :=by
 unfold World.freeze;split
 ·rfl
 ·simp only[Array.getElem?_modify,if_neg (Ne.symm h)]
section
variable {P:Program}{T:TypeId→Option TyI}{μ:Nat→Place}{mem:Mem}{base:Nat}{w:World}
theorem Ad(y:afj base μ mem w){x v:AV}{X:Value}(ts:Array TypeId)(ty:TypeId)(H:ae5 μ mem.length x X)(h:ss mem x=some v):Val P (Builtin.unsafeSliceData_ ts ty #[X]) w μ mem.length v:=by
 unfold ss at h;split at h
 ·rename_i b o n
  split at h
  ·rename_i own es N V
   split at h
   ·rename_i U
    cases h;obtain⟨S,rfl⟩:=H.slice;have Z:=y.slot b _ V;simp only[afl] at Z;obtain⟨R,el,M,L,Q,K,_,_⟩:=Z;have O:jV (μ b) o none≠0:=by
     simp only[jV,Q.1];have:n≤((μ b).tot-o) / (es%1000):=by rw[Nat.le_div_iff_mul_le U.2.1];omega
     omega
    exact⟨_,Lib.run_unsafeSliceData_row _ _ _ _ _ _ O,by simp[ae5,S]⟩
   ·cases h
  ·cases h
 ·cases h
theorem Gn(hT:cW P T)(H:afj base μ mem w){pt I ty:TypeId}{x l v:AV}{X L:Value}{y :Mem}(J:ae5 μ mem.length x X)(W:ae5 μ mem.length l L)(h:xL T mem pt x l=some (v,y)):
  aga P (Builtin.unsafeString_ #[pt,I] ty #[X,L]) base μ mem w v y :=by
 unfold xL at h;split at h
 ·rename_i i b n m
  split at h
  ·rename_i e Y
   split at h
   ·rename_i j es cs hj R
    split at h
    ·rename_i hc
     obtain⟨c1,c2,c3,c4,c5⟩:=hc;split at h
     ·rename_i s hs
      cases h;obtain⟨g1,g2⟩:=Ex hs;have hX:=J.ptr;have hL:=W.int;have Z:=(hT pt i m).desc;rw[Y] at Z;obtain⟨f,hf,Q,_,_⟩:=(hT e j hj).info;have O:P.cellsOf e=1:=by unfold Program.cellsOf;rw[hf];simp[Q,c1]
      have F:=H.slot b _ R;simp only[afl] at F;obtain⟨U,el,fr,D,s2,s3,s4,s5⟩:=F;obtain⟨C,rfl,s8,s9⟩:=s5 trivial;have N:el=e:=by obtain⟨q1,q2,_⟩:=WT e es c2;have:=s2.2 q1;rw[q2] at this;exact Nat.succ.inj this
      subst N;have M:s.length=n.toNat:=by rw[g1,List.length_take];omega
      have hn:n=(s.length:Int):=by omega
      rw[hX.2,hL,hn,C];have K:w.shape? (μ b).blk=some (el,U.size):=by simp[World.shape?,D]
      have Yz:=Lib.run_unsafeString_row (P:=P) w pt I ty el Z O (μ b).blk U.size K s (by intro e;rw[e] at M;simp at M;omega) (by rw[s8];omega) (by omega) (fun q u B=>by
       have o:=g2 q u B;have G:q<n.toNat:=by rw[←M];exact(gL B)
       rw[List.getElem?_take_of_lt G] at o;obtain⟨V,hV,hr⟩:=s4 q _ o;rw[hr.int] at hV;rw[C,Nat.zero_add] at hV;simp only[Addr.add_lit,World.cell?,D,Nat.zero_add];exact hV)
      have G':¬s.length=0:=by omega
      have S:(w.freeze ⟨(μ b).blk,0,none⟩ s.length).os=w.os∧(w.freeze ⟨(μ b).blk,0,none⟩ s.length).tape=w.tape∧(w.freeze ⟨(μ b).blk,0,none⟩ s.length).output=w.output∧(w.freeze ⟨(μ b).blk,0,none⟩ s.length).drawn=w.drawn:=by unfold World.freeze;rw[if_neg G'];exact⟨rfl,rfl,rfl,rfl⟩
      obtain⟨k1,k2⟩:=H.write (w' :=w.freeze ⟨(μ b).blk,0,none⟩ s.length) (s' :=.qK) R (jC R) (fun h=>absurd rfl h) S.2.2.2 S.1 S.2.1 S.2.2.1 (NS ..) (fun k hk=>KY _ _ _ _ hk) trivial;refine⟨_,_,μ,Yz,by simp[ae5],k1,?_⟩;exact k2
     ·cases h
    ·cases h
   ·cases h
  ·cases h
 ·cases h
end
section
variable {P:Program}{T:TypeId→Option TyI}{μ:Nat→Place}{mem:Mem}{base:Nat}{w:World}
def mW(T:TypeId→Option TyI)(mem:Mem)(s d:TypeId):AV→Option (AV×Mem)
 |.str l=>match T s,T d with
  |some i,some j=>match i.desc,j.desc with
   |.string,.slice e=>match T e with
    |some k=>match k.desc with
     |.int .u8=>some (.slice mem.length 0 l.length none,mem++[.cells false 1 (l.map fun c=>.int .u8 c.toNat)])
     |_=>none
    |none=>none
   |_,_=>none
  |_,_=>none
 |_=>none
theorem KX(w:World)(y:Array Value)(e:TypeId)(n:Nat):
  (w.alloc (.cells y e)).freeze ⟨w.heap.size,n,none⟩ 1=w.alloc (.cells y e (n,n+1)):=by
 unfold World.freeze;rw[if_neg (by decide)];simp only[World.alloc];congr 1;apply Array.ext
 ·simp
 ·intro k Z V
  simp only[Array.getElem_modify,Array.getElem_push];by_cases X:k<w.heap.size
  ·simp[X];omega
  ·simp at Z
   have:k=w.heap.size:=by omega
   subst this;simp
theorem zX(hT:cW P T)(H:afj base μ mem w){s d:TypeId}{x v:AV}{X:Value}{y :Mem}(I:ae5 μ mem.length x X)(h:mW T mem s d x=some (v,y)):
  aga P (convert s d X) base μ mem w v y :=by
 unfold mW at h;split at h
 ·rename_i l
  split at h
  ·rename_i i j C B
   have L:=(hT s i C).desc;have K:=(hT d j B).desc;split at h
   ·rename_i e U S
    rw[U] at L;rw[S] at K;split at h
    ·rename_i k o
     have h3:=(hT e k o).desc;split at h
     ·rename_i R
      rw[R] at h3;cases h;rw[I.str];let c:=grownCap w l.length 0 e
      have m:l.length≤c:=grownCap_ge w l.length 0 e;let Cs:Array Value:=(l.map fun c=>Value.int .u8 c.toNat).toArray++Array.replicate (c-l.length) (.int .u8 0)
      have Z:Cs.size=c:=by simp[Cs];omega
      have Q:afj base μ mem w.drew:=H.af9 rfl;obtain⟨Y,W⟩:=Q.push (.cells Cs e (Cs.size,Cs.size+1)) (.cells false 1 (l.map fun c=>.int .u8 c.toNat)) ⟨w.heap.size,0,Cs.size,1⟩ rfl (by simp only[afl];refine⟨Cs,e,(Cs.size,Cs.size+1),heap_alloc_new w.drew _,ag9.small rfl (by decide),by simp[Z];exact m,fun q u G=>?_,fun h=>by cases h⟩;rw[List.getElem?_map,Option.map_eq_some_iff] at G;obtain⟨a,F,rfl⟩:=G;have J:=gL F;refine⟨.int .u8 a.toNat,?_,by simp[ae5]⟩;simp only[Nat.zero_add,Cs];rw[Array.getElem?_append_left (by simpa using J)];simp[F])
      refine⟨.slice (some ⟨w.heap.size,0,none⟩) l.length c,w.drew.alloc (.cells Cs e (Cs.size,Cs.size+1)),_,?_,?_,Y,?_⟩
      ·have hf:(Question.appendCap l.length 0 e).forced=false:=by simp[Question.forced]
       have IR:(ByteArray.mk l.toArray).size=l.length:=su ..;have O :(ByteArray.mk l.toArray).data.map (fun b=>Value.int .u8 b.toNat)++Array.replicate (c-l.length) (.int .u8 0)=Cs:=by simp[Cs]
       have N:(w.drew.alloc (.cells Cs e)).shape? w.heap.size=some (e,Cs.size):=by unfold World.shape?;rw[show(w.drew.alloc (.cells Cs e)).heap[w.heap.size]? =_ from heap_alloc_new w.drew _]
       have V:=KX w.drew Cs e Cs.size;have D:w.drew.heap.size=w.heap.size:=rfl;rw[D] at V;simp only[convert,Sem.run_bind,run_underlying L,run_underlying K,run_underlying h3,Result.andThen_ok,Conv.stringToBytes,choose,Sem.run,hf,Bool.false_eq_true,if_false,IR];change ((newRow e ((ByteArray.mk l.toArray).data.map (fun b=>Value.int .u8 b.toNat)++Array.replicate (c-l.length) (.int .u8 0))).run P w.drew).andThen _=_;rw[O];simp only[newRow,run_newObj,Result.andThen_ok,Sem.run_bind,markStringish,shape,freeze,Sem.run];have M:({ heap:=w.drew.heap.push (Obj.cells Cs e),tape:=w.drew.tape,drawn:=w.drew.drawn,os:=w.drew.os,output:=w.drew.output }:World)=w.drew.alloc (.cells Cs e):=rfl;simp only[Sem.run_pure,Result.andThen_ok,M,D,N,Sem.run,V];rfl
      ·simp only[ae5,ez,jV,List.length_append,List.length_singleton]
       refine⟨by omega,?_⟩;simp[Z]
      ·exact(Step.drew (m0:=mem.length) (Nat.le_refl _)).trans W
     ·cases h
    ·cases h
   ·cases h
  ·cases h
 ·cases h
end
section
variable {P:Program}{T:TypeId→Option TyI}{μ:Nat→Place}{mem:Mem}{base:Nat}{w:World}
def OU:Option TyI→Bool
 |some i=>match i.desc with
  |.int _=>true
  |_=>false
 |none=>false
def Xl(T:TypeId→Option TyI)(t:TypeId)(x:AV):Option AV:=
 match T t with
 |none=>none
 |some i=>match i.desc,x with
  |.slice _,.qF=>some (.int .i64 0)
  |_,_=>none
theorem Qw(hT:cW P T){n:Nat}{t ty:TypeId}{x v:AV}{X:Value}(y:ae5 μ n x X)(h:Xl T t x=some v):Val P (Builtin.cap_ #[t] ty #[X]) w μ n v:=by
 unfold Xl at h;cases ht:T t with
 |none=>rw[ht] at h;cases h
 |some i=>
  rw[ht] at h;simp only at h;have Z:=(hT t i ht).desc;split at h
  ·rename_i e V
   rw[V] at Z;cases h;simp only[ae5] at y;subst y;refine .int ?_;simp[Builtin.cap_,run_underlying Z,goInt]
  ·cases h
def vP(T:TypeId→Option TyI)(mem:Mem)(t:TypeId)(s x:AV):Option (AV×Mem):=
 match T t with
 |none=>none
 |some i=>
  match i.desc,s,x with
  |.slice e,.qF,.int _ n=>
   match T e with
   |some j=>if 0<n∧n*j.bytes≤140737488355328∧n≤140737488355328∧0<j.size∧j.size<1000 then some (.slice mem.length 0 n.toNat none,mem++[.cells true (yk j e) (fD (jc j.zero).cells n.toNat)]) else none
   |none=>none
  |_,_,_=>none
theorem wW{n:Nat}{z:List AV}{Z:Array Value}(hz:ae7 μ n z Z.toList)(k:Nat):ae7 μ n (fD z k) (Builtin.zeroCells Z k).toList:=by
 have X:Z.size=z.length:=by rw[←Array.length_toList,hz.length]
 refine ae7.af8 (by rw[Array.length_toList,size_zeroCells,gS,X]) fun j v U=>?_
 obtain⟨V,S,R,h3⟩:=sS hz k j v U;refine⟨V,?_,R⟩;rw[Array.getElem?_toList,←S];unfold Builtin.zeroCells;have:j<k*Z.size:=h3;simp[this]
theorem KA(hT:cW P T){t t2 ty e:TypeId}{j:TyI}(hd:P.underlying t=some (.slice e))(H:T e=some j){kd:IntKind}(y:P.underlying t2=some (.int kd))(m:Nat)(k:IntKind)(w:World)(I:0<m)(J:m*j.bytes≤140737488355328)(W:m≤140737488355328)(hs:0<j.size):
  ∃X,m≤X∧(Builtin.append_ #[t,t2] ty #[.slice none 0 0,.int k m]).run P w=
   .ok (.slice (some ⟨w.heap.size,0,none⟩) m X) (w.drew.alloc (.cells (#[]++(Builtin.zeroCells j.zero.cells m++Builtin.zeroCells j.zero.cells (X-m))) e)):=by
 obtain⟨f,M,V,Z,U⟩:=(hT e j H).info;have S:¬(9223372036854775807<(m:Int)):=by omega
 have w1:IntKind.i64.wrap (m:Int)=m:=ae;have L:¬((m:Int)<0):=by omega
 have R:¬(281474976710656<(m:Int)*(f.bytes:Int)):=by
  rw[Z];have:(m:Int)*(j.bytes:Int)=((m*j.bytes:Nat):Int):=by simp
  omega
 have Q:¬(281474976710656<Builtin.nextslicecap m 0*f.bytes):=by have:=growslice_fits (need:=m) (old:=0) (bytes:=f.bytes) (by omega) (by rw[Z];exact J);omega
 have O:¬(m=0):=by omega
 have N:∀n w,(askRoom n).run P w=.ok () w:=by intro n w;unfold askRoom;split<;>simp[mark,Sem.run]
 refine⟨grownCap w m 0 e,grownCap_ge w m 0 e,?_⟩;simp[Builtin.append_,run_underlying hd,run_underlying y,sizeOf,typeInfo,zeroValue,M,V,U,asInt,asIntOf,w1,L,S,Q,R,O,Question.forced,Builtin.firstCells,newRow,grownCap,N];intro h;exact absurd h (by have:=Nat.mul_pos I hs;omega)
theorem DX(hT:cW P T)(I:afj base μ mem w){t t2 ty:TypeId}{s x v:AV}{S X:Value}{y :Mem}(hs:ae5 μ mem.length s S)(J:ae5 μ mem.length x X)(H:OU (T t2)=true)(h:vP T mem t s x=some (v,y)):
  aga P (Builtin.append_ #[t,t2] ty #[S,X]) base μ mem w v y :=by
 unfold vP at h;cases ht:T t with
 |none=>rw[ht] at h;cases h
 |some i=>
  rw[ht] at h;simp only at h;have Q:=(hT t i ht).desc;split at h
  ·rename_i e k n L
   rw[L] at Q;split at h
   ·rename_i j O
    split at h
    ·rename_i K
     obtain⟨o,Y,W,N,G⟩:=K;cases h;obtain⟨kd,V⟩:∃kd,P.underlying t2=some (.int kd):=by
      unfold OU at H;split at H
      ·rename_i F D
       split at H
       ·rename_i kd C
        have:=(hT t2 F D).desc;rw[C] at this;exact⟨kd,this⟩
       ·cases H
      ·cases H
     simp only[ae5] at hs;subst hs;rw[J.int];obtain⟨m,rfl⟩:∃m:Nat,n=m:=⟨n.toNat,by omega⟩
     have B:m*j.bytes≤140737488355328:=by
      have:(m:Int)*(j.bytes:Int)=((m*j.bytes:Nat):Int):=by simp
      omega
     obtain⟨nc,U,u⟩:=KA hT (ty:=ty) Q O V m k w (by omega) B (by omega) N;have M:=jB μ mem.length j.zero;have Z:=(hT e j O).agu;have R:(jc j.zero).cells.length=j.size:=by rw[←M.length,Array.length_toList,Z]
     have:=NT (P:=P) I (es:=yk j e) (GX G) (olds:=[]) (news:=fD (jc j.zero).cells m) (Os:=[]) (Ns:=(Builtin.zeroCells j.zero.cells m).toList) N Z (by simp[ae7]) (wW M m) (by simp[gS,R]) U u;simpa using this
    ·cases h
   ·cases h
  ·cases h
def Kp(T:TypeId→Option TyI)(mem:Mem)(t:TypeId)(x:AV):Option Mem:=
 match T t with
 |none=>none
 |some i=>
  match i.desc,x with
  |.slice _,.qF=>some mem
  |.slice e,.slice b o n _=>
   if n=0 then some mem else
   match T e,mem[b]? with
   |some j,some (.cells true es cs)=>
    if o+n*j.size≤cs.length∧(fD (jc j.zero).cells n).all AV.ae9=true then some (mem.set b (.cells true es (cs.take o++fD (jc j.zero).cells n++cs.drop (o+n*j.size)))) else none
   |_,_=>none
  |_,_=>none
theorem Kr(hT:cW P T)(H:afj base μ mem w){t ty:TypeId}{x:AV}{X:Value}{y :Mem}(I:ae5 μ mem.length x X)(h:Kp T mem t x=some y):
  aga P (Builtin.clear_ #[t] ty #[X]) base μ mem w (.tuple []) y :=by
 unfold Kp at h;cases ht:T t with
 |none=>rw[ht] at h;cases h
 |some i=>
  rw[ht] at h;simp only at h;have S:=(hT t i ht).desc;split at h
  ·rename_i e K
   rw[K] at S;cases h;simp only[ae5] at I;subst I;exact⟨.tuple #[],w,μ,by simp[Builtin.clear_,run_underlying S],by simp[ae5,ae7],H,.refl (Nat.le_refl _)⟩
  ·rename_i e b o n c K
   rw[K] at S;obtain⟨Zc,rfl⟩:=I.slice;split at h
   ·rename_i C
    cases h;subst C;exact⟨.tuple #[],w,μ,by simp[Builtin.clear_,run_underlying S],by simp[ae5,ae7],H,.refl (Nat.le_refl _)⟩
   ·rename_i C
    split at h
    ·rename_i j es N B M
     split at h
     ·rename_i hc
      obtain⟨YR,PP⟩:=hc;cases h;have m:=H.slot b _ M;simp only[afl] at m;obtain⟨Z,el,fr,Y,g2,g3,W,g5⟩:=m;obtain⟨L,g7,g8,g9⟩:=g5 trivial;subst g7;have J:=jB μ mem.length j.zero;have G:=(hT e j B).agu;have F:(jc j.zero).cells.length=j.size:=by rw[←J.length,Array.length_toList,G]
      have V:=wW J n;have R:(fD (jc j.zero).cells n).length=n*j.size:=by rw[gS,F]
      obtain⟨Q,O⟩:=xE (Builtin.zeroCells j.zero.cells n);rw[←O] at V;have D:Q.size=n*j.size:=by rw[←Array.length_toList,V.length,R]
      have h1:=V.afS PP;have UV:=run_storeCells_at (P:=P) (μ b).blk o el Q.toList 0 Z w Y (by rw[V.length,R];omega) h1;have hw:=H.write (w' :=w.setRow (μ b).blk (Z.toList.take (o+0)++Q.toList++Z.toList.drop (o+0+Q.toList.length)).toArray) (s' :=.cells true es (N.take o++fD (jc j.zero).cells n++N.drop (o+n*j.size)))
       M (jC M) (fun _=>⟨_,List.getElem?_set_self (gL M),rfl⟩) rfl rfl rfl rfl (by simp[World.setRow]) (fun k hk=>setRow_other w _ k _ hk) ?_
      ·refine⟨.tuple #[],_,μ,?_,by simp[ae5,ae7],hw.1,hw.2⟩
       simp only[Builtin.clear_,List.getElem?_toArray,List.getElem?_cons_zero,Sem.run_bind,run_underlying S,Result.andThen_ok,L,Nat.zero_add,eC hT B,←O];rw[UV];rfl
      ·simp only[afl]
       refine⟨_,el,(0,0),setRow_heap w (μ b).blk Z _ el (0,0) Y,g2,?_,fun q u hu=>?_,fun _=>⟨L,rfl,?_,g9⟩⟩
       ·simp only[List.length_append,List.length_take,List.length_drop,R];omega
       ·rw[L] at W
        obtain⟨U,hU,hr⟩:=yp (cs:=N) (vs:=fD (jc j.zero).cells n) (Vs:=Q.toList) (o:=o) (cur:=Z.toList) (by rw[R];exact YR) (fun j v hv=>by simpa using W j v hv) V q u (by rw[R];exact hu);refine⟨U,?_,hr⟩;rw[L];simpa using hU
       ·simp only[List.size_toArray,List.length_append,List.length_take,List.length_drop,Array.length_toList,D];omega
     ·cases h
    ·cases h
  ·cases h
end
def xK(T:TypeId→Option TyI)(mem:Mem)(t:TypeId)(x:AV)(y H:Option AV):Option (AV×Mem):=
 match T t,x with
 |some i,.slice b o n none=>
  match i.desc with
  |.slice e=>match T e,mem[b]? with
   |some j,some (.cells _ es cs)=>match H,y with
    |none,some (.int _ l)=>if l=n∧0<n∧es=j.size∧0<es∧es<1000∧o+n*es≤cs.length then some (.slice mem.length 0 0 none,mem++[.qK]) else none
    |_,_=>none
   |_,_=>none
  |_=>none
 |_,_=>none
section
variable {P:Program}{T:TypeId→Option TyI}{μ:Nat→Place}{mem:Mem}{base:Nat}{w:World}
theorem afj.qK(h:afj base μ mem w)(p:Place):afj base (upd μ mem.length p) (mem++[.qK]) w∧Step mem.length μ mem w (upd μ mem.length p) (mem++[.qK]) w:=by
 have hμ:∀b,b<mem.length→upd μ mem.length p b=μ b:=fun b X=>wR X
 have low:∀{b:Nat}{s:afb},(mem++[afb.qK])[b]? =some s→s≠ .qK→b<mem.length∧mem[b]? =some s:=by
  intro b s Z U;by_cases S:b<mem.length
  ·rw[List.getElem?_append_left S] at Z;exact⟨S,Z⟩
  ·exfalso
   have N:b=mem.length:=by have:=gL Z;simp at this;omega
   subst N;simp at Z;exact U Z.symm
 have own:∀{b:Nat},ek (mem++[afb.qK]) b→b<mem.length∧ek mem b:=by rintro b ⟨s,Z,ho⟩;have:=low Z (afb.afI ho);exact⟨this.1,s,this.2,ho⟩
 refine⟨⟨h.afe,fun b s Z=>?_,fun b O M X L U K=>?_⟩,?_⟩
 ·by_cases V:s=.qK
  ·subst V;trivial
  ·obtain⟨S,G⟩:=low Z V
   rw[hμ b S];exact(h.slot b s G).mono (by simp) hμ fun _=>rfl
 ·obtain⟨R,Q⟩:=own X
  obtain⟨h3,F⟩:=low L U;rw[hμ b R,hμ O h3];exact h.sep b O M Q F U K
 ·exact⟨by simp,hμ,rfl,rfl,rfl,Nat.le_refl _,fun _ _ _=>rfl,fun b X _=>by obtain⟨R,Q⟩:=own X;exact⟨b,Q,(congrArg Place.blk (hμ b R)).symm⟩,Nat.le_refl _⟩
theorem Gl(hT:cW P T)(hH:afj base μ mem w){t:TypeId}{x v:AV}{X:Value}{H I:Option AV}{J W:Option Value}{y :Mem}(hx:ae5 μ mem.length x X)(ZA:(H=none∧J=none)∨∃l L,H=some l∧J=some L∧ae5 μ mem.length l L)(Y:(I=none∧W=none)∨∃l L,I=some l∧W=some L∧ae5 μ mem.length l L)(h:xK T mem t x H I=some (v,y)):
  aga P (Instr.sliceAt t X J W none) base μ mem w v y :=by
 unfold xK at h;split at h
 ·rename_i i b o n K
  split at h
  ·rename_i e G
   have O:=(hT t i K).desc;rw[G] at O;split at h
   ·rename_i j own es cs F D
    split at h
    ·rename_i k l
     split at h
     ·rename_i C
      obtain⟨rfl,g1,B,N,R,g7⟩:=C;cases h;rcases Y with⟨_,rfl⟩ | ⟨_,_,V,_⟩
      ·rcases ZA with⟨V,_⟩ | ⟨a,L,V,rfl,u⟩
       ·cases V
       ·cases V
        rw[u.int];obtain⟨Zc,rfl⟩:=hx.slice;have M:=hH.slot b _ D;simp only[afl] at M;obtain⟨m,el,fr,hs1,hs2,hs3,_,_⟩:=M;have hs2:=hs2.es R;subst hs2;have ZR:n≤jV (μ b) o none:=by simp only[jV];rw[Nat.le_div_iff_mul_le N];omega
        obtain⟨c,ZS⟩:=xE (jV (μ b) o none);rw[←ZS] at ZR ⊢;obtain⟨U,S⟩:=xE (if c=n then (μ b).off+o else (μ b).off+(o+n*(μ b).es));obtain⟨a1,a2⟩:=hH.qK ⟨(μ b).blk,U,(c-n)*(μ b).es,(μ b).es⟩;have I':(Instr.sliceBounds true n c (some (.int k (n:Int))) none none).run P w=.ok (n,n,c) w:=by
         have H':(0:Int)≤(n:Int):=by omega
         have Q:(n:Int)≤((n:Nat):Int):=Int.le_refl _;simp[Instr.sliceBounds,ct H' Q]
        refine⟨.slice (some ⟨(μ b).blk,U,none⟩) 0 (c-n),w,_,?_,?_,a1,a2⟩
        ·simp[Instr.sliceAt,Instr.slice,run_underlying O,I',cL hT F]
         by_cases Z:c=n
         ·rw[if_pos Z] at S
          simp[Z,S]
         ·rw[if_neg Z] at S
          simp[Z,S,Addr.add_lit,B,Nat.add_assoc]
        ·simp only[ae5,ez,jV,List.length_append,List.length_singleton,Nat.add_zero,Nat.sub_zero]
         refine⟨by omega,?_⟩;rw[Nat.mul_div_cancel _ N]
      ·cases V
     ·cases h
    ·cases h
   ·cases h
  ·cases h
 ·cases h
end
def BP(T:TypeId→Option TyI)(t:TypeId)(x:AV)(I y H:Option AV):Option AV:=
 match T t,x with
 |some i,.slice b o n (some c)=>
  match i.desc with
  |.slice e=>
   match T e,EF n y,Lj I,EF c H with
   |some j,some h,some l,some m=>
    if 0≤l∧l≤h∧h≤m∧m≤c∧(H=none∨y.isSome=true) then some (.slice b (if m=l then o else o+l.toNat*j.size) (h.toNat-l.toNat) (some (m.toNat-l.toNat))) else none
   |_,_,_,_=>none
  |_=>none
 |_,_=>none
def sj(T:TypeId→Option TyI)(mem:Mem)(t t2:TypeId)(s x:AV):Option (AV×Mem):=
 match T t,s with
 |some i,.slice b 0 n (some c)=>
  match i.desc with
  |.slice e=>
   match T e,T t2,mem[b]? with
   |some j,some i2,some (.cells true es cs)=>
    if j.size=0∨1000≤j.size∨Ak i2=false then none else
    match mG T mem j.size t2 x with
    |none=>none
    |some (m,news)=>
     if news.all AV.ae9=true∧es=j.size∧n+m≤c∧(n+m)*j.size≤cs.length then
      some (.slice b 0 (n+m) (some c),mem.set b (.cells true es (cs.take (n*j.size)++news++cs.drop ((n+m)*j.size)))) else none
   |_,_,_=>none
  |_=>none
 |_,_=>none
section
variable {P:Program}{T:TypeId→Option TyI}{μ:Nat→Place}{mem:Mem}{base:Nat}{w:World}
theorem vU(hT:cW P T){t:TypeId}{x v:AV}{X:Value}{W Y mx:Option AV}{H I J:Option Value}(hx:ae5 μ mem.length x X)(ZA:(W=none∧H=none)∨∃l L,W=some l∧H=some L∧ae5 μ mem.length l L)(y:(Y=none∧I=none)∨∃l L,Y=some l∧I=some L∧ae5 μ mem.length l L)(hmx:(mx=none∧J=none)∨∃l L,mx=some l∧J=some L∧ae5 μ mem.length l L)(h:BP T t x W Y mx=some v):
  Val P (Instr.sliceAt t X H I J) w μ mem.length v:=by
 unfold BP at h;split at h
 ·rename_i i b o n c ht
  have C:=(hT t i ht).desc;split at h
  ·rename_i e C'
   rw[C'] at C;split at h
   ·rename_i j N S Q hj Z V F
    split at h
    ·rename_i hc
     obtain⟨u,h1,h2,h3,h4⟩:=hc;cases h;obtain⟨Zc,rfl⟩:=hx.slice;have I':(Instr.sliceBounds true n c H I J).run P w=.ok (S.toNat,N.toNat,Q.toNat) w:=by
      have YZ :S≤((N.toNat:Nat):Int):=by omega
      have R :0≤N:=by omega
      have U :N≤((Q.toNat:Nat):Int):=by omega
      have K :0≤Q:=by omega
      rcases hmx with⟨rfl,rfl⟩ | ⟨m,M,rfl,rfl,hM⟩
      ·simp only[EF,Option.some.injEq] at F
       subst F;rw[Int.toNat_natCast] at U;rcases y with⟨rfl,rfl⟩ | ⟨a,A,rfl,rfl,G⟩<;>rcases ZA with⟨rfl,rfl⟩ | ⟨b,B,rfl,rfl,D⟩
       ·simp only[EF,Lj,Option.some.injEq] at Z V;subst Z;subst V
        simp[Instr.sliceBounds]
       ·cases b<;>simp only[EF,Lj,reduceCtorEq,Option.some.injEq] at Z V
        subst Z;subst V;rw[D.int];simp[Instr.sliceBounds,ct u h1]
       ·cases a<;>simp only[EF,Lj,reduceCtorEq,Option.some.injEq] at Z V
        subst Z;subst V;rw[G.int];simp[Instr.sliceBounds,ct R U]
       ·cases a<;>simp only[EF,reduceCtorEq,Option.some.injEq] at Z
        cases b<;>simp only[Lj,reduceCtorEq,Option.some.injEq] at V;subst Z;subst V;rw[G.int,D.int];simp[Instr.sliceBounds,ct R U,ct u YZ]
      ·cases m<;>simp only[EF,reduceCtorEq,Option.some.injEq] at F
       subst F;rw[hM.int];rcases y with⟨rfl,rfl⟩ | ⟨a,A,rfl,rfl,G⟩<;>rcases ZA with⟨rfl,rfl⟩ | ⟨b,B,rfl,rfl,D⟩
       ·simp at h4
       ·simp at h4
       ·cases a<;>simp only[EF,Lj,reduceCtorEq,Option.some.injEq] at Z V
        subst Z;subst V;rw[G.int];simp[Instr.sliceBounds,ct K h3,ct R U]
       ·cases a<;>simp only[EF,reduceCtorEq,Option.some.injEq] at Z
        cases b<;>simp only[Lj,reduceCtorEq,Option.some.injEq] at V;subst Z;subst V;rw[G.int,D.int];simp[Instr.sliceBounds,ct K h3,ct R U,ct u YZ]
     refine⟨.slice (some ⟨(μ b).blk,(μ b).off+(if Q=S then o else o+S.toNat*j.size),none⟩) (N.toNat-S.toNat) (Q.toNat-S.toNat),?_,by simp only[ae5,jV];exact⟨Zc,trivial⟩⟩;have hml:(Q.toNat=S.toNat)=(Q=S):=by rw[eq_iff_iff];omega
     by_cases O:Q=S
     ·simp[Instr.sliceAt,Instr.slice,run_underlying C,I',cL hT hj,O,jV]
     ·simp[Instr.sliceAt,Instr.slice,run_underlying C,I',cL hT hj,hml,O,jV,Addr.add_lit,Nat.add_assoc]
    ·cases h
   ·cases h
  ·cases h
 ·cases h
theorem DV(hT:cW P T)(H:afj base μ mem w){t t2 ty:TypeId}{s x v:AV}{S X:Value}{y :Mem}(hs:ae5 μ mem.length s S)(hx:ae5 μ mem.length x X)(h:sj T mem t t2 s x=some (v,y)):
  aga P (Builtin.append_ #[t,t2] ty #[S,X]) base μ mem w v y :=by
 unfold sj at h;split at h
 ·rename_i i b n c ht
  have hd:=(hT t i ht).desc;split at h
  ·rename_i e C'
   rw[C'] at hd;split at h
   ·rename_i j D es O hj C G
    split at h
    ·cases h
    ·rename_i S'
     have R:=(hT t2 D C).desc;have B:(∃Y,P.underlying t2=some (.slice Y))∨P.underlying t2=some .string:=by
      have W:Ak D=true:=by
       cases N:Ak D with
       |true=>rfl
       |false=>exact absurd (.inr (.inr N)) S'
      unfold Ak at W;split at W
      next Y N=>rw[N] at R;exact .inl ⟨Y,R⟩
      next N=>rw[N] at R;exact .inr R
      ·cases W
     have hsk:j.size<1000:=by
      rcases Nat.lt_or_ge j.size 1000 with h0 | h0
      ·exact h0
      ·exact absurd (.inr (.inl h0)) S'
     split at h
     ·cases h
     ·rename_i m V J
      split at h
      ·rename_i hc
       obtain⟨PP,rfl,YR,I⟩:=hc;cases h;obtain⟨M,g1,F,g3,g4⟩:=tz (P:=P) H hx J;obtain⟨Zc,rfl⟩:=hs.slice;have Zr:=H.slot b _ G;simp only[afl] at Zr;obtain⟨Z,el,fr,s1,s2,s3,s4,s5⟩:=Zr;obtain⟨s6,s7,s8,s9⟩:=s5 trivial;subst s7;have ZT:(μ b).off+0=0:=by omega
       have L:=uA hT (ty:=ty) hd hj B (some ⟨(μ b).blk,0,none⟩) n c m X w g3 YR;rw[g4 w (fun _=>rfl)] at L;have K:M.length=m*j.size:=by rw[g1.length,F]
       have Q:n*j.size+m*j.size=(n+m)*j.size:=(Nat.add_mul _ _ _).symm;have D':O.length≤Z.size:=by rw[s8];exact s3
       have UV:=run_storeCells_at (P:=P) (μ b).blk (n*j.size) el M 0 Z w s1 (by rw[K,Nat.add_zero,Q];omega) (g1.afS PP);simp only[Result.andThen_ok,Addr.add_lit,Nat.zero_add,UV] at L;have hw:=H.write (w' :=w.setRow (μ b).blk (Z.toList.take (n*j.size+0)++M++Z.toList.drop (n*j.size+0+M.length)).toArray) (s' :=.cells true j.size (O.take (n*j.size)++V++O.drop ((n+m)*j.size)))
        G (jC G) (fun _=>⟨_,List.getElem?_set_self (gL G),rfl⟩) rfl rfl rfl rfl (by simp[World.setRow]) (fun k hk=>setRow_other w _ k _ hk) ?_
       ·refine⟨.slice (some ⟨(μ b).blk,0,none⟩) (n+m) c,_,μ,?_,?_,hw.1,hw.2⟩
        ·rw[←L]
         simp only[jV,ZT]
        ·simp only[ae5,jV,ZT,List.length_set]
         exact⟨Zc,trivial⟩
       ·simp only[afl]
        refine⟨_,el,(0,0),setRow_heap w (μ b).blk Z _ el (0,0) s1,s2,?_,fun q u hu=>?_,fun _=>⟨s6,rfl,?_,s9⟩⟩
        ·simp only[List.length_append,List.length_take,List.length_drop,F];omega
        ·rw[s6] at s4
         rw[show(n+m)*j.size=n*j.size+V.length by rw[F,Q]] at hu;obtain⟨U,hU,L⟩:=yp (cs:=O) (vs:=V) (Vs:=M) (o:=n*j.size) (cur:=Z.toList) (by rw[F,Q];exact I) (fun j v hv=>by simpa using s4 j v hv) g1 q u hu;refine⟨U,?_,L⟩;rw[s6];simpa using hU
        ·simp only[List.size_toArray,List.length_append,List.length_take,List.length_drop,Array.length_toList,K];omega
      ·cases h
   ·cases h
  ·cases h
 ·cases h
end
def rh(T:TypeId→Option TyI)(mem:Mem)(t:TypeId)(m k:AV):Option (AV×Mem):=
 match T t with
 |none=>none
 |some i=>
  match i.desc,m with
  |.map kt et,.map b=>
   match T et,mem[b]? with
   |some j,some (.map es)=>
    if lU T 20 kt k then
     match jz T kt k es 0 with
     |some (some (q,v))=>if k.afV then some (.tuple [v,.int .i64 q],mem.set b (.map (es.set q (k,v)))) else none
     |some none=>some (.tuple [jc j.zero,.int .i64 es.length],mem.set b (.map (es++[(k,jc j.zero)])))
     |none=>none
    else none
   |_,_=>none
  |_,_=>none
def kR(mem:Mem)(m s v:AV):Option Mem:=
 match m,s with
 |.map b,.int _ (.ofNat q)=>match mem[b]? with
  |some (.map es)=>match es[q]? with
   |some e=>some (mem.set b (.map (es.set q (e.1,v))))
   |none=>none
  |_=>none
 |_,_=>none
variable{FS:Array MapEntry}
section
variable {P:Program}{T:TypeId→Option TyI}{μ:Nat→Place}{mem:Mem}{base:Nat}{w:World}{n:Nat}
theorem KU{y:TypeId}{k:AV}:∀{es:List (AV×AV)} {i q:Nat} {v:AV},jz T y k es i=some (some (q,v))→(es[q-i]?).map (·.2)=some v
 | [],i,q,v,h=>by simp[jz] at h
 |e::es,i,q,v,h=>by
  have X:=nj h;rw[jz] at h;split at h
  ·cases h;simp
  ·have:=KU h
   obtain⟨j,V,Z,U,h3⟩:=nj h;subst Z;rw[show i+1+j-(i+1)=j by omega] at this;rw[show i+1+j-i=j+1 by omega];simpa using this
  ·cases h
theorem Cu(y:afj base μ mem w){b H Ye :Nat}{es Zd :List (AV×AV)}{Yh :Array MapEntry}(hb:mem[b]? =some (.map es))(h1:w.heap[(μ b).blk]? =some (.map FS H))(I:base≤(μ b).blk)(J:El Yh Ye)(g1:Yh.size=Zd.length)(g2:∀(j:Nat) e,Zd[j]? =some e→∃E,Yh[j]? =some E∧Pm μ mem.length e E):
  (setObj (μ b).blk (.map Yh Ye)).run P w=.ok () { w with heap:=w.heap.setIfInBounds (μ b).blk (.map Yh Ye) }∧
  afj base μ (mem.set b (.map Zd)) { w with heap:=w.heap.setIfInBounds (μ b).blk (.map Yh Ye) }∧Step mem.length μ mem w μ (mem.set b (.map Zd)) { w with heap:=w.heap.setIfInBounds (μ b).blk (.map Yh Ye) }:=by
 have Z:(μ b).blk<w.heap.size:=(Array.getElem?_eq_some_iff.1 h1).1;refine⟨sR h1 (by simp),y.write hb (Lx hb) (fun _=>⟨_,List.getElem?_set_self (gL hb),rfl⟩) rfl rfl rfl rfl (by simp) (fun q X=>?_) ?_⟩
 ·simp[Array.getElem?_setIfInBounds_ne (Ne.symm X)]
 ·simp only[afl]
  exact⟨Yh,Ye,by simp[Z],⟨I,J⟩,g1,g2⟩
theorem Rg{y i:Nat}(h:El FS y)(H:i<FS.size):FS.findIdx? (fun e=>(e.born:Int)==(i:Int))=some i:=by
 rw[Array.findIdx?_eq_some_iff_getElem];refine⟨H,?_,?_⟩
 ·have:=h.2 i FS[i] (by simp)
  simp[this]
 ·intro j Z
  have:=h.2 j FS[j] (by simp);simp[this];omega
theorem xJ(y:afj base μ mem w){t:TypeId}{m s v:AV}{M S V:Value}{mem' :Mem}(H:ae5 μ mem.length m M)(hs:ae5 μ mem.length s S)(I:ae5 μ mem.length v V)(h:kR mem m s v=some mem'):∃w',(Instr.entryStore t M S V).run P w=.ok () w' ∧afj base μ mem' w' ∧Step mem.length μ mem w μ mem' w' :=by
 unfold kR at h;split at h
 ·rename_i b k q
  split at h
  ·rename_i es hb
   split at h
   ·rename_i e L
    cases h;simp only[ae5] at H;obtain⟨_,rfl⟩:=H;have K:=y.slot b _ hb;simp only[afl] at K;obtain⟨FS,G,F,U,D,h3⟩:=K;have C:(getObj (μ b).blk).run P w=.ok (.map FS G) w:=by simp[getObj,Sem.run,F]
    have B:q<es.length:=gL L;have u:=Rg U.2 (i:=q) (by omega);obtain⟨f1,f2,f3⟩:=Cu (P:=P) y (Zd :=es.set q (e.1,v)) (Yh :=FS.modify q fun e=>{ e with val:=V }) (Ye :=G) hb F U.1 ⟨by simpa using U.2.1,fun j Q Z =>by
     rw[Array.getElem?_modify] at Z;split at Z
     ·simp only[Option.map_eq_some_iff] at Z
      obtain⟨o,Y,rfl⟩:=Z;exact U.2.2 j o Y
     ·exact U.2.2 j Q Z⟩ (by simpa using D) (fun j W R =>by
     rw[List.getElem?_set] at R;by_cases X:q=j
     ·subst X
      simp only[if_true,B,Option.some.injEq] at R;subst R;obtain⟨E,J,hr⟩:=h3 q e L;exact⟨{ E with val:=V },by simp[Array.getElem?_modify,J],hr.1,I⟩
     ·rw[if_neg X] at R
      obtain⟨Q,Z,O⟩:=h3 j W R;exact⟨Q,by simp[Array.getElem?_modify,X,Z],O⟩)
    refine⟨_,?_,f2,f3⟩;rw[hs.int];have N :FS.findIdx? (fun e=>(e.born:Int)==Int.ofNat q)=some q:=u;simp only[Instr.entryStore,Sem.run_bind,Result.andThen_ok,C,asInt,asIntOf,Sem.run_pure,N];exact f1
   ·cases h
  ·cases h
 ·cases h
theorem BO(hT:cW P T)(y:afj base μ mem w){t:TypeId}{m k v:AV}{M K:Value}{mem' :Mem}(hm:ae5 μ mem.length m M)(hk:ae5 μ mem.length k K)(h:rh T mem t m k=some (v,mem')):aga P (Instr.mapEntry t M K) base μ mem w v mem' :=by
 unfold rh at h;cases ht:T t with
 |none=>rw[ht] at h;cases h
 |some i=>
  rw[ht] at h;simp only at h;have Y:=(hT t i ht).desc;split at h
  ·rename_i kt et b C'
   rw[C'] at Y;split at h
   ·rename_i j es W hb
    split at h
    ·rename_i B
     simp only[ae5] at hm;obtain⟨Zc,rfl⟩:=hm;have hs:=y.slot b _ hb;simp only[afl] at hs;obtain⟨FS,U,J,V,L,h3⟩:=hs;have hg:(getObj (μ b).blk).run P w=.ok (.map FS U) w:=by simp[getObj,Sem.run,J]
     have ZB:=k9 (P:=P) (n:=mem.length) hT false 20 B hk 9980 w;have I:∃u,T kt=some u:=by
      rw[lU] at B;cases hx:T kt with
      |none=>rw[hx] at B;cases B
      |some u=>exact⟨u,rfl⟩
     obtain⟨u,G⟩:=I;have e2:FS.toList.length=es.length:=by simpa using L
     have e3:∀(j:Nat) e,es[j]? =some e→∃E,FS.toList[j]? =some E∧Pm μ mem.length e E:=fun j e F=>by obtain⟨E,N,o⟩:=h3 j e F;exact⟨E,by simpa using N,o⟩
     split at h
     ·rename_i q v' D
      split at h
      ·rename_i H
       cases h;obtain⟨R,g1,g2⟩:=gN hT G hk e2 e3 D w;cases R with
       |none=>exact g2.elim
       |some x=>
        obtain⟨q',V'⟩:=x;obtain⟨rfl,hv⟩:=g2;obtain⟨C,e,hq,F,P'⟩:=nj D;have hq' :q=C :=by omega
        subst hq';obtain⟨E,N,o⟩:=h3 q e F;have hsb:=rZ (μ:=μ) (n:=mem.length) H hk o.1 P' rfl;have T' :q<es.length:=gL F;have Yj:e.2=v' :=by have:=KU D;rw[Nat.sub_zero] at this;rw[F] at this;simpa using this
        obtain⟨f1,f2,f3⟩:=Cu (P:=P) y (Zd :=es.set q (k,v')) (Yh :=FS.modify q fun e=>{ e with key:=K }) (Ye :=U) hb J V.1 ⟨by simpa using V.2.1,fun j S Z =>by
         rw[Array.getElem?_modify] at Z;split at Z
         ·simp only[Option.map_eq_some_iff] at Z
          obtain⟨E0,k1,rfl⟩:=Z;exact V.2.2 j E0 k1
         ·exact V.2.2 j S Z⟩ (by simpa using L) (fun j e' X =>by
         rw[List.getElem?_set] at X;by_cases Q:q=j
         ·subst Q
          simp only[if_true,T',Option.some.injEq] at X;subst X;exact⟨{ E with key:=K },by simp[Array.getElem?_modify,N],hk,by rw[←Yj];exact o.2⟩
         ·rw[if_neg Q] at X
          obtain⟨S,Z,O⟩:=h3 j e' X;exact⟨S,by simp[Array.getElem?_modify,Q,Z],O⟩)
        refine⟨.tuple #[V',goInt q],_,μ,?_,?_,f2,f3⟩
        ·simp only[Instr.mapEntry,Sem.run_bind,run_underlying Y,Result.andThen_ok,hg]
         rw[show(10000:Nat)=20+9980 from rfl,ZB];simp only[Result.andThen_ok,g1,Sem.run_bind];have aah:(Instr.keyThatStays (((FS[q]?).map (·.key)).getD K) K).run P w=.ok K w:=by unfold Instr.keyThatStays;rw[N];simp only[Option.map_some,Option.getD_some,hsb,if_true];rfl
         rw[aah];simp only[Result.andThen_ok,f1,Sem.run_pure];rw[N];simp only[Option.map_some,Option.getD_some,V.2.2 q E N]
        ·simp only[List.length_set,ae5]
         exact⟨[V',goInt q],rfl,bK.2 ⟨hv,bK.2 ⟨by simp[ae5,goInt],by simp[ae7]⟩⟩⟩
      ·cases h
     ·rename_i D
      cases h;obtain⟨R,g1,g2⟩:=gN hT G hk e2 e3 D w;cases R with
      |some x=>exact g2.elim
      |none=>
       have hz:=xF μ mem.length j.zero;obtain⟨f1,f2,f3⟩:=Cu (P:=P) y (Zd :=es++[(k,jc j.zero)]) (Yh :=FS.push { key:=K,val:=j.zero,born:=U }) (Ye :=U+1) hb J V.1 ⟨by simp[V.2.1],fun j S Z =>by
        rw[Array.getElem?_push] at Z;split at Z
        next W=>cases Z;rw[W];exact V.2.1
        ·exact V.2.2 j S Z⟩ (by simp[L]) (fun C e' X =>by
        by_cases hj' :C <es.length
        ·rw[List.getElem?_append_left hj'] at X
         obtain⟨S,Z,O⟩:=h3 C e' X;exact⟨S,by rw[Array.getElem?_push,if_neg (by omega)];exact Z,O⟩
        ·have Z5:C =es.length:=by have:=(gL X);simp at this;omega
         subst Z5;simp at X;subst X;exact⟨{ key:=K,val:=j.zero,born:=U },by rw[Array.getElem?_push,if_pos L.symm],hk,hz⟩)
       refine⟨.tuple #[j.zero,goInt U],_,μ,?_,?_,f2,f3⟩
       ·simp only[Instr.mapEntry,Sem.run_bind,run_underlying Y,Result.andThen_ok,hg]
        rw[show(10000:Nat)=20+9980 from rfl,ZB];simp only[Result.andThen_ok,g1,Sem.run_bind,eC hT W,f1,Sem.run_pure]
       ·simp only[List.length_set,ae5]
        exact⟨[j.zero,goInt U],rfl,bK.2 ⟨hz,bK.2 ⟨by simp[ae5,goInt,V.2.1,L],by simp[ae7]⟩⟩⟩
     ·cases h
    ·cases h
   ·cases h
  ·cases h
end
end Go.Eng
namespace Go.Eng
def aUn(y:UnOp)(x:AV):Option AV:=
 match y,x with
 |.not,.bool b=>some (.bool (!b))
 |.neg,.int k n=>some (.int k (k.wrap (0-n)))
 |_,_=>none
def aOp(T:TypeId→Option TyI)(env:Env)(mem:Mem)(H:Op):Option (AV×Mem):=
 match H with
 |.move x=>some (get env x,mem)
 |.assign x=>some (get env x,mem)
 |.pick c a b=>match get env c with
  |.bool t=>some (if t then get env a else get env b,mem)
  |_=>none
 |.alloc e=>th T mem e
 |.box _ x=>WI mem (get env x)
 |.build t ps=>match bW T t (ps.toList.map fun p=>(p.1,get env p.2)) with
  |some v=>some (v,mem)
  |none=>none
 |.buildSlice t n ps=>fH T mem t n (ps.toList.map fun p=>(p.1,get env p.2))
 |.load t a=>match Qz T mem t (get env a) with
  |some v=>some (v,mem)
  |none=>none
 |.store t a x=>match tn T mem t (get env a) (get env x) with
  |some m=>some (.undef,m)
  |none=>none
 |.nilCheck x=>match get env x with
  |.ptr b o=>some (.ptr b o,mem)
  |.func f Z=>some (.func f Z,mem)
  |_=>none
 |.binOp H t x y _=>match Xk T H t (rD x) (rD y) (get env x) (get env y) with
  |some v=>some (v,mem)
  |none=>none
 |.unOp H _ x=>match aUn H (get env x) with
  |some v=>some (v,mem)
  |none=>none
 |.convert s d x=>match At T s d (get env x) with
  |some v=>some (v,mem)
  |none=>mW T mem s d (get env x)
 |.makeFunc (.func f) first abf=>if first.size=0 then some (.func f (WL env abf),mem) else none
 |.makeSlice t l c=>kD T mem t (get env l) (get env c)
 |.slice t x lo hi none=>match OB T mem t (get env x) (lo.map (get env)) (hi.map (get env)) with
  |some v=>some (v,mem)
  |none=>match xK T mem t (get env x) (lo.map (get env)) (hi.map (get env)) with
   |some r=>some r
   |none=>match BP T t (get env x) (lo.map (get env)) (hi.map (get env)) none with
    |some v=>some (v,mem)
    |none=>none
 |.slice t x lo hi (some mx)=>match BP T t (get env x) (lo.map (get env)) (hi.map (get env)) (some (get env mx)) with
  |some v=>some (v,mem)
  |none=>none
 |.fieldAddr t x f=>match sn T t (get env x) f with
  |some v=>some (v,mem)
  |none=>none
 |.field t x f=>match BL T t (get env x) f with
  |some v=>some (v,mem)
  |none=>none
 |.indexAddr t x i=>match so T t (get env x) (get env i) with
  |some v=>some (v,mem)
  |none=>none
 |.index t x i=>match OA T t (get env x) (get env i) with
  |some v=>some (v,mem)
  |none=>none
 |.makeMap _ none=>some (.map mem.length,mem++[.map []])
 |.lookup t m k ok=>match kS T mem t (get env m) (get env k) ok with
  |some v=>some (v,mem)
  |none=>none
 |.mapUpdate t m k x=>match eZ T mem t (get env m) (get env k) (get env x) with
  |some m=>some (.undef,m)
  |none=>none
 |.mapEntry t m k=>rh T mem t (get env m) (get env k)
 |.entryStore _ m s x=>match kR mem (get env m) (get env s) (get env x) with
  |some m=>some (.undef,m)
  |none=>none
 |.extract t i=>match get env t with
  |.tuple Z=>match Z[i]? with
   |some v=>some (v,mem)
   |none=>none
  |_=>none
 |.call { callee:=.builtin .len,args:=⟨[x]⟩,argTypes:=⟨[t]⟩ }=>match V2 T t mem (get env x) with
  |some v=>some (v,mem)
  |none=>none
 |.call { callee:=.builtin .append,args:=⟨[s,x]⟩,argTypes:=⟨[t,t2]⟩ }=>if OU (T t2) then vP T mem t (get env s) (get env x) else
  match oY T mem t t2 (get env s) (get env x) with
  |some r=>some r
  |none=>sj T mem t t2 (get env s) (get env x)
 |.call { callee:=.builtin .cap,args:=⟨[x]⟩,argTypes:=⟨[t]⟩ }=>match Xl T t (get env x) with
  |some v=>some (v,mem)
  |none=>none
 |.call { callee:=.builtin .clear,args:=⟨[x]⟩,argTypes:=⟨[t]⟩ }=>match Kp T mem t (get env x) with
  |some m=>some (.tuple [],m)
  |none=>none
 |.call { callee:=.builtin .unsafeSliceData,args:=⟨[x]⟩,argTypes:=_ }=>match ss mem (get env x) with
  |some v=>some (v,mem)
  |none=>none
 |.call { callee:=.builtin .unsafeString,args:=⟨[x,y]⟩,argTypes:=⟨[pt,_]⟩ }=>xL T mem pt (get env x) (get env y)
 |.call { callee:=.builtin .min,args:=⟨[x,y]⟩,argTypes:=_ }=>match get env x,get env y with
  |.int k a,.int k' b=>if k=k' then some (.int k (if b<a then b else a),mem) else none
  |.str a,.str b=>some (.str (if Op.bytesLess a b||a==b then a else b),mem)
  |_,_=>none
 |.call { callee:=.builtin .max,args:=⟨[x,y]⟩,argTypes:=_ }=>match get env x,get env y with
  |.int k a,.int k' b=>if k=k' then some (.int k (if a<b then b else a),mem) else none
  |.str a,.str b=>some (.str (if Op.bytesLess a b then b else a),mem)
  |_,_=>none
 |_=>none
variable{a:Act}{s u:List UInt8}{ts:Array TypeId}
section
variable {P:Program}{T:TypeId→Option TyI}{μ:Nat→Place}{mem:Mem}{base:Nat}{w:World}
def XW(μ:Nat→Place)(n:Nat)(N:Next)(v:AV):Prop:=(∃V,N=.value V∧ae5 μ n v V)∨(N=.skip∧v=.undef)
def af3(P:Program)(x:Sem Next)(base:Nat) (μ:Nat→Place)(mem:Mem)(w:World)(v:AV) (y :Mem):Prop:=
 ∃N w' μ',x.run P w=.ok N w' ∧XW μ' y.length N v∧afj base μ' y w' ∧Step mem.length μ mem w μ' y w'
theorem af3.afW{x:Sem Value}{v:AV}{y :Mem}(h:aga P x base μ mem w v y):af3 P (do pure (.value (←x))) base μ mem w v y :=by obtain⟨V,w',μ',Z,X,h3,U⟩:=h;exact⟨.value V,w',μ',by simp[Z],.inl ⟨V,rfl,X⟩,h3,U⟩
theorem af3.afq{x:Sem Value}{v:AV}(y:afj base μ mem w)(h:Val P x w μ mem.length v):af3 P (do pure (.value (←x))) base μ mem w v mem:=
 .afW (.afq y h)
theorem af3.pure{V:Value}{v:AV}(y:afj base μ mem w)(h:ae5 μ mem.length v V):af3 P (Pure.pure (.value V)) base μ mem w v mem:=
 ⟨.value V,w,μ,rfl,.inl ⟨V,rfl,h⟩,y,.refl (Nat.le_refl _)⟩
theorem Lz{env:Env}{n:Nat}(H:afE μ n env a.tmps)(y:Array (Nat×Operand)):
  (y.toList.map fun p=>(p.1,a.eval p.2)).map (·.1)=(y.toList.map fun p=>(p.1,get env p.2)).map (·.1)∧
  ae7 μ n ((y.toList.map fun p=>(p.1,get env p.2)).map (·.2)) ((y.toList.map fun p=>(p.1,a.eval p.2)).map (·.2)):=by
 constructor
 ·simp[Function.comp_def]
 ·have:=AB H (y.toList.map (·.2))
  simpa [Function.comp_def] using this
theorem rO{env:Env}{n:Nat}(y:afE μ n env a.tmps)(x:Option Operand):
  (x.map (get env)=none∧x.map a.eval=none)∨∃l L,x.map (get env)=some l∧x.map a.eval=some L∧ae5 μ n l L:=by
 cases x with
 |none=>exact .inl ⟨rfl,rfl⟩
 |some x=>exact .inr ⟨_,_,rfl,rfl,bq y x⟩
theorem Vg{n:Nat}{ty:TypeId}{X Y:Value}(y:ae5 μ n (.str s) X)(H:ae5 μ n (.str u) Y):Val P (Builtin.min_ ts ty #[X,Y]) w μ n (.str (if Op.bytesLess s u||s==u then s else u)):=by rw[y.str,H.str];refine .str ?_;simp[Builtin.min_,Builtin.min2,Op.stringOp,asBool];split<;>rfl
theorem Ve{n:Nat}{ty:TypeId}{X Y:Value}(y:ae5 μ n (.str s) X)(H:ae5 μ n (.str u) Y):Val P (Builtin.max_ ts ty #[X,Y]) w μ n (.str (if Op.bytesLess s u then u else s)):=by rw[y.str,H.str];refine .str ?_;simp[Builtin.max_,Builtin.max2,Op.stringOp,asBool];cases Op.bytesLess s u<;>simp
theorem R5(hT:cW P T)(I:afj base μ mem w){env:Env}{o:Oper}{v:AV}{J :Mem}(H:afE μ mem.length env a.tmps)(h:aOp T env mem o.op=some (v,J)):af3 P (execOp a.eval o) base μ mem w v J :=by
 unfold aOp at h;split at h
 ·rename_i x Z
  cases h;simp only[execOp,Z];exact .pure I (bq H x)
 ·rename_i x Z
  cases h;simp only[execOp,Z];exact .pure I (bq H x)
 ·rename_i c x y Z
  split at h
  ·rename_i t hc
   cases h;have:=bq H c;rw[hc] at this;simp only[execOp,Z,this.bool,asBool,pure_bind];cases t
   ·exact .pure I (bq H y)
   ·exact .pure I (bq H x)
  ·cases h
 ·rename_i e Z
  simp only[execOp,Z];exact .afW (Kn hT I h)
 ·rename_i e x Z
  simp only[execOp,Z];exact .afW (Qv I (bq H x) h)
 ·rename_i t M Z
  split at h
  ·rename_i S X
   cases h;obtain⟨C,B⟩:=Lz H M;simp only[execOp,Z];refine .afq I ?_;have:=Ko (P:=P) hT X C B w;have e:(⟨M.toList.map fun p=>(p.1,a.eval p.2)⟩:Array (Nat×Value))=M.map fun(i,x)=>(i,a.eval x):=by apply Array.ext';simp
   rw[e] at this;exact this
  ·cases h
 ·rename_i t n M Z
  obtain⟨C,B⟩:=Lz H M;simp only[execOp,Z];refine .afW ?_;have:=xH (P:=P) hT I C B h;have e:(⟨M.toList.map fun p=>(p.1,a.eval p.2)⟩:Array (Nat×Value))=M.map fun(i,x)=>(i,a.eval x):=by apply Array.ext';simp
  rw[e] at this;exact this
 ·rename_i t x Z
  split at h
  ·rename_i S X
   cases h;simp only[execOp,Z];exact .afq I (BM hT I (bq H x) X)
  ·cases h
 ·rename_i t x y Z
  split at h
  ·rename_i m X
   cases h;obtain⟨w',G,N,h3⟩:=Kx (P:=P) hT I (bq H x) (bq H y) X;simp only[execOp,Z];exact⟨.skip,w',μ,by simp[G],.inr ⟨rfl,rfl⟩,N,h3⟩
  ·cases h
 ·rename_i x Z
  split at h
  ·rename_i b o U
   cases h;have:=bq H x;rw[U] at this;simp only[execOp,Z,this.ptr.2];refine .pure I ?_;rw[this.ptr.2] at this;exact this
  ·rename_i f cs U
   cases h;have:=bq H x;rw[U] at this;have N:=this;simp only[ae5] at N;obtain⟨Us,D,_⟩:=N;simp only[execOp,Z,D];refine .pure I ?_;rw[D] at this;exact this
  ·cases h
 ·rename_i op t x y yt Z
  split at h
  ·rename_i S X
   cases h;simp only[execOp,Z];exact .afq I (Qt hT (bq H x) (bq H y) x y X w)
  ·cases h
 ·rename_i op t x Z
  split at h
  ·rename_i S X
   cases h;simp only[execOp,Z];refine .afq I ?_;have U:=bq H x;unfold aUn at X;split at X
   next Y=>cases X;rw[Y] at U;rw[U.bool];exact .bool rfl
   next Y=>cases X;rw[Y] at U;rw[U.int];exact .int rfl
   ·cases X
  ·cases h
 ·rename_i s d x Z
  split at h
  ·rename_i S X
   cases h;simp only[execOp,Z];exact .afq I (DY hT (bq H x) X w)
  ·simp only[execOp,Z];exact .afW (zX hT I (bq H x) h)
 ·rename_i f first L Z
  split at h
  ·rename_i hf
   cases h;simp only[execOp,Z];refine .afq I ⟨.func (.func f) (first.map a.eval) (L.map a.eval),rfl,?_⟩;simp only[ae5];have:first= #[]:=Array.eq_empty_of_size_eq_zero hf
   subst this;refine⟨L.toList.map a.eval,?_,AB H L.toList⟩;simp only[Array.map_empty];congr 1;apply Array.ext';simp
  ·cases h
 ·rename_i t l c Z
  simp only[execOp,Z];exact .afW (Aa hT I (bq H l) (bq H c) h)
 ·rename_i t x F O Z
  split at h
  ·rename_i S X
   cases h;simp only[execOp,Z];refine .afq I ?_;simp only[Option.map_none];exact Kv hT I (bq H x) (rO H F) (rO H O) X
  ·simp only[execOp,Z]
   simp only[Option.map_none];split at h
   ·rename_i r X
    cases h;exact .afW (Gl hT I (bq H x) (rO H F) (rO H O) X)
   ·split at h
    ·rename_i S X
     cases h;exact .afq I (vU hT (bq H x) (rO H F) (rO H O) (.inl ⟨rfl,rfl⟩) X)
    ·cases h
 ·rename_i t x F O mx Z
  split at h
  ·rename_i S X
   cases h;simp only[execOp,Z];refine .afq I ?_;simp only[Option.map_some];exact vU hT (bq H x) (rO H F) (rO H O) (.inr ⟨_,_,rfl,rfl,bq H mx⟩) X
  ·cases h
 ·rename_i t x f Z
  split at h
  ·rename_i S X
   cases h;simp only[execOp,Z];exact .afq I (zY hT (bq H x) X w)
  ·cases h
 ·rename_i t x f Z
  split at h
  ·rename_i S X
   cases h;simp only[execOp,Z];exact .afq I (Ks hT (bq H x) X w)
  ·cases h
 ·rename_i t x i Z
  split at h
  ·rename_i S X
   cases h;simp only[execOp,Z];exact .afq I (zZ hT (bq H x) (bq H i) X w)
  ·cases h
 ·rename_i t x i Z
  split at h
  ·rename_i S X
   cases h;simp only[execOp,Z];exact .afq I (Kt hT (bq H x) (bq H i) X w)
  ·cases h
 ·rename_i t Z
  cases h;simp only[execOp,Z,Option.map_none];exact .afW (GK I)
 ·rename_i t m k ok Z
  split at h
  ·rename_i S X
   cases h;simp only[execOp,Z];exact .afq I (Gj hT I (bq H m) (bq H k) X)
  ·cases h
 ·rename_i t m k x Z
  split at h
  ·rename_i m' X
   cases h;obtain⟨w',G,N,h3⟩:=Ac (P:=P) hT I (bq H m) (bq H k) (bq H x) X;simp only[execOp,Z];exact⟨.skip,w',μ,by simp[G],.inr ⟨rfl,rfl⟩,N,h3⟩
  ·cases h
 ·rename_i t m k Z
  simp only[execOp,Z];exact .afW (BO hT I (bq H m) (bq H k) h)
 ·rename_i t m s x Z
  split at h
  ·rename_i m' X
   cases h;obtain⟨w',G,N,h3⟩:=xJ (P:=P) (t:=t) I (bq H m) (bq H s) (bq H x) X;simp only[execOp,Z];exact⟨.skip,w',μ,by simp[G],.inr ⟨rfl,rfl⟩,N,h3⟩
  ·cases h
 ·rename_i t i Z
  split at h
  ·rename_i cs U
   split at h
   ·rename_i S O
    cases h;have:=bq H t;rw[U] at this;simp only[ae5] at this;obtain⟨Us,D,hr⟩:=this;obtain⟨V,hV,hv⟩:=hr.get i _ O;simp only[execOp,Z,D];exact .afq I ⟨V,by simp[Instr.extract,hV],hv⟩
   ·cases h
  ·cases h
 ·rename_i x t Z
  split at h
  ·rename_i S X
   cases h;simp only[execOp,Z,resolve,invoke,builtin,pure_bind];rw[show Array.map a.eval ⟨[x]⟩= #[a.eval x] by simp];exact .afq I (Qy hT I (bq H x) X)
  ·cases h
 ·rename_i s x t t2 Z
  simp only[execOp,Z,resolve,invoke,builtin,pure_bind];rw[show Array.map a.eval ⟨[s,x]⟩= #[a.eval s,a.eval x] by simp];split at h
  ·rename_i O
   exact .afW (DX hT I (bq H s) (bq H x) O h)
  ·split at h
   ·rename_i r X
    cases h;exact .afW (Gi hT I (bq H s) (bq H x) X)
   ·exact .afW (DV hT I (bq H s) (bq H x) h)
 ·rename_i x t Z
  split at h
  ·rename_i S X
   cases h;simp only[execOp,Z,resolve,invoke,builtin,pure_bind];rw[show Array.map a.eval ⟨[x]⟩= #[a.eval x] by simp];exact .afq I (Qw hT (bq H x) X)
  ·cases h
 ·rename_i x t Z
  split at h
  ·rename_i m' X
   cases h;simp only[execOp,Z,resolve,invoke,builtin,pure_bind];rw[show Array.map a.eval ⟨[x]⟩= #[a.eval x] by simp];exact .afW (Kr hT I (bq H x) X)
  ·cases h
 ·rename_i x ts Z
  split at h
  ·rename_i S X
   cases h;simp only[execOp,Z,resolve,invoke,builtin,pure_bind];rw[show Array.map a.eval ⟨[x]⟩= #[a.eval x] by simp];exact .afq I (Ad I _ _ (bq H x) X)
  ·cases h
 ·rename_i x y pt it Z
  simp only[execOp,Z,resolve,invoke,builtin,pure_bind];rw[show Array.map a.eval ⟨[x,y]⟩= #[a.eval x,a.eval y] by simp];exact .afW (Gn hT I (bq H x) (bq H y) h)
 ·rename_i x y ts Z
  split at h
  ·rename_i k i k' j U K
   split at h
   ·rename_i W
    cases h;subst W;have R:=bq H x;have Q:=bq H y;rw[U] at R;rw[K] at Q;simp only[execOp,Z,resolve,invoke,builtin,pure_bind];refine .afq I (.int ?_);simp[Builtin.min_,Builtin.min2,R.int,Q.int]
   ·cases h
  ·rename_i s u U K
   cases h;have R:=bq H x;have Q:=bq H y;rw[U] at R;rw[K] at Q;simp only[execOp,Z,resolve,invoke,builtin,pure_bind];rw[show Array.map a.eval ⟨[x,y]⟩= #[a.eval x,a.eval y] by simp];exact .afq I (Vg R Q)
  ·cases h
 ·rename_i x y ts Z
  split at h
  ·rename_i k i k' j U K
   split at h
   ·rename_i W
    cases h;subst W;have R:=bq H x;have Q:=bq H y;rw[U] at R;rw[K] at Q;simp only[execOp,Z,resolve,invoke,builtin,pure_bind];refine .afq I (.int ?_);simp[Builtin.max_,Builtin.max2,R.int,Q.int]
   ·cases h
  ·rename_i s u U K
   cases h;have R:=bq H x;have Q:=bq H y;rw[U] at R;rw[K] at Q;simp only[execOp,Z,resolve,invoke,builtin,pure_bind];rw[show Array.map a.eval ⟨[x,y]⟩= #[a.eval x,a.eval y] by simp];exact .afq I (Ve R Q)
  ·cases h
 ·cases h
end
end Go.Eng
namespace Go.Eng
def TZ(P:Program)(f:FuncId):Prop:=∃fn,P.funcs[f]? =some fn∧fn.body.isSome=true∧(fn.name == "runtime.NumGoroutine")=false
abbrev Fr(y:Option Nat):Fence:={ Fence.wide with round:=y }
variable{f:FuncId}{ro:Option Nat}
theorem Ax{n:Nat}{P:Program}{args:Array Value}{w:World}{R:Ending→World→Prop}:CallsIn (Fr ro) n P f args w R↔Calls P f args w R:=
 callsIn_wide (n:=n)
def xX:String:=String.ofList ([105,110,116,101,114,110,97,108,47,115,116,114,99,111,110,118,46,117,105,110,116,54,52,112,111,119,49,48].map Char.ofNat)
structure GOk (P:Program)(base:Nat)(w:World):Prop where
 below:P.globals.size≤base
 tab:Lib.TabIs P w xX .u64 Lib.pow10Tab
theorem GOk.ahb{P:Program}{y:Nat}{w:World}(h:GOk P y w){s:String}(hs:xX=s):Lib.TabIs P w s .u64 Lib.pow10Tab:=hs▸h.tab
theorem O3{y:Nat}{μ:Nat→Place}{mem:Mem}{w:World}(H:afj y μ mem w){b:Nat}(I:ek mem b):y≤(μ b).blk:=by
 obtain⟨s,X,Z⟩:=I;have:=H.slot b s X;cases s with
 |qK=>cases Z
 |cells own es cs=>simp only[afb.own] at Z;subst Z;simp only[afl] at this;obtain⟨_,_,_,_,_,_,_,h⟩:=this;exact(h trivial).2.2.2
 |map es=>simp only[afl] at this;obtain⟨_,_,_,h,_⟩:=this;exact h.1
 |afH es=>cases Z
 |loop r=>simp only[afl] at this;obtain⟨_,_,h,_⟩:=this;exact h
variable{name:String}
theorem Eb{P:Program}{g:Nat}(h:P.globalNamed name=some g):g<P.globals.size:=by
 unfold Program.globalNamed at h;split at h
 ·rename_i X Z
  cases h;have:g∈(List.range P.globals.size).filter fun g=>(P.globals[g]?).any (·.name==name):=by rw[Z];simp
  simpa using (List.mem_filter.1 this).1
 ·cases h
variable{w' :World}
theorem Pj{P:Program}{w:World}(h:∀k,k<P.globals.size→w'.heap[k]? =w.heap[k]?):w'.var? P name=w.var? P name:=by
 unfold World.var?;cases hg:P.globalNamed name with
 |none=>rfl
 |some g=>simp only[Option.bind_some];rw[h g (Eb hg)]
variable{m0:Nat}{μ' :Nat→Place}
theorem GOk.step{P:Program}{y:Nat}{μ:Nat→Place}{mem H :Mem}{w:World}(h:GOk P y w)(I:afj y μ mem w)(hS:Step m0 μ mem w μ' H w'):GOk P y w' :=by
 refine⟨h.below,?_⟩;have:=h.tab;unfold Lib.TabIs at this ⊢;rw[←this];refine Pj fun k X=>hS.frame k ?_ fun b Z=>?_
 ·have:=h.below;have:=I.afe;omega
 ·have:=O3 I Z;have:=h.below;omega
structure MOk (P:Program)(base h0:Nat)(w:World)(ds:List Deferred):Prop where
 agi:GOk P base w
 afe:base≤h0
 le:h0≤w.heap.size
 each:∀d∈ds,∃r,d={ target:=.collected r,args:= #[] }∧h0≤r∧w.heap[r]? =some (.deferred (some []))
 nodup:(ds.map (·.target)).Nodup
variable{h0:Nat}
theorem MOk.nil{P:Program}{y:Nat}(w:World)(hg:GOk P y w)(H:y≤h0)(h:h0≤w.heap.size):MOk P y h0 w []:=⟨hg,H,h,fun _ h=>by(cases h),by simp⟩
theorem pX{y:Nat}{μ:Nat→Place}{mem:Mem}{w:World}(H:afj y μ mem w){r:Nat}{x}(hr:w.heap[r]? =some (.deferred x)){b:Nat}{s:afb}(I:mem[b]? =some s)(hs:s≠ .qK):(μ b).blk≠r:=by
 intro e;have:=H.slot b s I;cases s with
 |qK=>exact hs rfl
 |cells own es cs=>simp only[afl] at this;obtain⟨_,_,_,Z,_⟩:=this;rw[e,hr] at Z;cases Z
 |map es=>simp only[afl] at this;obtain⟨_,_,Z,_⟩:=this;rw[e,hr] at Z;cases Z
 |afH es=>simp only[afl] at this;obtain⟨_,_,Z,_⟩:=this;rw[e,hr] at Z;cases Z
 |loop r=>simp only[afl] at this;obtain⟨_,Z,_⟩:=this;rw[e,hr] at Z;cases Z
theorem MOk.step{P:Program}{y:Nat}{μ:Nat→Place}{mem H :Mem}{w:World}{I:List Deferred}(h:MOk P y h0 w I)(J:afj y μ mem w)(hS:Step m0 μ mem w μ' H w'):MOk P y h0 w' I:=by refine⟨h.agi.step J hS,h.afe,Nat.le_trans h.le hS.size,fun d V=>?_,h.nodup⟩;obtain⟨r,e,U,Z⟩:=h.each d V;refine⟨r,e,U,?_⟩;rw[hS.frame r (Array.getElem?_eq_some_iff.1 Z).1 fun b X=>?_,Z];obtain⟨s,X,S⟩:=X;exact pX J Z X (afb.afI S)
def afJ(P:Program)(f:FuncId)(args:List AV)(mem:Mem)(R:AV→Mem→Prop):Prop:=
 TZ P f∧∀base μ w Vs,GOk P base w→afj base μ mem w→ae7 μ mem.length args Vs→
  Calls P f ⟨Vs⟩ w fun e w' =>∃V v mem' μ',e=.returned V∧ae5 μ' mem'.length v V∧afj base μ' mem' w' ∧Step mem.length μ mem w μ' mem' w' ∧R v mem'
def kO(P:Program)(f:FuncId)(args:List AV)(mem:Mem)(v:AV) (y :Mem):Prop:=afJ P f args mem fun Z X=>Z=v∧X=y
theorem afJ.mono{P f args mem}{R y :AV→Mem→Prop}(h:afJ P f args mem R)(hr:∀v m,R v m→y v m):afJ P f args mem y :=
 ⟨h.1,fun base μ w Vs h0 h1 h2=>(h.2 base μ w Vs h0 h1 h2).mono fun _ _ ⟨V,v,m,μ',a,b,c,d,r⟩=>⟨V,v,m,μ',a,b,c,d,hr _ _ r⟩⟩
def afT(P:Program)(b:Nat)(args:List AV)(mem:Mem)(R:AV→Mem→Prop):Prop:=
 ∀base μ w Vs,GOk P base w→afj base μ mem w→ae7 μ mem.length args Vs→b<mem.length→∃f Z assign X,
  (Instr.yield (μ b).blk ⟨Vs⟩).run P w=.ok (.round (μ b).blk f Z assign X) w∧
  RoundIn Fence.wide 0 P (μ b).blk f Z assign X w fun e w' =>∃V v mem' μ',e=.returned V∧ae5 μ' mem'.length v V∧afj base μ' mem' w' ∧Step mem.length μ mem w μ' mem' w' ∧R v mem'
def fN(P:Program)(b:Nat)(args:List AV)(mem:Mem)(v:AV) (y :Mem):Prop:=afT P b args mem fun Z X=>Z=v∧X=y
def AR(env:Env):Op→Option (Nat×List AV)
 |.call { callee:=.value x,args,argTypes:=_ }=>match get env x with
  |.yield b=>some (b,WL env args)
  |_=>none
 |_=>none
def Gu(env:Env):Op→Option (FuncId×List AV)
 |.call { callee:=.value x,args,argTypes:=_ }=>match get env x with
  |.func f Z=>some (f,WL env args++Z)
  |_=>none
 |_=>none
def sg(ops:Array Oper)(env:Env)(o:Oper):Option Bool:=
 match o.guard with
 |none=>some true
 |some (j,abT)=>match (ops[j]?).bind (·.dst) with
  |some d=>match ab env d with
   |.bool b=>some (b==abT)
   |.tuple []=>some false
   |_=>none
  |none=>none
def afX(env:Env)(y:Option Tmp)(v:AV):Env:=
 match y with
 |some d=>(d,v)::env
 |none=>env
structure St where
 env:Env
 mem:Mem
def D9(N:Nat)(o:Oper):Bool:=match o.dst with
 |some d=>decide (d<N)
 |none=>true
def wZ(P:Program)(T:TypeId→Option TyI)(env:Env)(mem:Mem)(o:Oper)(v:AV) (y :Mem):Prop:=
 aOp T env mem o.op=some (v,y)∨(∃f Z,Gu env o.op=some (f,Z)∧kO P f Z mem v y)∨
  ∃b Z,AR env o.op=some (b,Z)∧fN P b Z mem v y
def mI(P:Program)(T:TypeId→Option TyI)(N:Nat)(ops:Array Oper):List Oper→St→St→Prop
 | [],st,J' =>J' =st
 |o::os,st,J' =>∃b,sg ops st.env o=some b∧D9 N o=true∧
   (b=false→mI P T N ops os ⟨afX st.env o.dst (.tuple []),st.mem⟩ J')∧
   (b=true→∃v Z,wZ P T st.env st.mem o v Z ∧mI P T N ops os ⟨afX st.env o.dst v,Z⟩ J')
variable{o:Oper}
section
variable {P:Program}{T:TypeId→Option TyI}{μ:Nat→Place}{mem:Mem}{base:Nat}{w:World}
theorem afE.afX{n N:Nat}{env:Env}{a:Act}{v:AV}{V:Value}(h:afE μ n env a.tmps)(y:a.tmps.size=N)(hd:D9 N o=true)(H:ae5 μ n v V):
  afE μ n (afX env o.dst v) (a.put o.dst V).tmps:=by
 unfold D9 at hd;cases ho:o.dst with
 |none=>simpa [Go.Eng.afX,Act.put] using h
 |some d=>
  rw[ho] at hd;simp only[decide_eq_true_eq] at hd;exact h.put (by rw[y];exact hd) H
theorem fc(a:Act)(d:Option Tmp)(V:Value):(a.put d V).tmps.size=a.tmps.size:=by cases d<;>simp[Act.put]
theorem fA(a:Act)(d:Option Tmp)(V:Value):(a.put d V).defers=a.defers:=by cases d<;>rfl
theorem pQ{env:Env}{n:Nat}{ops:Array Oper}{a:Act}{b:Bool}(H:afE μ n env a.tmps)(h:sg ops env o=some b):
  Region.wanted o (yielded ops a.tmps)=b:=by
 unfold sg at h;unfold Region.wanted;split at h
 next V=>cases h;simp[V]
 ·rename_i j X V
  simp only[V];split at h
  ·rename_i d R
   split at h
   ·rename_i Q U
    cases h;have:=H d;rw[U] at this;have Z:=this.bool;simp only[yielded,R,Option.bind_some];have S:a.tmps[d]? =some (.bool Q):=by
     rw[Array.getD_eq_getD_getElem?] at Z;cases hx:a.tmps[d]? with
     |none=>rw[hx] at Z;simp[undef] at Z
     |some y=>rw[hx] at Z;simp at Z;rw[Z]
    rw[S];cases Q <;>cases X<;>rfl
   ·rename_i U
    cases h;have:=H d;rw[U] at this;simp only[ae5,ae7] at this;obtain⟨O,Z,rfl⟩:=this;simp only[yielded,R,Option.bind_some];rw[Array.getD_eq_getD_getElem?] at Z;cases hx:a.tmps[d]? with
    |none=>rfl
    |some y=>rw[hx] at Z;simp only[Option.getD_some] at Z;rw[Z];cases X<;>rfl
   ·cases h
  ·cases h
theorem yM(h:TZ P f)(args:Array Value)(w:World):(callFunc f args).run P w=.ok (.enter f args) w:=by
 obtain⟨fn,X,Z,h3⟩:=h;have V:¬fn.body=none:=by intro e;rw[e] at Z;cases Z
 have U:¬fn.name = "runtime.NumGoroutine" := by simpa using h3
 simp[callFunc,X,U,V]
theorem Gk{T:TypeId→Option TyI}{env:Env}{mem:Mem}{y:Op}{r}(h:aOp T env mem y=some r):∀c,y≠ .defer c:=by intro c e;subst e;simp[aOp] at h
theorem rM(hT:cW P T)(hG:GOk P base w)(W:afj base μ mem w){N:Nat}{env:Env}{a:Act}{v:AV}{y :Mem}(H:afE μ mem.length env a.tmps)(I:a.tmps.size=N)(hd:D9 N o=true)(h:wZ P T env mem o v y){K:Act→World→Prop}{Q:Exit→Act→World→Prop}(J:∀V w' μ',ae5 μ' y.length v V→afj base μ' y w' →afE μ' y.length (afX env o.dst v) (a.put o.dst V).tmps→Step mem.length μ mem w μ' y w' →K (a.put o.dst V) w'):
  o.wpIn (Fr ro) 0 P a w K Q:=by
 refine⟨fun _ _=>trivial,?_⟩;rcases h with h | ⟨f,S,Z,R⟩ | ⟨b,S,Z,hy⟩
 ·rw[Oper.semAt_eq _ _ _ (Gk h)]
  obtain⟨N',w',μ',B,u,h3,C⟩:=R5 hT W H h;rw[B];have O :afE μ' y.length env a.tmps:=H.mono C.len C.agree;rcases u with⟨V,rfl,M⟩ | ⟨rfl,rfl⟩
  ·exact J V w' μ' M h3 (O.afX I hd M) C
  ·have M:ae5 μ' y.length .undef undef:=by simp[ae5]
   exact J undef w' μ' M h3 (O.afX I hd M) C
 ·unfold Gu at Z
  split at Z
  ·rename_i x U ts L
   split at Z
   ·rename_i f' caps m
    cases Z;have X:=bq H x;rw[m] at X;simp only[ae5] at X;obtain⟨Us,j,Y⟩:=X;have Yz:(execOp a.eval o).run P w=.ok (.enter f ⟨U.toList.map a.eval++Us⟩) w:=by simp only[execOp,L,resolve,j,Deferred.ofValue,pure_bind,invoke];rw[yM R.1];congr 2;apply Array.ext';simp
    rw[Oper.semAt_eq _ _ _ (by rw[L];intro c e;cases e),Yz];refine⟨fun h=>by simp[Fence.wide] at h,Ax.2 ((R.2 base μ w _ hG W ((AB H U.toList).append Y)).mono ?_)⟩;rintro e w' ⟨V,v',m',μ',rfl,q1,q2,q3,rfl,rfl⟩;exact J V w' μ' q1 q2 ((H.mono q3.len q3.agree).afX I hd q1) q3
   ·cases Z
  ·cases Z
 ·unfold AR at Z
  split at Z
  ·rename_i x U ts L
   split at Z
   ·rename_i b' m
    cases Z;have X:=bq H x;rw[m] at X;simp only[ae5] at X;obtain⟨hb,j⟩:=X;obtain⟨f,G,X',D,B,u⟩:=hy base μ w _ hG W (AB H U.toList) hb;have Yz:(execOp a.eval o).run P w=.ok (.round (μ b).blk f G X' D) w:=by
     rw[←B];simp only[execOp,L,resolve,j,Deferred.ofValue,pure_bind,invoke];have e: #[]++U.map a.eval=(⟨U.toList.map a.eval⟩:Array Value):=by apply Array.ext';simp
     rw[e]
    rw[Oper.semAt_eq _ _ _ (by rw[L];intro c e;cases e),Yz];refine⟨fun h=>by simp[Fence.wide] at h,RoundIn.mono (F:=Fr ro) u ?_⟩;rintro e w' ⟨V,v',m',μ',rfl,q1,q2,q3,rfl,rfl⟩;exact J V w' μ' q1 q2 ((H.mono q3.len q3.agree).afX I hd q1) q3
   ·cases Z
  ·cases Z
theorem wH(hT:cW P T){N:Nat}{ops:Array Oper}{Q:Exit→Act→World→Prop}:∀{l:List Oper}{y H :St}{μ:Nat→Place} {w:World} {a:Act} {m0:Nat}{μ0:Nat→Place} {mem0:Mem} {w0:World} {h0:Nat} {ro:Option Nat},
  mI P T N ops l y H →afj base μ y.mem w→afE μ y.mem.length y.env a.tmps→a.tmps.size=N→MOk P base h0 w a.defers→m0≤y.mem.length→Step m0 μ0 mem0 w0 μ y.mem w→
  (∀a' w' μ',afj base μ' H.mem w' →afE μ' H.mem.length H.env a'.tmps→a'.tmps.size=N→MOk P base h0 w' a'.defers→m0≤H.mem.length→Step m0 μ0 mem0 w0 μ' H.mem w' →Q .normal a' w')→
  wpListIn (Fr ro) 0 P ops Q l a w
 | [],y,H,μ,w,a,m0,μ0,mem0,w0,h0,ro,h,hH,hR,hN,Ze,hm,hS,hQ=>by simp only[mI] at h;subst h;exact wpListIn_nil (hQ a w μ hH hR hN Ze hm hS)
 |o::os,y,H,μ,w,a,m0,μ0,mem0,w0,h0,ro,h,hH,hR,hN,Ze,hm,hS,hQ=>by
  obtain⟨b,R,X,O,M⟩:=h;refine wpListIn_step fun K U=>?_
  rw[pQ hR R];cases b with
  |false=>
   simp only[Bool.false_eq_true,if_false];refine⟨fun _ _=>trivial,?_⟩;refine U _ _ (wH hT (O rfl) hH (hR.afX hN X (by simp[ae5,ae7,undef])) (by rw[fc];exact hN) (by rw[fA];exact Ze) hm hS hQ)
  |true=>
   simp only[if_true];obtain⟨v,S,Z,L⟩:=M rfl;refine rM hT Ze.agi hH hR hN X Z fun V w' μ' q1 q2 q3 q4=>U _ _ ?_
   exact wH hT L q2 q3 (by rw[fc];exact hN) (by rw[fA];exact Ze.step hH q4) (Nat.le_trans hm q4.len) (hS.trans (q4.mono hm)) hQ
end
end Go.Eng
namespace Go.Eng
def AWP(P:Program)(tp:Bool)(N m0:Nat)(c:Code)(y:St)(Q:Exit→St→Prop):Prop:=
 ∀(X:Option Nat) (V:Nat) base μ w a,(tp=true→X=none)→afj base μ y.mem w→afE μ y.mem.length y.env a.tmps→a.tmps.size=N→MOk P base V w a.defers→m0≤y.mem.length→
  c.wpIn (Fr X) 0 P (fun e Z w' =>∃J' μ',afj base μ' J'.mem w' ∧afE μ' J'.mem.length J'.env Z.tmps∧Z.tmps.size=N∧MOk P base V w' Z.defers∧m0≤J'.mem.length∧
   Step m0 μ y.mem w μ' J'.mem w' ∧Q e J') a w
variable{Q' :Exit→St→Prop}{c:Code}{id:Nat}
section
variable {P:Program}{T:TypeId→Option TyI}{tp:Bool}{N m0:Nat}{Q:Exit→St→Prop}{st:St}
theorem AWP.mono(h:AWP P tp N m0 c st Q)(hq:∀e s,Q e s→Q' e s):AWP P tp N m0 c st Q' :=
 fun ro h0 base μ w a Zf h1 h2 h3 h4 h5=>wpIn_mono (h ro h0 base μ w a Zf h1 h2 h3 h4 h5) fun _ _ _ ⟨s,μ',a1,a2,a3,a4,a5,a6,a7⟩=>⟨s,μ',a1,a2,a3,a4,a5,a6,hq _ _ a7⟩
theorem UU(h:Q .normal st):AWP P tp N m0 .skip st Q:=
 fun _ _ _ μ _ _ _ h1 h2 h3 h4 h5=>wpIn_skip ⟨st,μ,h1,h2,h3,h4,h5,.refl h5,h⟩
theorem US(h:Q (.exit id) st):AWP P tp N m0 (.exit id) st Q:=
 fun _ _ _ μ _ _ _ h1 h2 h3 h4 h5=>wpIn_exit ⟨st,μ,h1,h2,h3,h4,h5,.refl h5,h⟩
theorem V5(h:Q .ret st):AWP P tp N m0 .ret st Q:=
 fun _ _ _ μ _ _ _ h1 h2 h3 h4 h5=>wpIn_ret ⟨st,μ,h1,h2,h3,h4,h5,.refl h5,h⟩
def Xh(R:St→Prop)(Q:Exit→St→Prop):Exit→St→Prop
 |.normal,s=>R s
 |e,s=>Q e s
theorem xM{x y:Code}(h:AWP P tp N m0 x st (Xh (fun s=>AWP P tp N m0 y s Q) Q)):AWP P tp N m0 (.seq x y) st Q:=by
 intro ro h0 base μ w a Zf h1 h2 h3 h4 h5;refine wpIn_seq (wpIn_mono (h ro h0 base μ w a Zf h1 h2 h3 h4 h5) ?_);rintro e a' w' ⟨s,μ',b1,b2,b3,b4,b5,b6,b7⟩;cases e with
 |normal=>
  refine wpIn_mono (b7 ro h0 base μ' w' a' Zf b1 b2 b3 b4 b5) ?_;rintro e a2 w2 ⟨s2,μ2,c1,c2,c3,c4,c5,c6,c7⟩;exact⟨s2,μ2,c1,c2,c3,c4,c5,b6.trans c6,c7⟩
 |_=>exact⟨s,μ',b1,b2,b3,b4,b5,b6,b7⟩
theorem OC{c:Operand}{x y:Code}{b:Bool}(hc:get st.env c=.bool b)(H:b=true→AWP P tp N m0 x st Q)(hf:b=false→AWP P tp N m0 y st Q):
  AWP P tp N m0 (.cond c x y) st Q:=by
 intro ro h0 base μ w a Zf h1 h2 h3 h4 h5;have Z:=bq h2 c;rw[hc] at Z;exact wpIn_cond_split Z.bool (fun e=>H e ro h0 base μ w a Zf h1 h2 h3 h4 h5) (fun e=>hf e ro h0 base μ w a Zf h1 h2 h3 h4 h5)
def OF(id:Nat)(Q:Exit→St→Prop):Exit→St→Prop
 |.exit i,s=>if i=id then Q .normal s else Q (.exit i) s
 |e,s=>Q e s
theorem BV(h:AWP P tp N m0 c st (OF id Q)):AWP P tp N m0 (.block id c) st Q:=by
 intro ro h0 base μ w a Zf h1 h2 h3 h4 h5;refine wpIn_block (wpIn_mono (h ro h0 base μ w a Zf h1 h2 h3 h4 h5) ?_);rintro e a' w' ⟨s,μ',b1,b2,b3,b4,b5,b6,b7⟩;cases e with
 |exit i=>
  simp only[Exit.inBlock,OF] at b7 ⊢;split at b7
  next Z=>rw[if_pos Z];exact⟨s,μ',b1,b2,b3,b4,b5,b6,b7⟩
  next Z=>rw[if_neg Z];exact⟨s,μ',b1,b2,b3,b4,b5,b6,b7⟩
 |_=>exact⟨s,μ',b1,b2,b3,b4,b5,b6,b7⟩
theorem QD(hT:cW P T){ops:Array Oper}{y :St}(h:mI P T N ops ops.toList st y)(hq:Q .normal y):
  AWP P tp N m0 (.region id ops false) st Q:=by
 intro ro h0 base μ w a Zf h1 h2 h3 h4 h5;exact wpIn_region_list (wH hT h h1 h2 h3 h4 h5 (.refl h5) fun a' w' μ' c1 c2 c3 c4 c5 c6=>⟨y,μ',c1,c2,c3,c4,c5,c6,hq⟩)
theorem zk{F:Fence}{r:Nat}{σ:Type}{Q:Exit→Act→World→Prop}(I:σ→Act→World→Prop)(m:σ→Nat)(y:∀s a w,I s a w→c.wpIn F r P (Exit.then (fun U w' =>∃O,I O U w' ∧m O <m s) Q) a w):
  ∀{s a w},I s a w→(Code.loop c).wpIn F r P Q a w:=by
 intro s a w h₀ b k cs Zf hb hr;have M:∀n s a w,m s=n→I s a w→
   ∃e U w',Q e U w' ∧ArrivesIn (Machine.fenced P F) P (lone (b.atR a (.code c::.inLoop c::k)) cs w) b k cs e U w' :=by
  intro n;induction n using Nat.strongRecOn with
  |_ n ih=>
   intro s a w G D;obtain⟨e,S,R,X,Z⟩:=y s a w D b (.inLoop c::k) cs Zf hb hr;cases e with
   |normal=>
    obtain⟨O,L,C⟩:=X;obtain⟨B,u,o,K,V⟩:=ih (m O) (G▸C) O S R rfl L;exact⟨B,u,o,K,.of_steps (StepsIn.trans Z (.one (fenced_calm hb hr rfl) stepR_inLoop)) V⟩
   |exit id=>exact⟨_,S,R,X,.pass (x:=.inLoop c) rfl (fun _ _=>.inl (by simp)) Z⟩
   |goto l=>exact⟨_,S,R,X,.pass (x:=.inLoop c) rfl (fun _ _=>.inl (by simp)) Z⟩
   |ret=>exact⟨_,S,R,X,.pass (x:=.inLoop c) rfl (fun _ _=>.inl (by simp)) Z⟩
   |panic ch=>exact⟨_,S,R,X,.pass (x:=.inLoop c) rfl (fun _ _=>.inl (by simp)) Z⟩
   |outgrown=>exact⟨_,S,R,X,.pass (x:=.inLoop c) rfl (fun _ _=>.inl (by simp)) Z⟩
 obtain⟨e,U,w',X,Z⟩:=M _ s a w rfl h₀;exact⟨e,U,w',X,.of_steps (.one (fenced_calm hb hr rfl) stepR_loop) Z⟩
theorem UT{σ:Type}(I:σ→St→Prop)(m:σ→Nat){s:σ}(H:I s st)(y:∀s st,I s st→AWP P tp N m0 c st (Xh (fun Z =>∃V,I V Z ∧m V <m s) Q)):AWP P tp N m0 (.loop c) st Q:=by
 intro ro h0 base μ w a Zf h1 h2 h3 h4 h5;refine zk (σ:=σ) (fun s X w' =>∃Z μ',afj base μ' Z.mem w' ∧afE μ' Z.mem.length Z.env X.tmps∧X.tmps.size=N∧MOk P base h0 w' X.defers∧m0≤Z.mem.length∧
   Step m0 μ st.mem w μ' Z.mem w' ∧I s Z) m ?_ (s:=s) ⟨st,μ,h1,h2,h3,h4,h5,.refl h5,H⟩
 rintro s X w' ⟨Z,μ',b1,b2,b3,b4,b5,b6,b7⟩;refine wpIn_mono (y s Z b7 ro h0 base μ' w' X Zf b1 b2 b3 b4 b5) ?_;rintro e a2 w2 ⟨s2,μ2,c1,c2,c3,c4,c5,c6,c7⟩;cases e with
 |normal=>
  obtain⟨V,d1,d2⟩:=c7;exact⟨V,⟨s2,μ2,c1,c2,c3,c4,c5,b6.trans c6,d1⟩,d2⟩
 |_=>exact⟨s2,μ2,c1,c2,c3,c4,c5,b6.trans c6,c7⟩
def af2(m0:Nat)(st st1:St):Prop:=∀base μ w tmps,afj base μ st.mem w→afE μ st.mem.length st.env tmps→m0≤st.mem.length→
 ∃μ1,afj base μ1 st1.mem w∧afE μ1 st1.mem.length st1.env tmps∧m0≤st1.mem.length∧Step m0 μ st.mem w μ1 st1.mem w
theorem UW{st1:St}(y:af2 m0 st st1)(h:AWP P tp N m0 c st1 Q):AWP P tp N m0 c st Q:=by intro ro h0 base μ w a Zf h1 h2 h3 h4 h5;obtain⟨μ1,Z,X,V,U⟩:=y base μ w a.tmps h1 h2 h5;refine wpIn_mono (h ro h0 base μ1 w a Zf Z X h3 h4 V) ?_;rintro e a2 w2 ⟨s2,μ2,c1,c2,c3,c4,c5,c6,c7⟩;exact⟨s2,μ2,c1,c2,c3,c4,c5,U.trans c6,c7⟩
theorem af2.trans{s1 y H:St}(h:af2 m0 s1 y)(h' :af2 m0 y H):af2 m0 s1 H:=by intro base μ w tmps h1 h2 h3;obtain⟨μ1,Z,X,V,U⟩:=h base μ w tmps h1 h2 h3;obtain⟨μ2,S,R,O,M⟩:=h' base μ1 w tmps Z X V;exact⟨μ2,S,R,O,U.trans M⟩
theorem af2.env{env y:Env}{mem:Mem}(h:∀t,ab y t=ab env t∨ab y t=.undef):af2 m0 ⟨env,mem⟩ ⟨y,mem⟩:=by
 intro base μ w tmps h1 h2 h3;refine⟨μ,h1,fun t=>?_,h3,.refl h3⟩;rcases h t with e | e
 ·rw[e];exact h2 t
 ·rw[e];simp[ae5]
theorem AWP.ahx(h:AWP P tp N m0 c st Q')(hq:∀e s,Q' e s→∃Z,af2 m0 s Z∧Q e Z):AWP P tp N m0 c st Q:=by intro ro h0 base μ w a Zf h1 h2 h3 h4 h5;refine wpIn_mono (h ro h0 base μ w a Zf h1 h2 h3 h4 h5) ?_;rintro e a2 w2 ⟨s2,μ2,c1,c2,c3,c4,c5,c6,c7⟩;obtain⟨Z,X,hQ⟩:=hq e s2 c7;obtain⟨μ1,V,U,S,R⟩:=X base μ2 w2 a2.tmps c1 c2 c5;exact⟨Z,μ1,V,U,c3,c4,S,c6.trans R,hQ⟩
end
end Go.Eng
namespace Go.Eng
def rho(m0:Nat)(ks:List Nat)(b:Nat):Option Nat:=if b<m0 then some b else (ks.idxOf? b).map (m0+·)
def rW(ρ:Nat→Option Nat)(env:Env):Env:=env.map fun e=>(e.1,e.2.ren ρ)
def afb.ren(ρ:Nat→Option Nat):afb→afb
 |.qK=>.qK
 |.cells own es cs=>.cells own es (AV.afp ρ cs)
 |.map es=>.map (es.map fun e=>(e.1.ren ρ,e.2.ren ρ))
 |.afH es=>.afH (es.map fun e=>(e.1.ren ρ,e.2.ren ρ))
 |.loop r=>.loop { r with env:=rW ρ r.env }
def af0(m0:Nat)(ks:List Nat)(mem:Mem):Mem:=ks.map fun k=>(mem.getD k .qK).ren (rho m0 ks)
def afg(m0:Nat)(ks:List Nat)(mem:Mem):Mem:=(mem.take m0).map (afb.ren (rho m0 ks))++af0 m0 ks mem
def Ed(m0 n:Nat)(ks:List Nat):Bool:=decide ks.Nodup&&ks.all fun k=>decide (m0≤k∧k<n)
theorem ix(ρ:Nat→Option Nat):∀(env:Env) (t:Nat),ab (rW ρ env) t=(ab env t).ren ρ
 | [],t=>by simp[rW,ab,AV.ren]
 |(k,v)::r,t=>by
  simp only[rW,List.map_cons,ab];by_cases h:k=t
  ·simp[h]
  ·simp only[h,if_false];exact ix ρ r t
variable{ks:List Nat}{p:Place}
section
variable {μ:Nat→Place}{mem:Mem}{base:Nat}{w:World}
theorem afl.ren{μ μ' :Nat→Place}{n n' base:Nat}{w:World}{s:afb}{ρ:Nat→Option Nat}(hρ:∀b b',b<n→ρ b=some b' →b' <n' ∧μ' b' =μ b)(h:afl μ n base w p s):afl μ' n' base w p (s.ren ρ):=by
 cases s with
 |qK=>trivial
 |cells own es cs=>
  simp only[afl,afb.ren] at h ⊢;obtain⟨Q,e,C,Z,X,h3,R,B⟩:=h;refine⟨Q,e,C,Z,X,by rw[gE,List.length_map];exact h3,fun j v O=>?_,B⟩;rw[gE,List.getElem?_map] at O;simp only[Option.map_eq_some_iff] at O;obtain⟨v0,u,rfl⟩:=O;obtain⟨V,hV,o⟩:=R j v0 u;exact⟨V,hV,o.ren hρ⟩
 |map es=>
  simp only[afl,afb.ren] at h ⊢;obtain⟨N,M,Z,X,h3,R⟩:=h;refine⟨N,M,Z,X,by rw[List.length_map];exact h3,fun j e U=>?_⟩;rw[List.getElem?_map] at U;simp only[Option.map_eq_some_iff] at U;obtain⟨K,S,rfl⟩:=U;obtain⟨E,G,F,D⟩:=R j K S;exact⟨E,G,F.ren hρ,D.ren hρ⟩
 |afH es=>
  simp only[afl,afb.ren] at h ⊢;obtain⟨N,M,Z,X,h3,R⟩:=h;refine⟨N,M,Z,X,by rw[List.length_map];exact h3,fun j e U=>?_⟩;rw[List.getElem?_map] at U;simp only[Option.map_eq_some_iff] at U;obtain⟨K,S,rfl⟩:=U;obtain⟨E,G,F,D⟩:=R j K S;exact⟨E,G,F.ren hρ,D.ren hρ⟩
 |loop r=>
  simp only[afl,afb.ren] at h ⊢;obtain⟨L,Z,X,h3⟩:=h;exact⟨L,Z,X,{ h3 with tmps:=fun t=>by rw[ix];exact(h3.tmps t).ren hρ }⟩
theorem afb.agv(ρ:Nat→Option Nat)(s:afb):(s.ren ρ).own=s.own:=by cases s<;>rfl
theorem Ck{m0 n:Nat}(h:Ed m0 n ks=true):ks.Nodup∧∀k∈ks,m0≤k∧k<n:=by simp only[Ed,Bool.and_eq_true,decide_eq_true_eq,List.all_eq_true] at h;exact h
theorem ff{m0:Nat}(y:m0≤mem.length):(afg m0 ks mem).length=m0+ks.length:=by simp[afg,af0];omega
def ig(m0:Nat)(ks:List Nat)(b:Nat):Nat:=if b<m0 then b else ks.getD (b-m0) 0
theorem uC{m0:Nat}(y:m0≤mem.length)(hk:Ed m0 mem.length ks=true){b:Nat}{s:afb}(h:(afg m0 ks mem)[b]? =some s):
  ∃Z,mem[ig m0 ks b]? =some Z∧s=Z.ren (rho m0 ks):=by
 obtain⟨_,R⟩:=Ck hk;have Q:((mem.take m0).map (afb.ren (rho m0 ks))).length=m0:=by simp;omega
 unfold afg at h;by_cases V:b<m0
 ·rw[List.getElem?_append_left (by omega),List.getElem?_map,List.getElem?_take_of_lt V] at h
  simp only[Option.map_eq_some_iff] at h;obtain⟨Z,X,U⟩:=h;exact⟨Z,by simpa [ig,V] using X,U.symm⟩
 ·rw[List.getElem?_append_right (by omega),Q] at h
  unfold af0 at h;rw[List.getElem?_map] at h;simp only[Option.map_eq_some_iff] at h;obtain⟨k,X,U⟩:=h;have O:=List.mem_of_getElem? X;obtain⟨_,S⟩:=R k O;have N:mem[k]? =some mem[k]:=by simp[S]
  refine⟨mem[k],?_,?_⟩
  ·simp[ig,V,X,S]
  ·rw[←U];simp[List.getD,N]
theorem QE{m0:Nat}(hk:Ed m0 mem.length ks=true){x y:Nat}(H:x<m0+ks.length)(I:y<m0+ks.length)(h:ig m0 ks x=ig m0 ks y):x=y:=by
 obtain⟨Z,S⟩:=Ck hk;have U:∀z,¬z<m0→z<m0+ks.length→m0≤ks.getD (z-m0) 0:=by
  intro z X V;have R:z-m0<ks.length:=by omega
  have:ks.getD (z-m0) 0=ks[z-m0]:=by simp[R]
  rw[this];exact(S _ (by simp)).1
 unfold ig at h;by_cases X:x<m0<;>by_cases V:y<m0<;>simp only[X,V,if_true,if_false] at h
 ·exact h
 ·have:=U y V I;omega
 ·have:=U x X H;omega
 ·have Q :x-m0<ks.length:=by omega
  have O :y-m0<ks.length:=by omega
  have N:ks.getD (x-m0) 0=ks[x-m0]:=by simp[Q]
  have M:ks.getD (y-m0) 0=ks[y-m0]:=by simp[O]
  rw[N,M] at h;have:=(List.getElem_inj Z).1 h;omega
theorem afj.afg{m0:Nat}(I:afj base μ mem w)(H:m0≤mem.length)(hk:Ed m0 mem.length ks=true):
  afj base (fun b=>μ (ig m0 ks b)) (afg m0 ks mem) w∧
  (∀b X,b<mem.length→rho m0 ks b=some X →X <(Eng.afg m0 ks mem).length∧(fun b=>μ (ig m0 ks b)) X =μ b)∧
  Step m0 μ mem w (fun b=>μ (ig m0 ks b)) (Eng.afg m0 ks mem) w:=by
 obtain⟨D,Y⟩:=Ck hk;have hρ:∀b X,b<mem.length→rho m0 ks b=some X →X <(Eng.afg m0 ks mem).length∧(fun b=>μ (ig m0 ks b)) X =μ b:=by
  intro b X Q V;rw[ff H];unfold rho at V;by_cases Z:b<m0
  ·rw[if_pos Z] at V
   cases V;exact⟨by omega,by simp[ig,Z]⟩
  ·rw[if_neg Z] at V
   simp only[Option.map_eq_some_iff] at V;obtain⟨i,C,rfl⟩:=V;have N :=List.idxOf?_eq_some_iff.1 C;obtain⟨O,B,_⟩:=N;refine⟨by omega,?_⟩;simp only[ig];rw[if_neg (by omega)];have:ks.getD (m0+i-m0) 0=b:=by rw[Nat.add_sub_cancel_left];simp[O,B]
   rw[this]
 have U:∀x,ek (Eng.afg m0 ks mem) x→ek mem (ig m0 ks x)∧x<m0+ks.length:=by intro x M;obtain⟨s,G,u⟩:=M;have O:=gL G;rw[ff H] at O;obtain⟨S,Z,rfl⟩:=uC H hk G;exact⟨⟨S,Z,by rw[←afb.agv];exact u⟩,O⟩
 refine⟨⟨I.afe,fun b s o=>?_,fun x y s M F m j=>?_⟩,hρ,?_⟩
 ·obtain⟨S,Z,rfl⟩:=uC H hk o
  exact(I.slot _ S Z).ren hρ
 ·obtain⟨L,K⟩:=U x M
  have R:=gL F;rw[ff H] at R;obtain⟨S,Z,rfl⟩:=uC H hk F;refine I.sep _ _ S L Z ?_ fun e=>j (QE hk K R e)
  rintro rfl;exact m rfl
 ·refine⟨by rw[ff H];omega,fun b Q=>by simp[ig,Q],rfl,rfl,rfl,Nat.le_refl _,fun _ _ _=>rfl,fun b Q _=>?_,Nat.le_refl _⟩
  exact⟨_,(U b Q).1,rfl⟩
theorem af2.afg{m0:Nat}{env:Env}{mem:Mem}(ks:List Nat)(hk:Ed m0 mem.length ks=true):
  af2 m0 ⟨env,mem⟩ ⟨rW (rho m0 ks) env,afg m0 ks mem⟩:=by
 intro base μ w tmps h1 h2 h3;obtain⟨Z,X,V⟩:=h1.afg h3 hk;refine⟨_,Z,fun t=>?_,by rw[ff h3];omega,V⟩;rw[ix];exact(h2 t).ren X
end
mutual
theorem ae5.lower{μ μ' :Nat→Place}{n n' :Nat}(hμ:∀b,b<n→μ' b=μ b):∀{v V V'},ae5 μ n v V→ae5 μ' n' v V' →ae5 μ n v V'
 |.undef,_,_,_,_=>by simp[ae5]
 |.bool _,_,_,_,h=>by simpa [ae5] using h
 |.int _ _,_,_,_,h=>by simpa [ae5] using h
 |.str _,_,_,_,h=>by simpa [ae5] using h
 |.ptr b o,_,_,h,Z =>by simp only[ae5] at h Z ⊢;exact⟨h.1,by rw[←hμ b h.1];exact Z.2⟩
 |.afk,_,_,_,h=>by simpa [ae5] using h
 |.slice b o l c,_,_,h,Z =>by simp only[ae5] at h Z ⊢;exact⟨h.1,by rw[←hμ b h.1];exact Z.2⟩
 |.qF,_,_,_,h=>by simpa [ae5] using h
 |.map b,_,_,h,Z =>by simp only[ae5] at h Z ⊢;exact⟨h.1,by rw[←hμ b h.1];exact Z.2⟩
 |.yield b,_,_,h,Z =>by simp only[ae5] at h Z ⊢;exact⟨h.1,by rw[←hμ b h.1];exact Z.2⟩
 |.aft,_,_,_,h=>by simpa [ae5] using h
 |.func f R,_,_,h,Z =>by simp only[ae5] at h Z ⊢;obtain⟨Q,e,h⟩:=h;obtain⟨X,S,Z⟩:=Z;exact⟨X,S,ae7.lower hμ h Z⟩
 |.nilFunc,_,_,_,h=>by simpa [ae5] using h
 |.iface t v,_,_,h,Z =>by simp only[ae5] at h Z ⊢;obtain⟨U,e,h⟩:=h;obtain⟨O,S,Z⟩:=Z;exact⟨O,S,ae5.lower hμ h Z⟩
 |.nilIface,_,_,_,h=>by simpa [ae5] using h
 |.agg R,_,_,h,Z =>by simp only[ae5] at h Z ⊢;obtain⟨Q,e,h⟩:=h;obtain⟨X,S,Z⟩:=Z;exact⟨X,S,ae7.lower hμ h Z⟩
 |.tuple R,_,_,h,Z =>by simp only[ae5] at h Z ⊢;obtain⟨Q,e,h⟩:=h;obtain⟨X,S,Z⟩:=Z;exact⟨X,S,ae7.lower hμ h Z⟩
theorem ae7.lower{μ μ' :Nat→Place}{n n' :Nat}(hμ:∀b,b<n→μ' b=μ b):∀{vs Us Us'},ae7 μ n vs Us→ae7 μ' n' vs Us' →ae7 μ n vs Us'
 | [],_,_,_,h=>by simpa [ae7] using h
 |v::vs,_,_,h,h' =>by simp only[ae7] at h h' ⊢;obtain⟨U,N,e,V,S⟩:=h;obtain⟨R,Z,Q,O,X⟩:=h';exact⟨R,Z,Q,ae5.lower hμ V O,ae7.lower hμ S X⟩
end
theorem afl.lower{μ μ' :Nat→Place}{n n' base:Nat}{w w' :World}{s:afb}(hμ:∀b,b<n→μ' b=μ b)(h:afl μ n base w p s)(h' :afl μ' n' base w' p s):afl μ n base w' p s:=by
 cases s with
 |qK=>trivial
 |cells own es cs=>
  simp only[afl] at h h' ⊢;obtain⟨_,_,_,_,_,_,U,_⟩:=h;obtain⟨R,e,B,g1,g2,g3,g4,u⟩:=h';refine⟨R,e,B,g1,g2,g3,fun j v C=>?_,u⟩;obtain⟨V,_,o⟩:=U j v C;obtain⟨m,Q,O⟩:=g4 j v C;exact⟨m,Q,o.lower hμ O⟩
 |map es=>
  simp only[afl] at h h' ⊢;obtain⟨_,_,_,_,_,U⟩:=h;obtain⟨N,M,g1,g2,g3,g4⟩:=h';refine⟨N,M,g1,g2,g3,fun j e S=>?_⟩;obtain⟨E,_,K,G⟩:=U j e S;obtain⟨F,D,Z,X⟩:=g4 j e S;exact⟨F,D,K.lower hμ Z,G.lower hμ X⟩
 |afH es=>
  simp only[afl] at h h' ⊢;obtain⟨_,_,_,_,_,U⟩:=h;obtain⟨N,M,g1,g2,g3,g4⟩:=h';refine⟨N,M,g1,g2,g3,fun j e S=>?_⟩;obtain⟨E,_,K,G⟩:=U j e S;obtain⟨F,D,Z,X⟩:=g4 j e S;exact⟨F,D,K.lower hμ Z,G.lower hμ X⟩
 |loop r=>
  simp only[afl] at h h' ⊢;obtain⟨L,_,_,h3⟩:=h;obtain⟨Y,g1,g2,g3⟩:=h';exact⟨Y,g1,g2,{ g3 with tmps:=fun t=>(h3.tmps t).lower hμ (g3.tmps t) }⟩
theorem afj.swap{y:Nat}{μ:Nat→Place}{H I:Mem}{w:World}(h:afj y μ H w)(J:I.length=H.length)(hs:∀b X,I[b]? =some X→∃Z,H[b]? =some Z∧Z.own=X.own∧(Z=.qK→X=.qK)∧afl μ H.length y w (μ b) X):afj y μ I w:=by
 refine⟨h.afe,fun b s V=>?_,fun b U S V R Q O=>?_⟩
 ·obtain⟨Z,_,_,_,N⟩:=hs b s V;rw[J];exact N
 ·obtain⟨s,M,L⟩:=V
  obtain⟨Z,K,G,_,_⟩:=hs b s M;obtain⟨F,D,_,C,_⟩:=hs U S R;exact h.sep b U F ⟨Z,K,by rw[G];exact L⟩ D (fun e=>Q (C e)) O
end Go.Eng
namespace Go.Eng
def dv:Nat→List AV→Env
 |_,[]=>[]
 |i,v::vs=>(i,v)::dv (i+1) vs
def Xq(T:TypeId→Option TyI)(env:Env)(mem:Mem):ResultVar→Option AV
 |.tmp t=>some (ab env t)
 |.cell a t=>Qz T mem t (ab env a)
def yj(T:TypeId→Option TyI)(env:Env)(mem:Mem):List ResultVar→Option (List AV)
 | []=>some []
 |r::rs=>match Xq T env mem r,yj T env mem rs with
  |some v,some vs=>some (v::vs)
  |_,_=>none
def jg(T:TypeId→Option TyI)(y:List ResultVar)(env:Env)(mem:Mem):Option AV:=
 match yj T env mem y with
 |some [v]=>some v
 |some vs=>some (.tuple vs)
 |none=>none
def Fin(mem:Mem)(v:AV) (y :Mem)(R:AV→Mem→Prop):Prop:=
 ∃Z,Ed mem.length y.length Z=true∧
  ((y.take mem.length=mem∧R (v.ren (rho mem.length Z)) (mem++af0 mem.length Z y))∨R (v.ren (rho mem.length Z)) (afg mem.length Z y))
variable{fn:Func}{r:Nat}
section
variable {P:Program}{T:TypeId→Option TyI}{μ:Nat→Place}{mem:Mem}{base:Nat}{w:World}
theorem ya{n:Nat}{μ:Nat→Place}:∀{vs:List AV} {Vs:List Value} (i:Nat),ae7 μ n vs Vs→∀t,ae5 μ n (ab (dv i vs) t) (if t<i then undef else Vs.getD (t-i) undef)
 | [],Vs,i,h,t=>by simp[dv,ab,ae5]
 |v::vs,Vs,i,h,t=>by
  simp only[ae7] at h;obtain⟨U,R,rfl,V,S⟩:=h;simp only[dv,ab];by_cases Z:i=t
  ·subst Z;simpa using V
  ·simp only[Z,if_false]
   have:=ya (i+1) S t;by_cases X:t<i
   ·rw[if_pos (by omega)] at this;rw[if_pos X];exact this
   ·rw[if_neg (by omega)] at this
    rw[if_neg X];have e:t-i=(t-(i+1))+1:=by omega
    rw[e];simpa using this
def rvS(tmps:Array Value):ResultVar→Sem Value
 |.tmp t=>pure (tmps.getD t undef)
 |.cell a t=>do loadVar t (←asAddr (tmps.getD a undef))
theorem pq(hT:cW P T)(I:afj base μ mem w){env:Env}{tmps:Array Value}(y:afE μ mem.length env tmps):
  ∀{H:List ResultVar}{vs:List AV},yj T env mem H=some vs→∃X,ae7 μ mem.length vs X∧
   (H.mapM (rvS tmps)).run P w=.ok X w
 | [],vs,h=>by simp only[yj,Option.some.injEq] at h;subst h;exact⟨[],by simp[ae7],by simp⟩
 |r::H,vs,h=>by
  simp only[yj] at h;split at h
  ·rename_i v L Z K
   cases h;obtain⟨X,O,N⟩:=pq hT I y K;cases r with
   |tmp t=>
    simp only[Xq,Option.some.injEq] at Z;subst Z;exact⟨_::X,bK.2 ⟨y t,O⟩,by rw[List.mapM_cons,rvS,pure_bind,Sem.run_bind,N];rfl⟩
   |cell a t=>
    simp only[Xq] at Z;obtain⟨V,S,G⟩:=BM (P:=P) hT I (y a) Z;refine⟨V::X,bK.2 ⟨G,O⟩,?_⟩;have R:∃b o,ab env a=.ptr b o:=by
     unfold Qz at Z;split at Z
     next b o _ Q=>exact⟨b,o,Q⟩
     ·cases Z
    obtain⟨b,o,Q⟩:=R;have M:=y a;rw[Q] at M;have U:=M.ptr.2;rw[U] at S;simp only[Instr.loadAt,Instr.sureAddr,Sem.run_bind,Sem.run_pure,Result.andThen_ok] at S;rw[List.mapM_cons,rvS,U,Sem.run_bind];simp only[asAddr,pure_bind,S,Result.andThen_ok];rw[Sem.run_bind,N];rfl
  ·cases h
theorem tx(hT:cW P T)(y:afj base μ mem w){env:Env}{tmps:Array Value}(H:afE μ mem.length env tmps){v:AV}(h:jg T fn.results.toList env mem=some v):∃V,(results fn tmps).run P w=.ok V w∧ae5 μ mem.length v V:=by
 unfold jg at h;have run:∀Z,(fn.results.toList.mapM (rvS tmps)).run P w=.ok Z w→
   (results fn tmps).run P w=.ok (if h:Z.toArray.size=1 then Z.toArray[0] else .tuple Z.toArray) w:=by
  intro Z S;unfold results;rw[Array.mapM_eq_mapM_toList,Sem.run_bind,Sem.run_map];erw [S];rfl
 split at h
 ·rename_i M R
  cases h;obtain⟨Z,X,Q⟩:=pq hT y H R;simp only[ae7] at X;obtain⟨U,L,rfl,g3,rfl⟩:=X;exact⟨U,by rw[run _ Q];simp,g3⟩
 ·rename_i O N R
  cases h;obtain⟨Z,X,Q⟩:=pq hT y H R;refine⟨.tuple Z.toArray,?_,by simp only[ae5];exact⟨Z,rfl,X⟩⟩;rw[run _ Q];have:¬Z.toArray.size=1:=by
   have:=X.length;intro e;simp at e;rw[e] at this
   match O,this with
   | [x],_=>exact N x rfl
  rw[dif_neg this]
 ·cases h
theorem Al{P:Program}{w:World}(h:w.heap[r]? =some (.deferred (some []))):
  (Instr.takeDeferred r).run P w=.ok [] { w with heap:=w.heap.setIfInBounds r (.deferred none) }:=by
 have Z:(getObj r).run P w=.ok (.deferred (some [])) w:=by simp[getObj,Sem.run,h]
 have X:(setObj r (.deferred none)).run P w=.ok () { w with heap:=w.heap.setIfInBounds r (.deferred none) }:=sR h (by intro c e f;simp);simp only[Instr.takeDeferred,Sem.run_bind,Z,Result.andThen_ok];rw[X];rfl
theorem afj.shut{base:Nat}{μ:Nat→Place}{mem:Mem}{w:World}{r:Nat}{x y}(H:afj base μ mem w)(h:w.heap[r]? =some (.deferred x)):
  afj base μ mem { w with heap:=w.heap.setIfInBounds r (.deferred y) }:=by
 refine⟨by simpa using H.afe,fun b s Z=>?_,H.sep⟩;by_cases h0:s=.qK
 ·subst h0;trivial
 ·refine(H.slot b s Z).mono (Nat.le_refl _) (fun _ _=>rfl) fun _=>?_
  exact Array.getElem?_setIfInBounds_ne (Ne.symm (pX H h Z h0))
theorem Step.shut{m0:Nat}{μ μ' :Nat→Place}{mem mem' :Mem}{w w' :World}{o:Obj}(h:Step m0 μ mem w μ' mem' w')(hr:w.heap.size≤r):
  Step m0 μ mem w μ' mem' { w' with heap:=w'.heap.setIfInBounds r o }:=by
 refine⟨h.len,h.agree,h.os,h.tape,h.output,by simpa using h.size,fun k Z X=>?_,h.owner,h.drawn⟩;rw[←h.frame k Z X];exact Array.getElem?_setIfInBounds_ne (by omega)
theorem MOk.shut{P:Program}{base h0 r:Nat}{w:World}{ds:List Deferred}{o:Obj}(h:MOk P base h0 w ({ target:=.collected r,args:= #[] }::ds)):
  MOk P base h0 { w with heap:=w.heap.setIfInBounds r o } ds:=by
 have U:h0≤r:=by obtain⟨q,e,Z,_⟩:=h.each _ (List.mem_cons_self ..);cases e;exact Z
 refine⟨⟨h.agi.below,?_⟩,h.afe,by simpa using h.le,fun d V=>?_,?_⟩
 ·have:=h.agi.tab
  unfold Lib.TabIs at this ⊢;rw[←this];refine Pj fun k Q=>Array.getElem?_setIfInBounds_ne ?_
  have:=h.agi.below;have:=h.afe;omega
 ·obtain⟨q,e,Z,S⟩:=h.each d (by simp[V])
  refine⟨q,e,Z,?_⟩;have R:r≠q:=by intro X;have:=h.nodup;simp only[List.map_cons,List.nodup_cons,List.mem_map,not_exists] at this;exact this.1 d ⟨V,by rw[e,X]⟩
  show(w.heap.setIfInBounds r o)[q]? =_
  rw[Array.getElem?_setIfInBounds_ne R,S]
 ·have:=h.nodup
  simp only[List.map_cons,List.nodup_cons] at this;exact this.2
theorem rG{P:Program}{fn:Func}{tmps:Array Value}{R:Ending→World→Prop}{base m0:Nat}{μ μ0:Nat→Place}{mem mem0:Mem}{w0:World}:
  ∀(y:List Deferred) (w:World),MOk P base w0.heap.size w y→afj base μ mem w→Step m0 μ0 mem0 w0 μ mem w→
   (∀w',afj base μ mem w' →Step m0 μ0 mem0 w0 μ mem w' →∃v,(results fn tmps).run P w' =.ok v w' ∧R (.returned v) w')→
   LeavesInM (Fr none) 0 P fn tmps R y .returning w
 | [],w,_,hH,hS,hq=>hq w hH hS
 |d::y,w,hM,hH,hS,hq=>by obtain⟨r,rfl,X,Z⟩:=hM.each d (by simp);refine⟨by simp,.inl ⟨r,_,rfl,Al Z,?_⟩⟩;exact rG y _ hM.shut (hH.shut Z) (hS.shut X) hq
theorem afJ.intro(hT:cW P T){f:FuncId}{c:Code}{args:List AV}{mem:Mem}{R:AV→Mem→Prop}(hf:P.funcs[f]? =some fn)(y:fn.body=some c)(H:(fn.name == "runtime.NumGoroutine")=false)(hl:args.length≤fn.ntmps)(h:AWP P true fn.ntmps mem.length c ⟨dv 0 args,mem⟩ fun e X =>(e=.normal∨e=.ret)∧∃v,jg T fn.results.toList X.env X.mem=some v∧Fin mem v X.mem R):
  afJ P f args mem R:=by
 refine⟨⟨fn,hf,by simp[y],H⟩,fun base μ w Vs hG hH hV=>?_⟩;refine Ax.1 (callsIn_of_wp_marks (F:=Fr none) (n:=0) hf y trivial (wpIn_mono (h none w.heap.size base μ w _ (fun _=>rfl) hH ?_ ?_ (MOk.nil w hG hH.afe (Nat.le_refl _)) (Nat.le_refl _)) ?_) rfl)
 ·intro t
  have:=ya 0 hV t;simp only[Nat.not_lt_zero,if_false,Nat.sub_zero] at this;by_cases ht:t<Vs.length
  ·have e:(⟨Vs⟩++Array.replicate (fn.ntmps-(⟨Vs⟩:Array Value).size) undef:Array Value).getD t undef=Vs.getD t undef:=by simp only[Array.getD_eq_getD_getElem?];rw[Array.getElem?_append_left (by simpa using ht)];simp[List.getD]
   show ae5 μ mem.length (ab (dv 0 args) t) ((⟨Vs⟩++Array.replicate (fn.ntmps-(⟨Vs⟩:Array Value).size) undef:Array Value).getD t undef)
   rw[e];exact this
  ·have:ab (dv 0 args) t=.undef:=by
    have D:=hV.length;have:∀(N:List AV) (i:Nat),i+N.length≤t→ab (dv i N) t=.undef:=by
     intro N;induction N with
     |nil=>intro i _;rfl
     |cons v N ih=>
      intro i hi;simp only[List.length_cons] at hi;simp only[dv,ab];rw[if_neg (by omega)];exact ih (i+1) (by omega)
    exact this args 0 (by omega)
   show ae5 μ mem.length (ab (dv 0 args) t) _
   rw[this];simp[ae5]
 ·simp only[Array.size_append,List.size_toArray,Array.size_replicate,hV.length];omega
 ·rintro e a' w' ⟨X,μ',b1,b2,b3,b4,b5,b6,he,v,hv,ks,Y3,hR⟩
  have S:LeavesInM (Fr none) 0 P fn a'.tmps (fun e w' =>∃V v mem' μ',e=.returned V∧ae5 μ' mem'.length v V∧afj base μ' mem' w' ∧Step mem.length μ mem w μ' mem' w' ∧R v mem') a'.defers .returning w' :=by
   refine rG a'.defers w' b4 b1 b6 fun w2 o M=>?_
   obtain⟨V,m,C⟩:=tx (P:=P) (fn:=fn) hT o b2 hv;obtain⟨j,J,I⟩:=o.afg b5 Y3;refine⟨V,m,?_⟩;rcases hR with⟨B,hr⟩ | hr
   ·have D:(mem++af0 mem.length ks X.mem).length=(afg mem.length ks X.mem).length:=by rw[ff b5];simp[af0]
    have L:∀b Z,(mem++af0 mem.length ks X.mem)[b]? =some Z→∃K,(afg mem.length ks X.mem)[b]? =some K∧K.own=Z.own∧(K=.qK→Z=.qK)∧
      afl (fun b=>μ' (ig mem.length ks b)) (afg mem.length ks X.mem).length base w2 (μ' (ig mem.length ks b)) Z:=by
     intro b Z y;unfold afg;rw[B];by_cases Q:b<mem.length
     ·rw[List.getElem?_append_left Q] at y
      refine⟨Z.ren (rho mem.length ks),by rw[List.getElem?_append_left (by simpa using Q),List.getElem?_map,y];rfl,afb.agv _ _,?_,?_⟩
      ·intro h;cases Z<;>simp[afb.ren] at h ⊢
      ·have Y:ig mem.length ks b=b:=by simp[ig,Q]
       rw[Y];have G:=hH.slot b Z y;have O:=o.slot b Z (by rw[←y,←B,List.getElem?_take_of_lt Q]);rw[M.agree b Q] at O ⊢;have g3:=afl.lower (w' :=w2) (fun b y=>M.agree b y) G O;refine g3.mono ?_ (fun b y=>?_) fun _=>rfl
       ·simp[af0]
       ·show μ' (ig mem.length ks b)=μ b
        rw[show ig mem.length ks b=b by simp[ig,y],M.agree b y]
     ·have u :(afg mem.length ks X.mem)[b]? =some Z:=by unfold afg;rw[B,List.getElem?_append_right (by simp;omega)];rw[List.getElem?_append_right (by omega)] at y;simpa using y
      have:=j.slot b Z u;unfold afg at u this;rw[B] at u this;exact⟨Z,u,rfl,id,this⟩
    have W:=j.swap D L;refine⟨V,_,_,_,rfl,C.ren fun b b' G O=>?_,W,?_,hr⟩
    ·obtain⟨g3,g4⟩:=J b b' G O
     exact⟨by rw[D];exact g3,g4⟩
    ·have U:=M.trans I
     refine⟨by rw[D];exact U.len,U.agree,U.os,U.tape,U.output,U.size,U.frame,fun b y Q=>?_,U.drawn⟩;obtain⟨s,G,O⟩:=y;obtain⟨K,m,C,_,_⟩:=L b s G;exact U.owner b ⟨K,m,by rw[C];exact O⟩ Q
   ·exact⟨V,_,_,_,rfl,C.ren J,j,M.trans I,hr⟩
  rcases he with rfl | rfl
  ·exact S
  ·exact S
end
end Go.Eng
