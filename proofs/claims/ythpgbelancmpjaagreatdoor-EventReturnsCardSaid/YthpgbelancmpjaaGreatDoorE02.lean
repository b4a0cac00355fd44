/- See E54. -/
import Derived.Test.YthpgbelancmpjaaGreatDoorE01
import Derived.Lib.UnsafeStr
import Derived.RangeFuncLeaves
import Derived.OrdersIn
import Derived.TacticsIn
import Derived.Lib.ItoaNum
import Derived.Lib.LaidTab
set_option linter.all false
namespace Go.Eng
variable{V X:Value}{cs:List AV}{mem' :Mem}{v x:AV}
section
variable {P:Program}{T:TypeId→Option TyI}{μ:Nat→Place}{mem:Mem}{base:Nat}{w:World}
def afh(P:Program)(x:Sem Value)(base:Nat) (μ:Nat→Place)(mem:Mem)(w:World)(v:AV) (mem' :Mem):Prop:=
 ∃V w' μ',x.run P w=.ok V w' ∧aeg μ' mem'.length v V∧aes base μ' mem' w' ∧Step mem.length μ mem w μ' mem' w'
theorem afh.aeB{x:Sem Value}(H:aes base μ mem w)(h:Val P x w μ mem.length v):afh P x base μ mem w v mem:=by obtain⟨V,Z,U⟩:=h;exact⟨V,w,μ,Z,U,H,.refl (Nat.le_refl _)⟩
theorem sF(I:aes base μ mem w)(e:TypeId)(H:Array Value)(es:Nat)(J:1000≤es→e+1=es / 1000)(cs:List AV)(h:∀(j:Nat) v,cs[j]? =some v→∃V,H[j]? =some V∧aeg μ mem.length v V):
  aes base (upd μ mem.length ⟨w.heap.size,0,H.size,es%1000⟩) (mem++[.cells true es cs]) (w.alloc (.cells H e))∧
  Step mem.length μ mem w (upd μ mem.length ⟨w.heap.size,0,H.size,es%1000⟩) (mem++[.cells true es cs]) (w.alloc (.cells H e)):=by
 refine I.push _ _ _ rfl ?_;simp only[aeu];refine⟨H,e,(0,0),heap_alloc_new w _,⟨rfl,J⟩,?_,fun j v Z=>?_,fun _=>by simp;exact I.aep⟩
 ·rcases Nat.eq_zero_or_pos cs.length with h0 | h0
  ·omega
  ·obtain⟨V,hV,_⟩:=h (cs.length-1) cs[cs.length-1] (by simp)
   have:=(Array.getElem?_eq_some_iff.1 hV).1;omega
 ·obtain⟨V,hV,U⟩:=h j v Z
  exact⟨V,by simpa using hV,U.mono (Nat.le_succ _) fun b S=>wF S⟩
theorem xS{n:Nat}{vs:List AV}{cur Vs:List Value}{o:Nat}(I:o+vs.length≤cs.length)(h:∀(j:Nat) v,cs[j]? =some v→∃V,cur[j]? =some V∧aeg μ n v V)(H:aeh μ n vs Vs):
  ∀(j:Nat) v,(cs.take o++vs++cs.drop (o+vs.length))[j]? =some v→∃V,(cur.take o++Vs++cur.drop (o+Vs.length))[j]? =some V∧aeg μ n v V:=by
 have N:=H.length;have M:cs.length≤cur.length:=by
  rcases Nat.eq_zero_or_pos cs.length with h0 | h0
  ·omega
  ·obtain⟨V,hV,_⟩:=h (cs.length-1) cs[cs.length-1] (by simp)
   have:=gL hV;omega
 have S:(cs.take o).length=o:=by simp;omega
 have R:(cur.take o).length=o:=by simp;omega
 intro j v Z;rw[List.append_assoc] at Z ⊢;by_cases U:j<o
 ·rw[List.getElem?_append_left (by omega),List.getElem?_take_of_lt U] at Z
  rw[List.getElem?_append_left (by omega),List.getElem?_take_of_lt U];exact h j v Z
 ·rw[List.getElem?_append_right (by omega),S] at Z
  rw[List.getElem?_append_right (by omega),R];by_cases O:j-o<vs.length
  ·rw[List.getElem?_append_left O] at Z
   rw[List.getElem?_append_left (by omega)];exact H.get _ v Z
  ·rw[List.getElem?_append_right (by omega),List.getElem?_drop] at Z
   rw[List.getElem?_append_right (by omega),List.getElem?_drop];rw[show o+Vs.length+(j-o-Vs.length)=o+vs.length+(j-o-vs.length) by omega];exact h _ v Z
def Gj(T:TypeId→Option TyI)(e:TypeId)(i:TyI):Bool:=match i.desc with
 |.struct fs=>match fs[0]? with
  |some f=>match T f.type with
   |some k=>match k.desc with
    |.pointer e' =>e' ==e
    |_=>false
   |none=>false
  |none=>false
 |_=>false
def sV(T:TypeId→Option TyI)(mem:Mem)(e:TypeId):Option (AV×Mem):=
 match T e with
 |some i=>some (.ptr mem.length 0,mem++[.cells true (if Gj T e i then 1000*(e+1) else 0) (iU i.zero).cells])
 |none=>none
theorem yM(H:aes base μ mem w)(e:TypeId)(es:Nat)(I:1000≤es→e+1=es / 1000)(h:aeh μ mem.length cs V.cells.toList):
  afh P (do pure (.pointer (some (←newVar e V)))) base μ mem w (.ptr mem.length 0) (mem++[.cells true es cs]):=by
 obtain⟨Z,S⟩:=sF H e V.cells es I cs (fun j v R=>by obtain⟨U,O,N⟩:=h.get j v R;exact⟨U,by simpa using O,N⟩)
 refine⟨.pointer (some ⟨w.heap.size,0,none⟩),_,_,?_,?_,Z,S⟩
 ·simp only[newVar,newRow,Sem.run_bind,run_newObj,Result.andThen_ok,Sem.run_pure]
  rfl
 ·simp[aeg,eH]
theorem JD(hT:cK P T)(H:aes base μ mem w){e:TypeId}(h:sV T mem e=some (v,mem')):
  afh P (Instr.alloc e true (.tuple #[])) base μ mem w v mem' :=by
 unfold sV at h;split at h
 ·rename_i i Z
  cases h;have:=yM (P:=P) H e (if Gj T e i then 1000*(e+1) else 0) (by cases Gj T e i with | false=>simp | true=>simp only[if_true];intro _;rw[Nat.mul_div_cancel_left _ (by omega)]) (V:=i.zero) (jg μ mem.length i.zero);obtain⟨V,w',μ',U,S⟩:=this;refine⟨V,w',μ',?_,S⟩;simp only[Instr.alloc,Sem.run_bind,eJ hT Z,Result.andThen_ok];exact U
 ·cases h
def Wg(mem:Mem)(x:AV):Option (AV×Mem):=if x.known then some (.ptr mem.length 0,mem++[.cells true 0 x.cells]) else none
theorem Py(H:aes base μ mem w){e:TypeId}(I:aeg μ mem.length x X)(h:Wg mem x=some (v,mem')):
  afh P (Instr.box e X) base μ mem w v mem' :=by
 unfold Wg at h;split at h
 ·rename_i Z
  cases h;exact yM (P:=P) H e 0 (by omega) (I.cells Z)
 ·cases h
theorem JN(hT:cK P T)(I:aes base μ mem w){t:TypeId}(J:aeg μ mem.length x X)(H:aeg μ mem.length v V)(h:sW T mem t x v=some mem'):∃w',(Instr.storeAt t X V).run P w=.ok () w' ∧aes base μ mem' w' ∧Step mem.length μ mem w μ mem' w' :=by
 unfold sW at h;split at h
 ·rename_i i b o W
  split at h
  ·rename_i es cs N
   split at h
   ·rename_i C
    cases h;simp only[Bool.and_eq_true,decide_eq_true_eq,List.all_eq_true] at C;obtain⟨⟨⟨K,R⟩,YA⟩,XT⟩:=C;obtain⟨YS,rfl⟩:=J.ptr;have B:=I.slot b _ N;simp only[aeu] at B;obtain⟨Z,el,fr,A,g2,g3,m,g5⟩:=B;obtain⟨M,g7,g8,g9⟩:=g5 trivial;subst g7;have S:=H.cells K;have O:V.cells.size=i.size:=by rw[←Array.length_toList,S.length,R]
    have h1:∀u∈V.cells.toList,u.oneCell' =true:=by
     intro u G;obtain⟨j,Y⟩:=List.getElem?_of_mem G;have F :j<v.cells.length:=by rw[←S.length];exact(gL Y)
     obtain⟨U,L,D⟩:=S.get j v.cells[j] (by simp[F]);rw[Y] at L;cases L;exact D.afz (XT _ (by simp))
    have XL:=run_storeCells_at (P:=P) (μ b).blk o el V.cells.toList 0 Z w A (by rw[S.length,R];omega) h1;refine⟨w.setRow (μ b).blk (Z.toList.take (o+0)++V.cells.toList++Z.toList.drop (o+0+V.cells.toList.length)).toArray,?_,I.write N (jh N) (fun _=>⟨_,List.getElem?_set_self (gL N),rfl⟩) rfl rfl rfl rfl (by simp[World.setRow]) (fun k K=>setRow_other w _ k _ K) ?_⟩
    ·simp only[Instr.storeAt,Instr.sureAddr,Sem.run_bind,Sem.run_pure,Result.andThen_ok,storeVar,cD hT W,O,ne_eq,not_true_eq_false,if_false,M,Nat.zero_add]
     exact XL
    ·simp only[aeu]
     refine⟨_,el,(0,0),setRow_heap w (μ b).blk Z _ el (0,0) A,g2,?_,fun j u G=>?_,fun _=>⟨M,rfl,?_,g9⟩⟩
     ·simp only[List.length_append,List.length_take,List.length_drop,R];omega
     ·rw[M] at m
      have:=xS (cs:=cs) (vs:=v.cells) (Vs:=V.cells.toList) (o:=o) (cur:=Z.toList) (by rw[R];exact YA) (fun j v H=>by simpa using m j v H) S j u (by rw[R];exact G);obtain⟨U,L,D⟩:=this;refine⟨U,?_,D⟩;rw[M];simpa using L
     ·simp only[List.size_toArray,List.length_append,List.length_take,List.length_drop,Array.length_toList,O];omega
   ·cases h
  ·cases h
 ·cases h
end
end Go.Eng
namespace Go.Eng
section
variable {P:Program}{T:TypeId→Option TyI}{μ:Nat→Place}{mem:Mem}{base:Nat}{w:World}
def fS(z:List AV):Nat→List AV
 |0=>[]
 |k+1=>z++fS z k
theorem gK(z:List AV):∀k,(fS z k).length=k*z.length
 |0=>by simp[fS]
 |k+1=>by simp[fS,gK z k,Nat.add_mul,Nat.add_comm]
theorem sK{n:Nat}{z:List AV}{Z:Array Value}(hz:aeh μ n z Z.toList):∀(k:Nat) (j:Nat) v,(fS z k)[j]? =some v→
  ∃V,Z[j%Z.size]! =V∧aeg μ n v V∧j<k*Z.size
 |0,j,v,h=>by simp[fS] at h
 |k+1,j,v,h=>by
  have X:Z.size=z.length:=by rw[←Array.length_toList,hz.length]
  rw[fS] at h;by_cases S:j<z.length
  ·rw[List.getElem?_append_left S] at h
   obtain⟨V,hV,U⟩:=hz.get j v h;refine⟨V,?_,U,by rw[X,Nat.add_mul];omega⟩;rw[Nat.mod_eq_of_lt (by omega)];have:Z[j]? =some V:=by simpa using hV
   simp[getElem!_def,this]
  ·rw[List.getElem?_append_right (by omega)] at h
   obtain⟨V,hV,U,R⟩:=sK hz k (j-z.length) v h;refine⟨V,?_,U,by rw[X] at R ⊢;rw[Nat.add_mul];omega⟩;rw[←hV,X];congr 1;rw[Nat.mod_eq_sub_mod (by omega)]
theorem Ei{Z:Array Value}{m j:Nat}(h:j<m):((Array.range m).map (fun i=>Z[i%Z.size]!))[j]? =some (Z[j%Z.size]!):=by simp[h]
def fK(T:TypeId→Option TyI)(mem:Mem)(t:TypeId)(H:Nat)(parts:List (Nat×AV)):Option (AV×Mem):=
 match T t with
 |none=>none
 |some i=>
  match i.desc with
  |.slice e=>
   match T e with
   |none=>none
   |some j=>
    if H*j.size≤16777216∧0<j.size∧j.size<1000 then
     match pP (fun k=>some (k*j.size,j.size)) (fS (iU j.zero).cells H) parts with
     |some cs=>some (.slice mem.length 0 H none,mem++[.cells true j.size cs])
     |none=>none
    else none
  |_=>none
theorem xj(hT:cK P T)(hH:aes base μ mem w){t:TypeId}{H:Nat}{parts:List (Nat×AV)}{I:List (Nat×Value)}{v:AV}{J :Mem}(hp:I.map (·.1)=parts.map (·.1))(hv:aeh μ mem.length (parts.map (·.2)) (I.map (·.2)))(h:fK T mem t H parts=some (v,J)):
  afh P (Instr.buildSlice t H ⟨I⟩) base μ mem w v J :=by
 unfold fK at h;cases ht:T t with
 |none=>rw[ht] at h;cases h
 |some i=>
  rw[ht] at h;simp only at h;have B:=(hT t i ht).desc;split at h
  ·rename_i e F'
   rw[F'] at B;split at h
   ·cases h
   ·rename_i j L
    split at h
    ·rename_i A
     split at h
     ·rename_i cs o
      cases h;have Y:=jg μ mem.length j.zero;have R:=(hT e j L).afD;have O:(iU j.zero).cells.length=j.size:=by rw[←Y.length,Array.length_toList,R]
      have Y0:aeh μ mem.length (fS (iU j.zero).cells H) ((Array.range (H*j.size)).map (fun i=>j.zero.cells[i%j.zero.cells.size]!)).toList:=by
       refine aeh.afe (by simp[gK,O]) fun q u K=>?_
       obtain⟨V,G,F,h3⟩:=sK Y H q u K;refine⟨V,?_,F⟩;have:=Ei (Z:=j.zero.cells) (m:=H*j.size) (j:=q) (by rw[R] at h3;exact h3);rw[G] at this;rw[Array.getElem?_toList];exact this
      obtain⟨W,hF,N⟩:=so o Y0 hp hv;obtain⟨G,F⟩:=sF hH e ⟨W⟩ j.size (by omega) cs (fun q u K=>by obtain⟨U,hU,hr⟩:=N.get q u K;exact⟨U,by simpa using hU,hr⟩)
      have H':W.length=H*j.size:=by
       rw[N.length];have:∀{pl:Nat→Option (Nat×Nat)}{M:List (Nat×AV)}{a b:List AV},pP pl a M=some b→b.length=a.length:=by
        intro pl M;induction M with
        |nil=>intro a b X;simp only[pP,Option.some.injEq] at X;rw[X]
        |cons p M ih=>
         obtain⟨pi,pv⟩:=p;intro a b X;rw[pP] at X;cases hpl:pl pi with
         |none=>rw[hpl] at X;cases X
         |some os=>
          obtain⟨off,size⟩:=os;rw[hpl] at X;simp only at X;split at X
          ·rename_i D
           simp only[Bool.and_eq_true,decide_eq_true_eq] at D;rw[ih X];simp only[List.length_append,List.length_take,List.length_drop];omega
          ·cases X
       rw[this o,gK,O]
      refine⟨.slice (some ⟨w.heap.size,0,none⟩) H H,_,_,?_,?_,G,F⟩
      ·simp only[Instr.buildSlice,Sem.run_bind,run_underlying B,Result.andThen_ok,cD hT L]
       rw[if_neg (by omega)];have S :=hF;rw[show(⟨((Array.range (H*j.size)).map (fun i=>j.zero.cells[i%j.zero.cells.size]!)).toList⟩:Array Value)=(Array.range (H*j.size)).map (fun i=>j.zero.cells[i%j.zero.cells.size]!) from rfl] at S;by_cases C:H*j.size=0
       ·rw[if_pos C]
        rw[C] at S ⊢;simp only[Sem.run_bind,Sem.run_pure,Result.andThen_ok,Array.range_zero',Array.map_empty] at S ⊢;rw[S];simp only[newRow,Sem.run_bind,run_newObj,Result.andThen_ok,Sem.run_pure];rfl
       ·rw[if_neg C]
        simp only[Sem.run_bind,Sem.run_pure,Result.andThen_ok,eJ hT L];rw[S];simp only[newRow,Sem.run_bind,run_newObj,Result.andThen_ok,Sem.run_pure];rfl
      ·simp only[aeg,eH,jF,List.length_append,List.length_singleton]
       refine⟨by omega,?_⟩;simp only[Nat.sub_zero,H',List.size_toArray,Nat.mod_eq_of_lt A.2.2,Nat.mul_div_cancel _ A.2.1]
     ·cases h
    ·cases h
  ·cases h
end
variable{n:Int}
theorem af(h0: -9223372036854775808≤n:=by omega)(Z:n≤9223372036854775807:=by omega):IntKind.i64.wrap n=n:=by simp only[IntKind.wrap,IntKind.bits,IntKind.signed,Bool.true_and,ge_iff_le,decide_eq_true_eq,Nat.reduceSub];split<;>omega
theorem cf(h0:0≤n)(h1:n≤18446744073709551615):IntKind.u64.wrap n=n:=by simp only[IntKind.wrap,IntKind.bits,IntKind.signed,Bool.false_and,Bool.false_eq_true,if_false];omega
section
variable {P:Program}{T:TypeId→Option TyI}{μ:Nat→Place}{mem:Mem}{base:Nat}{w:World}
def kj(T:TypeId→Option TyI)(mem:Mem)(t:TypeId)(l c:AV):Option (AV×Mem):=
 match T t with
 |none=>none
 |some i=>
  match i.desc,l,c with
  |.slice e,.int _ l,.int _ c=>
   match T e with
   |none=>none
   |some j=>
    if 0≤l∧l≤c∧(j.bytes:Int)*c≤281474976710656∧c≤281474976710656∧0<j.size∧j.size<1000 then
     some (.slice mem.length 0 l.toNat none,mem++[.cells true j.size (fS (iU j.zero).cells l.toNat)])
    else none
  |_,_,_=>none
theorem zz(hT:cK P T)(I:aes base μ mem w){t:TypeId}{l c v:AV}{L C:Value}{H :Mem}(J:aeg μ mem.length l L)(hc:aeg μ mem.length c C)(h:kj T mem t l c=some (v,H)):
  afh P (Instr.makeSlice t L C) base μ mem w v H :=by
 unfold kj at h;cases ht:T t with
 |none=>rw[ht] at h;cases h
 |some i=>
  rw[ht] at h;simp only at h;have F:=(hT t i ht).desc;split at h
  ·rename_i e k1 l k2 c B
   rw[B] at F;split at h
   ·cases h
   ·rename_i j S
    split at h
    ·rename_i R
     obtain⟨g1,g2,g3,g4,A,o⟩:=R;cases h;rw[J.int,hc.int];have D:=jg μ mem.length j.zero;have X:=(hT e j S).afD;have Y:(iU j.zero).cells.length=j.size:=by rw[←D.length,Array.length_toList,X]
     obtain⟨f,W,hfs,U,hfz⟩:=yR hT S w;have w1:IntKind.i64.wrap l=l:=af;have w2:IntKind.i64.wrap c=c:=af;obtain⟨h1,h2⟩:=sF I e ((Array.range (c.toNat*j.size)).map (fun i=>j.zero.cells[i%j.zero.cells.size]!)) j.size (by omega) (fS (iU j.zero).cells l.toNat) (fun q u hu=>by obtain⟨V,e1,e2,e3⟩:=sK D _ q u hu;refine⟨V,?_,e2⟩;rw[X] at e3;have XY:l.toNat*j.size≤c.toNat*j.size:=Nat.mul_le_mul_right _ (by omega);have:=Ei (Z:=j.zero.cells) (m:=c.toNat*j.size) (j:=q) (by omega);rw[e1] at this;exact this)
     refine⟨.slice (some ⟨w.heap.size,0,none⟩) l.toNat c.toNat,_,_,?_,?_,h1,h2⟩
     ·have hb:¬(281474976710656<(f.bytes:Int)*c):=by rw[U];omega
      have Yv:¬((f.bytes:Int)*c>2 ^ 48):=by rw[U];omega
      have O:¬c<0:=by omega
      have N:¬l<0:=by omega
      have M:¬l>c:=by omega
      simp only[Instr.makeSlice,Sem.run_bind,run_underlying F,asInt,asIntOf,Sem.run_pure,Result.andThen_ok,W,w1,w2];have XJ:((decide (c<0)||decide ((f.bytes:Int)*c>2 ^ 48))||decide (l<0)||decide (l>c))=false:=by simp[O,N,M,hb]
      simp only[XJ,Bool.false_eq_true,if_false];have K:∀n,(askRoom n).run P w=.ok () w:=by intro n;unfold askRoom;split<;>simp[mark,Sem.run]
      simp only[Sem.run_bind,K,Result.andThen_ok,cD hT S];by_cases G:c.toNat*j.size=0
      ·rw[if_pos G]
       rw[G];simp only[Sem.run_bind,Sem.run_pure,Result.andThen_ok,Array.range_zero',Array.map_empty,newRow,run_newObj];rfl
      ·rw[if_neg G]
       simp only[Sem.run_bind,Sem.run_pure,Result.andThen_ok,eJ hT S,newRow,run_newObj];rfl
     ·simp only[aeg,eH,jF,List.length_append,List.length_singleton]
      refine⟨by omega,?_⟩;simp only[Nat.sub_zero,Array.size_map,Array.size_range,Nat.mod_eq_of_lt o,Nat.mul_div_cancel _ A]
    ·cases h
  ·cases h
def mq(T:TypeId→Option TyI)(mem:Mem)(H:Nat)(t2:TypeId):AV→Option (Nat×List AV)
 |.qF=>some (0,[])
 |.slice b o m _=>match mem[b]? with
  |some (.cells _ _ cs)=>if o+m*H≤cs.length then some (m,(cs.drop o).take (m*H)) else none
  |_=>if m=0 then some (0,[]) else none
 |.str s=>match T t2 with
  |some i=>match i.desc with
   |.string=>if H=1 then some (s.length,s.map fun c=>.int .u8 c.toNat) else none
   |_=>none
  |none=>none
 |_=>none
def zJ(i:TyI):Bool:=match i.desc with
 |.slice _=>true
 |.string=>true
 |_=>false
def xQ(j:TyI)(e:TypeId):Nat:=match j.desc with
 |.int .u8=>j.size+1000*(e+1)
 |_=>j.size
def oJ(T:TypeId→Option TyI)(mem:Mem)(t t2:TypeId)(s x:AV):Option (AV×Mem):=
 match T t with
 |none=>none
 |some i=>
  match i.desc with
  |.slice e=>
   match T e,T t2 with
   |some j,some i2=>
    if j.size=0∨1000≤j.size∨zJ i2=false then none else
    match mq T mem j.size t2 x with
    |none=>none
    |some (m,news)=>
     if news.all AV.aei=true then
      match s with
      |.qF=>
       if m=0 then some (.qF,mem)
       else if m*j.bytes≤140737488355328∧m≤140737488355328 then some (.slice mem.length 0 m none,mem++[.cells true (xQ j e) news])
       else none
      |.slice b 0 n none=>
       match mem[b]? with
       |some (.cells true es cs)=>
        if (es=j.size∨es=xQ j e)∧n*j.size≤cs.length∧(n+m)*j.bytes≤140737488355328∧n+m≤140737488355328 then
         some (.slice mem.length 0 (n+m) none,mem.set b .qK++[.cells true es (cs.take (n*j.size)++news)])
        else none
       |_=>none
      |_=>none
     else none
   |_,_=>none
  |_=>none
theorem tf(J:aes base μ mem w){H:Nat}{t2:TypeId}{x:AV}{X:Value}{m:Nat}{news:List AV}(I:aeg μ mem.length x X)(h:mq T mem H t2 x=some (m,news)):
  ∃V,aeh μ mem.length news V∧news.length=m*H∧(Builtin.lenOf X).run P w=.ok m w∧
   ∀w',(∀a,w'.cell? a=w.cell? a)→(Builtin.firstCells H m X).run P w' =.ok ⟨V⟩ w' :=by
 unfold mq at h;split at h
 ·cases h
  simp only[aeg] at I;subst I;exact⟨[],by simp[aeh],by simp,by simp[Builtin.lenOf],fun w' _=>by simp[Builtin.firstCells]⟩
 ·rename_i b o k c
  split at h
  ·rename_i own es D R
   split at h
   ·rename_i O
    cases h;obtain⟨N,rfl⟩:=I.slice;obtain⟨U,M,L,h3⟩:=J.cells R O;refine⟨U,M,by simp;omega,by simp[Builtin.lenOf],fun w' S=>?_⟩;exact run_firstCells_some w' H m _ _ _ U L (fun j v Z=>by rw[S];exact h3 j v Z)
   ·cases h
  ·split at h
   ·rename_i K
    cases h;subst K;obtain⟨N,rfl⟩:=I.slice;refine⟨[],by simp[aeh],by simp,by simp[Builtin.lenOf],fun w' S=>?_⟩;exact run_firstCells_some w' H 0 _ _ _ [] (by simp) (fun j v Z=>by simp at Z)
   ·cases h
 ·rename_i s
  split at h
  ·split at h
   ·split at h
    ·rename_i G
     cases h;subst G;rw[I.str];refine⟨s.map fun c=>.int .u8 c.toNat,?_,by simp,by simp[Builtin.lenOf,si],fun w' _=>?_⟩
     ·refine aeh.afe (by simp) fun i v Z=>?_
      simp only[List.getElem?_map,Option.map_eq_some_iff] at Z ⊢;obtain⟨c,F,rfl⟩:=Z;exact⟨_,⟨c,F,rfl⟩,by simp[aeg]⟩
     ·simp only[Builtin.firstCells,Sem.run_pure,Result.ok.injEq,and_true]
      have:(ByteArray.mk s.toArray).extract 0 s.length=⟨s.toArray⟩:=by apply ByteArray.ext;apply Array.ext';simp[List.extract]
      rw[this];simp
    ·cases h
   ·cases h
  ·cases h
 ·cases h
end
end Go.Eng
namespace Go.Eng
variable{b:Nat}{j:TyI}
section
variable {P:Program}{T:TypeId→Option TyI}{μ:Nat→Place}{mem:Mem}{base:Nat}{w:World}
section
variable (hT:cK P T){t t2 ty e:TypeId}(hd:P.underlying t=some (.slice e))(hj:T e=some j)(ht2:(∃e2,P.underlying t2=some (.slice e2))∨P.underlying t2=some .string)(bs:Option Addr)
include hT t t2 ty e hd hj ht2 bs
theorem uo(n c m:Nat)(X:Value)(w:World)(H:(Builtin.lenOf X).run P w=.ok m w)(I:n+m≤c):
  (Builtin.append_ #[t,t2] ty #[.slice bs n c,X]).run P w=
   ((Builtin.firstCells j.size m X).run P w).andThen fun V w' =>match bs with
    |some a=>((storeCells (a.add (n*j.size)) V.toList).run P w').andThen fun _ U =>.ok (.slice bs (n+m) c) U
    |none=>.ok (.slice bs (n+m) c) w' :=by
 rcases ht2 with⟨S,Z⟩ | Z<;>
  simp[Builtin.append_,run_underlying hd,run_underlying Z,cD hT hj,H,I]<;>cases bs<;>simp
theorem Be(n c m:Nat)(X:Value)(w:World)(Os Ns:List Value)(H:(Builtin.lenOf X).run P w=.ok m w)(I:c<n+m)(J:(n+m)*j.bytes≤140737488355328)(hm:n+m≤140737488355328)(W:(Builtin.firstCells j.size n (.slice bs n c)).run P w.drew=.ok ⟨Os⟩ w.drew)(Y:(Builtin.firstCells j.size m X).run P w.drew=.ok ⟨Ns⟩ w.drew):
  ∃V,n+m≤V∧(Builtin.append_ #[t,t2] ty #[.slice bs n c,X]).run P w=
   .ok (.slice (some ⟨w.heap.size,0,none⟩) (n+m) V) (w.drew.alloc (.cells (⟨Os⟩++(⟨Ns⟩++Builtin.zeroCells j.zero.cells (V-(n+m)))) e)):=by
 obtain⟨f,K,U,S,R⟩:=(hT e j hj).info;have O:¬(n+m≤c):=by omega
 have N:¬(9223372036854775807<((n:Int)+(m:Int))):=by omega
 have M:¬(281474976710656<Builtin.nextslicecap (n+m) c*f.bytes):=by have:=growslice_fits I (bytes:=f.bytes) (by rw[S];exact J);omega
 have L:∀n w,(askRoom n).run P w=.ok () w:=by intro n w;unfold askRoom;split<;>simp[mark,Sem.run]
 refine⟨grownCap w (n+m) c e,grownCap_ge w (n+m) c e,?_⟩;rcases ht2 with⟨G,Z⟩ | Z<;>
  simp[Builtin.append_,run_underlying hd,run_underlying Z,sizeOf,typeInfo,zeroValue,K,U,R,H,O,N,M,Question.forced,W,Y,newRow,grownCap,L]
end
theorem aes.drop{s:aek}(H:aes base μ mem w)(I:mem[b]? =some s):aes base μ (mem.set b .qK) w:=by
 have R:b<mem.length:=gL I;have own:∀x,dQ (mem.set b .qK) x→dQ mem x∧x≠b:=by
  intro x V;by_cases Z:x=b
  ·subst Z
   obtain⟨M,X,O⟩:=V;rw[List.getElem?_set_self R] at X;cases X;cases O
  ·obtain⟨M,X,O⟩:=V
   rw[List.getElem?_set_ne (Ne.symm Z)] at X;exact⟨⟨M,X,O⟩,Z⟩
 refine⟨H.aep,fun x t U=>?_,fun x L t V S K N=>?_⟩
 ·rw[List.length_set]
  by_cases Z:x=b
  ·subst Z;rw[List.getElem?_set_self R] at U;cases U;trivial
  ·rw[List.getElem?_set_ne (Ne.symm Z)] at U;exact H.slot x t U
 ·by_cases Z:L =b
  ·subst Z;rw[List.getElem?_set_self R] at S;cases S;exact absurd rfl K
  ·rw[List.getElem?_set_ne (Ne.symm Z)] at S
   exact H.sep x L t (own x V).1 S K N
theorem Step.drop{m0:Nat}{μ:Nat→Place}{mem:Mem}{w:World}(h:m0≤mem.length):Step m0 μ mem w μ (mem.set b .qK) w:=by
 refine⟨by simpa using h,fun _ _=>rfl,rfl,rfl,rfl,Nat.le_refl _,fun _ _ _=>rfl,fun x V _=>⟨x,?_,rfl⟩,Nat.le_refl _⟩;by_cases S:x=b
 ·subst S
  by_cases R:x<mem.length
  ·obtain⟨U,Z,X⟩:=V
   rw[List.getElem?_set_self R] at Z;cases Z;cases X
  ·obtain⟨U,Z,X⟩:=V
   have:=gL Z;simp at this;omega
 ·obtain⟨U,Z,X⟩:=V
  rw[List.getElem?_set_ne (Ne.symm S)] at Z;exact⟨U,Z,X⟩
theorem aes.rename{es:Nat}{cs H :List AV}{w' :World}(hH:aes base μ mem w)(hb:mem[b]? =some (.cells true es cs))(I:w'.drawn=w.drawn)(J:w'.os=w.os)(W:w'.tape=w.tape)(Y:w'.output=w.output)(Yq:w'.heap.size=w.heap.size)(aa9:∀k,k≠(μ b).blk→w'.heap[k]? =w.heap[k]?)(hs:aeu μ mem.length base w' (μ b) (.cells true es H)):
  aes base (upd μ mem.length (μ b)) (mem.set b .qK++[.cells true es H]) w' ∧
  Step mem.length μ mem w (upd μ mem.length (μ b)) (mem.set b .qK++[.cells true es H]) w' :=by
 have G:b<mem.length:=gL hb;have F:dQ mem b:=jh hb;have hw:=hH.write (s' :=.cells true es H) hb F (fun _=>⟨_,List.getElem?_set_self G,rfl⟩) I J W Y Yq aa9 hs;have hμ:∀x,x<mem.length→upd μ mem.length (μ b) x=μ x:=fun x V=>wF V
 have H':(mem.set b .qK).length=mem.length:=by simp
 have own:∀x,dQ (mem.set b .qK++[.cells true es H]) x→(x<mem.length∧x≠b∧dQ mem x)∨x=mem.length:=by
  intro x V;by_cases U:x<mem.length
  ·refine .inl ⟨U,?_⟩
   have D :dQ (mem.set b .qK) x:=by obtain⟨M,Z,O⟩:=V;rw[List.getElem?_append_left (by omega)] at Z;exact⟨M,Z,O⟩
   by_cases S:x=b
   ·subst S
    obtain⟨M,Z,O⟩:=D;rw[List.getElem?_set_self G] at Z;cases Z;cases O
   ·refine⟨S,?_⟩
    obtain⟨M,Z,O⟩:=D;rw[List.getElem?_set_ne (Ne.symm S)] at Z;exact⟨M,Z,O⟩
  ·refine .inr ?_
   obtain⟨M,Z,O⟩:=V;have:=gL Z;simp at this;omega
 constructor
 ·refine⟨hw.1.aep,fun x t X=>?_,fun x L t V D A K=>?_⟩
  ·rw[List.length_append,List.length_singleton,H']
   by_cases U:x<mem.length
   ·rw[List.getElem?_append_left (by omega)] at X
    rw[hμ x U];by_cases S:x=b
    ·subst S;rw[List.getElem?_set_self G] at X;cases X;trivial
    ·rw[List.getElem?_set_ne (Ne.symm S)] at X
     have:=hw.1.slot x t (by rw[List.getElem?_set_ne (Ne.symm S)];exact X);rw[List.length_set] at this;exact this.mono (Nat.le_succ _) hμ fun _=>rfl
   ·have u:x=mem.length:=by have:=gL X;simp at this;omega
    subst u;rw[List.getElem?_append_right (by omega),H'] at X;simp at X;subst X;rw[eH];exact hs.mono (Nat.le_succ _) hμ fun _=>rfl
  ·have o:∀y s,(mem.set b .qK++[.cells true es H])[y]? =some s→s≠ .qK→(y<mem.length∧y≠b∧mem[y]? =some s)∨y=mem.length:=by
    intro y s N m;by_cases hyl:y<mem.length
    ·rw[List.getElem?_append_left (by omega)] at N
     by_cases R:y=b
     ·subst R;rw[List.getElem?_set_self G] at N;cases N;exact absurd rfl m
     ·rw[List.getElem?_set_ne (Ne.symm R)] at N;exact .inl ⟨hyl,R,N⟩
    ·exact .inr (by have:=gL N;simp at this;omega)
   rcases own x V with⟨C,a2,B⟩ | rfl<;>rcases o L t D A with⟨b1,b2,b3⟩ | rfl
   ·rw[hμ x C,hμ L b1];exact hH.sep x L t B b3 A K
   ·rw[hμ x C,eH];exact hH.sep x b _ B hb (by simp) a2
   ·rw[hμ L b1,eH];exact hH.sep b L t F b3 A (Ne.symm b2)
   ·exact absurd rfl K
 ·refine⟨by simp,hμ,J,W,Y,by omega,fun k hk hf=>aa9 k fun he=>hf b F he.symm,fun x V XM =>?_,Nat.le_of_eq I.symm⟩
  rcases own x V with⟨C,_,B⟩ | rfl
  ·exact⟨x,B,by rw[hμ x C]⟩
  ·exact⟨b,F,by rw[eH]⟩
end
end Go.Eng
namespace Go.Eng
section
variable {P:Program}{T:TypeId→Option TyI}{μ:Nat→Place}{mem:Mem}{base:Nat}{w:World}
theorem aes.drew(h:aes base μ mem w):aes base μ mem w.drew:=h.afg rfl
theorem aeh.aeZ{n:Nat}{vs:List AV}{Vs:List Value}(h:aeh μ n vs Vs)(H:vs.all AV.aei=true):∀u∈Vs,u.oneCell' =true:=by
 intro u V;obtain⟨j,Z⟩:=List.getElem?_of_mem V;have S:j<vs.length:=by rw[←h.length];exact(gL Z)
 obtain⟨U,X,R⟩:=h.get j vs[j] (by simp[S]);rw[Z] at X;cases X;exact R.afz (List.all_eq_true.1 H _ (by simp))
theorem Gf{j:TyI}{e:TypeId}(h:j.size<1000):xQ j e%1000=j.size∧(1000≤xQ j e→e+1=xQ j e / 1000):=by
 unfold xQ;split
 ·refine⟨by rw[Nat.add_mul_mod_self_left,Nat.mod_eq_of_lt h],fun _=>by rw[Nat.add_mul_div_left _ _ (by omega),Nat.div_eq_of_lt h,Nat.zero_add]⟩
 ·exact⟨Nat.mod_eq_of_lt h,fun Z=>by omega⟩
theorem MW(hH:aes base μ mem w){e:TypeId}{H need I es:Nat}(J:es%1000=H∧(1000≤es→e+1=es / 1000)){olds news:List AV}{Os Ns:List Value}{z:Array Value}(h0:0<H)(hz:z.size=H)(W:aeh μ mem.length olds Os)(Y:aeh μ mem.length news Ns)(hl:olds.length+news.length=need*H)(hnc:need≤I){x:Sem Value}(hx:x.run P w=.ok (.slice (some ⟨w.heap.size,0,none⟩) need I) (w.drew.alloc (.cells (⟨Os⟩++(⟨Ns⟩++Builtin.zeroCells z (I-need))) e))):
  afh P x base μ mem w (.slice mem.length 0 need none) (mem++[.cells true es (olds++news)]):=by
 have X:(⟨Os⟩++(⟨Ns⟩++Builtin.zeroCells z (I-need)):Array Value).size=I*H:=by simp only[Array.size_append,List.size_toArray,size_zeroCells,hz,W.length,Y.length];rw[←Nat.add_assoc,hl,←Nat.add_mul];congr 1;omega
 obtain⟨V,S⟩:=sF hH.drew e (⟨Os⟩++(⟨Ns⟩++Builtin.zeroCells z (I-need))) es J.2 (olds++news) (fun j v R=>by obtain⟨U,Z,O⟩:=(W.append Y).get j v R;refine⟨U,?_,O⟩;have N:j<(Os++Ns).length:=gL Z;rw[←Array.append_assoc,Array.getElem?_append_left (by simpa using N)];simpa using Z)
 refine⟨_,_,_,hx,?_,V,?_⟩
 ·simp only[aeg,eH,jF,List.length_append,List.length_singleton,World.size_drew]
  refine⟨by omega,?_⟩;rw[Nat.sub_zero,X,J.1,Nat.mul_div_cancel _ h0]
 ·exact(Step.drew (m0:=mem.length) (Nat.le_refl _)).trans S
theorem Fw(hT:cK P T)(I:aes base μ mem w){t t2 ty:TypeId}{s x v:AV}{S X:Value}{H :Mem}(hs:aeg μ mem.length s S)(hx:aeg μ mem.length x X)(h:oJ T mem t t2 s x=some (v,H)):
  afh P (Builtin.append_ #[t,t2] ty #[S,X]) base μ mem w v H :=by
 unfold oJ at h;cases ht:T t with
 |none=>rw[ht] at h;cases h
 |some i=>
  rw[ht] at h;simp only at h;have C:=(hT t i ht).desc;split at h
  ·rename_i e F'
   rw[F'] at C;split at h
   ·rename_i j i2 B hi2
    split at h
    ·cases h
    ·rename_i XJ
     have N:=(hT t2 i2 hi2).desc;have M:(∃A,P.underlying t2=some (.slice A))∨P.underlying t2=some .string:=by
      have XT:zJ i2=true:=by
       cases Y:zJ i2 with
       |true=>rfl
       |false=>exact absurd (.inr (.inr Y)) XJ
      unfold zJ at XT;split at XT
      next A Y=>rw[Y] at N;exact .inl ⟨A,N⟩
      next Y=>rw[Y] at N;exact .inr N
      ·cases XT
     have Yq:0<j.size:=by
      rcases Nat.eq_zero_or_pos j.size with h0 | h0
      ·exact absurd (.inl h0) XJ
      ·exact h0
     have G:j.size<1000:=by
      rcases Nat.lt_or_ge j.size 1000 with h0 | h0
      ·exact h0
      ·exact absurd (.inr (.inl h0)) XJ
     have W:=(hT e j B).afD;split at h
     ·cases h
     ·rename_i m Z abU
      split at h
      ·rename_i P'
       obtain⟨K,J,g2,g3,g4⟩:=tf (P:=P) I hx abU;split at h
       ·
        simp only[aeg] at hs;subst hs;split at h
        ·rename_i hm
         cases h;subst hm;have O:=uo hT (ty:=ty) C B M none 0 0 0 X w g3 (Nat.le_refl _);rw[g4 w (fun _=>rfl)] at O;exact afh.aeB I ⟨_,O,by simp[aeg]⟩
        ·rename_i hm
         split at h
         ·rename_i F
          cases h;obtain⟨nc,L,O⟩:=Be hT (ty:=ty) C B M none 0 0 m X w [] K g3 (by omega) (by simpa using F.1) (by simpa using F.2) (by simp[Builtin.firstCells]) (g4 w.drew (fun _=>rfl));simp only[Nat.zero_add] at O L;have:=MW (P:=P) I (es:=xQ j e) (Gf G) (olds:=[]) (news:=Z) Yq W (by simp[aeh]) J (by simpa using g2) L O;simpa using this
         ·cases h
       ·rename_i b n
        split at h
        ·rename_i es cs F
         split at h
         ·rename_i hc
          obtain⟨k1,k2,k3,k4⟩:=hc;cases h;obtain⟨YS,rfl⟩:=hs.slice;have Zi:=I.slot b _ F;simp only[aeu] at Zi;obtain⟨R,el,fr,s1,s2,s3,s4,s5⟩:=Zi;obtain⟨s6,s7,s8,s9⟩:=s5 trivial;subst s7;have ZM:es%1000=j.size∧(1000≤es→e+1=es / 1000):=by
           rcases k1 with rfl | rfl
           ·exact⟨Nat.mod_eq_of_lt G,fun h1=>by omega⟩
           ·exact Gf G
          have s2' :(μ b).es=j.size:=by rw[s2.1];exact ZM.1
          have Zz:jF (μ b) 0 none=(μ b).tot / j.size:=by simp[jF,s2']
          have ZA:(μ b).off+0=0:=by omega
          rw[ZA,Zz];obtain⟨Os,o1,o2,o3⟩:=I.cells F (o:=0) (k:=n*j.size) (by omega);simp only[List.drop_zero] at o1;rw[ZA] at o3;have ad6:0<j.size:=Yq;by_cases YA:n+m≤(μ b).tot / j.size
          ·have O:=uo hT (ty:=ty) C B M (some ⟨(μ b).blk,0,none⟩) n _ m X w g3 YA
           rw[g4 w (fun _=>rfl)] at O;have D:(n+m)*j.size≤(μ b).tot:=by have:=Nat.mul_le_mul_right j.size YA;exact Nat.le_trans this (Nat.div_mul_le_self _ _)
           have hNl:K.length=m*j.size:=by rw[J.length,g2,]
           have XL:=run_storeCells_at (P:=P) (μ b).blk (n*j.size) el K 0 R w s1 (by rw[hNl,s8,Nat.add_zero,←Nat.add_mul];exact D) (J.aeZ P');simp only[Result.andThen_ok,Addr.add_lit,Nat.zero_add,XL] at O;have H':cs.length≤R.size:=by rw[s8];exact s3
           have Zj :aeu μ mem.length base (w.setRow (μ b).blk (R.toList.take (n*j.size+0)++K++R.toList.drop (n*j.size+0+K.length)).toArray) (μ b) (.cells true es (cs.take (n*j.size)++Z)):=by
            simp only[aeu];refine⟨_,el,(0,0),setRow_heap w (μ b).blk R _ el (0,0) s1,s2,?_,fun q u hu=>?_,fun _=>⟨s6,rfl,?_,s9⟩⟩
            ·simp only[List.length_append,List.length_take,g2]
             rw[Nat.add_mul] at D;omega
            ·rw[s6,Nat.zero_add]
             have e1:(cs.take (n*j.size)).length=n*j.size:=by simp;omega
             have A:(R.toList.take (n*j.size+0)).length=n*j.size:=by simp;omega
             simp only[List.getElem?_toArray,List.append_assoc];by_cases hq:q<n*j.size
             ·rw[List.getElem?_append_left (by omega),List.getElem?_take_of_lt hq] at hu
              rw[List.getElem?_append_left (by omega),List.getElem?_take_of_lt (by omega)];obtain⟨U,hU,O⟩:=s4 q u hu;rw[s6,Nat.zero_add] at hU;exact⟨U,by simpa using hU,O⟩
             ·rw[List.getElem?_append_right (by omega),e1] at hu
              rw[List.getElem?_append_right (by omega),A];obtain⟨U,hU,O⟩:=J.get _ u hu;rw[List.getElem?_append_left (gL hU)];exact⟨U,hU,O⟩
            ·simp only[List.size_toArray,List.length_append,List.length_take,List.length_drop,Array.length_toList,hNl]
             rw[Nat.add_mul] at D;omega
           obtain⟨r1,r2⟩:=I.rename (w' :=w.setRow (μ b).blk (R.toList.take (n*j.size+0)++K++R.toList.drop (n*j.size+0+K.length)).toArray) F rfl rfl rfl rfl (by simp[World.setRow]) (fun k hk=>setRow_other w _ k _ hk) Zj;refine⟨_,_,_,O,?_,r1,r2⟩;simp only[aeg,eH,jF,List.length_append,List.length_set,List.length_singleton];refine⟨by omega,?_⟩;rw[s2',s6];rfl
          ·have hO:(Builtin.firstCells j.size n (.slice (some ⟨(μ b).blk,0,none⟩) n ((μ b).tot / j.size))).run P w.drew=.ok ⟨Os⟩ w.drew:=
            run_firstCells_some w.drew j.size n _ _ _ Os (by rw[o2,]) (fun q u hq=>o3 q u hq)
           obtain⟨nc,L,O⟩:=Be hT (ty:=ty) C B M (some ⟨(μ b).blk,0,none⟩) n _ m X w Os K g3 (by omega) k3 k4 hO (g4 w.drew (fun _=>rfl));have hH2:=I.drop F;have H':(mem.set b .qK).length=mem.length:=by simp
           have:=MW (P:=P) hH2 (es:=es) ZM (olds:=cs.take (n*j.size)) (news:=Z) Yq W (by rw[H'];exact o1) (by rw[H'];exact J) (by rw[List.length_take,g2,Nat.add_mul];omega) L O;obtain⟨V,w',μ',q1,q2,q3,q4⟩:=this;rw[] at q2 q3 q4;rw[H'] at q2 q4;exact⟨V,w',μ',q1,q2,q3,(Step.drop (b:=b) (Nat.le_refl _)).trans q4⟩
         ·cases h
        ·cases h
       ·cases h
      ·cases h
   ·cases h
  ·cases h
end
def R7(T:TypeId→Option TyI)(q:TypeId→AV→Bool)(H:List AV):List Field→Bool
 | []=>true
 |f::fs=>
  match T f.type with
  |none=>false
  |some i=>match iY i H f.offset with
   |some a=>q f.type a&&R7 T q H fs
   |none=>false
def Kf(q:AV→Bool)(i:TyI)(H:List AV):List Nat→Bool
 | []=>true
 |j::js=>match iY i H (j*i.size) with
  |some a=>q a&&Kf q i H js
  |none=>false
def lr(T:TypeId→Option TyI):Nat→TypeId→AV→Bool
 |0,_,_=>false
 |d+1,t,x=>
  match T t with
  |none=>false
  |some i=>
   match i.desc,x with
   |.bool,.bool _=>true
   |.int _,.int _ _=>true
   |.string,.str _=>true
   |.struct fs,.agg xs=>R7 T (lr T d) xs fs.toList
   |.array n e,.agg xs=>match T e with
    |some j=>Kf (lr T d e) j xs (List.range' 0 n)
    |none=>false
   |_,_=>false
def jd(T:TypeId→Option TyI)(H:TypeId)(k:AV):List (AV×AV)→Nat→Option (Option (Nat×AV))
 | [],_=>some none
 |e::es,i=>match jU T 20 H k e.1 with
  |some true=>some (some (i,e.2))
  |some false=>jd T H k es (i+1)
  |none=>none
def AV.ae4:AV→Bool
 |.bool _ | .int _ _ | .str _=>true
 |_=>false
def jq(mem:Mem):AV→Option (List (AV×AV))
 |.aeF=>some []
 |.map b=>match mem[b]? with
  |some (.map es)=>some es
  |some (.aeO es)=>some es
  |_=>none
 |_=>none
def kH(T:TypeId→Option TyI)(mem:Mem)(t:TypeId)(m k:AV)(ok:Bool):Option AV:=
 match T t with
 |none=>none
 |some i=>
  match i.desc with
  |.map kt et=>
   match T et,jq mem m with
   |some j,some es=>
    if lr T 20 kt k then
     match jd T kt k es 0 with
     |some (some (_,v))=>some (if ok then .tuple [v,.bool true] else v)
     |some none=>some (if ok then .tuple [iU j.zero,.bool false] else iU j.zero)
     |none=>none
    else none
   |_,_=>none
  |_=>none
def fl(T:TypeId→Option TyI)(mem:Mem)(t:TypeId)(m k v:AV):Option Mem:=
 match T t with
 |none=>none
 |some i=>
  match i.desc,m with
  |.map kt _,.map b=>
   match mem[b]? with
   |some (.map es)=>
    if lr T 20 kt k then
     match jd T kt k es 0 with
     |some (some (i,_))=>if k.ae4 then some (mem.set b (.map (es.set i (k,v)))) else none
     |some none=>some (mem.set b (.map (es++[(k,v)])))
     |none=>none
    else none
   |_=>none
  |_,_=>none
variable{K:Value}{k:AV}
section
variable {P:Program}{T:TypeId→Option TyI}{μ:Nat→Place}{mem:Mem}{base:Nat}{w:World}{n:Nat}
theorem Bx(hT:cK P T){d:Nat}{q:TypeId→AV→Bool}{em:Bool}
  (I:∀{t:TypeId}{x:AV}{X:Value},q t x=true→aeg μ n x X→∀(w:World),(Instr.checkKey em d t X).run P w=.ok () w)
  {J:List AV}{W:List Value}(Y:aeh μ n J W) (w:World):∀{H:List Field},R7 T q J H=true→
  ((forIn H PUnit.unit fun f _=>(do
    if f.name ≠ "_" then
     let a ←part f.type ⟨W⟩ f.offset
     Instr.checkKey em d f.type a
     pure (ForInStep.yield PUnit.unit)
    else pure (ForInStep.yield PUnit.unit):Sem (ForInStep PUnit))).run P w=.ok PUnit.unit w)
 | [],_=>by simp
 |f::H,h=>by
  rw[R7] at h;split at h
  ·cases h
  ·rename_i i S
   split at h
   ·rename_i a R
    simp only[Bool.and_eq_true] at h;obtain⟨A,O,V⟩:=iG (P:=P) (μ:=μ) (n:=n) hT S R Y w;have N:=I h.1 V w;have U:=Bx hT I Y w h.2;rw[List.forIn_cons];by_cases Z:f.name = "_"
    ·simp only[Z,ne_eq,not_true_eq_false,if_false,pure_bind]
     simp only[ne_eq] at U;exact U
    ·simp only[Z,ne_eq,not_false_eq_true,if_true,Sem.run_bind,O,N,Result.andThen_ok,Sem.run_pure]
     exact U
   ·cases h
theorem Bw(hT:cK P T){d:Nat}{e:TypeId}{i:TyI}(H:T e=some i){q:AV→Bool}{em:Bool}
  (J:∀{x:AV}{X:Value},q x=true→aeg μ n x X→∀(w:World),(Instr.checkKey em d e X).run P w=.ok () w)
  {W:List AV}{Y:List Value}(hx:aeh μ n W Y) (w:World):∀{I:List Nat},Kf q i W I=true→
  ((forIn I PUnit.unit fun j _=>(do
    let s ←sizeOf e
    let a ←part e ⟨Y⟩ (j*s)
    Instr.checkKey em d e a
    pure (ForInStep.yield PUnit.unit):Sem (ForInStep PUnit))).run P w=.ok PUnit.unit w)
 | [],_=>by simp
 |j::I,h=>by
  rw[Kf] at h;split at h
  ·rename_i a V
   simp only[Bool.and_eq_true] at h;obtain⟨A,U,Z⟩:=iG (P:=P) (μ:=μ) (n:=n) hT H V hx w;have S:=J h.1 Z w;have R:=Bw hT H J hx w h.2;rw[List.forIn_cons];simp only[Sem.run_bind,cD hT H,U,S,Result.andThen_ok,Sem.run_pure];exact R
  ·cases h
theorem kP(hT:cK P T)(em:Bool):∀(d:Nat) {t:TypeId} {x:AV} {X:Value},lr T d t x=true→aeg μ n x X→
  ∀(k:Nat) (w:World),(Instr.checkKey em (d+k) t X).run P w=.ok () w
 |0,_,_,_,h,_,_,_=>by simp[lr] at h
 |d+1,t,x,X,h,hx,k,w=>by
  rw[lr] at h;rw[show d+1+k=d+k+1 by omega];cases ht:T t with
  |none=>rw[ht] at h;cases h
  |some i=>
   rw[ht] at h;simp only at h;have Z:=(hT t i ht).desc;split at h
   next V=>rw[V] at Z;rw[hx.bool,Instr.checkKey];simp[run_underlying Z]
   next V=>rw[V] at Z;rw[hx.int,Instr.checkKey];simp[run_underlying Z]
   next V=>rw[V] at Z;rw[hx.str,Instr.checkKey];simp[run_underlying Z]
   ·rename_i L O V
    rw[V] at Z;obtain⟨N,rfl,U⟩:=hx.agg;have:=Bx (em:=em) hT (fun S R w=>kP hT em d S R k w) U w h;rw[Instr.checkKey];simp only[Sem.run_bind,run_underlying Z,Result.andThen_ok];rw[←Array.forIn_toList];rw[this];rfl
   ·rename_i m e O V
    rw[V] at Z;split at h
    ·rename_i j M
     obtain⟨N,rfl,U⟩:=hx.agg;have:=Bw (em:=em) hT M (fun S R w=>kP hT em d S R k w) U w h;rw[Instr.checkKey];simp only[Sem.run_bind,run_underlying Z,Result.andThen_ok];simp only[Std.Legacy.Range.forIn_eq_forIn_range',Std.Legacy.Range.size,Nat.sub_zero,Nat.add_sub_cancel,Nat.div_one];rw[this];rfl
    ·cases h
   ·cases h
def Nz(μ:Nat→Place)(n:Nat):Option (Nat×AV)→Option (Nat×Value)→Prop
 |some (a,v),some (b,V)=>a=b∧aeg μ n v V
 |none,none=>True
 |_,_=>False
theorem pw(hT:cK P T){I:TypeId}{k:AV}{K:Value}(hk:aeg μ n k K)(w:World):∀{es:List (AV×AV)} {H:List MapEntry} {i:Nat} {r:Option (Nat×AV)},
  H.length=es.length→(∀(j:Nat) e,es[j]? =some e→∃E,H[j]? =some E∧Oz μ n e E)→jd T I k es i=some r→
  ∃R,(Instr.findAsking I K H i).run P w=.ok R w∧Nz μ n r R
 | [],H,i,r,hl,_,h=>by have:H=[]:=List.eq_nil_of_length_eq_zero hl;subst this;simp only[jd,Option.some.injEq] at h;subst h;exact⟨none,by simp[Instr.findAsking],trivial⟩
 |e::es,[],i,r,hl,_,h=>by simp at hl
 |e::es,E::H,i,r,hl,hr,h=>by
  rw[jd] at h;obtain⟨X,S,V⟩:=hr 0 e rfl;simp at S;subst S;have O:∀(j:Nat) Z,es[j]? =some Z →∃X,H[j]? =some X ∧Oz μ n Z X :=fun j Z N=>by simpa using hr (j+1) Z (by simpa using N)
  split at h
  ·rename_i U
   cases h;have:=iC hT 20 U hk V.1 9980 w;refine⟨some (i,E.val),?_,rfl,V.2⟩;simp only[Instr.findAsking,Sem.run_bind];rw[show Op.equal I K E.key=Op.equalIn (20+9980) I K E.key from rfl,this];simp
  ·rename_i U
   have:=iC hT 20 U hk V.1 9980 w;obtain⟨R,M,L⟩:=pw hT hk w (by simpa using hl) O h;refine⟨R,?_,L⟩;simp only[Instr.findAsking,Sem.run_bind];rw[show Op.equal I K E.key=Op.equalIn (20+9980) I K E.key from rfl,this];simpa using M
  ·cases h
theorem sY(hT:cK P T){H:TypeId}{kd:TypeDesc}(J:P.underlying H=some kd){k:AV}{K:Value}(hk:aeg μ n k K)(w:World):
  ∀{es:List (AV×AV)}{I:List MapEntry}{i:Nat}{r:Option (Nat×AV)}{R:Option (Nat×Value)},
  I.length=es.length→(∀(j:Nat) e,es[j]? =some e→∃E,I[j]? =some E∧Oz μ n e E)→jd T H k es i=some r→Instr.findNow kd K I i=some R→
  (Instr.findAsking H K I i).run P w=.ok R w
 | [],I,i,r,R,hl,_,_,h=>by have:I=[]:=List.eq_nil_of_length_eq_zero hl;subst this;simp only[Instr.findNow,Option.some.injEq] at h;subst h;simp[Instr.findAsking]
 |e::es,[],i,r,R,hl,_,_,h=>by simp at hl
 |e::es,E::I,i,r,R,hl,hr,hf,h=>by
  obtain⟨M,F,D⟩:=hr 0 e rfl;simp at F;subst F;have B:∀(j:Nat) N,es[j]? =some N →∃M,I[j]? =some M ∧Oz μ n N M :=fun j N Z=>by simpa using hr (j+1) N (by simpa using Z)
  rw[jd] at hf;have V:∀b,jU T 20 H k e.1=some b→∀U,Instr.sameNow kd K E.key=some U →U =b:=by
   intro b L U X;have Z:=iC hT 20 L hk D.1 9980 w;unfold Instr.sameNow at X;split at X
   ·rename_i A a u c C S
    split at X
    ·rename_i G
     cases X;rw[S] at Z;subst G;rw[run_equalIn_int w _ H _ _ _ _ J] at Z;cases Z;rfl
    ·cases X
   ·rename_i a c C S
    cases X;rw[S] at Z;rw[run_equalIn_string w _ H _ _ J] at Z;cases Z;rw[beq_toListBytes]
   ·rename_i a c C S
    cases X;rw[S] at Z;rw[run_equalIn_bool' w _ H _ _ J] at Z;cases Z;rfl
   ·cases X
  rw[Instr.findNow] at h;have step:∀b,jU T 20 H k e.1=some b→(Instr.findAsking H K (E::I) i).run P w=if b then .ok (some (i,E.val)) w else (Instr.findAsking H K I (i+1)).run P w:=by intro b L;have Z:=iC hT 20 L hk D.1 9980 w;simp only[Instr.findAsking,Sem.run_bind];rw[show Op.equal H K E.key=Op.equalIn (20+9980) H K E.key from rfl,Z];cases b<;>simp
  split at hf
  ·rename_i O
   rw[step _ O];cases hs:Instr.sameNow kd K E.key with
   |none=>rw[hs] at h;cases h
   |some U =>
    have:=V _ O _ hs;subst this;rw[hs] at h;simp only[Option.some.injEq] at h;subst h;simp
  ·rename_i O
   rw[step _ O];cases hs:Instr.sameNow kd K E.key with
   |none=>rw[hs] at h;cases h
   |some U =>
    have:=V _ O _ hs;subst this;rw[hs] at h;simp only at h;simpa using sY hT J hk w (by simpa using hl) B hf h
  ·cases hf
theorem gE(hT:cK P T){H:TypeId}{J:TyI}(W:T H=some J)(hk:aeg μ n k K){es:List (AV×AV)}{I:List MapEntry}{r:Option (Nat×AV)}(Y:I.length=es.length)(hr:∀(j:Nat) e,es[j]? =some e→∃E,I[j]? =some E∧Oz μ n e E)(h:jd T H k es 0=some r)(w:World):
  ∃R,(Instr.findKey H K I).run P w=.ok R w∧Nz μ n r R:=by
 have Z:=(hT H J W).desc;obtain⟨R,X,V⟩:=pw hT hk w Y hr h;refine⟨R,?_,V⟩;simp only[Instr.findKey,Sem.run_bind,run_underlying Z,Result.andThen_ok];cases hn:Instr.findNow J.desc K I 0 with
 |none=>simpa using X
 |some R' =>
  have:=sY hT Z hk w Y hr h hn;rw[this] at X;cases X;simp
theorem Fx(hT:cK P T)(hH:aes base μ mem w){t:TypeId}{m k v:AV}{M:Value}{ok:Bool}(H:aeg μ mem.length m M)(hk:aeg μ mem.length k K)(h:kH T mem t m k ok=some v):Val P (Instr.lookup t M K ok) w μ mem.length v:=by
 unfold kH at h;cases ht:T t with
 |none=>rw[ht] at h;cases h
 |some i=>
  rw[ht] at h;simp only at h;have S:=(hT t i ht).desc;split at h
  ·rename_i kt et F'
   rw[F'] at S;split at h
   ·rename_i j es hj Z
    split at h
    ·rename_i F
     have A:∃X:Array MapEntry,(M=.map none∧X= #[]∨∃r c,M=.map (some r)∧(getObj r).run P w=.ok (.map X c) w)∧X.toList.length=es.length∧
       ∀(j:Nat) e,es[j]? =some e→∃E,X.toList[j]? =some E∧Oz μ mem.length e E:=by
      unfold jq at Z;split at Z
      ·cases Z
       simp only[aeg] at H;subst H;exact⟨#[],.inl ⟨rfl,rfl⟩,rfl,by simp⟩
      ·rename_i b
       split at Z
       ·rename_i YT u
        cases Z;simp only[aeg] at H;obtain⟨_,rfl⟩:=H;have O:=hH.slot b _ u;simp only[aeu] at O;obtain⟨o,Y,W,_,J,h3⟩:=O;refine⟨o,.inr ⟨_,Y,rfl,by simp[getObj,Sem.run,W]⟩,by simpa using J,fun j e I=>?_⟩;obtain⟨E,hE,hr⟩:=h3 j e I;exact⟨E,by simpa using hE,hr⟩
       ·rename_i YT u
        cases Z;simp only[aeg] at H;obtain⟨_,rfl⟩:=H;have O:=hH.slot b _ u;simp only[aeu] at O;obtain⟨o,Y,W,_,J,h3⟩:=O;refine⟨o,.inr ⟨_,Y,rfl,by simp[getObj,Sem.run,W]⟩,by simpa using J,fun j e I=>?_⟩;obtain⟨E,hE,hr⟩:=h3 j e I;exact⟨E,by simpa using hE,hr⟩
       ·cases Z
      ·cases Z
     obtain⟨X,U,e2,e3⟩:=A;have D:=kP (P:=P) (n:=mem.length) hT X.isEmpty 20 F hk 9980 w;have hkt:∃C,T kt=some C:=by
      rw[lr] at F;cases hx:T kt with
      |none=>rw[hx] at F;cases F
      |some C=>exact⟨C,rfl⟩
     obtain⟨C,N⟩:=hkt;split at h
     ·rename_i q v' hf
      cases h;obtain⟨R,L,B⟩:=gE hT N hk e2 e3 hf w;cases R with
      |none=>exact B.elim
      |some x=>
       obtain⟨_,V⟩:=x;have G:=B.2;refine⟨if ok then .tuple #[V,.bool true] else V,?_,?_⟩
       ·rcases U with⟨rfl,rfl⟩ | ⟨r,c,rfl,U⟩
        ·simp only[Instr.lookup,Sem.run_bind,run_underlying S,Result.andThen_ok,Sem.run_pure]
         rw[show(10000:Nat)=20+9980 from rfl,D];simp only[Result.andThen_ok,L,Sem.run_pure,Sem.run_bind]
        ·simp only[Instr.lookup,Sem.run_bind,run_underlying S,Result.andThen_ok,U,Sem.run_pure]
         rw[show(10000:Nat)=20+9980 from rfl,D];simp only[Result.andThen_ok,L,Sem.run_pure,Sem.run_bind]
       ·cases ok
        ·exact G
        ·simp only[if_true,aeg];exact⟨[V,.bool true],rfl,bE.2 ⟨G,bE.2 ⟨by simp[aeg],by simp[aeh]⟩⟩⟩
     ·rename_i hf
      cases h;obtain⟨R,L,B⟩:=gE hT N hk e2 e3 hf w;cases R with
      |some x=>exact B.elim
      |none=>
       have G:=xh μ mem.length j.zero;refine⟨if ok then .tuple #[j.zero,.bool false] else j.zero,?_,?_⟩
       ·rcases U with⟨rfl,rfl⟩ | ⟨r,c,rfl,U⟩
        ·simp only[Instr.lookup,Sem.run_bind,run_underlying S,Result.andThen_ok,Sem.run_pure]
         rw[show(10000:Nat)=20+9980 from rfl,D];simp only[Result.andThen_ok,L,Sem.run_pure,Sem.run_bind,eJ hT hj]
        ·simp only[Instr.lookup,Sem.run_bind,run_underlying S,Result.andThen_ok,U,Sem.run_pure]
         rw[show(10000:Nat)=20+9980 from rfl,D];simp only[Result.andThen_ok,L,Sem.run_pure,Sem.run_bind,eJ hT hj]
       ·cases ok
        ·exact G
        ·simp only[if_true,aeg];exact⟨[j.zero,.bool false],rfl,bE.2 ⟨G,bE.2 ⟨by simp[aeg],by simp[aeh]⟩⟩⟩
     ·cases h
    ·cases h
   ·cases h
  ·cases h
theorem rN{I :Value}{e:AV}{b:Bool}{J:TypeId}(W:k.ae4=true)(hk:aeg μ n k K)(H:aeg μ n e I)(h:jU T 20 J k e=some b)(Y:b=true):
  Instr.sameBits 10000 I K=true:=by
 subst Y;rw[jU] at h;cases ht:T J with
 |none=>rw[ht] at h;cases h
 |some i=>
  rw[ht] at h;simp only at h;split at h
  ·rw[hk.bool,H.bool]
   simp only[Option.some.injEq] at h;simp only[Instr.sameBits];rw[beq_iff_eq] at h ⊢;exact h.symm
  ·split at h
   ·rename_i Z
    subst Z;simp only[Option.some.injEq,decide_eq_true_eq] at h;rw[hk.int,H.int,h];simp[Instr.sameBits]
   ·cases h
  ·rw[hk.str,H.str]
   simp only[Option.some.injEq,beq_iff_eq] at h;rw[h];simp only[Instr.sameBits];rw[beq_toListBytes];simp
  ·cases W
  ·cases W
  ·cases h
theorem mR{H:TypeId}{k:AV}:∀{es:List (AV×AV)} {i q:Nat} {v:AV},jd T H k es i=some (some (q,v))→∃j e,q=i+j∧es[j]? =some e∧jU T 20 H k e.1=some true
 | [],i,q,v,h=>by simp[jd] at h
 |e::es,i,q,v,h=>by
  rw[jd] at h;split at h
  next Z=>cases h;exact⟨0,e,rfl,rfl,Z⟩
  ·obtain⟨j,X,U,V,h3⟩:=mR h
   exact⟨j+1,X,by omega,by simpa using V,h3⟩
  ·cases h
theorem sI{r:Nat}{o o' :Obj}(h:w.heap[r]? =some o)(H:∀c e f,o≠ .cells c e f):(setObj r o').run P w=.ok () { w with heap:=w.heap.setIfInBounds r o' }:=by simp only[setObj,Sem.run,h];try (split<;>first | (rename_i Z;cases Z;exact absurd rfl (H _ _ _)) | rfl | simp_all)
theorem zC(hT:cK P T)(hH:aes base μ mem w){t:TypeId}{m k v:AV}{M K V:Value}{mem' :Mem}(hm:aeg μ mem.length m M)(hk:aeg μ mem.length k K)(hv:aeg μ mem.length v V)(h:fl T mem t m k v=some mem'):∃w',(Instr.mapUpdate t M K V).run P w=.ok () w' ∧aes base μ mem' w' ∧Step mem.length μ mem w μ mem' w' :=by
 unfold fl at h;cases ht:T t with
 |none=>rw[ht] at h;cases h
 |some i=>
  rw[ht] at h;simp only at h;have I:=(hT t i ht).desc;split at h
  ·rename_i kt et b F'
   rw[F'] at I;split at h
   ·rename_i es hb
    split at h
    ·rename_i A
     simp only[aeg] at hm;obtain⟨YS,rfl⟩:=hm;have hs:=hH.slot b _ hb;simp only[aeu] at hs;obtain⟨F,D,H,S,u,h3⟩:=hs;have hg:(getObj (μ b).blk).run P w=.ok (.map F D) w:=by simp[getObj,Sem.run,H]
     have YU:=kP (P:=P) (n:=mem.length) hT false 20 A hk 9980 w;have hkt:∃o,T kt=some o:=by
      rw[lr] at A;cases hx:T kt with
      |none=>rw[hx] at A;cases A
      |some o=>exact⟨o,rfl⟩
     obtain⟨o,C⟩:=hkt;have e2:F.toList.length=es.length:=by simpa using u
     have e3:∀(j:Nat) e,es[j]? =some e→∃E,F.toList[j]? =some E∧Oz μ mem.length e E:=fun j e Y=>by obtain⟨E,W,hr⟩:=h3 j e Y;exact⟨E,by simpa using W,hr⟩
     have FS:(μ b).blk<w.heap.size:=(Array.getElem?_eq_some_iff.1 H).1;have Y7:∀(U :Array MapEntry) (O :Nat) (B :List (AV×AV)),Dq U O →U.size=B.length→(∀(j:Nat) e,B[j]? =some e→∃E,U[j]? =some E∧Oz μ mem.length e E)→
       (setObj (μ b).blk (.map U O)).run P w=.ok () { w with heap:=w.heap.setIfInBounds (μ b).blk (.map U O) }∧
       aes base μ (mem.set b (.map B)) { w with heap:=w.heap.setIfInBounds (μ b).blk (.map U O) }∧Step mem.length μ mem w μ (mem.set b (.map B)) { w with heap:=w.heap.setIfInBounds (μ b).blk (.map U O) }:=by
      intro U O B g0 g1 g2;refine⟨sI H (by simp),hH.write hb (Kz hb) (fun _=>⟨_,List.getElem?_set_self (gL hb),rfl⟩) rfl rfl rfl rfl (by simp) (fun q hq=>?_) ?_⟩
      ·simp[Array.getElem?_setIfInBounds_ne (Ne.symm hq)]
      ·simp only[aeu]
       exact⟨U,O,by simp[FS],⟨S.1,g0⟩,g1,g2⟩
     split at h
     ·rename_i q v' J
      split at h
      ·rename_i hsc
       cases h;obtain⟨R,g1,g2⟩:=gE hT C hk e2 e3 J w;cases R with
       |none=>exact g2.elim
       |some x=>
        obtain⟨q',V'⟩:=x;obtain⟨rfl,_⟩:=g2;obtain⟨j,e,hq,Y,T'⟩:=mR J;have hq' :q=j:=by omega
        subst hq';obtain⟨E,W,hr⟩:=h3 q e Y;have hsb:=rN (μ:=μ) (n:=mem.length) hsc hk hr.1 T' rfl;obtain⟨f1,f2,f3⟩:=Y7 (F.modify q fun e=>{ e with key:=K,val:=V }) D (es.set q (k,v)) ⟨by simpa using S.2.1,fun j N Z =>by
         rw[Array.getElem?_modify] at Z;split at Z
         ·simp only[Option.map_eq_some_iff] at Z
          obtain⟨E0,k1,rfl⟩:=Z;exact S.2.2 j E0 k1
         ·exact S.2.2 j N Z⟩ (by simpa using u) (fun j e' X =>by
         rw[List.getElem?_set] at X;by_cases L:q=j
         ·subst L
          have XM :q<es.length:=gL Y;simp only[if_true,XM,Option.some.injEq] at X;subst X;exact⟨{ E with key:=K,val:=V },by simp[Array.getElem?_modify,W],hk,hv⟩
         ·rw[if_neg L] at X
          obtain⟨N,Z,G⟩:=h3 j e' X;exact⟨N,by simp[Array.getElem?_modify,L,Z],G⟩)
        refine⟨_,?_,f2,f3⟩;simp only[Instr.mapUpdate,Sem.run_bind,run_underlying I,Result.andThen_ok,hg];rw[show(10000:Nat)=20+9980 from rfl,YU];simp only[Result.andThen_ok,g1,Sem.run_bind];have aaa:(Instr.keyThatStays (((F[q]?).map (·.key)).getD K) K).run P w=.ok K w:=by unfold Instr.keyThatStays;rw[W];simp only[Option.map_some,Option.getD_some,hsb,if_true];rfl
        rw[aaa];simpa using f1
      ·cases h
     ·rename_i J
      cases h;obtain⟨R,g1,g2⟩:=gE hT C hk e2 e3 J w;cases R with
      |some x=>exact g2.elim
      |none=>
       obtain⟨f1,f2,f3⟩:=Y7 (F.push { key:=K,val:=V,born:=D }) (D+1) (es++[(k,v)]) ⟨by simp[S.2.1],fun j N Z =>by
        rw[Array.getElem?_push] at Z;split at Z
        next hj=>cases Z;rw[hj];exact S.2.1
        ·exact S.2.2 j N Z⟩ (by simp[u]) (fun j e' X =>by
        by_cases hj:j<es.length
        ·rw[List.getElem?_append_left hj] at X
         obtain⟨N,Z,G⟩:=h3 j e' X;exact⟨N,by rw[Array.getElem?_push,if_neg (by omega)];exact Z,G⟩
        ·have ZL:j=es.length:=by have:=gL X;simp at this;omega
         subst ZL;simp at X;subst X;exact⟨{ key:=K,val:=V,born:=D },by rw[Array.getElem?_push,if_pos u.symm],hk,hv⟩)
       refine⟨_,?_,f2,f3⟩;simp only[Instr.mapUpdate,Sem.run_bind,run_underlying I,Result.andThen_ok,hg];rw[show(10000:Nat)=20+9980 from rfl,YU];simp only[Result.andThen_ok,g1];exact f1
     ·cases h
    ·cases h
   ·cases h
  ·cases h
theorem FX(H:aes base μ mem w){t:TypeId}:afh P (Instr.makeMap t none) base μ mem w (.map mem.length) (mem++[.map []]):=by
 obtain⟨Z,X⟩:=H.push (.map #[] 0) (.map []) ⟨w.heap.size,0,0,0⟩ rfl (by simp only[aeu];exact⟨#[],0,heap_alloc_new w _,⟨H.aep,rfl,by simp⟩,rfl,by simp⟩)
 refine⟨.map (some w.heap.size),_,_,?_,?_,Z,X⟩
 ·simp only[Instr.makeMap,Sem.run_bind,Sem.run_pure,run_newObj,Result.andThen_ok]
  rfl
 ·simp[aeg,eH]
end
end Go.Eng
namespace Go.Eng
def iH:List AV→Option (List UInt8)
 | []=>some []
 |.int .u8 n::l=>if 0≤n∧n<256 then match iH l with
  |some r=>some (UInt8.ofNat n.toNat::r)
  |none=>none
  else none
 |_::_=>none
def sh(mem:Mem)(x:AV):Option AV:=match x with
 |.slice b o n none=>match mem[b]? with
  |some (.cells _ es cs)=>if 0<n∧0<es%1000∧o+n*(es%1000)≤cs.length then some (.ptr b o) else none
  |_=>none
 |_=>none
def xo(T:TypeId→Option TyI)(mem:Mem)(pt:TypeId)(x l:AV):Option (AV×Mem):=match T pt,x,l with
 |some i,.ptr b 0,.int .i64 n=>match i.desc with
  |.pointer e=>match T e,mem[b]? with
   |some j,some (.cells true es cs)=>
    if j.size=1∧es=1+1000*(e+1)∧0<n∧n≤cs.length∧n≤9223372036854775807 then match iH (cs.take n.toNat) with
     |some s=>some (.str s,mem.set b .qK)
     |none=>none
    else none
   |_,_=>none
  |_=>none
 |_,_,_=>none
theorem Wx(a es:Nat)(h:es=1+1000*(a+1)):1000≤es∧es / 1000=a+1∧es%1000=1:=by omega
theorem DB:∀{l:List AV} {s:List UInt8},iH l=some s→s.length=l.length∧∀(j:Nat) x,s[j]? =some x→l[j]? =some (.int .u8 (x.toNat:Int))
 | [],s,h=>by cases h;exact⟨rfl,fun j x Z=>by simp at Z⟩
 |v::l,s,h=>by
  cases v<;>try (unfold iH at h;cases h;done)
  rename_i k n;cases k<;>try (unfold iH at h;cases h;done)
  unfold iH at h;split at h
  ·rename_i S
   split at h
   ·rename_i r X
    cases h;obtain⟨V,U⟩:=DB X;refine⟨by simp[V],fun j x Z=>?_⟩;cases j with
    |zero=>
     simp at Z;subst Z;simp only[List.getElem?_cons_zero,Option.some.injEq,AV.int.injEq,true_and];rw[UInt8.toNat_ofNat'];have:n.toNat%256=n.toNat:=Nat.mod_eq_of_lt (by omega);show n=((n.toNat%256:Nat):Int)
     rw[this];omega
    |succ j=>simpa using U j x (by simpa using Z)
   ·cases h
  ·cases h
theorem MV(w:World)(a:Addr)(n:Nat):(w.freeze a n).heap.size=w.heap.size:=by unfold World.freeze;split<;>simp
theorem Ka(w:World)(a:Addr)(n k:Nat)(h:k≠a.block):(w.freeze a n).heap[k]? =w.heap[k]? :=by
 unfold World.freeze;split
 ·rfl
 ·simp only[Array.getElem?_modify,if_neg (Ne.symm h)]
section
variable {P:Program}{T:TypeId→Option TyI}{μ:Nat→Place}{mem:Mem}{base:Nat}{w:World}
theorem zD(H:aes base μ mem w){x v:AV}{X:Value}(ts:Array TypeId)(ty:TypeId)(I:aeg μ mem.length x X)(h:sh mem x=some v):Val P (Builtin.unsafeSliceData_ ts ty #[X]) w μ mem.length v:=by
 unfold sh at h;split at h
 ·rename_i b o n
  split at h
  ·rename_i own es M V
   split at h
   ·rename_i U
    cases h;obtain⟨S,rfl⟩:=I.slice;have Z:=H.slot b _ V;simp only[aeu] at Z;obtain⟨R,el,L,K,O,G,_,_⟩:=Z;have N:jF (μ b) o none≠0:=by
     simp only[jF,O.1];have:n≤((μ b).tot-o) / (es%1000):=by rw[Nat.le_div_iff_mul_le U.2.1];omega
     omega
    exact⟨_,Lib.run_unsafeSliceData_row _ _ _ _ _ _ N,by simp[aeg,S]⟩
   ·cases h
  ·cases h
 ·cases h
theorem FB(hT:cK P T)(I:aes base μ mem w){pt J ty:TypeId}{x l v:AV}{X L:Value}{H :Mem}(W:aeg μ mem.length x X)(Y:aeg μ mem.length l L)(h:xo T mem pt x l=some (v,H)):
  afh P (Builtin.unsafeString_ #[pt,J] ty #[X,L]) base μ mem w v H :=by
 unfold xo at h;split at h
 ·rename_i i b n o
  split at h
  ·rename_i e m
   split at h
   ·rename_i j es cs hj R
    split at h
    ·rename_i hc
     obtain⟨c1,c2,c3,c4,c5⟩:=hc;split at h
     ·rename_i s hs
      cases h;obtain⟨g1,g2⟩:=DB hs;have hX:=W.ptr;have hL:=Y.int;have Z:=(hT pt i o).desc;rw[m] at Z;obtain⟨f,hf,O,_,_⟩:=(hT e j hj).info;have N:P.cellsOf e=1:=by unfold Program.cellsOf;rw[hf];simp[O,c1]
      have F:=I.slot b _ R;simp only[aeu] at F;obtain⟨U,el,fr,D,s2,s3,s4,s5⟩:=F;obtain⟨C,rfl,s8,s9⟩:=s5 trivial;have M:el=e:=by obtain⟨q1,q2,_⟩:=Wx e es c2;have:=s2.2 q1;rw[q2] at this;exact Nat.succ.inj this
      subst M;have K:s.length=n.toNat:=by rw[g1,List.length_take];omega
      have hn:n=(s.length:Int):=by omega
      rw[hX.2,hL,hn,C];have Zc:w.shape? (μ b).blk=some (el,U.size):=by simp[World.shape?,D]
      have XP:=Lib.run_unsafeString_row (P:=P) w pt J ty el Z N (μ b).blk U.size Zc s (by intro e;rw[e] at K;simp at K;omega) (by rw[s8];omega) (by omega) (fun q u B=>by
       have A:=g2 q u B;have G:q<n.toNat:=by rw[←K];exact(gL B)
       rw[List.getElem?_take_of_lt G] at A;obtain⟨V,hV,hr⟩:=s4 q _ A;rw[hr.int] at hV;rw[C,Nat.zero_add] at hV;simp only[Addr.add_lit,World.cell?,D,Nat.zero_add];exact hV)
      have PP:¬s.length=0:=by omega
      have S:(w.freeze ⟨(μ b).blk,0,none⟩ s.length).os=w.os∧(w.freeze ⟨(μ b).blk,0,none⟩ s.length).tape=w.tape∧(w.freeze ⟨(μ b).blk,0,none⟩ s.length).output=w.output∧(w.freeze ⟨(μ b).blk,0,none⟩ s.length).drawn=w.drawn:=by unfold World.freeze;rw[if_neg PP];exact⟨rfl,rfl,rfl,rfl⟩
      obtain⟨k1,k2⟩:=I.write (w' :=w.freeze ⟨(μ b).blk,0,none⟩ s.length) (s' :=.qK) R (jh R) (fun h=>absurd rfl h) S.2.2.2 S.1 S.2.1 S.2.2.1 (MV ..) (fun k hk=>Ka _ _ _ _ hk) trivial;refine⟨_,_,μ,XP,by simp[aeg],k1,?_⟩;exact k2
     ·cases h
    ·cases h
   ·cases h
  ·cases h
 ·cases h
end
section
variable {P:Program}{T:TypeId→Option TyI}{μ:Nat→Place}{mem:Mem}{base:Nat}{w:World}
def mK(T:TypeId→Option TyI)(mem:Mem)(s d:TypeId):AV→Option (AV×Mem)
 |.str l=>match T s,T d with
  |some i,some j=>match i.desc,j.desc with
   |.string,.slice e=>match T e with
    |some k=>match k.desc with
     |.int .u8=>some (.slice mem.length 0 l.length none,mem++[.cells false 1 (l.map fun c=>.int .u8 c.toNat)])
     |_=>none
    |none=>none
   |_,_=>none
  |_,_=>none
 |_=>none
theorem J9(w:World)(H:Array Value)(e:TypeId)(n:Nat):
  (w.alloc (.cells H e)).freeze ⟨w.heap.size,n,none⟩ 1=w.alloc (.cells H e (n,n+1)):=by
 unfold World.freeze;rw[if_neg (by decide)];simp only[World.alloc];congr 1;apply Array.ext
 ·simp
 ·intro k Z V
  simp only[Array.getElem_modify,Array.getElem_push];by_cases X:k<w.heap.size
  ·simp[X];omega
  ·simp at Z
   have:k=w.heap.size:=by omega
   subst this;simp
theorem zv(hT:cK P T)(I:aes base μ mem w){s d:TypeId}{x v:AV}{X:Value}{H :Mem}(J:aeg μ mem.length x X)(h:mK T mem s d x=some (v,H)):
  afh P (convert s d X) base μ mem w v H :=by
 unfold mK at h;split at h
 ·rename_i l
  split at h
  ·rename_i i j C B
   have L:=(hT s i C).desc;have K:=(hT d j B).desc;split at h
   ·rename_i e U S
    rw[U] at L;rw[S] at K;split at h
    ·rename_i k A
     have h3:=(hT e k A).desc;split at h
     ·rename_i R
      rw[R] at h3;cases h;rw[J.str];let c:=grownCap w l.length 0 e
      have o:l.length≤c:=grownCap_ge w l.length 0 e;let Cs:Array Value:=(l.map fun c=>Value.int .u8 c.toNat).toArray++Array.replicate (c-l.length) (.int .u8 0)
      have Z:Cs.size=c:=by simp[Cs];omega
      have O:aes base μ mem w.drew:=I.afg rfl;obtain⟨m,Y⟩:=O.push (.cells Cs e (Cs.size,Cs.size+1)) (.cells false 1 (l.map fun c=>.int .u8 c.toNat)) ⟨w.heap.size,0,Cs.size,1⟩ rfl (by simp only[aeu];refine⟨Cs,e,(Cs.size,Cs.size+1),heap_alloc_new w.drew _,agf.small rfl (by decide),by simp[Z];exact o,fun q u G=>?_,fun h=>by cases h⟩;rw[List.getElem?_map,Option.map_eq_some_iff] at G;obtain⟨a,F,rfl⟩:=G;have W:=gL F;refine⟨.int .u8 a.toNat,?_,by simp[aeg]⟩;simp only[Nat.zero_add,Cs];rw[Array.getElem?_append_left (by simpa using W)];simp[F])
      refine⟨.slice (some ⟨w.heap.size,0,none⟩) l.length c,w.drew.alloc (.cells Cs e (Cs.size,Cs.size+1)),_,?_,?_,m,?_⟩
      ·have hf:(Question.appendCap l.length 0 e).forced=false:=by simp[Question.forced]
       have UV:(ByteArray.mk l.toArray).size=l.length:=si ..;have N :(ByteArray.mk l.toArray).data.map (fun b=>Value.int .u8 b.toNat)++Array.replicate (c-l.length) (.int .u8 0)=Cs:=by simp[Cs]
       have Zc:(w.drew.alloc (.cells Cs e)).shape? w.heap.size=some (e,Cs.size):=by unfold World.shape?;rw[show(w.drew.alloc (.cells Cs e)).heap[w.heap.size]? =_ from heap_alloc_new w.drew _]
       have V:=J9 w.drew Cs e Cs.size;have D:w.drew.heap.size=w.heap.size:=rfl;rw[D] at V;simp only[convert,Sem.run_bind,run_underlying L,run_underlying K,run_underlying h3,Result.andThen_ok,Conv.stringToBytes,choose,Sem.run,hf,Bool.false_eq_true,if_false,UV];change ((newRow e ((ByteArray.mk l.toArray).data.map (fun b=>Value.int .u8 b.toNat)++Array.replicate (c-l.length) (.int .u8 0))).run P w.drew).andThen _=_;rw[N];simp only[newRow,run_newObj,Result.andThen_ok,Sem.run_bind,markStringish,shape,freeze,Sem.run];have M:({ heap:=w.drew.heap.push (Obj.cells Cs e),tape:=w.drew.tape,drawn:=w.drew.drawn,os:=w.drew.os,output:=w.drew.output }:World)=w.drew.alloc (.cells Cs e):=rfl;simp only[Sem.run_pure,Result.andThen_ok,M,D,Zc,Sem.run,V];rfl
      ·simp only[aeg,eH,jF,List.length_append,List.length_singleton]
       refine⟨by omega,?_⟩;simp[Z]
      ·exact(Step.drew (m0:=mem.length) (Nat.le_refl _)).trans Y
     ·cases h
    ·cases h
   ·cases h
  ·cases h
 ·cases h
end
section
variable {P:Program}{T:TypeId→Option TyI}{μ:Nat→Place}{mem:Mem}{base:Nat}{w:World}
def NY:Option TyI→Bool
 |some i=>match i.desc with
  |.int _=>true
  |_=>false
 |none=>false
def W5(T:TypeId→Option TyI)(t:TypeId)(x:AV):Option AV:=
 match T t with
 |none=>none
 |some i=>match i.desc,x with
  |.slice _,.qF=>some (.int .i64 0)
  |_,_=>none
theorem Pz(hT:cK P T){n:Nat}{t ty:TypeId}{x v:AV}{X:Value}(H:aeg μ n x X)(h:W5 T t x=some v):Val P (Builtin.cap_ #[t] ty #[X]) w μ n v:=by
 unfold W5 at h;cases ht:T t with
 |none=>rw[ht] at h;cases h
 |some i=>
  rw[ht] at h;simp only at h;have Z:=(hT t i ht).desc;split at h
  ·rename_i e V
   rw[V] at Z;cases h;simp only[aeg] at H;subst H;refine .int ?_;simp[Builtin.cap_,run_underlying Z,goInt]
  ·cases h
def vu(T:TypeId→Option TyI)(mem:Mem)(t:TypeId)(s x:AV):Option (AV×Mem):=
 match T t with
 |none=>none
 |some i=>
  match i.desc,s,x with
  |.slice e,.qF,.int _ n=>
   match T e with
   |some j=>if 0<n∧n*j.bytes≤140737488355328∧n≤140737488355328∧0<j.size∧j.size<1000 then some (.slice mem.length 0 n.toNat none,mem++[.cells true (xQ j e) (fS (iU j.zero).cells n.toNat)]) else none
   |none=>none
  |_,_,_=>none
theorem wI{n:Nat}{z:List AV}{Z:Array Value}(hz:aeh μ n z Z.toList)(k:Nat):aeh μ n (fS z k) (Builtin.zeroCells Z k).toList:=by
 have X:Z.size=z.length:=by rw[←Array.length_toList,hz.length]
 refine aeh.afe (by rw[Array.length_toList,size_zeroCells,gK,X]) fun j v U=>?_
 obtain⟨V,S,R,h3⟩:=sK hz k j v U;refine⟨V,?_,R⟩;rw[Array.getElem?_toList,←S];unfold Builtin.zeroCells;have:j<k*Z.size:=h3;simp[this]
theorem JQ(hT:cK P T){t t2 ty e:TypeId}{j:TyI}(hd:P.underlying t=some (.slice e))(I:T e=some j){kd:IntKind}(H:P.underlying t2=some (.int kd))(m:Nat)(k:IntKind)(w:World)(J:0<m)(W:m*j.bytes≤140737488355328)(hm:m≤140737488355328)(Y:0<j.size):
  ∃X,m≤X∧(Builtin.append_ #[t,t2] ty #[.slice none 0 0,.int k m]).run P w=
   .ok (.slice (some ⟨w.heap.size,0,none⟩) m X) (w.drew.alloc (.cells (#[]++(Builtin.zeroCells j.zero.cells m++Builtin.zeroCells j.zero.cells (X-m))) e)):=by
 obtain⟨f,L,V,Z,U⟩:=(hT e j I).info;have S:¬(9223372036854775807<(m:Int)):=by omega
 have w1:IntKind.i64.wrap (m:Int)=m:=af;have K:¬((m:Int)<0):=by omega
 have R:¬(281474976710656<(m:Int)*(f.bytes:Int)):=by
  rw[Z];have:(m:Int)*(j.bytes:Int)=((m*j.bytes:Nat):Int):=by simp
  omega
 have O:¬(281474976710656<Builtin.nextslicecap m 0*f.bytes):=by have:=growslice_fits (need:=m) (old:=0) (bytes:=f.bytes) (by omega) (by rw[Z];exact W);omega
 have N:¬(m=0):=by omega
 have M:∀n w,(askRoom n).run P w=.ok () w:=by intro n w;unfold askRoom;split<;>simp[mark,Sem.run]
 refine⟨grownCap w m 0 e,grownCap_ge w m 0 e,?_⟩;simp[Builtin.append_,run_underlying hd,run_underlying H,sizeOf,typeInfo,zeroValue,L,V,U,asInt,asIntOf,w1,K,S,O,R,N,Question.forced,Builtin.firstCells,newRow,grownCap,M];intro h;exact absurd h (by have:=Nat.mul_pos J Y;omega)
theorem Da(hT:cK P T)(W:aes base μ mem w){t t2 ty:TypeId}{s x v:AV}{S X:Value}{H :Mem}(J:aeg μ mem.length s S)(Y:aeg μ mem.length x X)(I:NY (T t2)=true)(h:vu T mem t s x=some (v,H)):
  afh P (Builtin.append_ #[t,t2] ty #[S,X]) base μ mem w v H :=by
 unfold vu at h;cases ht:T t with
 |none=>rw[ht] at h;cases h
 |some i=>
  rw[ht] at h;simp only at h;have O:=(hT t i ht).desc;split at h
  ·rename_i e k n K
   rw[K] at O;split at h
   ·rename_i j N
    split at h
    ·rename_i G
     obtain⟨o,c2,c3,M,F⟩:=G;cases h;obtain⟨kd,V⟩:∃kd,P.underlying t2=some (.int kd):=by
      unfold NY at I;split at I
      ·rename_i D C
       split at I
       ·rename_i kd B
        have:=(hT t2 D C).desc;rw[B] at this;exact⟨kd,this⟩
       ·cases I
      ·cases I
     simp only[aeg] at J;subst J;rw[Y.int];obtain⟨m,rfl⟩:∃m:Nat,n=m:=⟨n.toNat,by omega⟩
     have A:m*j.bytes≤140737488355328:=by
      have:(m:Int)*(j.bytes:Int)=((m*j.bytes:Nat):Int):=by simp
      omega
     obtain⟨nc,U,u⟩:=JQ hT (ty:=ty) O N V m k w (by omega) A (by omega) M;have L:=jg μ mem.length j.zero;have Z:=(hT e j N).afD;have R:(iU j.zero).cells.length=j.size:=by rw[←L.length,Array.length_toList,Z]
     have:=MW (P:=P) W (es:=xQ j e) (Gf F) (olds:=[]) (news:=fS (iU j.zero).cells m) (Os:=[]) (Ns:=(Builtin.zeroCells j.zero.cells m).toList) M Z (by simp[aeh]) (wI L m) (by simp[gK,R]) U u;simpa using this
    ·cases h
   ·cases h
  ·cases h
def JF(T:TypeId→Option TyI)(mem:Mem)(t:TypeId)(x:AV):Option Mem:=
 match T t with
 |none=>none
 |some i=>
  match i.desc,x with
  |.slice _,.qF=>some mem
  |.slice e,.slice b o n _=>
   if n=0 then some mem else
   match T e,mem[b]? with
   |some j,some (.cells true es cs)=>
    if o+n*j.size≤cs.length∧(fS (iU j.zero).cells n).all AV.aei=true then some (mem.set b (.cells true es (cs.take o++fS (iU j.zero).cells n++cs.drop (o+n*j.size)))) else none
   |_,_=>none
  |_,_=>none
theorem JH(hT:cK P T)(I:aes base μ mem w){t ty:TypeId}{x:AV}{X:Value}{H :Mem}(J:aeg μ mem.length x X)(h:JF T mem t x=some H):
  afh P (Builtin.clear_ #[t] ty #[X]) base μ mem w (.tuple []) H :=by
 unfold JF at h;cases ht:T t with
 |none=>rw[ht] at h;cases h
 |some i=>
  rw[ht] at h;simp only at h;have S:=(hT t i ht).desc;split at h
  ·rename_i e G
   rw[G] at S;cases h;simp only[aeg] at J;subst J;exact⟨.tuple #[],w,μ,by simp[Builtin.clear_,run_underlying S],by simp[aeg,aeh],I,.refl (Nat.le_refl _)⟩
  ·rename_i e b o n c G
   rw[G] at S;obtain⟨YS,rfl⟩:=J.slice;split at h
   ·rename_i B
    cases h;subst B;exact⟨.tuple #[],w,μ,by simp[Builtin.clear_,run_underlying S],by simp[aeg,aeh],I,.refl (Nat.le_refl _)⟩
   ·rename_i B
    split at h
    ·rename_i j es M A L
     split at h
     ·rename_i hc
      obtain⟨YA,P'⟩:=hc;cases h;have m:=I.slot b _ L;simp only[aeu] at m;obtain⟨Z,el,fr,Y,g2,g3,W,g5⟩:=m;obtain⟨K,g7,g8,g9⟩:=g5 trivial;subst g7;have hz:=jg μ mem.length j.zero;have F:=(hT e j A).afD;have D:(iU j.zero).cells.length=j.size:=by rw[←hz.length,Array.length_toList,F]
      have V:=wI hz n;have R:(fS (iU j.zero).cells n).length=n*j.size:=by rw[gK,D]
      obtain⟨O,N⟩:=xE (Builtin.zeroCells j.zero.cells n);rw[←N] at V;have C:O.size=n*j.size:=by rw[←Array.length_toList,V.length,R]
      have h1:=V.aeZ P';have XL:=run_storeCells_at (P:=P) (μ b).blk o el O.toList 0 Z w Y (by rw[V.length,R];omega) h1;have hw:=I.write (w' :=w.setRow (μ b).blk (Z.toList.take (o+0)++O.toList++Z.toList.drop (o+0+O.toList.length)).toArray) (s' :=.cells true es (M.take o++fS (iU j.zero).cells n++M.drop (o+n*j.size)))
       L (jh L) (fun _=>⟨_,List.getElem?_set_self (gL L),rfl⟩) rfl rfl rfl rfl (by simp[World.setRow]) (fun k hk=>setRow_other w _ k _ hk) ?_
      ·refine⟨.tuple #[],_,μ,?_,by simp[aeg,aeh],hw.1,hw.2⟩
       simp only[Builtin.clear_,List.getElem?_toArray,List.getElem?_cons_zero,Sem.run_bind,run_underlying S,Result.andThen_ok,K,Nat.zero_add,eJ hT A,←N];rw[XL];rfl
      ·simp only[aeu]
       refine⟨_,el,(0,0),setRow_heap w (μ b).blk Z _ el (0,0) Y,g2,?_,fun q u hu=>?_,fun _=>⟨K,rfl,?_,g9⟩⟩
       ·simp only[List.length_append,List.length_take,List.length_drop,R];omega
       ·rw[K] at W
        obtain⟨U,hU,hr⟩:=xS (cs:=M) (vs:=fS (iU j.zero).cells n) (Vs:=O.toList) (o:=o) (cur:=Z.toList) (by rw[R];exact YA) (fun j v hv=>by simpa using W j v hv) V q u (by rw[R];exact hu);refine⟨U,?_,hr⟩;rw[K];simpa using hU
       ·simp only[List.size_toArray,List.length_append,List.length_take,List.length_drop,Array.length_toList,C];omega
     ·cases h
    ·cases h
  ·cases h
end
def xn(T:TypeId→Option TyI)(mem:Mem)(t:TypeId)(x:AV)(H I:Option AV):Option (AV×Mem):=
 match T t,x with
 |some i,.slice b o n none=>
  match i.desc with
  |.slice e=>match T e,mem[b]? with
   |some j,some (.cells _ es cs)=>match I,H with
    |none,some (.int _ l)=>if l=n∧0<n∧es=j.size∧0<es∧es<1000∧o+n*es≤cs.length then some (.slice mem.length 0 0 none,mem++[.qK]) else none
    |_,_=>none
   |_,_=>none
  |_=>none
 |_,_=>none
section
variable {P:Program}{T:TypeId→Option TyI}{μ:Nat→Place}{mem:Mem}{base:Nat}{w:World}
theorem aes.qK(h:aes base μ mem w)(p:Place):aes base (upd μ mem.length p) (mem++[.qK]) w∧Step mem.length μ mem w (upd μ mem.length p) (mem++[.qK]) w:=by
 have hμ:∀b,b<mem.length→upd μ mem.length p b=μ b:=fun b X=>wF X
 have low:∀{b:Nat}{s:aek},(mem++[aek.qK])[b]? =some s→s≠ .qK→b<mem.length∧mem[b]? =some s:=by
  intro b s Z U;by_cases S:b<mem.length
  ·rw[List.getElem?_append_left S] at Z;exact⟨S,Z⟩
  ·exfalso
   have M:b=mem.length:=by have:=gL Z;simp at this;omega
   subst M;simp at Z;exact U Z.symm
 have own:∀{b:Nat},dQ (mem++[aek.qK]) b→b<mem.length∧dQ mem b:=by rintro b ⟨s,Z,ho⟩;have:=low Z (aek.aeP ho);exact⟨this.1,s,this.2,ho⟩
 refine⟨⟨h.aep,fun b s Z=>?_,fun b N L X K U G=>?_⟩,?_⟩
 ·by_cases V:s=.qK
  ·subst V;trivial
  ·obtain⟨S,F⟩:=low Z V
   rw[hμ b S];exact(h.slot b s F).mono (by simp) hμ fun _=>rfl
 ·obtain⟨R,O⟩:=own X
  obtain⟨h3,D⟩:=low K U;rw[hμ b R,hμ N h3];exact h.sep b N L O D U G
 ·exact⟨by simp,hμ,rfl,rfl,rfl,Nat.le_refl _,fun _ _ _=>rfl,fun b X _=>by obtain⟨R,O⟩:=own X;exact⟨b,O,(congrArg Place.blk (hμ b R)).symm⟩,Nat.le_refl _⟩
theorem Fz(hT:cK P T)(hH:aes base μ mem w){t:TypeId}{x v:AV}{X:Value}{I J:Option AV}{W Y:Option Value}{H :Mem}(hx:aeg μ mem.length x X)(Zh:(I=none∧W=none)∨∃l L,I=some l∧W=some L∧aeg μ mem.length l L)(hhi:(J=none∧Y=none)∨∃l L,J=some l∧Y=some L∧aeg μ mem.length l L)(h:xn T mem t x I J=some (v,H)):
  afh P (Instr.sliceAt t X W Y none) base μ mem w v H :=by
 unfold xn at h;split at h
 ·rename_i i b o n F
  split at h
  ·rename_i e D
   have M:=(hT t i F).desc;rw[D] at M;split at h
   ·rename_i j own es cs C B
    split at h
    ·rename_i k l
     split at h
     ·rename_i A
      obtain⟨rfl,g1,u,K,R,g7⟩:=A;cases h;rcases hhi with⟨_,rfl⟩ | ⟨_,_,V,_⟩
      ·rcases Zh with⟨V,_⟩ | ⟨a,L,V,rfl,m⟩
       ·cases V
       ·cases V
        rw[m.int];obtain⟨YS,rfl⟩:=hx.slice;have G:=hH.slot b _ B;simp only[aeu] at G;obtain⟨cur,el,fr,hs1,hs2,hs3,_,_⟩:=G;have hs2:=hs2.es R;subst hs2;have Zz:n≤jF (μ b) o none:=by simp only[jF];rw[Nat.le_div_iff_mul_le K];omega
        obtain⟨c,O⟩:=xE (jF (μ b) o none);rw[←O] at Zz ⊢;obtain⟨U,S⟩:=xE (if c=n then (μ b).off+o else (μ b).off+(o+n*(μ b).es));obtain⟨a1,a2⟩:=hH.qK ⟨(μ b).blk,U,(c-n)*(μ b).es,(μ b).es⟩;have Y6:(Instr.sliceBounds true n c (some (.int k (n:Int))) none none).run P w=.ok (n,n,c) w:=by
         have XN:(0:Int)≤(n:Int):=by omega
         have N:(n:Int)≤((n:Nat):Int):=Int.le_refl _;simp[Instr.sliceBounds,bX XN N]
        refine⟨.slice (some ⟨(μ b).blk,U,none⟩) 0 (c-n),w,_,?_,?_,a1,a2⟩
        ·simp[Instr.sliceAt,Instr.slice,run_underlying M,Y6,cD hT C]
         by_cases Z:c=n
         ·rw[if_pos Z] at S
          simp[Z,S]
         ·rw[if_neg Z] at S
          simp[Z,S,Addr.add_lit,u,Nat.add_assoc]
        ·simp only[aeg,eH,jF,List.length_append,List.length_singleton,Nat.add_zero,Nat.sub_zero]
         refine⟨by omega,?_⟩;rw[Nat.mul_div_cancel _ K]
      ·cases V
     ·cases h
    ·cases h
   ·cases h
  ·cases h
 ·cases h
end
def Bc(T:TypeId→Option TyI)(t:TypeId)(x:AV)(J H I:Option AV):Option AV:=
 match T t,x with
 |some i,.slice b o n (some c)=>
  match i.desc with
  |.slice e=>
   match T e,DH n H,Kk J,DH c I with
   |some j,some h,some l,some m=>
    if 0≤l∧l≤h∧h≤m∧m≤c∧(I=none∨H.isSome=true) then some (.slice b (if m=l then o else o+l.toNat*j.size) (h.toNat-l.toNat) (some (m.toNat-l.toNat))) else none
   |_,_,_,_=>none
  |_=>none
 |_,_=>none
def se(T:TypeId→Option TyI)(mem:Mem)(t t2:TypeId)(s x:AV):Option (AV×Mem):=
 match T t,s with
 |some i,.slice b 0 n (some c)=>
  match i.desc with
  |.slice e=>
   match T e,T t2,mem[b]? with
   |some j,some i2,some (.cells true es cs)=>
    if j.size=0∨1000≤j.size∨zJ i2=false then none else
    match mq T mem j.size t2 x with
    |none=>none
    |some (m,news)=>
     if news.all AV.aei=true∧es=j.size∧n+m≤c∧(n+m)*j.size≤cs.length then
      some (.slice b 0 (n+m) (some c),mem.set b (.cells true es (cs.take (n*j.size)++news++cs.drop ((n+m)*j.size)))) else none
   |_,_,_=>none
  |_=>none
 |_,_=>none
section
variable {P:Program}{T:TypeId→Option TyI}{μ:Nat→Place}{mem:Mem}{base:Nat}{w:World}
theorem vy(hT:cK P T){t:TypeId}{x v:AV}{X:Value}{Y hi mx:Option AV}{I J W:Option Value}(hx:aeg μ mem.length x X)(Zh:(Y=none∧I=none)∨∃l L,Y=some l∧I=some L∧aeg μ mem.length l L)(H:(hi=none∧J=none)∨∃l L,hi=some l∧J=some L∧aeg μ mem.length l L)(hmx:(mx=none∧W=none)∨∃l L,mx=some l∧W=some L∧aeg μ mem.length l L)(h:Bc T t x Y hi mx=some v):
  Val P (Instr.sliceAt t X I J W) w μ mem.length v:=by
 unfold Bc at h;split at h
 ·rename_i i b o n c ht
  have u:=(hT t i ht).desc;split at h
  ·rename_i e F'
   rw[F'] at u;split at h
   ·rename_i j K S O hj Z V D
    split at h
    ·rename_i hc
     obtain⟨h0,h1,h2,h3,h4⟩:=hc;cases h;obtain⟨YS,rfl⟩:=hx.slice;have Y6:(Instr.sliceBounds true n c I J W).run P w=.ok (S.toNat,K.toNat,O.toNat) w:=by
      have Yz :S≤((K.toNat:Nat):Int):=by omega
      have R :0≤K:=by omega
      have U :K≤((O.toNat:Nat):Int):=by omega
      have G :0≤O:=by omega
      rcases hmx with⟨rfl,rfl⟩ | ⟨m,M,rfl,rfl,hM⟩
      ·simp only[DH,Option.some.injEq] at D
       subst D;rw[Int.toNat_natCast] at U;rcases H with⟨rfl,rfl⟩ | ⟨a,A,rfl,rfl,F⟩<;>rcases Zh with⟨rfl,rfl⟩ | ⟨b,B,rfl,rfl,C⟩
       ·simp only[DH,Kk,Option.some.injEq] at Z V;subst Z;subst V
        simp[Instr.sliceBounds]
       ·cases b<;>simp only[DH,Kk,reduceCtorEq,Option.some.injEq] at Z V
        subst Z;subst V;rw[C.int];simp[Instr.sliceBounds,bX h0 h1]
       ·cases a<;>simp only[DH,Kk,reduceCtorEq,Option.some.injEq] at Z V
        subst Z;subst V;rw[F.int];simp[Instr.sliceBounds,bX R U]
       ·cases a<;>simp only[DH,reduceCtorEq,Option.some.injEq] at Z
        cases b<;>simp only[Kk,reduceCtorEq,Option.some.injEq] at V;subst Z;subst V;rw[F.int,C.int];simp[Instr.sliceBounds,bX R U,bX h0 Yz]
      ·cases m<;>simp only[DH,reduceCtorEq,Option.some.injEq] at D
       subst D;rw[hM.int];rcases H with⟨rfl,rfl⟩ | ⟨a,A,rfl,rfl,F⟩<;>rcases Zh with⟨rfl,rfl⟩ | ⟨b,B,rfl,rfl,C⟩
       ·simp at h4
       ·simp at h4
       ·cases a<;>simp only[DH,Kk,reduceCtorEq,Option.some.injEq] at Z V
        subst Z;subst V;rw[F.int];simp[Instr.sliceBounds,bX G h3,bX R U]
       ·cases a<;>simp only[DH,reduceCtorEq,Option.some.injEq] at Z
        cases b<;>simp only[Kk,reduceCtorEq,Option.some.injEq] at V;subst Z;subst V;rw[F.int,C.int];simp[Instr.sliceBounds,bX G h3,bX R U,bX h0 Yz]
     refine⟨.slice (some ⟨(μ b).blk,(μ b).off+(if O=S then o else o+S.toNat*j.size),none⟩) (K.toNat-S.toNat) (O.toNat-S.toNat),?_,by simp only[aeg,jF];exact⟨YS,trivial⟩⟩;have hml:(O.toNat=S.toNat)=(O=S):=by rw[eq_iff_iff];omega
     by_cases N:O=S
     ·simp[Instr.sliceAt,Instr.slice,run_underlying u,Y6,cD hT hj,N,jF]
     ·simp[Instr.sliceAt,Instr.slice,run_underlying u,Y6,cD hT hj,hml,N,jF,Addr.add_lit,Nat.add_assoc]
    ·cases h
   ·cases h
  ·cases h
 ·cases h
theorem C8(hT:cK P T)(I:aes base μ mem w){t t2 ty:TypeId}{s x v:AV}{S X:Value}{H :Mem}(hs:aeg μ mem.length s S)(hx:aeg μ mem.length x X)(h:se T mem t t2 s x=some (v,H)):
  afh P (Builtin.append_ #[t,t2] ty #[S,X]) base μ mem w v H :=by
 unfold se at h;split at h
 ·rename_i i b n c ht
  have hd:=(hT t i ht).desc;split at h
  ·rename_i e F'
   rw[F'] at hd;split at h
   ·rename_i j C es N hj B F
    split at h
    ·cases h
    ·rename_i XJ
     have R:=(hT t2 C B).desc;have A:(∃Y,P.underlying t2=some (.slice Y))∨P.underlying t2=some .string:=by
      have W:zJ C=true:=by
       cases M:zJ C with
       |true=>rfl
       |false=>exact absurd (.inr (.inr M)) XJ
      unfold zJ at W;split at W
      next Y M=>rw[M] at R;exact .inl ⟨Y,R⟩
      next M=>rw[M] at R;exact .inr R
      ·cases W
     have hsk:j.size<1000:=by
      rcases Nat.lt_or_ge j.size 1000 with h0 | h0
      ·exact h0
      ·exact absurd (.inr (.inl h0)) XJ
     split at h
     ·cases h
     ·rename_i m V J
      split at h
      ·rename_i hc
       obtain⟨P',rfl,YA,acd⟩:=hc;cases h;obtain⟨L,g1,D,g3,g4⟩:=tf (P:=P) I hx J;obtain⟨YS,rfl⟩:=hs.slice;have Zi:=I.slot b _ F;simp only[aeu] at Zi;obtain⟨Z,el,fr,s1,s2,s3,s4,s5⟩:=Zi;obtain⟨s6,s7,s8,s9⟩:=s5 trivial;subst s7;have ZA:(μ b).off+0=0:=by omega
       have K:=uo hT (ty:=ty) hd hj A (some ⟨(μ b).blk,0,none⟩) n c m X w g3 YA;rw[g4 w (fun _=>rfl)] at K;have G:L.length=m*j.size:=by rw[g1.length,D]
       have O:n*j.size+m*j.size=(n+m)*j.size:=(Nat.add_mul _ _ _).symm;have H':N.length≤Z.size:=by rw[s8];exact s3
       have XL:=run_storeCells_at (P:=P) (μ b).blk (n*j.size) el L 0 Z w s1 (by rw[G,Nat.add_zero,O];omega) (g1.aeZ P');simp only[Result.andThen_ok,Addr.add_lit,Nat.zero_add,XL] at K;have hw:=I.write (w' :=w.setRow (μ b).blk (Z.toList.take (n*j.size+0)++L++Z.toList.drop (n*j.size+0+L.length)).toArray) (s' :=.cells true j.size (N.take (n*j.size)++V++N.drop ((n+m)*j.size)))
        F (jh F) (fun _=>⟨_,List.getElem?_set_self (gL F),rfl⟩) rfl rfl rfl rfl (by simp[World.setRow]) (fun k hk=>setRow_other w _ k _ hk) ?_
       ·refine⟨.slice (some ⟨(μ b).blk,0,none⟩) (n+m) c,_,μ,?_,?_,hw.1,hw.2⟩
        ·rw[←K]
         simp only[jF,ZA]
        ·simp only[aeg,jF,ZA,List.length_set]
         exact⟨YS,trivial⟩
       ·simp only[aeu]
        refine⟨_,el,(0,0),setRow_heap w (μ b).blk Z _ el (0,0) s1,s2,?_,fun q u hu=>?_,fun _=>⟨s6,rfl,?_,s9⟩⟩
        ·simp only[List.length_append,List.length_take,List.length_drop,D];omega
        ·rw[s6] at s4
         rw[show(n+m)*j.size=n*j.size+V.length by rw[D,O]] at hu;obtain⟨U,hU,K⟩:=xS (cs:=N) (vs:=V) (Vs:=L) (o:=n*j.size) (cur:=Z.toList) (by rw[D,O];exact acd) (fun j v hv=>by simpa using s4 j v hv) g1 q u hu;refine⟨U,?_,K⟩;rw[s6];simpa using hU
        ·simp only[List.size_toArray,List.length_append,List.length_take,List.length_drop,Array.length_toList,G];omega
      ·cases h
   ·cases h
  ·cases h
 ·cases h
end
def qU(T:TypeId→Option TyI)(mem:Mem)(t:TypeId)(m k:AV):Option (AV×Mem):=
 match T t with
 |none=>none
 |some i=>
  match i.desc,m with
  |.map kt et,.map b=>
   match T et,mem[b]? with
   |some j,some (.map es)=>
    if lr T 20 kt k then
     match jd T kt k es 0 with
     |some (some (q,v))=>if k.ae4 then some (.tuple [v,.int .i64 q],mem.set b (.map (es.set q (k,v)))) else none
     |some none=>some (.tuple [iU j.zero,.int .i64 es.length],mem.set b (.map (es++[(k,iU j.zero)])))
     |none=>none
    else none
   |_,_=>none
  |_,_=>none
def kG(mem:Mem)(m s v:AV):Option Mem:=
 match m,s with
 |.map b,.int _ (.ofNat q)=>match mem[b]? with
  |some (.map es)=>match es[q]? with
   |some e=>some (mem.set b (.map (es.set q (e.1,v))))
   |none=>none
  |_=>none
 |_,_=>none
variable{G':Array MapEntry}
section
variable {P:Program}{T:TypeId→Option TyI}{μ:Nat→Place}{mem:Mem}{base:Nat}{w:World}{n:Nat}
theorem J6{H:TypeId}{k:AV}:∀{es:List (AV×AV)} {i q:Nat} {v:AV},jd T H k es i=some (some (q,v))→(es[q-i]?).map (·.2)=some v
 | [],i,q,v,h=>by simp[jd] at h
 |e::es,i,q,v,h=>by
  have X:=mR h;rw[jd] at h;split at h
  ·cases h;simp
  ·have:=J6 h
   obtain⟨j,V,Z,U,h3⟩:=mR h;subst Z;rw[show i+1+j-(i+1)=j by omega] at this;rw[show i+1+j-i=j+1 by omega];simpa using this
  ·cases h
theorem BM(H:aes base μ mem w){b I XR :Nat}{es YT :List (AV×AV)}{XU :Array MapEntry}(hb:mem[b]? =some (.map es))(h1:w.heap[(μ b).blk]? =some (.map G' I))(J:base≤(μ b).blk)(W:Dq XU XR)(g1:XU.size=YT.length)(g2:∀(j:Nat) e,YT[j]? =some e→∃E,XU[j]? =some E∧Oz μ mem.length e E):
  (setObj (μ b).blk (.map XU XR)).run P w=.ok () { w with heap:=w.heap.setIfInBounds (μ b).blk (.map XU XR) }∧
  aes base μ (mem.set b (.map YT)) { w with heap:=w.heap.setIfInBounds (μ b).blk (.map XU XR) }∧Step mem.length μ mem w μ (mem.set b (.map YT)) { w with heap:=w.heap.setIfInBounds (μ b).blk (.map XU XR) }:=by
 have Z:(μ b).blk<w.heap.size:=(Array.getElem?_eq_some_iff.1 h1).1;refine⟨sI h1 (by simp),H.write hb (Kz hb) (fun _=>⟨_,List.getElem?_set_self (gL hb),rfl⟩) rfl rfl rfl rfl (by simp) (fun q X=>?_) ?_⟩
 ·simp[Array.getElem?_setIfInBounds_ne (Ne.symm X)]
 ·simp only[aeu]
  exact⟨XU,XR,by simp[Z],⟨J,W⟩,g1,g2⟩
theorem Qt{H i:Nat}(h:Dq G' H)(I:i<G'.size):G'.findIdx? (fun e=>(e.born:Int)==(i:Int))=some i:=by
 rw[Array.findIdx?_eq_some_iff_getElem];refine⟨I,?_,?_⟩
 ·have:=h.2 i G'[i] (by simp)
  simp[this]
 ·intro j Z
  have:=h.2 j G'[j] (by simp);simp[this];omega
theorem xm(H:aes base μ mem w){t:TypeId}{m s v:AV}{M S V:Value}{mem' :Mem}(I:aeg μ mem.length m M)(J:aeg μ mem.length s S)(W:aeg μ mem.length v V)(h:kG mem m s v=some mem'):∃w',(Instr.entryStore t M S V).run P w=.ok () w' ∧aes base μ mem' w' ∧Step mem.length μ mem w μ mem' w' :=by
 unfold kG at h;split at h
 ·rename_i b k q
  split at h
  ·rename_i es hb
   split at h
   ·rename_i e K
    cases h;simp only[aeg] at I;obtain⟨_,rfl⟩:=I;have G:=H.slot b _ hb;simp only[aeu] at G;obtain⟨G',F,D,U,C,h3⟩:=G;have B:(getObj (μ b).blk).run P w=.ok (.map G' F) w:=by simp[getObj,Sem.run,D]
    have A:q<es.length:=gL K;have u:=Qt U.2 (i:=q) (by omega);obtain⟨f1,f2,f3⟩:=BM (P:=P) H (YT :=es.set q (e.1,v)) (XU :=G'.modify q fun e=>{ e with val:=V }) (XR :=F) hb D U.1 ⟨by simpa using U.2.1,fun j O Z =>by
     rw[Array.getElem?_modify] at Z;split at Z
     ·simp only[Option.map_eq_some_iff] at Z
      obtain⟨o,Y,rfl⟩:=Z;exact U.2.2 j o Y
     ·exact U.2.2 j O Z⟩ (by simpa using C) (fun j e' R =>by
     rw[List.getElem?_set] at R;by_cases X:q=j
     ·subst X
      simp only[if_true,A,Option.some.injEq] at R;subst R;obtain⟨E,hE,hr⟩:=h3 q e K;exact⟨{ E with val:=V },by simp[Array.getElem?_modify,hE],hr.1,W⟩
     ·rw[if_neg X] at R
      obtain⟨O,Z,N⟩:=h3 j e' R;exact⟨O,by simp[Array.getElem?_modify,X,Z],N⟩)
    refine⟨_,?_,f2,f3⟩;rw[J.int];have L :G'.findIdx? (fun e=>(e.born:Int)==Int.ofNat q)=some q:=u;simp only[Instr.entryStore,Sem.run_bind,Result.andThen_ok,B,asInt,asIntOf,Sem.run_pure,L];exact f1
   ·cases h
  ·cases h
 ·cases h
theorem Bb(hT:cK P T)(H:aes base μ mem w){t:TypeId}{m k v:AV}{M K:Value}{mem' :Mem}(hm:aeg μ mem.length m M)(hk:aeg μ mem.length k K)(h:qU T mem t m k=some (v,mem')):afh P (Instr.mapEntry t M K) base μ mem w v mem' :=by
 unfold qU at h;cases ht:T t with
 |none=>rw[ht] at h;cases h
 |some i=>
  rw[ht] at h;simp only at h;have Y:=(hT t i ht).desc;split at h
  ·rename_i kt et b F'
   rw[F'] at Y;split at h
   ·rename_i j es W hb
    split at h
    ·rename_i A
     simp only[aeg] at hm;obtain⟨YS,rfl⟩:=hm;have hs:=H.slot b _ hb;simp only[aeu] at hs;obtain⟨G',U,J,V,G,h3⟩:=hs;have hg:(getObj (μ b).blk).run P w=.ok (.map G' U) w:=by simp[getObj,Sem.run,J]
     have YU:=kP (P:=P) (n:=mem.length) hT false 20 A hk 9980 w;have I:∃u,T kt=some u:=by
      rw[lr] at A;cases hx:T kt with
      |none=>rw[hx] at A;cases A
      |some u=>exact⟨u,rfl⟩
     obtain⟨u,F⟩:=I;have e2:G'.toList.length=es.length:=by simpa using G
     have e3:∀(j:Nat) e,es[j]? =some e→∃E,G'.toList[j]? =some E∧Oz μ mem.length e E:=fun j e D=>by obtain⟨E,L,o⟩:=h3 j e D;exact⟨E,by simpa using L,o⟩
     split at h
     ·rename_i q v' C
      split at h
      ·rename_i hsc
       cases h;obtain⟨R,g1,g2⟩:=gE hT F hk e2 e3 C w;cases R with
       |none=>exact g2.elim
       |some x=>
        obtain⟨q',V'⟩:=x;obtain⟨rfl,hv⟩:=g2;obtain⟨B,e,hq,D,T'⟩:=mR C;have hq' :q=B :=by omega
        subst hq';obtain⟨E,L,o⟩:=h3 q e D;have hsb:=rN (μ:=μ) (n:=mem.length) hsc hk o.1 T' rfl;have XM :q<es.length:=gL D;have Zd:e.2=v' :=by have:=J6 C;rw[Nat.sub_zero] at this;rw[D] at this;simpa using this
        obtain⟨f1,f2,f3⟩:=BM (P:=P) H (YT :=es.set q (k,v')) (XU :=G'.modify q fun e=>{ e with key:=K }) (XR :=U) hb J V.1 ⟨by simpa using V.2.1,fun j S Z =>by
         rw[Array.getElem?_modify] at Z;split at Z
         ·simp only[Option.map_eq_some_iff] at Z
          obtain⟨E0,k1,rfl⟩:=Z;exact V.2.2 j E0 k1
         ·exact V.2.2 j S Z⟩ (by simpa using G) (fun j e' X =>by
         rw[List.getElem?_set] at X;by_cases O:q=j
         ·subst O
          simp only[if_true,XM,Option.some.injEq] at X;subst X;exact⟨{ E with key:=K },by simp[Array.getElem?_modify,L],hk,by rw[←Zd];exact o.2⟩
         ·rw[if_neg O] at X
          obtain⟨S,Z,N⟩:=h3 j e' X;exact⟨S,by simp[Array.getElem?_modify,O,Z],N⟩)
        refine⟨.tuple #[V',goInt q],_,μ,?_,?_,f2,f3⟩
        ·simp only[Instr.mapEntry,Sem.run_bind,run_underlying Y,Result.andThen_ok,hg]
         rw[show(10000:Nat)=20+9980 from rfl,YU];simp only[Result.andThen_ok,g1,Sem.run_bind];have aaa:(Instr.keyThatStays (((G'[q]?).map (·.key)).getD K) K).run P w=.ok K w:=by unfold Instr.keyThatStays;rw[L];simp only[Option.map_some,Option.getD_some,hsb,if_true];rfl
         rw[aaa];simp only[Result.andThen_ok,f1,Sem.run_pure];rw[L];simp only[Option.map_some,Option.getD_some,V.2.2 q E L]
        ·simp only[List.length_set,aeg]
         exact⟨[V',goInt q],rfl,bE.2 ⟨hv,bE.2 ⟨by simp[aeg,goInt],by simp[aeh]⟩⟩⟩
      ·cases h
     ·rename_i C
      cases h;obtain⟨R,g1,g2⟩:=gE hT F hk e2 e3 C w;cases R with
      |some x=>exact g2.elim
      |none=>
       have hz:=xh μ mem.length j.zero;obtain⟨f1,f2,f3⟩:=BM (P:=P) H (YT :=es++[(k,iU j.zero)]) (XU :=G'.push { key:=K,val:=j.zero,born:=U }) (XR :=U+1) hb J V.1 ⟨by simp[V.2.1],fun j S Z =>by
        rw[Array.getElem?_push] at Z;split at Z
        next W=>cases Z;rw[W];exact V.2.1
        ·exact V.2.2 j S Z⟩ (by simp[G]) (fun B e' X =>by
        by_cases hj' :B <es.length
        ·rw[List.getElem?_append_left hj'] at X
         obtain⟨S,Z,N⟩:=h3 B e' X;exact⟨S,by rw[Array.getElem?_push,if_neg (by omega)];exact Z,N⟩
        ·have ZL:B =es.length:=by have:=gL X;simp at this;omega
         subst ZL;simp at X;subst X;exact⟨{ key:=K,val:=j.zero,born:=U },by rw[Array.getElem?_push,if_pos G.symm],hk,hz⟩)
       refine⟨.tuple #[j.zero,goInt U],_,μ,?_,?_,f2,f3⟩
       ·simp only[Instr.mapEntry,Sem.run_bind,run_underlying Y,Result.andThen_ok,hg]
        rw[show(10000:Nat)=20+9980 from rfl,YU];simp only[Result.andThen_ok,g1,Sem.run_bind,eJ hT W,f1,Sem.run_pure]
       ·simp only[List.length_set,aeg]
        exact⟨[j.zero,goInt U],rfl,bE.2 ⟨hz,bE.2 ⟨by simp[aeg,goInt,V.2.1,G],by simp[aeh]⟩⟩⟩
     ·cases h
    ·cases h
   ·cases h
  ·cases h
end
end Go.Eng
namespace Go.Eng
def aUn(H:UnOp)(x:AV):Option AV:=
 match H,x with
 |.not,.bool b=>some (.bool (!b))
 |.neg,.int k n=>some (.int k (k.wrap (0-n)))
 |_,_=>none
def aOp(T:TypeId→Option TyI)(env:Env)(mem:Mem)(H:Op):Option (AV×Mem):=
 match H with
 |.move x=>some (get env x,mem)
 |.assign x=>some (get env x,mem)
 |.pick c a b=>match get env c with
  |.bool t=>some (if t then get env a else get env b,mem)
  |_=>none
 |.alloc e=>sV T mem e
 |.box _ x=>Wg mem (get env x)
 |.build t ps=>match bJ T t (ps.toList.map fun p=>(p.1,get env p.2)) with
  |some v=>some (v,mem)
  |none=>none
 |.buildSlice t n ps=>fK T mem t n (ps.toList.map fun p=>(p.1,get env p.2))
 |.load t a=>match PC T mem t (get env a) with
  |some v=>some (v,mem)
  |none=>none
 |.store t a x=>match sW T mem t (get env a) (get env x) with
  |some m=>some (.undef,m)
  |none=>none
 |.nilCheck x=>match get env x with
  |.ptr b o=>some (.ptr b o,mem)
  |.func f Z=>some (.func f Z,mem)
  |_=>none
 |.binOp H t x y _=>match W4 T H t (rh x) (rh y) (get env x) (get env y) with
  |some v=>some (v,mem)
  |none=>none
 |.unOp H _ x=>match aUn H (get env x) with
  |some v=>some (v,mem)
  |none=>none
 |.convert s d x=>match zR T s d (get env x) with
  |some v=>some (v,mem)
  |none=>mK T mem s d (get env x)
 |.makeFunc (.func f) first aba=>if first.size=0 then some (.func f (Wk env aba),mem) else none
 |.makeSlice t l c=>kj T mem t (get env l) (get env c)
 |.slice t x lo hi none=>match NF T mem t (get env x) (lo.map (get env)) (hi.map (get env)) with
  |some v=>some (v,mem)
  |none=>match xn T mem t (get env x) (lo.map (get env)) (hi.map (get env)) with
   |some r=>some r
   |none=>match Bc T t (get env x) (lo.map (get env)) (hi.map (get env)) none with
    |some v=>some (v,mem)
    |none=>none
 |.slice t x lo hi (some mx)=>match Bc T t (get env x) (lo.map (get env)) (hi.map (get env)) (some (get env mx)) with
  |some v=>some (v,mem)
  |none=>none
 |.fieldAddr t x f=>match sf T t (get env x) f with
  |some v=>some (v,mem)
  |none=>none
 |.field t x f=>match vw T t (get env x) f with
  |some v=>some (v,mem)
  |none=>none
 |.indexAddr t x i=>match sg T t (get env x) (get env i) with
  |some v=>some (v,mem)
  |none=>none
 |.index t x i=>match ND T t (get env x) (get env i) with
  |some v=>some (v,mem)
  |none=>none
 |.makeMap _ none=>some (.map mem.length,mem++[.map []])
 |.lookup t m k ok=>match kH T mem t (get env m) (get env k) ok with
  |some v=>some (v,mem)
  |none=>none
 |.mapUpdate t m k x=>match fl T mem t (get env m) (get env k) (get env x) with
  |some m=>some (.undef,m)
  |none=>none
 |.mapEntry t m k=>qU T mem t (get env m) (get env k)
 |.entryStore _ m s x=>match kG mem (get env m) (get env s) (get env x) with
  |some m=>some (.undef,m)
  |none=>none
 |.extract t i=>match get env t with
  |.tuple Z=>match Z[i]? with
   |some v=>some (v,mem)
   |none=>none
  |_=>none
 |.call { callee:=.builtin .len,args:=⟨[x]⟩,argTypes:=⟨[t]⟩ }=>match Vx T t mem (get env x) with
  |some v=>some (v,mem)
  |none=>none
 |.call { callee:=.builtin .append,args:=⟨[s,x]⟩,argTypes:=⟨[t,t2]⟩ }=>if NY (T t2) then vu T mem t (get env s) (get env x) else
  match oJ T mem t t2 (get env s) (get env x) with
  |some r=>some r
  |none=>se T mem t t2 (get env s) (get env x)
 |.call { callee:=.builtin .cap,args:=⟨[x]⟩,argTypes:=⟨[t]⟩ }=>match W5 T t (get env x) with
  |some v=>some (v,mem)
  |none=>none
 |.call { callee:=.builtin .clear,args:=⟨[x]⟩,argTypes:=⟨[t]⟩ }=>match JF T mem t (get env x) with
  |some m=>some (.tuple [],m)
  |none=>none
 |.call { callee:=.builtin .unsafeSliceData,args:=⟨[x]⟩,argTypes:=_ }=>match sh mem (get env x) with
  |some v=>some (v,mem)
  |none=>none
 |.call { callee:=.builtin .unsafeString,args:=⟨[x,y]⟩,argTypes:=⟨[pt,_]⟩ }=>xo T mem pt (get env x) (get env y)
 |.call { callee:=.builtin .min,args:=⟨[x,y]⟩,argTypes:=_ }=>match get env x,get env y with
  |.int k a,.int k' b=>if k=k' then some (.int k (if b<a then b else a),mem) else none
  |.str a,.str b=>some (.str (if Op.bytesLess a b||a==b then a else b),mem)
  |_,_=>none
 |.call { callee:=.builtin .max,args:=⟨[x,y]⟩,argTypes:=_ }=>match get env x,get env y with
  |.int k a,.int k' b=>if k=k' then some (.int k (if a<b then b else a),mem) else none
  |.str a,.str b=>some (.str (if Op.bytesLess a b then b else a),mem)
  |_,_=>none
 |_=>none
variable{a:Act}{s u:List UInt8}{ts:Array TypeId}
section
variable {P:Program}{T:TypeId→Option TyI}{μ:Nat→Place}{mem:Mem}{base:Nat}{w:World}
def XC(μ:Nat→Place)(n:Nat)(N:Next)(v:AV):Prop:=(∃V,N=.value V∧aeg μ n v V)∨(N=.skip∧v=.undef)
def afb(P:Program)(x:Sem Next)(base:Nat) (μ:Nat→Place)(mem:Mem)(w:World)(v:AV) (H :Mem):Prop:=
 ∃N w' μ',x.run P w=.ok N w' ∧XC μ' H.length N v∧aes base μ' H w' ∧Step mem.length μ mem w μ' H w'
theorem afb.ae5{x:Sem Value}{v:AV}{H :Mem}(h:afh P x base μ mem w v H):afb P (do pure (.value (←x))) base μ mem w v H :=by obtain⟨V,w',μ',Z,X,h3,U⟩:=h;exact⟨.value V,w',μ',by simp[Z],.inl ⟨V,rfl,X⟩,h3,U⟩
theorem afb.aeB{x:Sem Value}{v:AV}(H:aes base μ mem w)(h:Val P x w μ mem.length v):afb P (do pure (.value (←x))) base μ mem w v mem:=
 .ae5 (.aeB H h)
theorem afb.pure{V:Value}{v:AV}(H:aes base μ mem w)(h:aeg μ mem.length v V):afb P (Pure.pure (.value V)) base μ mem w v mem:=
 ⟨.value V,w,μ,rfl,.inl ⟨V,rfl,h⟩,H,.refl (Nat.le_refl _)⟩
theorem KB{env:Env}{n:Nat}(I:aeM μ n env a.tmps)(H:Array (Nat×Operand)):
  (H.toList.map fun p=>(p.1,a.eval p.2)).map (·.1)=(H.toList.map fun p=>(p.1,get env p.2)).map (·.1)∧
  aeh μ n ((H.toList.map fun p=>(p.1,get env p.2)).map (·.2)) ((H.toList.map fun p=>(p.1,a.eval p.2)).map (·.2)):=by
 constructor
 ·simp[Function.comp_def]
 ·have:=zZ I (H.toList.map (·.2))
  simpa [Function.comp_def] using this
theorem rF{env:Env}{n:Nat}(H:aeM μ n env a.tmps)(x:Option Operand):
  (x.map (get env)=none∧x.map a.eval=none)∨∃l L,x.map (get env)=some l∧x.map a.eval=some L∧aeg μ n l L:=by
 cases x with
 |none=>exact .inl ⟨rfl,rfl⟩
 |some x=>exact .inr ⟨_,_,rfl,rfl,aZ H x⟩
theorem UG{n:Nat}{ty:TypeId}{X Y:Value}(H:aeg μ n (.str s) X)(I:aeg μ n (.str u) Y):Val P (Builtin.min_ ts ty #[X,Y]) w μ n (.str (if Op.bytesLess s u||s==u then s else u)):=by rw[H.str,I.str];refine .str ?_;simp[Builtin.min_,Builtin.min2,Op.stringOp,asBool];split<;>rfl
theorem UE{n:Nat}{ty:TypeId}{X Y:Value}(H:aeg μ n (.str s) X)(I:aeg μ n (.str u) Y):Val P (Builtin.max_ ts ty #[X,Y]) w μ n (.str (if Op.bytesLess s u then u else s)):=by rw[H.str,I.str];refine .str ?_;simp[Builtin.max_,Builtin.max2,Op.stringOp,asBool];cases Op.bytesLess s u<;>simp
theorem Rf(hT:cK P T)(I:aes base μ mem w){env:Env}{o:Oper}{v:AV}{J :Mem}(H:aeM μ mem.length env a.tmps)(h:aOp T env mem o.op=some (v,J)):afb P (execOp a.eval o) base μ mem w v J :=by
 unfold aOp at h;split at h
 ·rename_i x Z
  cases h;simp only[execOp,Z];exact .pure I (aZ H x)
 ·rename_i x Z
  cases h;simp only[execOp,Z];exact .pure I (aZ H x)
 ·rename_i c x y Z
  split at h
  ·rename_i t hc
   cases h;have:=aZ H c;rw[hc] at this;simp only[execOp,Z,this.bool,asBool,pure_bind];cases t
   ·exact .pure I (aZ H y)
   ·exact .pure I (aZ H x)
  ·cases h
 ·rename_i e Z
  simp only[execOp,Z];exact .ae5 (JD hT I h)
 ·rename_i e x Z
  simp only[execOp,Z];exact .ae5 (Py I (aZ H x) h)
 ·rename_i t L Z
  split at h
  ·rename_i S X
   cases h;obtain⟨B,A⟩:=KB H L;simp only[execOp,Z];refine .aeB I ?_;have:=JE (P:=P) hT X B A w;have e:(⟨L.toList.map fun p=>(p.1,a.eval p.2)⟩:Array (Nat×Value))=L.map fun(i,x)=>(i,a.eval x):=by apply Array.ext';simp
   rw[e] at this;exact this
  ·cases h
 ·rename_i t n L Z
  obtain⟨B,A⟩:=KB H L;simp only[execOp,Z];refine .ae5 ?_;have:=xj (P:=P) hT I B A h;have e:(⟨L.toList.map fun p=>(p.1,a.eval p.2)⟩:Array (Nat×Value))=L.map fun(i,x)=>(i,a.eval x):=by apply Array.ext';simp
  rw[e] at this;exact this
 ·rename_i t x Z
  split at h
  ·rename_i S X
   cases h;simp only[execOp,Z];exact .aeB I (A9 hT I (aZ H x) X)
  ·cases h
 ·rename_i t x y Z
  split at h
  ·rename_i m X
   cases h;obtain⟨w',F,M,h3⟩:=JN (P:=P) hT I (aZ H x) (aZ H y) X;simp only[execOp,Z];exact⟨.skip,w',μ,by simp[F],.inr ⟨rfl,rfl⟩,M,h3⟩
  ·cases h
 ·rename_i x Z
  split at h
  ·rename_i b o U
   cases h;have:=aZ H x;rw[U] at this;simp only[execOp,Z,this.ptr.2];refine .pure I ?_;rw[this.ptr.2] at this;exact this
  ·rename_i f cs U
   cases h;have:=aZ H x;rw[U] at this;have M:=this;simp only[aeg] at M;obtain⟨Us,C,_⟩:=M;simp only[execOp,Z,C];refine .pure I ?_;rw[C] at this;exact this
  ·cases h
 ·rename_i op t x y yt Z
  split at h
  ·rename_i S X
   cases h;simp only[execOp,Z];exact .aeB I (Pw hT (aZ H x) (aZ H y) x y X w)
  ·cases h
 ·rename_i op t x Z
  split at h
  ·rename_i S X
   cases h;simp only[execOp,Z];refine .aeB I ?_;have U:=aZ H x;unfold aUn at X;split at X
   next Y=>cases X;rw[Y] at U;rw[U.bool];exact .bool rfl
   next Y=>cases X;rw[Y] at U;rw[U.int];exact .int rfl
   ·cases X
  ·cases h
 ·rename_i s d x Z
  split at h
  ·rename_i S X
   cases h;simp only[execOp,Z];exact .aeB I (Db hT (aZ H x) X w)
  ·simp only[execOp,Z];exact .ae5 (zv hT I (aZ H x) h)
 ·rename_i f first K Z
  split at h
  ·rename_i hf
   cases h;simp only[execOp,Z];refine .aeB I ⟨.func (.func f) (first.map a.eval) (K.map a.eval),rfl,?_⟩;simp only[aeg];have:first= #[]:=Array.eq_empty_of_size_eq_zero hf
   subst this;refine⟨K.toList.map a.eval,?_,zZ H K.toList⟩;simp only[Array.map_empty];congr 1;apply Array.ext';simp
  ·cases h
 ·rename_i t l c Z
  simp only[execOp,Z];exact .ae5 (zz hT I (aZ H l) (aZ H c) h)
 ·rename_i t x D N Z
  split at h
  ·rename_i S X
   cases h;simp only[execOp,Z];refine .aeB I ?_;simp only[Option.map_none];exact JL hT I (aZ H x) (rF H D) (rF H N) X
  ·simp only[execOp,Z]
   simp only[Option.map_none];split at h
   ·rename_i r X
    cases h;exact .ae5 (Fz hT I (aZ H x) (rF H D) (rF H N) X)
   ·split at h
    ·rename_i S X
     cases h;exact .aeB I (vy hT (aZ H x) (rF H D) (rF H N) (.inl ⟨rfl,rfl⟩) X)
    ·cases h
 ·rename_i t x D N mx Z
  split at h
  ·rename_i S X
   cases h;simp only[execOp,Z];refine .aeB I ?_;simp only[Option.map_some];exact vy hT (aZ H x) (rF H D) (rF H N) (.inr ⟨_,_,rfl,rfl,aZ H mx⟩) X
  ·cases h
 ·rename_i t x f Z
  split at h
  ·rename_i S X
   cases h;simp only[execOp,Z];exact .aeB I (zw hT (aZ H x) X w)
  ·cases h
 ·rename_i t x f Z
  split at h
  ·rename_i S X
   cases h;simp only[execOp,Z];exact .aeB I (JI hT (aZ H x) X w)
  ·cases h
 ·rename_i t x i Z
  split at h
  ·rename_i S X
   cases h;simp only[execOp,Z];exact .aeB I (zx hT (aZ H x) (aZ H i) X w)
  ·cases h
 ·rename_i t x i Z
  split at h
  ·rename_i S X
   cases h;simp only[execOp,Z];exact .aeB I (JJ hT (aZ H x) (aZ H i) X w)
  ·cases h
 ·rename_i t Z
  cases h;simp only[execOp,Z,Option.map_none];exact .ae5 (FX I)
 ·rename_i t m k ok Z
  split at h
  ·rename_i S X
   cases h;simp only[execOp,Z];exact .aeB I (Fx hT I (aZ H m) (aZ H k) X)
  ·cases h
 ·rename_i t m k x Z
  split at h
  ·rename_i m' X
   cases h;obtain⟨w',F,M,h3⟩:=zC (P:=P) hT I (aZ H m) (aZ H k) (aZ H x) X;simp only[execOp,Z];exact⟨.skip,w',μ,by simp[F],.inr ⟨rfl,rfl⟩,M,h3⟩
  ·cases h
 ·rename_i t m k Z
  simp only[execOp,Z];exact .ae5 (Bb hT I (aZ H m) (aZ H k) h)
 ·rename_i t m s x Z
  split at h
  ·rename_i m' X
   cases h;obtain⟨w',F,M,h3⟩:=xm (P:=P) (t:=t) I (aZ H m) (aZ H s) (aZ H x) X;simp only[execOp,Z];exact⟨.skip,w',μ,by simp[F],.inr ⟨rfl,rfl⟩,M,h3⟩
  ·cases h
 ·rename_i t i Z
  split at h
  ·rename_i cs U
   split at h
   ·rename_i S N
    cases h;have:=aZ H t;rw[U] at this;simp only[aeg] at this;obtain⟨Us,C,hr⟩:=this;obtain⟨V,hV,hv⟩:=hr.get i _ N;simp only[execOp,Z,C];exact .aeB I ⟨V,by simp[Instr.extract,hV],hv⟩
   ·cases h
  ·cases h
 ·rename_i x t Z
  split at h
  ·rename_i S X
   cases h;simp only[execOp,Z,resolve,invoke,builtin,pure_bind];rw[show Array.map a.eval ⟨[x]⟩= #[a.eval x] by simp];exact .aeB I (PB hT I (aZ H x) X)
  ·cases h
 ·rename_i s x t t2 Z
  simp only[execOp,Z,resolve,invoke,builtin,pure_bind];rw[show Array.map a.eval ⟨[s,x]⟩= #[a.eval s,a.eval x] by simp];split at h
  ·rename_i N
   exact .ae5 (Da hT I (aZ H s) (aZ H x) N h)
  ·split at h
   ·rename_i r X
    cases h;exact .ae5 (Fw hT I (aZ H s) (aZ H x) X)
   ·exact .ae5 (C8 hT I (aZ H s) (aZ H x) h)
 ·rename_i x t Z
  split at h
  ·rename_i S X
   cases h;simp only[execOp,Z,resolve,invoke,builtin,pure_bind];rw[show Array.map a.eval ⟨[x]⟩= #[a.eval x] by simp];exact .aeB I (Pz hT (aZ H x) X)
  ·cases h
 ·rename_i x t Z
  split at h
  ·rename_i m' X
   cases h;simp only[execOp,Z,resolve,invoke,builtin,pure_bind];rw[show Array.map a.eval ⟨[x]⟩= #[a.eval x] by simp];exact .ae5 (JH hT I (aZ H x) X)
  ·cases h
 ·rename_i x ts Z
  split at h
  ·rename_i S X
   cases h;simp only[execOp,Z,resolve,invoke,builtin,pure_bind];rw[show Array.map a.eval ⟨[x]⟩= #[a.eval x] by simp];exact .aeB I (zD I _ _ (aZ H x) X)
  ·cases h
 ·rename_i x y pt it Z
  simp only[execOp,Z,resolve,invoke,builtin,pure_bind];rw[show Array.map a.eval ⟨[x,y]⟩= #[a.eval x,a.eval y] by simp];exact .ae5 (FB hT I (aZ H x) (aZ H y) h)
 ·rename_i x y ts Z
  split at h
  ·rename_i k i k' j U G
   split at h
   ·rename_i W
    cases h;subst W;have R:=aZ H x;have O:=aZ H y;rw[U] at R;rw[G] at O;simp only[execOp,Z,resolve,invoke,builtin,pure_bind];refine .aeB I (.int ?_);simp[Builtin.min_,Builtin.min2,R.int,O.int]
   ·cases h
  ·rename_i s u U G
   cases h;have R:=aZ H x;have O:=aZ H y;rw[U] at R;rw[G] at O;simp only[execOp,Z,resolve,invoke,builtin,pure_bind];rw[show Array.map a.eval ⟨[x,y]⟩= #[a.eval x,a.eval y] by simp];exact .aeB I (UG R O)
  ·cases h
 ·rename_i x y ts Z
  split at h
  ·rename_i k i k' j U G
   split at h
   ·rename_i W
    cases h;subst W;have R:=aZ H x;have O:=aZ H y;rw[U] at R;rw[G] at O;simp only[execOp,Z,resolve,invoke,builtin,pure_bind];refine .aeB I (.int ?_);simp[Builtin.max_,Builtin.max2,R.int,O.int]
   ·cases h
  ·rename_i s u U G
   cases h;have R:=aZ H x;have O:=aZ H y;rw[U] at R;rw[G] at O;simp only[execOp,Z,resolve,invoke,builtin,pure_bind];rw[show Array.map a.eval ⟨[x,y]⟩= #[a.eval x,a.eval y] by simp];exact .aeB I (UE R O)
  ·cases h
 ·cases h
end
end Go.Eng
namespace Go.Eng
def Tk(P:Program)(f:FuncId):Prop:=∃fn,P.funcs[f]? =some fn∧fn.body.isSome=true∧(fn.name == "runtime.NumGoroutine")=false
abbrev Fr(H:Option Nat):Fence:={ Fence.wide with round:=H }
variable{f:FuncId}{ro:Option Nat}
theorem zU{n:Nat}{P:Program}{args:Array Value}{w:World}{R:Ending→World→Prop}:CallsIn (Fr ro) n P f args w R↔Calls P f args w R:=
 callsIn_wide (n:=n)
def xF:String:=String.ofList ([105,110,116,101,114,110,97,108,47,115,116,114,99,111,110,118,46,117,105,110,116,54,52,112,111,119,49,48].map Char.ofNat)
structure GOk (P:Program)(base:Nat)(w:World):Prop where
 below:P.globals.size≤base
 tab:Lib.TabIs P w xF .u64 Lib.pow10Tab
theorem GOk.agh{P:Program}{H:Nat}{w:World}(h:GOk P H w){s:String}(I:xF=s):Lib.TabIs P w s .u64 Lib.pow10Tab:=I▸h.tab
theorem Oa{H:Nat}{μ:Nat→Place}{mem:Mem}{w:World}(I:aes H μ mem w){b:Nat}(J:dQ mem b):H≤(μ b).blk:=by
 obtain⟨s,X,Z⟩:=J;have:=I.slot b s X;cases s with
 |qK=>cases Z
 |cells own es cs=>simp only[aek.own] at Z;subst Z;simp only[aeu] at this;obtain⟨_,_,_,_,_,_,_,h⟩:=this;exact(h trivial).2.2.2
 |map es=>simp only[aeu] at this;obtain⟨_,_,_,h,_⟩:=this;exact h.1
 |aeO es=>cases Z
 |loop r=>simp only[aeu] at this;obtain⟨_,_,h,_⟩:=this;exact h
variable{name:String}
theorem Dg{P:Program}{g:Nat}(h:P.globalNamed name=some g):g<P.globals.size:=by
 unfold Program.globalNamed at h;split at h
 ·rename_i X Z
  cases h;have:g∈(List.range P.globals.size).filter fun g=>(P.globals[g]?).any (·.name==name):=by rw[Z];simp
  simpa using (List.mem_filter.1 this).1
 ·cases h
variable{w' :World}
theorem Ow{P:Program}{w:World}(h:∀k,k<P.globals.size→w'.heap[k]? =w.heap[k]?):w'.var? P name=w.var? P name:=by
 unfold World.var?;cases hg:P.globalNamed name with
 |none=>rfl
 |some g=>simp only[Option.bind_some];rw[h g (Dg hg)]
variable{m0:Nat}{μ' :Nat→Place}
theorem GOk.step{P:Program}{H:Nat}{μ:Nat→Place}{mem I :Mem}{w:World}(h:GOk P H w)(J:aes H μ mem w)(hS:Step m0 μ mem w μ' I w'):GOk P H w' :=by
 refine⟨h.below,?_⟩;have:=h.tab;unfold Lib.TabIs at this ⊢;rw[←this];refine Ow fun k X=>hS.frame k ?_ fun b Z=>?_
 ·have:=h.below;have:=J.aep;omega
 ·have:=Oa J Z;have:=h.below;omega
structure MOk (P:Program)(base h0:Nat)(w:World)(ds:List Deferred):Prop where
 afo:GOk P base w
 aep:base≤h0
 le:h0≤w.heap.size
 each:∀d∈ds,∃r,d={ target:=.collected r,args:= #[] }∧h0≤r∧w.heap[r]? =some (.deferred (some []))
 nodup:(ds.map (·.target)).Nodup
variable{h0:Nat}
theorem MOk.nil{P:Program}{H:Nat}(w:World)(hg:GOk P H w)(I:H≤h0)(h:h0≤w.heap.size):MOk P H h0 w []:=⟨hg,I,h,fun _ h=>by(cases h),by simp⟩
theorem pK{H:Nat}{μ:Nat→Place}{mem:Mem}{w:World}(I:aes H μ mem w){r:Nat}{x}(hr:w.heap[r]? =some (.deferred x)){b:Nat}{s:aek}(J:mem[b]? =some s)(W:s≠ .qK):(μ b).blk≠r:=by
 intro e;have:=I.slot b s J;cases s with
 |qK=>exact W rfl
 |cells own es cs=>simp only[aeu] at this;obtain⟨_,_,_,Z,_⟩:=this;rw[e,hr] at Z;cases Z
 |map es=>simp only[aeu] at this;obtain⟨_,_,Z,_⟩:=this;rw[e,hr] at Z;cases Z
 |aeO es=>simp only[aeu] at this;obtain⟨_,_,Z,_⟩:=this;rw[e,hr] at Z;cases Z
 |loop r=>simp only[aeu] at this;obtain⟨_,Z,_⟩:=this;rw[e,hr] at Z;cases Z
theorem MOk.step{P:Program}{H:Nat}{μ:Nat→Place}{mem I :Mem}{w:World}{J:List Deferred}(h:MOk P H h0 w J)(W:aes H μ mem w)(hS:Step m0 μ mem w μ' I w'):MOk P H h0 w' J:=by refine⟨h.afo.step W hS,h.aep,Nat.le_trans h.le hS.size,fun d V=>?_,h.nodup⟩;obtain⟨r,e,U,Z⟩:=h.each d V;refine⟨r,e,U,?_⟩;rw[hS.frame r (Array.getElem?_eq_some_iff.1 Z).1 fun b X=>?_,Z];obtain⟨s,X,S⟩:=X;exact pK W Z X (aek.aeP S)
def aeQ(P:Program)(f:FuncId)(args:List AV)(mem:Mem)(R:AV→Mem→Prop):Prop:=
 Tk P f∧∀base μ w Vs,GOk P base w→aes base μ mem w→aeh μ mem.length args Vs→
  Calls P f ⟨Vs⟩ w fun e w' =>∃V v mem' μ',e=.returned V∧aeg μ' mem'.length v V∧aes base μ' mem' w' ∧Step mem.length μ mem w μ' mem' w' ∧R v mem'
def kO(P:Program)(f:FuncId)(args:List AV)(mem:Mem)(v:AV) (H :Mem):Prop:=aeQ P f args mem fun Z X=>Z=v∧X=H
theorem aeQ.mono{P f args mem}{R H :AV→Mem→Prop}(h:aeQ P f args mem R)(hr:∀v m,R v m→H v m):aeQ P f args mem H :=
 ⟨h.1,fun base μ w Vs h0 h1 h2=>(h.2 base μ w Vs h0 h1 h2).mono fun _ _ ⟨V,v,m,μ',a,b,c,d,r⟩=>⟨V,v,m,μ',a,b,c,d,hr _ _ r⟩⟩
def ae0(P:Program)(b:Nat)(args:List AV)(mem:Mem)(R:AV→Mem→Prop):Prop:=
 ∀base μ w Vs,GOk P base w→aes base μ mem w→aeh μ mem.length args Vs→b<mem.length→∃f Z assign X,
  (Instr.yield (μ b).blk ⟨Vs⟩).run P w=.ok (.round (μ b).blk f Z assign X) w∧
  RoundIn Fence.wide 0 P (μ b).blk f Z assign X w fun e w' =>∃V v mem' μ',e=.returned V∧aeg μ' mem'.length v V∧aes base μ' mem' w' ∧Step mem.length μ mem w μ' mem' w' ∧R v mem'
def fO(P:Program)(b:Nat)(args:List AV)(mem:Mem)(v:AV) (H :Mem):Prop:=ae0 P b args mem fun Z X=>Z=v∧X=H
def Ai(env:Env):Op→Option (Nat×List AV)
 |.call { callee:=.value x,args,argTypes:=_ }=>match get env x with
  |.yield b=>some (b,Wk env args)
  |_=>none
 |_=>none
def FI(env:Env):Op→Option (FuncId×List AV)
 |.call { callee:=.value x,args,argTypes:=_ }=>match get env x with
  |.func f Z=>some (f,Wk env args++Z)
  |_=>none
 |_=>none
def rV(ops:Array Oper)(env:Env)(o:Oper):Option Bool:=
 match o.guard with
 |none=>some true
 |some (j,abH)=>match (ops[j]?).bind (·.dst) with
  |some d=>match ad env d with
   |.bool b=>some (b==abH)
   |.tuple []=>some false
   |_=>none
  |none=>none
def ae6(env:Env)(H:Option Tmp)(v:AV):Env:=
 match H with
 |some d=>(d,v)::env
 |none=>env
structure St where
 env:Env
 mem:Mem
def Df(N:Nat)(o:Oper):Bool:=match o.dst with
 |some d=>decide (d<N)
 |none=>true
def wK(P:Program)(T:TypeId→Option TyI)(env:Env)(mem:Mem)(o:Oper)(v:AV) (H :Mem):Prop:=
 aOp T env mem o.op=some (v,H)∨(∃f Z,FI env o.op=some (f,Z)∧kO P f Z mem v H)∨
  ∃b Z,Ai env o.op=some (b,Z)∧fO P b Z mem v H
def mr(P:Program)(T:TypeId→Option TyI)(N:Nat)(ops:Array Oper):List Oper→St→St→Prop
 | [],st,S' =>S' =st
 |o::os,st,S' =>∃b,rV ops st.env o=some b∧Df N o=true∧
   (b=false→mr P T N ops os ⟨ae6 st.env o.dst (.tuple []),st.mem⟩ S')∧
   (b=true→∃v Z,wK P T st.env st.mem o v Z ∧mr P T N ops os ⟨ae6 st.env o.dst v,Z⟩ S')
variable{o:Oper}
section
variable {P:Program}{T:TypeId→Option TyI}{μ:Nat→Place}{mem:Mem}{base:Nat}{w:World}
theorem aeM.ae6{n N:Nat}{env:Env}{a:Act}{v:AV}{V:Value}(h:aeM μ n env a.tmps)(H:a.tmps.size=N)(hd:Df N o=true)(I:aeg μ n v V):
  aeM μ n (ae6 env o.dst v) (a.put o.dst V).tmps:=by
 unfold Df at hd;cases ho:o.dst with
 |none=>simpa [Go.Eng.ae6,Act.put] using h
 |some d=>
  rw[ho] at hd;simp only[decide_eq_true_eq] at hd;exact h.put (by rw[H];exact hd) I
theorem fu(a:Act)(d:Option Tmp)(V:Value):(a.put d V).tmps.size=a.tmps.size:=by cases d<;>simp[Act.put]
theorem fG(a:Act)(d:Option Tmp)(V:Value):(a.put d V).defers=a.defers:=by cases d<;>rfl
theorem pj{env:Env}{n:Nat}{ops:Array Oper}{a:Act}{b:Bool}(H:aeM μ n env a.tmps)(h:rV ops env o=some b):
  Region.wanted o (yielded ops a.tmps)=b:=by
 unfold rV at h;unfold Region.wanted;split at h
 next V=>cases h;simp[V]
 ·rename_i j X V
  simp only[V];split at h
  ·rename_i d R
   split at h
   ·rename_i O U
    cases h;have:=H d;rw[U] at this;have Z:=this.bool;simp only[yielded,R,Option.bind_some];have S:a.tmps[d]? =some (.bool O):=by
     rw[Array.getD_eq_getD_getElem?] at Z;cases hx:a.tmps[d]? with
     |none=>rw[hx] at Z;simp[undef] at Z
     |some y=>rw[hx] at Z;simp at Z;rw[Z]
    rw[S];cases O <;>cases X<;>rfl
   ·rename_i U
    cases h;have:=H d;rw[U] at this;simp only[aeg,aeh] at this;obtain⟨N,Z,rfl⟩:=this;simp only[yielded,R,Option.bind_some];rw[Array.getD_eq_getD_getElem?] at Z;cases hx:a.tmps[d]? with
    |none=>rfl
    |some y=>rw[hx] at Z;simp only[Option.getD_some] at Z;rw[Z];cases X<;>rfl
   ·cases h
  ·cases h
theorem yA(h:Tk P f)(args:Array Value)(w:World):(callFunc f args).run P w=.ok (.enter f args) w:=by
 obtain⟨fn,X,Z,h3⟩:=h;have V:¬fn.body=none:=by intro e;rw[e] at Z;cases Z
 have U:¬fn.name = "runtime.NumGoroutine" := by simpa using h3
 simp[callFunc,X,U,V]
theorem Fy{T:TypeId→Option TyI}{env:Env}{mem:Mem}{H:Op}{r}(h:aOp T env mem H=some r):∀c,H≠ .defer c:=by intro c e;subst e;simp[aOp] at h
theorem rD(hT:cK P T)(hG:GOk P base w)(Y:aes base μ mem w){N:Nat}{env:Env}{a:Act}{v:AV}{H :Mem}(I:aeM μ mem.length env a.tmps)(J:a.tmps.size=N)(hd:Df N o=true)(h:wK P T env mem o v H){K:Act→World→Prop}{Q:Exit→Act→World→Prop}(W:∀V w' μ',aeg μ' H.length v V→aes base μ' H w' →aeM μ' H.length (ae6 env o.dst v) (a.put o.dst V).tmps→Step mem.length μ mem w μ' H w' →K (a.put o.dst V) w'):
  o.wpIn (Fr ro) 0 P a w K Q:=by
 refine⟨fun _ _=>trivial,?_⟩;rcases h with h | ⟨f,S,Z,R⟩ | ⟨b,S,Z,hy⟩
 ·rw[Oper.semAt_eq _ _ _ (Fy h)]
  obtain⟨N',w',μ',B,A,h3,C⟩:=Rf hT Y I h;rw[B];have O :aeM μ' H.length env a.tmps:=I.mono C.len C.agree;rcases A with⟨V,rfl,M⟩ | ⟨rfl,rfl⟩
  ·exact W V w' μ' M h3 (O.ae6 J hd M) C
  ·have M:aeg μ' H.length .undef undef:=by simp[aeg]
   exact W undef w' μ' M h3 (O.ae6 J hd M) C
 ·unfold FI at Z
  split at Z
  ·rename_i x U ts L
   split at Z
   ·rename_i f' caps u
    cases Z;have X:=aZ I x;rw[u] at X;simp only[aeg] at X;obtain⟨Us,m,j⟩:=X;have XP:(execOp a.eval o).run P w=.ok (.enter f ⟨U.toList.map a.eval++Us⟩) w:=by simp only[execOp,L,resolve,m,Deferred.ofValue,pure_bind,invoke];rw[yA R.1];congr 2;apply Array.ext';simp
    rw[Oper.semAt_eq _ _ _ (by rw[L];intro c e;cases e),XP];refine⟨fun h=>by simp[Fence.wide] at h,zU.2 ((R.2 base μ w _ hG Y ((zZ I U.toList).append j)).mono ?_)⟩;rintro e w' ⟨V,v',m',μ',rfl,q1,q2,q3,rfl,rfl⟩;exact W V w' μ' q1 q2 ((I.mono q3.len q3.agree).ae6 J hd q1) q3
   ·cases Z
  ·cases Z
 ·unfold Ai at Z
  split at Z
  ·rename_i x U ts L
   split at Z
   ·rename_i b' u
    cases Z;have X:=aZ I x;rw[u] at X;simp only[aeg] at X;obtain⟨hb,m⟩:=X;obtain⟨f,G,XO,D,B,A⟩:=hy base μ w _ hG Y (zZ I U.toList) hb;have XP:(execOp a.eval o).run P w=.ok (.round (μ b).blk f G XO D) w:=by
     rw[←B];simp only[execOp,L,resolve,m,Deferred.ofValue,pure_bind,invoke];have e: #[]++U.map a.eval=(⟨U.toList.map a.eval⟩:Array Value):=by apply Array.ext';simp
     rw[e]
    rw[Oper.semAt_eq _ _ _ (by rw[L];intro c e;cases e),XP];refine⟨fun h=>by simp[Fence.wide] at h,RoundIn.mono (F:=Fr ro) A ?_⟩;rintro e w' ⟨V,v',m',μ',rfl,q1,q2,q3,rfl,rfl⟩;exact W V w' μ' q1 q2 ((I.mono q3.len q3.agree).ae6 J hd q1) q3
   ·cases Z
  ·cases Z
theorem v7(hT:cK P T){N:Nat}{ops:Array Oper}{Q:Exit→Act→World→Prop}:∀{l:List Oper}{H I :St}{μ:Nat→Place} {w:World} {a:Act} {m0:Nat}{μ0:Nat→Place} {mem0:Mem} {w0:World} {h0:Nat} {ro:Option Nat},
  mr P T N ops l H I →aes base μ H.mem w→aeM μ H.mem.length H.env a.tmps→a.tmps.size=N→MOk P base h0 w a.defers→m0≤H.mem.length→Step m0 μ0 mem0 w0 μ H.mem w→
  (∀a' w' μ',aes base μ' I.mem w' →aeM μ' I.mem.length I.env a'.tmps→a'.tmps.size=N→MOk P base h0 w' a'.defers→m0≤I.mem.length→Step m0 μ0 mem0 w0 μ' I.mem w' →Q .normal a' w')→
  wpListIn (Fr ro) 0 P ops Q l a w
 | [],H,I,μ,w,a,m0,μ0,mem0,w0,h0,ro,h,hH,hR,hN,YV,hm,hS,hQ=>by simp only[mr] at h;subst h;exact wpListIn_nil (hQ a w μ hH hR hN YV hm hS)
 |o::os,H,I,μ,w,a,m0,μ0,mem0,w0,h0,ro,h,hH,hR,hN,YV,hm,hS,hQ=>by
  obtain⟨b,R,X,O,M⟩:=h;refine wpListIn_step fun K U=>?_
  rw[pj hR R];cases b with
  |false=>
   simp only[Bool.false_eq_true,if_false];refine⟨fun _ _=>trivial,?_⟩;refine U _ _ (v7 hT (O rfl) hH (hR.ae6 hN X (by simp[aeg,aeh,undef])) (by rw[fu];exact hN) (by rw[fG];exact YV) hm hS hQ)
  |true=>
   simp only[if_true];obtain⟨v,S,Z,L⟩:=M rfl;refine rD hT YV.afo hH hR hN X Z fun V w' μ' q1 q2 q3 q4=>U _ _ ?_
   exact v7 hT L q2 q3 (by rw[fu];exact hN) (by rw[fG];exact YV.step hH q4) (Nat.le_trans hm q4.len) (hS.trans (q4.mono hm)) hQ
end
end Go.Eng
namespace Go.Eng
def AWP(P:Program)(tp:Bool)(N m0:Nat)(c:Code)(H:St)(Q:Exit→St→Prop):Prop:=
 ∀(X:Option Nat) (V:Nat) base μ w a,(tp=true→X=none)→aes base μ H.mem w→aeM μ H.mem.length H.env a.tmps→a.tmps.size=N→MOk P base V w a.defers→m0≤H.mem.length→
  c.wpIn (Fr X) 0 P (fun e Z w' =>∃S' μ',aes base μ' S'.mem w' ∧aeM μ' S'.mem.length S'.env Z.tmps∧Z.tmps.size=N∧MOk P base V w' Z.defers∧m0≤S'.mem.length∧
   Step m0 μ H.mem w μ' S'.mem w' ∧Q e S') a w
variable{Q' :Exit→St→Prop}{c:Code}{id:Nat}
section
variable {P:Program}{T:TypeId→Option TyI}{tp:Bool}{N m0:Nat}{Q:Exit→St→Prop}{st:St}
theorem AWP.mono(h:AWP P tp N m0 c st Q)(hq:∀e s,Q e s→Q' e s):AWP P tp N m0 c st Q' :=
 fun ro h0 base μ w a YW h1 h2 h3 h4 h5=>wpIn_mono (h ro h0 base μ w a YW h1 h2 h3 h4 h5) fun _ _ _ ⟨s,μ',a1,a2,a3,a4,a5,a6,a7⟩=>⟨s,μ',a1,a2,a3,a4,a5,a6,hq _ _ a7⟩
theorem Uf(h:Q .normal st):AWP P tp N m0 .skip st Q:=
 fun _ _ _ μ _ _ _ h1 h2 h3 h4 h5=>wpIn_skip ⟨st,μ,h1,h2,h3,h4,h5,.refl h5,h⟩
theorem Ud(h:Q (.exit id) st):AWP P tp N m0 (.exit id) st Q:=
 fun _ _ _ μ _ _ _ h1 h2 h3 h4 h5=>wpIn_exit ⟨st,μ,h1,h2,h3,h4,h5,.refl h5,h⟩
theorem VA(h:Q .ret st):AWP P tp N m0 .ret st Q:=
 fun _ _ _ μ _ _ _ h1 h2 h3 h4 h5=>wpIn_ret ⟨st,μ,h1,h2,h3,h4,h5,.refl h5,h⟩
def W0(R:St→Prop)(Q:Exit→St→Prop):Exit→St→Prop
 |.normal,s=>R s
 |e,s=>Q e s
theorem xp{x y:Code}(h:AWP P tp N m0 x st (W0 (fun s=>AWP P tp N m0 y s Q) Q)):AWP P tp N m0 (.seq x y) st Q:=by
 intro ro h0 base μ w a YW h1 h2 h3 h4 h5;refine wpIn_seq (wpIn_mono (h ro h0 base μ w a YW h1 h2 h3 h4 h5) ?_);rintro e a' w' ⟨s,μ',b1,b2,b3,b4,b5,b6,b7⟩;cases e with
 |normal=>
  refine wpIn_mono (b7 ro h0 base μ' w' a' YW b1 b2 b3 b4 b5) ?_;rintro e a2 w2 ⟨s2,μ2,c1,c2,c3,c4,c5,c6,c7⟩;exact⟨s2,μ2,c1,c2,c3,c4,c5,b6.trans c6,c7⟩
 |_=>exact⟨s,μ',b1,b2,b3,b4,b5,b6,b7⟩
theorem NI{c:Operand}{x y:Code}{b:Bool}(hc:get st.env c=.bool b)(H:b=true→AWP P tp N m0 x st Q)(hf:b=false→AWP P tp N m0 y st Q):
  AWP P tp N m0 (.cond c x y) st Q:=by
 intro ro h0 base μ w a YW h1 h2 h3 h4 h5;have Z:=aZ h2 c;rw[hc] at Z;exact wpIn_cond_split Z.bool (fun e=>H e ro h0 base μ w a YW h1 h2 h3 h4 h5) (fun e=>hf e ro h0 base μ w a YW h1 h2 h3 h4 h5)
def NL(id:Nat)(Q:Exit→St→Prop):Exit→St→Prop
 |.exit i,s=>if i=id then Q .normal s else Q (.exit i) s
 |e,s=>Q e s
theorem Bg(h:AWP P tp N m0 c st (NL id Q)):AWP P tp N m0 (.block id c) st Q:=by
 intro ro h0 base μ w a YW h1 h2 h3 h4 h5;refine wpIn_block (wpIn_mono (h ro h0 base μ w a YW h1 h2 h3 h4 h5) ?_);rintro e a' w' ⟨s,μ',b1,b2,b3,b4,b5,b6,b7⟩;cases e with
 |exit i=>
  simp only[Exit.inBlock,NL] at b7 ⊢;split at b7
  next Z=>rw[if_pos Z];exact⟨s,μ',b1,b2,b3,b4,b5,b6,b7⟩
  next Z=>rw[if_neg Z];exact⟨s,μ',b1,b2,b3,b4,b5,b6,b7⟩
 |_=>exact⟨s,μ',b1,b2,b3,b4,b5,b6,b7⟩
theorem PG(hT:cK P T){ops:Array Oper}{H :St}(h:mr P T N ops ops.toList st H)(hq:Q .normal H):
  AWP P tp N m0 (.region id ops false) st Q:=by
 intro ro h0 base μ w a YW h1 h2 h3 h4 h5;exact wpIn_region_list (v7 hT h h1 h2 h3 h4 h5 (.refl h5) fun a' w' μ' c1 c2 c3 c4 c5 c6=>⟨H,μ',c1,c2,c3,c4,c5,c6,hq⟩)
theorem yT{F:Fence}{r:Nat}{σ:Type}{Q:Exit→Act→World→Prop}(I:σ→Act→World→Prop)(m:σ→Nat)(H:∀s a w,I s a w→c.wpIn F r P (Exit.then (fun U w' =>∃O,I O U w' ∧m O <m s) Q) a w):
  ∀{s a w},I s a w→(Code.loop c).wpIn F r P Q a w:=by
 intro s a w h₀ b k cs YW hb hr;have M:∀n s a w,m s=n→I s a w→
   ∃e U w',Q e U w' ∧ArrivesIn (Machine.fenced P F) P (lone (b.atR a (.code c::.inLoop c::k)) cs w) b k cs e U w' :=by
  intro n;induction n using Nat.strongRecOn with
  |_ n ih=>
   intro s a w G D;obtain⟨e,S,R,X,Z⟩:=H s a w D b (.inLoop c::k) cs YW hb hr;cases e with
   |normal=>
    obtain⟨O,L,C⟩:=X;obtain⟨B,A,u,K,V⟩:=ih (m O) (G▸C) O S R rfl L;exact⟨B,A,u,K,.of_steps (StepsIn.trans Z (.one (fenced_calm hb hr rfl) stepR_inLoop)) V⟩
   |exit id=>exact⟨_,S,R,X,.pass (x:=.inLoop c) rfl (fun _ _=>.inl (by simp)) Z⟩
   |goto l=>exact⟨_,S,R,X,.pass (x:=.inLoop c) rfl (fun _ _=>.inl (by simp)) Z⟩
   |ret=>exact⟨_,S,R,X,.pass (x:=.inLoop c) rfl (fun _ _=>.inl (by simp)) Z⟩
   |panic ch=>exact⟨_,S,R,X,.pass (x:=.inLoop c) rfl (fun _ _=>.inl (by simp)) Z⟩
   |outgrown=>exact⟨_,S,R,X,.pass (x:=.inLoop c) rfl (fun _ _=>.inl (by simp)) Z⟩
 obtain⟨e,U,w',X,Z⟩:=M _ s a w rfl h₀;exact⟨e,U,w',X,.of_steps (.one (fenced_calm hb hr rfl) stepR_loop) Z⟩
theorem Ue{σ:Type}(I:σ→St→Prop)(m:σ→Nat){s:σ}(J:I s st)(H:∀s st,I s st→AWP P tp N m0 c st (W0 (fun Z =>∃V,I V Z ∧m V <m s) Q)):AWP P tp N m0 (.loop c) st Q:=by
 intro ro h0 base μ w a YW h1 h2 h3 h4 h5;refine yT (σ:=σ) (fun s X w' =>∃Z μ',aes base μ' Z.mem w' ∧aeM μ' Z.mem.length Z.env X.tmps∧X.tmps.size=N∧MOk P base h0 w' X.defers∧m0≤Z.mem.length∧
   Step m0 μ st.mem w μ' Z.mem w' ∧I s Z) m ?_ (s:=s) ⟨st,μ,h1,h2,h3,h4,h5,.refl h5,J⟩
 rintro s X w' ⟨Z,μ',b1,b2,b3,b4,b5,b6,b7⟩;refine wpIn_mono (H s Z b7 ro h0 base μ' w' X YW b1 b2 b3 b4 b5) ?_;rintro e a2 w2 ⟨s2,μ2,c1,c2,c3,c4,c5,c6,c7⟩;cases e with
 |normal=>
  obtain⟨V,d1,d2⟩:=c7;exact⟨V,⟨s2,μ2,c1,c2,c3,c4,c5,b6.trans c6,d1⟩,d2⟩
 |_=>exact⟨s2,μ2,c1,c2,c3,c4,c5,b6.trans c6,c7⟩
def afa(m0:Nat)(st st1:St):Prop:=∀base μ w tmps,aes base μ st.mem w→aeM μ st.mem.length st.env tmps→m0≤st.mem.length→
 ∃μ1,aes base μ1 st1.mem w∧aeM μ1 st1.mem.length st1.env tmps∧m0≤st1.mem.length∧Step m0 μ st.mem w μ1 st1.mem w
theorem Ug{st1:St}(H:afa m0 st st1)(h:AWP P tp N m0 c st1 Q):AWP P tp N m0 c st Q:=by intro ro h0 base μ w a YW h1 h2 h3 h4 h5;obtain⟨μ1,Z,X,V,U⟩:=H base μ w a.tmps h1 h2 h5;refine wpIn_mono (h ro h0 base μ1 w a YW Z X h3 h4 V) ?_;rintro e a2 w2 ⟨s2,μ2,c1,c2,c3,c4,c5,c6,c7⟩;exact⟨s2,μ2,c1,c2,c3,c4,c5,U.trans c6,c7⟩
theorem afa.trans{s1 H I:St}(h:afa m0 s1 H)(h' :afa m0 H I):afa m0 s1 I:=by intro base μ w tmps h1 h2 h3;obtain⟨μ1,Z,X,V,U⟩:=h base μ w tmps h1 h2 h3;obtain⟨μ2,S,R,O,M⟩:=h' base μ1 w tmps Z X V;exact⟨μ2,S,R,O,U.trans M⟩
theorem afa.env{env H:Env}{mem:Mem}(h:∀t,ad H t=ad env t∨ad H t=.undef):afa m0 ⟨env,mem⟩ ⟨H,mem⟩:=by
 intro base μ w tmps h1 h2 h3;refine⟨μ,h1,fun t=>?_,h3,.refl h3⟩;rcases h t with e | e
 ·rw[e];exact h2 t
 ·rw[e];simp[aeg]
theorem AWP.agG(h:AWP P tp N m0 c st Q')(hq:∀e s,Q' e s→∃Z,afa m0 s Z∧Q e Z):AWP P tp N m0 c st Q:=by intro ro h0 base μ w a YW h1 h2 h3 h4 h5;refine wpIn_mono (h ro h0 base μ w a YW h1 h2 h3 h4 h5) ?_;rintro e a2 w2 ⟨s2,μ2,c1,c2,c3,c4,c5,c6,c7⟩;obtain⟨Z,X,hQ⟩:=hq e s2 c7;obtain⟨μ1,V,U,S,R⟩:=X base μ2 w2 a2.tmps c1 c2 c5;exact⟨Z,μ1,V,U,c3,c4,S,c6.trans R,hQ⟩
end
end Go.Eng
namespace Go.Eng
def rho(m0:Nat)(ks:List Nat)(b:Nat):Option Nat:=if b<m0 then some b else (ks.idxOf? b).map (m0+·)
def rK(ρ:Nat→Option Nat)(env:Env):Env:=env.map fun e=>(e.1,e.2.ren ρ)
def aek.ren(ρ:Nat→Option Nat):aek→aek
 |.qK=>.qK
 |.cells own es cs=>.cells own es (AV.aez ρ cs)
 |.map es=>.map (es.map fun e=>(e.1.ren ρ,e.2.ren ρ))
 |.aeO es=>.aeO (es.map fun e=>(e.1.ren ρ,e.2.ren ρ))
 |.loop r=>.loop { r with env:=rK ρ r.env }
def ae1(m0:Nat)(ks:List Nat)(mem:Mem):Mem:=ks.map fun k=>(mem.getD k .qK).ren (rho m0 ks)
def aer(m0:Nat)(ks:List Nat)(mem:Mem):Mem:=(mem.take m0).map (aek.ren (rho m0 ks))++ae1 m0 ks mem
def Di(m0 n:Nat)(ks:List Nat):Bool:=decide ks.Nodup&&ks.all fun k=>decide (m0≤k∧k<n)
theorem iw(ρ:Nat→Option Nat):∀(env:Env) (t:Nat),ad (rK ρ env) t=(ad env t).ren ρ
 | [],t=>by simp[rK,ad,AV.ren]
 |(k,v)::r,t=>by
  simp only[rK,List.map_cons,ad];by_cases h:k=t
  ·simp[h]
  ·simp only[h,if_false];exact iw ρ r t
variable{ks:List Nat}{p:Place}
section
variable {μ:Nat→Place}{mem:Mem}{base:Nat}{w:World}
theorem aeu.ren{μ μ' :Nat→Place}{n n' base:Nat}{w:World}{s:aek}{ρ:Nat→Option Nat}(hρ:∀b b',b<n→ρ b=some b' →b' <n' ∧μ' b' =μ b)(h:aeu μ n base w p s):aeu μ' n' base w p (s.ren ρ):=by
 cases s with
 |qK=>trivial
 |cells own es cs=>
  simp only[aeu,aek.ren] at h ⊢;obtain⟨O,e,fr,Z,X,h3,R,A⟩:=h;refine⟨O,e,fr,Z,X,by rw[gw,List.length_map];exact h3,fun j v N=>?_,A⟩;rw[gw,List.getElem?_map] at N;simp only[Option.map_eq_some_iff] at N;obtain⟨v0,M,rfl⟩:=N;obtain⟨V,hV,u⟩:=R j v0 M;exact⟨V,hV,u.ren hρ⟩
 |map es=>
  simp only[aeu,aek.ren] at h ⊢;obtain⟨K,G,Z,X,h3,R⟩:=h;refine⟨K,G,Z,X,by rw[List.length_map];exact h3,fun j e U=>?_⟩;rw[List.getElem?_map] at U;simp only[Option.map_eq_some_iff] at U;obtain⟨F,S,rfl⟩:=U;obtain⟨E,D,C,B⟩:=R j F S;exact⟨E,D,C.ren hρ,B.ren hρ⟩
 |aeO es=>
  simp only[aeu,aek.ren] at h ⊢;obtain⟨K,G,Z,X,h3,R⟩:=h;refine⟨K,G,Z,X,by rw[List.length_map];exact h3,fun j e U=>?_⟩;rw[List.getElem?_map] at U;simp only[Option.map_eq_some_iff] at U;obtain⟨F,S,rfl⟩:=U;obtain⟨E,D,C,B⟩:=R j F S;exact⟨E,D,C.ren hρ,B.ren hρ⟩
 |loop r=>
  simp only[aeu,aek.ren] at h ⊢;obtain⟨L,Z,X,h3⟩:=h;exact⟨L,Z,X,{ h3 with tmps:=fun t=>by rw[iw];exact(h3.tmps t).ren hρ }⟩
theorem aek.afE(ρ:Nat→Option Nat)(s:aek):(s.ren ρ).own=s.own:=by cases s<;>rfl
theorem Bz{m0 n:Nat}(h:Di m0 n ks=true):ks.Nodup∧∀k∈ks,m0≤k∧k<n:=by simp only[Di,Bool.and_eq_true,decide_eq_true_eq,List.all_eq_true] at h;exact h
theorem fv{m0:Nat}(H:m0≤mem.length):(aer m0 ks mem).length=m0+ks.length:=by simp[aer,ae1];omega
def gZ(m0:Nat)(ks:List Nat)(b:Nat):Nat:=if b<m0 then b else ks.getD (b-m0) 0
theorem uq{m0:Nat}(H:m0≤mem.length)(hk:Di m0 mem.length ks=true){b:Nat}{s:aek}(h:(aer m0 ks mem)[b]? =some s):
  ∃Z,mem[gZ m0 ks b]? =some Z∧s=Z.ren (rho m0 ks):=by
 obtain⟨_,R⟩:=Bz hk;have O:((mem.take m0).map (aek.ren (rho m0 ks))).length=m0:=by simp;omega
 unfold aer at h;by_cases V:b<m0
 ·rw[List.getElem?_append_left (by omega),List.getElem?_map,List.getElem?_take_of_lt V] at h
  simp only[Option.map_eq_some_iff] at h;obtain⟨Z,X,U⟩:=h;exact⟨Z,by simpa [gZ,V] using X,U.symm⟩
 ·rw[List.getElem?_append_right (by omega),O] at h
  unfold ae1 at h;rw[List.getElem?_map] at h;simp only[Option.map_eq_some_iff] at h;obtain⟨k,X,U⟩:=h;have N:=List.mem_of_getElem? X;obtain⟨_,S⟩:=R k N;have M:mem[k]? =some mem[k]:=by simp[S]
  refine⟨mem[k],?_,?_⟩
  ·simp[gZ,V,X,S]
  ·rw[←U];simp[List.getD,M]
theorem PH{m0:Nat}(hk:Di m0 mem.length ks=true){x y:Nat}(H:x<m0+ks.length)(I:y<m0+ks.length)(h:gZ m0 ks x=gZ m0 ks y):x=y:=by
 obtain⟨Z,S⟩:=Bz hk;have U:∀z,¬z<m0→z<m0+ks.length→m0≤ks.getD (z-m0) 0:=by
  intro z X V;have R:z-m0<ks.length:=by omega
  have:ks.getD (z-m0) 0=ks[z-m0]:=by simp[R]
  rw[this];exact(S _ (by simp)).1
 unfold gZ at h;by_cases X:x<m0<;>by_cases V:y<m0<;>simp only[X,V,if_true,if_false] at h
 ·exact h
 ·have:=U y V I;omega
 ·have:=U x X H;omega
 ·have O :x-m0<ks.length:=by omega
  have N :y-m0<ks.length:=by omega
  have M:ks.getD (x-m0) 0=ks[x-m0]:=by simp[O]
  have L:ks.getD (y-m0) 0=ks[y-m0]:=by simp[N]
  rw[M,L] at h;have:=(List.getElem_inj Z).1 h;omega
theorem aes.aer{m0:Nat}(I:aes base μ mem w)(H:m0≤mem.length)(hk:Di m0 mem.length ks=true):
  aes base (fun b=>μ (gZ m0 ks b)) (aer m0 ks mem) w∧
  (∀b X,b<mem.length→rho m0 ks b=some X →X <(Eng.aer m0 ks mem).length∧(fun b=>μ (gZ m0 ks b)) X =μ b)∧
  Step m0 μ mem w (fun b=>μ (gZ m0 ks b)) (Eng.aer m0 ks mem) w:=by
 obtain⟨C,Y⟩:=Bz hk;have hρ:∀b X,b<mem.length→rho m0 ks b=some X →X <(Eng.aer m0 ks mem).length∧(fun b=>μ (gZ m0 ks b)) X =μ b:=by
  intro b X O V;rw[fv H];unfold rho at V;by_cases Z:b<m0
  ·rw[if_pos Z] at V
   cases V;exact⟨by omega,by simp[gZ,Z]⟩
  ·rw[if_neg Z] at V
   simp only[Option.map_eq_some_iff] at V;obtain⟨i,B,rfl⟩:=V;have M :=List.idxOf?_eq_some_iff.1 B;obtain⟨N,A,_⟩:=M;refine⟨by omega,?_⟩;simp only[gZ];rw[if_neg (by omega)];have:ks.getD (m0+i-m0) 0=b:=by rw[Nat.add_sub_cancel_left];simp[N,A]
   rw[this]
 have U:∀x,dQ (Eng.aer m0 ks mem) x→dQ mem (gZ m0 ks x)∧x<m0+ks.length:=by intro x L;obtain⟨s,F,u⟩:=L;have N:=gL F;rw[fv H] at N;obtain⟨S,Z,rfl⟩:=uq H hk F;exact⟨⟨S,Z,by rw[←aek.afE];exact u⟩,N⟩
 refine⟨⟨I.aep,fun b s o=>?_,fun x y s L D m j=>?_⟩,hρ,?_⟩
 ·obtain⟨S,Z,rfl⟩:=uq H hk o
  exact(I.slot _ S Z).ren hρ
 ·obtain⟨K,G⟩:=U x L
  have R:=gL D;rw[fv H] at R;obtain⟨S,Z,rfl⟩:=uq H hk D;refine I.sep _ _ S K Z ?_ fun e=>j (PH hk G R e)
  rintro rfl;exact m rfl
 ·refine⟨by rw[fv H];omega,fun b O=>by simp[gZ,O],rfl,rfl,rfl,Nat.le_refl _,fun _ _ _=>rfl,fun b O _=>?_,Nat.le_refl _⟩
  exact⟨_,(U b O).1,rfl⟩
theorem afa.aer{m0:Nat}{env:Env}{mem:Mem}(ks:List Nat)(hk:Di m0 mem.length ks=true):
  afa m0 ⟨env,mem⟩ ⟨rK (rho m0 ks) env,aer m0 ks mem⟩:=by
 intro base μ w tmps h1 h2 h3;obtain⟨Z,X,V⟩:=h1.aer h3 hk;refine⟨_,Z,fun t=>?_,by rw[fv h3];omega,V⟩;rw[iw];exact(h2 t).ren X
end
mutual
theorem aeg.lower{μ μ' :Nat→Place}{n n' :Nat}(hμ:∀b,b<n→μ' b=μ b):∀{v V V'},aeg μ n v V→aeg μ' n' v V' →aeg μ n v V'
 |.undef,_,_,_,_=>by simp[aeg]
 |.bool _,_,_,_,h=>by simpa [aeg] using h
 |.int _ _,_,_,_,h=>by simpa [aeg] using h
 |.str _,_,_,_,h=>by simpa [aeg] using h
 |.ptr b o,_,_,h,Z =>by simp only[aeg] at h Z ⊢;exact⟨h.1,by rw[←hμ b h.1];exact Z.2⟩
 |.aet,_,_,_,h=>by simpa [aeg] using h
 |.slice b o l c,_,_,h,Z =>by simp only[aeg] at h Z ⊢;exact⟨h.1,by rw[←hμ b h.1];exact Z.2⟩
 |.qF,_,_,_,h=>by simpa [aeg] using h
 |.map b,_,_,h,Z =>by simp only[aeg] at h Z ⊢;exact⟨h.1,by rw[←hμ b h.1];exact Z.2⟩
 |.yield b,_,_,h,Z =>by simp only[aeg] at h Z ⊢;exact⟨h.1,by rw[←hμ b h.1];exact Z.2⟩
 |.aeF,_,_,_,h=>by simpa [aeg] using h
 |.func f R,_,_,h,Z =>by simp only[aeg] at h Z ⊢;obtain⟨O,e,h⟩:=h;obtain⟨S,X,Z⟩:=Z;exact⟨S,X,aeh.lower hμ h Z⟩
 |.nilFunc,_,_,_,h=>by simpa [aeg] using h
 |.iface t v,_,_,h,Z =>by simp only[aeg] at h Z ⊢;obtain⟨U,e,h⟩:=h;obtain⟨N,X,Z⟩:=Z;exact⟨N,X,aeg.lower hμ h Z⟩
 |.nilIface,_,_,_,h=>by simpa [aeg] using h
 |.agg R,_,_,h,Z =>by simp only[aeg] at h Z ⊢;obtain⟨O,e,h⟩:=h;obtain⟨S,X,Z⟩:=Z;exact⟨S,X,aeh.lower hμ h Z⟩
 |.tuple R,_,_,h,Z =>by simp only[aeg] at h Z ⊢;obtain⟨O,e,h⟩:=h;obtain⟨S,X,Z⟩:=Z;exact⟨S,X,aeh.lower hμ h Z⟩
theorem aeh.lower{μ μ' :Nat→Place}{n n' :Nat}(hμ:∀b,b<n→μ' b=μ b):∀{vs Us ZW},aeh μ n vs Us→aeh μ' n' vs ZW →aeh μ n vs ZW
 | [],_,_,_,h=>by simpa [aeh] using h
 |v::vs,_,_,h,h' =>by simp only[aeh] at h h' ⊢;obtain⟨U,M,e,V,S⟩:=h;obtain⟨R,Z,O,N,X⟩:=h';exact⟨R,Z,O,aeg.lower hμ V N,aeh.lower hμ S X⟩
end
theorem aeu.lower{μ μ' :Nat→Place}{n n' base:Nat}{w w' :World}{s:aek}(hμ:∀b,b<n→μ' b=μ b)(h:aeu μ n base w p s)(h' :aeu μ' n' base w' p s):aeu μ n base w' p s:=by
 cases s with
 |qK=>trivial
 |cells own es cs=>
  simp only[aeu] at h h' ⊢;obtain⟨_,_,_,_,_,_,U,_⟩:=h;obtain⟨R,e,fr,g1,g2,g3,g4,A⟩:=h';refine⟨R,e,fr,g1,g2,g3,fun j v B=>?_,A⟩;obtain⟨V,_,u⟩:=U j v B;obtain⟨o,O,N⟩:=g4 j v B;exact⟨o,O,u.lower hμ N⟩
 |map es=>
  simp only[aeu] at h h' ⊢;obtain⟨_,_,_,_,_,U⟩:=h;obtain⟨M,K,g1,g2,g3,g4⟩:=h';refine⟨M,K,g1,g2,g3,fun j e S=>?_⟩;obtain⟨E,_,G,F⟩:=U j e S;obtain⟨D,C,Z,X⟩:=g4 j e S;exact⟨D,C,G.lower hμ Z,F.lower hμ X⟩
 |aeO es=>
  simp only[aeu] at h h' ⊢;obtain⟨_,_,_,_,_,U⟩:=h;obtain⟨M,K,g1,g2,g3,g4⟩:=h';refine⟨M,K,g1,g2,g3,fun j e S=>?_⟩;obtain⟨E,_,G,F⟩:=U j e S;obtain⟨D,C,Z,X⟩:=g4 j e S;exact⟨D,C,G.lower hμ Z,F.lower hμ X⟩
 |loop r=>
  simp only[aeu] at h h' ⊢;obtain⟨L,_,_,h3⟩:=h;obtain⟨m,g1,g2,g3⟩:=h';exact⟨m,g1,g2,{ g3 with tmps:=fun t=>(h3.tmps t).lower hμ (g3.tmps t) }⟩
theorem aes.swap{H:Nat}{μ:Nat→Place}{I J:Mem}{w:World}(h:aes H μ I w)(Y:J.length=I.length)(W:∀b X,J[b]? =some X→∃Z,I[b]? =some Z∧Z.own=X.own∧(Z=.qK→X=.qK)∧aeu μ I.length H w (μ b) X):aes H μ J w:=by
 refine⟨h.aep,fun b s V=>?_,fun b U S V R O N=>?_⟩
 ·obtain⟨Z,_,_,_,M⟩:=W b s V;rw[Y];exact M
 ·obtain⟨s,L,K⟩:=V
  obtain⟨Z,G,F,_,_⟩:=W b s L;obtain⟨D,C,_,B,_⟩:=W U S R;exact h.sep b U D ⟨Z,G,by rw[F];exact K⟩ C (fun e=>O (B e)) N
end Go.Eng
namespace Go.Eng
def dh:Nat→List AV→Env
 |_,[]=>[]
 |i,v::vs=>(i,v)::dh (i+1) vs
def Xb(T:TypeId→Option TyI)(env:Env)(mem:Mem):ResultVar→Option AV
 |.tmp t=>some (ad env t)
 |.cell a t=>PC T mem t (ad env a)
def xP(T:TypeId→Option TyI)(env:Env)(mem:Mem):List ResultVar→Option (List AV)
 | []=>some []
 |r::rs=>match Xb T env mem r,xP T env mem rs with
  |some v,some vs=>some (v::vs)
  |_,_=>none
def iW(T:TypeId→Option TyI)(H:List ResultVar)(env:Env)(mem:Mem):Option AV:=
 match xP T env mem H with
 |some [v]=>some v
 |some vs=>some (.tuple vs)
 |none=>none
def Fin(mem:Mem)(v:AV) (H :Mem)(R:AV→Mem→Prop):Prop:=
 ∃Z,Di mem.length H.length Z=true∧
  ((H.take mem.length=mem∧R (v.ren (rho mem.length Z)) (mem++ae1 mem.length Z H))∨R (v.ren (rho mem.length Z)) (aer mem.length Z H))
variable{fn:Func}{r:Nat}
section
variable {P:Program}{T:TypeId→Option TyI}{μ:Nat→Place}{mem:Mem}{base:Nat}{w:World}
theorem xI{n:Nat}{μ:Nat→Place}:∀{vs:List AV} {Vs:List Value} (i:Nat),aeh μ n vs Vs→∀t,aeg μ n (ad (dh i vs) t) (if t<i then undef else Vs.getD (t-i) undef)
 | [],Vs,i,h,t=>by simp[dh,ad,aeg]
 |v::vs,Vs,i,h,t=>by
  simp only[aeh] at h;obtain⟨U,R,rfl,V,S⟩:=h;simp only[dh,ad];by_cases Z:i=t
  ·subst Z;simpa using V
  ·simp only[Z,if_false]
   have:=xI (i+1) S t;by_cases X:t<i
   ·rw[if_pos (by omega)] at this;rw[if_pos X];exact this
   ·rw[if_neg (by omega)] at this
    rw[if_neg X];have e:t-i=(t-(i+1))+1:=by omega
    rw[e];simpa using this
def rvS(tmps:Array Value):ResultVar→Sem Value
 |.tmp t=>pure (tmps.getD t undef)
 |.cell a t=>do loadVar t (←asAddr (tmps.getD a undef))
theorem oZ(hT:cK P T)(J:aes base μ mem w){env:Env}{tmps:Array Value}(H:aeM μ mem.length env tmps):
  ∀{I:List ResultVar}{vs:List AV},xP T env mem I=some vs→∃X,aeh μ mem.length vs X∧
   (I.mapM (rvS tmps)).run P w=.ok X w
 | [],vs,h=>by simp only[xP,Option.some.injEq] at h;subst h;exact⟨[],by simp[aeh],by simp⟩
 |r::I,vs,h=>by
  simp only[xP] at h;split at h
  ·rename_i v K Z G
   cases h;obtain⟨X,N,M⟩:=oZ hT J H G;cases r with
   |tmp t=>
    simp only[Xb,Option.some.injEq] at Z;subst Z;exact⟨_::X,bE.2 ⟨H t,N⟩,by rw[List.mapM_cons,rvS,pure_bind,Sem.run_bind,M];rfl⟩
   |cell a t=>
    simp only[Xb] at Z;obtain⟨V,S,F⟩:=A9 (P:=P) hT J (H a) Z;refine⟨V::X,bE.2 ⟨F,N⟩,?_⟩;have R:∃b o,ad env a=.ptr b o:=by
     unfold PC at Z;split at Z
     next b o _ O=>exact⟨b,o,O⟩
     ·cases Z
    obtain⟨b,o,O⟩:=R;have L:=H a;rw[O] at L;have U:=L.ptr.2;rw[U] at S;simp only[Instr.loadAt,Instr.sureAddr,Sem.run_bind,Sem.run_pure,Result.andThen_ok] at S;rw[List.mapM_cons,rvS,U,Sem.run_bind];simp only[asAddr,pure_bind,S,Result.andThen_ok];rw[Sem.run_bind,M];rfl
  ·cases h
theorem td(hT:cK P T)(H:aes base μ mem w){env:Env}{tmps:Array Value}(I:aeM μ mem.length env tmps){v:AV}(h:iW T fn.results.toList env mem=some v):∃V,(results fn tmps).run P w=.ok V w∧aeg μ mem.length v V:=by
 unfold iW at h;have run:∀Z,(fn.results.toList.mapM (rvS tmps)).run P w=.ok Z w→
   (results fn tmps).run P w=.ok (if h:Z.toArray.size=1 then Z.toArray[0] else .tuple Z.toArray) w:=by
  intro Z S;unfold results;rw[Array.mapM_eq_mapM_toList,Sem.run_bind,Sem.run_map];erw [S];rfl
 split at h
 ·rename_i L R
  cases h;obtain⟨Z,X,O⟩:=oZ hT H I R;simp only[aeh] at X;obtain⟨U,K,rfl,g3,rfl⟩:=X;exact⟨U,by rw[run _ O];simp,g3⟩
 ·rename_i N M R
  cases h;obtain⟨Z,X,O⟩:=oZ hT H I R;refine⟨.tuple Z.toArray,?_,by simp only[aeg];exact⟨Z,rfl,X⟩⟩;rw[run _ O];have:¬Z.toArray.size=1:=by
   have:=X.length;intro e;simp at e;rw[e] at this
   match N,this with
   | [x],_=>exact M x rfl
  rw[dif_neg this]
 ·cases h
theorem zK{P:Program}{w:World}(h:w.heap[r]? =some (.deferred (some []))):
  (Instr.takeDeferred r).run P w=.ok [] { w with heap:=w.heap.setIfInBounds r (.deferred none) }:=by
 have Z:(getObj r).run P w=.ok (.deferred (some [])) w:=by simp[getObj,Sem.run,h]
 have X:(setObj r (.deferred none)).run P w=.ok () { w with heap:=w.heap.setIfInBounds r (.deferred none) }:=sI h (by intro c e f;simp);simp only[Instr.takeDeferred,Sem.run_bind,Z,Result.andThen_ok];rw[X];rfl
theorem aes.shut{base:Nat}{μ:Nat→Place}{mem:Mem}{w:World}{r:Nat}{x y}(H:aes base μ mem w)(h:w.heap[r]? =some (.deferred x)):
  aes base μ mem { w with heap:=w.heap.setIfInBounds r (.deferred y) }:=by
 refine⟨by simpa using H.aep,fun b s Z=>?_,H.sep⟩;by_cases h0:s=.qK
 ·subst h0;trivial
 ·refine(H.slot b s Z).mono (Nat.le_refl _) (fun _ _=>rfl) fun _=>?_
  exact Array.getElem?_setIfInBounds_ne (Ne.symm (pK H h Z h0))
theorem Step.shut{m0:Nat}{μ μ' :Nat→Place}{mem mem' :Mem}{w w' :World}{o:Obj}(h:Step m0 μ mem w μ' mem' w')(hr:w.heap.size≤r):
  Step m0 μ mem w μ' mem' { w' with heap:=w'.heap.setIfInBounds r o }:=by
 refine⟨h.len,h.agree,h.os,h.tape,h.output,by simpa using h.size,fun k Z X=>?_,h.owner,h.drawn⟩;rw[←h.frame k Z X];exact Array.getElem?_setIfInBounds_ne (by omega)
theorem MOk.shut{P:Program}{base h0 r:Nat}{w:World}{ds:List Deferred}{o:Obj}(h:MOk P base h0 w ({ target:=.collected r,args:= #[] }::ds)):
  MOk P base h0 { w with heap:=w.heap.setIfInBounds r o } ds:=by
 have U:h0≤r:=by obtain⟨q,e,Z,_⟩:=h.each _ (List.mem_cons_self ..);cases e;exact Z
 refine⟨⟨h.afo.below,?_⟩,h.aep,by simpa using h.le,fun d V=>?_,?_⟩
 ·have:=h.afo.tab
  unfold Lib.TabIs at this ⊢;rw[←this];refine Ow fun k O=>Array.getElem?_setIfInBounds_ne ?_
  have:=h.afo.below;have:=h.aep;omega
 ·obtain⟨q,e,Z,S⟩:=h.each d (by simp[V])
  refine⟨q,e,Z,?_⟩;have R:r≠q:=by intro X;have:=h.nodup;simp only[List.map_cons,List.nodup_cons,List.mem_map,not_exists] at this;exact this.1 d ⟨V,by rw[e,X]⟩
  show(w.heap.setIfInBounds r o)[q]? =_
  rw[Array.getElem?_setIfInBounds_ne R,S]
 ·have:=h.nodup
  simp only[List.map_cons,List.nodup_cons] at this;exact this.2
theorem rq{P:Program}{fn:Func}{tmps:Array Value}{R:Ending→World→Prop}{base m0:Nat}{μ μ0:Nat→Place}{mem mem0:Mem}{w0:World}:
  ∀(H:List Deferred) (w:World),MOk P base w0.heap.size w H→aes base μ mem w→Step m0 μ0 mem0 w0 μ mem w→
   (∀w',aes base μ mem w' →Step m0 μ0 mem0 w0 μ mem w' →∃v,(results fn tmps).run P w' =.ok v w' ∧R (.returned v) w')→
   LeavesInM (Fr none) 0 P fn tmps R H .returning w
 | [],w,_,hH,hS,hq=>hq w hH hS
 |d::H,w,hM,hH,hS,hq=>by obtain⟨r,rfl,X,Z⟩:=hM.each d (by simp);refine⟨by simp,.inl ⟨r,_,rfl,zK Z,?_⟩⟩;exact rq H _ hM.shut (hH.shut Z) (hS.shut X) hq
theorem aeQ.intro(hT:cK P T){f:FuncId}{c:Code}{args:List AV}{mem:Mem}{R:AV→Mem→Prop}(hf:P.funcs[f]? =some fn)(H:fn.body=some c)(hn:(fn.name == "runtime.NumGoroutine")=false)(hl:args.length≤fn.ntmps)(h:AWP P true fn.ntmps mem.length c ⟨dh 0 args,mem⟩ fun e X =>(e=.normal∨e=.ret)∧∃v,iW T fn.results.toList X.env X.mem=some v∧Fin mem v X.mem R):
  aeQ P f args mem R:=by
 refine⟨⟨fn,hf,by simp[H],hn⟩,fun base μ w Vs hG hH hV=>?_⟩;refine zU.1 (callsIn_of_wp_marks (F:=Fr none) (n:=0) hf H trivial (wpIn_mono (h none w.heap.size base μ w _ (fun _=>rfl) hH ?_ ?_ (MOk.nil w hG hH.aep (Nat.le_refl _)) (Nat.le_refl _)) ?_) rfl)
 ·intro t
  have:=xI 0 hV t;simp only[Nat.not_lt_zero,if_false,Nat.sub_zero] at this;by_cases ht:t<Vs.length
  ·have e:(⟨Vs⟩++Array.replicate (fn.ntmps-(⟨Vs⟩:Array Value).size) undef:Array Value).getD t undef=Vs.getD t undef:=by simp only[Array.getD_eq_getD_getElem?];rw[Array.getElem?_append_left (by simpa using ht)];simp[List.getD]
   show aeg μ mem.length (ad (dh 0 args) t) ((⟨Vs⟩++Array.replicate (fn.ntmps-(⟨Vs⟩:Array Value).size) undef:Array Value).getD t undef)
   rw[e];exact this
  ·have:ad (dh 0 args) t=.undef:=by
    have C:=hV.length;have:∀(M:List AV) (i:Nat),i+M.length≤t→ad (dh i M) t=.undef:=by
     intro M;induction M with
     |nil=>intro i _;rfl
     |cons v M ih=>
      intro i hi;simp only[List.length_cons] at hi;simp only[dh,ad];rw[if_neg (by omega)];exact ih (i+1) (by omega)
    exact this args 0 (by omega)
   show aeg μ mem.length (ad (dh 0 args) t) _
   rw[this];simp[aeg]
 ·simp only[Array.size_append,List.size_toArray,Array.size_replicate,hV.length];omega
 ·rintro e a' w' ⟨X,μ',b1,b2,b3,b4,b5,b6,he,v,hv,ks,YI,hR⟩
  have S:LeavesInM (Fr none) 0 P fn a'.tmps (fun e w' =>∃V v mem' μ',e=.returned V∧aeg μ' mem'.length v V∧aes base μ' mem' w' ∧Step mem.length μ mem w μ' mem' w' ∧R v mem') a'.defers .returning w' :=by
   refine rq a'.defers w' b4 b1 b6 fun w2 o L=>?_
   obtain⟨V,m,B⟩:=td (P:=P) (fn:=fn) hT o b2 hv;obtain⟨j,J,I⟩:=o.aer b5 YI;refine⟨V,m,?_⟩;rcases hR with⟨A,hr⟩ | hr
   ·have C:(mem++ae1 mem.length ks X.mem).length=(aer mem.length ks X.mem).length:=by rw[fv b5];simp[ae1]
    have K:∀b Z,(mem++ae1 mem.length ks X.mem)[b]? =some Z→∃G,(aer mem.length ks X.mem)[b]? =some G∧G.own=Z.own∧(G=.qK→Z=.qK)∧
      aeu (fun b=>μ' (gZ mem.length ks b)) (aer mem.length ks X.mem).length base w2 (μ' (gZ mem.length ks b)) Z:=by
     intro b Z H;unfold aer;rw[A];by_cases O:b<mem.length
     ·rw[List.getElem?_append_left O] at H
      refine⟨Z.ren (rho mem.length ks),by rw[List.getElem?_append_left (by simpa using O),List.getElem?_map,H];rfl,aek.afE _ _,?_,?_⟩
      ·intro h;cases Z<;>simp[aek.ren] at h ⊢
      ·have Y:gZ mem.length ks b=b:=by simp[gZ,O]
       rw[Y];have D:=hH.slot b Z H;have N:=o.slot b Z (by rw[←H,←A,List.getElem?_take_of_lt O]);rw[L.agree b O] at N ⊢;have g3:=aeu.lower (w' :=w2) (fun b H=>L.agree b H) D N;refine g3.mono ?_ (fun b H=>?_) fun _=>rfl
       ·simp[ae1]
       ·show μ' (gZ mem.length ks b)=μ b
        rw[show gZ mem.length ks b=b by simp[gZ,H],L.agree b H]
     ·have u :(aer mem.length ks X.mem)[b]? =some Z:=by unfold aer;rw[A,List.getElem?_append_right (by simp;omega)];rw[List.getElem?_append_right (by omega)] at H;simpa using H
      have:=j.slot b Z u;unfold aer at u this;rw[A] at u this;exact⟨Z,u,rfl,id,this⟩
    have W:=j.swap C K;refine⟨V,_,_,_,rfl,B.ren fun b b' D N=>?_,W,?_,hr⟩
    ·obtain⟨g3,g4⟩:=J b b' D N
     exact⟨by rw[C];exact g3,g4⟩
    ·have U:=L.trans I
     refine⟨by rw[C];exact U.len,U.agree,U.os,U.tape,U.output,U.size,U.frame,fun b H O=>?_,U.drawn⟩;obtain⟨s,D,N⟩:=H;obtain⟨G,m,B,_,_⟩:=K b s D;exact U.owner b ⟨G,m,by rw[B];exact N⟩ O
   ·exact⟨V,_,_,_,rfl,B.ren J,j,L.trans I,hr⟩
  rcases he with rfl | rfl
  ·exact S
  ·exact S
end
end Go.Eng
