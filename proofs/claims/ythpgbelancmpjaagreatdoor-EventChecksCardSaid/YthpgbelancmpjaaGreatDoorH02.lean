/- See H38. -/
import Derived.Test.YthpgbelancmpjaaGreatDoorH01
import Derived.Lib.UnsafeStr
import Derived.RangeFuncLeaves
import Derived.OrdersIn
import Derived.TacticsIn
import Derived.Lib.ItoaNum
import Derived.Lib.LaidTab
set_option linter.all false
namespace Go.Eng
variable{V X:Value}{cs:List AV}{mem' :Mem}{v x:AV}
section
variable {P:Program}{T:TypeId->Option TyI}{μ:Nat->Place}{mem:Mem}{base:Nat}{w:World}
def agF(P:Program)(x:Sem Value)(base:Nat) (μ:Nat->Place)(mem:Mem)(w:World)(v:AV) (mem' :Mem):Prop:=
 ∃V w' μ',x.run P w=.ok V w' /\afx μ' mem'.length v V/\afJ base μ' mem' w' /\Step mem.length μ mem w μ' mem' w'
theorem agF.afW{x:Sem Value}(H:afJ base μ mem w)(h:Val P x w μ mem.length v):agF P x base μ mem w v mem:=by obtain⟨V,Z,U⟩:=h;exact⟨V,w,μ,Z,U,H,.refl (Es _)⟩
theorem tx(J:afJ base μ mem w)(e:TypeId)(H:Array Value)(es:Nat)(I:1000<=es->e+1=es / 1000)(cs:List AV)(h:∀(j:Nat) v,cs[j]? =some v->∃V,H[j]? =some V/\afx μ mem.length v V):
  afJ base (upd μ mem.length ⟨w.heap.size,0,H.size,es%1000⟩) (mem++[.cells true es cs]) (w.alloc (.cells H e))/\
  Step mem.length μ mem w (upd μ mem.length ⟨w.heap.size,0,H.size,es%1000⟩) (mem++[.cells true es cs]) (w.alloc (.cells H e)):=by
 refine J.push _ _ _ rfl ?_;simp only[afM];refine⟨H,e,(0,0),heap_alloc_new w _,⟨rfl,I⟩,?_,fun j v Z=>?_,fun _=>by simp;exact J.afF⟩
 .rcases P1 cs.length with h0 | h0
  .omega
  .obtain⟨V,hV,_⟩:=h (cs.length-1) cs[cs.length-1] (by simp)
   have:=(J1.1 hV).1;omega
 .obtain⟨V,hV,U⟩:=h j v Z
  exact⟨V,by simpa using hV,U.mono (Nat.le_succ _) fun b S=>xz S⟩
theorem RJ{n:Nat}{vs:List AV}{cur Vs:List Value}{o:Nat}(I:o+vs.length<=cs.length)(h:∀(j:Nat) v,cs[j]? =some v->∃V,cur[j]? =some V/\afx μ n v V)(H:afy μ n vs Vs):
  ∀(j:Nat) v,(cs.take o++vs++cs.drop (o+vs.length))[j]? =some v->∃V,(cur.take o++Vs++cur.drop (o+Vs.length))[j]? =some V/\afx μ n v V:=by
 have N:=H.length;have S:cs.length<=cur.length:=by
  rcases P1 cs.length with h0 | h0
  .omega
  .obtain⟨V,hV,_⟩:=h (cs.length-1) cs[cs.length-1] (by simp)
   have:=gL hV;omega
 have R:(cs.take o).length=o:=by simp;omega
 have Q:(cur.take o).length=o:=by simp;omega
 intro j v Z;rw[S2] at Z |-;by_cases U:j<o
 .rw[GE (by omega),V2 U] at Z
  rw[GE (by omega),V2 U];exact h j v Z
 .rw[Ns (by omega),R] at Z
  rw[Ns (by omega),Q];by_cases O:j-o<vs.length
  .rw[GE O] at Z
   rw[GE (by omega)];exact H.get _ v Z
  .rw[Ns (by omega),QQJ] at Z
   rw[Ns (by omega),QQJ];rw[show o+Vs.length+(j-o-Vs.length)=o+vs.length+(j-o-vs.length) by omega];exact h _ v Z
def Hx(T:TypeId->Option TyI)(e:TypeId)(i:TyI):Bool:=match i.desc with
 |.struct fs=>match fs[0]? with
  |some f=>match T f.type with
   |some k=>match k.desc with
    |.pointer e' =>e' ==e
    |_=>false
   |none=>false
  |none=>false
 |_=>false
def tQ(T:TypeId->Option TyI)(mem:Mem)(e:TypeId):Option (AV×Mem):=
 match T e with
 |some i=>some (.ptr mem.length 0,mem++[.cells true (if Hx T e i then 1000*(e+1) else 0) (oK i.zero).cells])
 |none=>none
theorem zz(I:afJ base μ mem w)(e:TypeId)(es:Nat)(H:1000<=es->e+1=es / 1000)(h:afy μ mem.length cs V.cells.toList):
  agF P (do pure (.pointer (some (<-newVar e V)))) base μ mem w (.ptr mem.length 0) (mem++[.cells true es cs]):=by
 obtain⟨Z,S⟩:=tx I e V.cells es H cs (fun j v R=>by obtain⟨U,Q,O⟩:=h.get j v R;exact⟨U,by simpa using Q,O⟩)
 refine⟨.pointer (some ⟨w.heap.size,0,none⟩),_,_,?_,?_,Z,S⟩
 .simp only[newVar,newRow,Sem.run_bind,run_newObj,Result.andThen_ok,Sem.run_pure]
  rfl
 .simp[afx,fq]
theorem KN(hT:dS P T)(H:afJ base μ mem w){e:TypeId}(h:tQ T mem e=some (v,mem')):
  agF P (Instr.alloc e true (.tuple #[])) base μ mem w v mem' :=by
 unfold tQ at h;split at h
 .rename_i i Z
  cases h;have:=zz (P:=P) H e (if Hx T e i then 1000*(e+1) else 0) (by cases Hx T e i with | false=>simp | true=>simp only[if_true];intro _;rw[Nat.mul_div_cancel_left _ (by omega)]) (V:=i.zero) (qf μ mem.length i.zero);obtain⟨V,w',μ',U,S⟩:=this;refine⟨V,w',μ',?_,S⟩;simp only[Instr.alloc,Sem.run_bind,fG hT Z,Result.andThen_ok];exact U
 .cases h
def Yu(mem:Mem)(x:AV):Option (AV×Mem):=if x.known then some (.ptr mem.length 0,mem++[.cells true 0 x.cells]) else none
theorem QY(H:afJ base μ mem w){e:TypeId}(hx:afx μ mem.length x X)(h:Yu mem x=some (v,mem')):
  agF P (Instr.box e X) base μ mem w v mem' :=by
 unfold Yu at h;split at h
 .rename_i Z
  cases h;exact zz (P:=P) H e 0 (by omega) (hx.cells Z)
 .cases h
theorem KU(hT:dS P T)(I:afJ base μ mem w){t:TypeId}(hx:afx μ mem.length x X)(H:afx μ mem.length v V)(h:tT T mem t x v=some mem'):∃w',(Instr.storeAt t X V).run P w=.ok () w' /\afJ base μ mem' w' /\Step mem.length μ mem w μ mem' w' :=by
 unfold tT at h;split at h
 .rename_i i b o ht
  split at h
  .rename_i es cs O
   split at h
   .rename_i m
    cases h;simp only[Ar,Cs,List.all_eq_true] at m;obtain⟨⟨⟨K,S⟩,G⟩,F⟩:=m;obtain⟨hbn,rfl⟩:=hx.ptr;have Y:=I.slot b _ O;simp only[afM] at Y;obtain⟨Z,el,fr,g1,g2,g3,W,g5⟩:=Y;obtain⟨N,g7,g8,g9⟩:=g5 trivial;subst g7;have R:=H.cells K;have Q:V.cells.size=i.size:=by rw[<-QQl,R.length,S]
    have h1:∀u∈V.cells.toList,u.oneCell' =true:=by
     intro u D;obtain⟨j,J⟩:=QXJ D;have C :j<v.cells.length:=by rw[<-R.length];exact(gL J)
     obtain⟨U,M,B⟩:=R.get j v.cells[j] (by simp[C]);rw[J] at M;cases M;exact B.agS (F _ (by simp))
    have y:=run_storeCells_at (P:=P) (μ b).blk o el V.cells.toList 0 Z w g1 (by rw[R.length,S];omega) h1;refine⟨w.setRow (μ b).blk (Z.toList.take (o+0)++V.cells.toList++Z.toList.drop (o+0+V.cells.toList.length)).toArray,?_,I.write O (qg O) (fun _=>⟨_,QQQ (gL O),rfl⟩) rfl rfl rfl rfl (by simp[World.setRow]) (fun k K=>setRow_other w _ k _ K) ?_⟩
    .simp only[Instr.storeAt,Instr.sureAddr,Sem.run_bind,Sem.run_pure,Result.andThen_ok,storeVar,dI hT ht,Q,ne_eq,not_true_eq_false,if_false,N,QQY]
     exact y
    .simp only[afM]
     refine⟨_,el,(0,0),setRow_heap w (μ b).blk Z _ el (0,0) g1,g2,?_,fun j u D=>?_,fun _=>⟨N,rfl,?_,g9⟩⟩
     .simp only[Nm,M0,QQh,S];omega
     .rw[N] at W
      have:=RJ (cs:=cs) (vs:=v.cells) (Vs:=V.cells.toList) (o:=o) (cur:=Z.toList) (by rw[S];exact G) (fun j v H=>by simpa using W j v H) R j u (by rw[S];exact D);obtain⟨U,M,B⟩:=this;refine⟨U,?_,B⟩;rw[N];simpa using M
     .simp only[List.size_toArray,Nm,M0,QQh,QQl,Q];omega
   .cases h
  .cases h
 .cases h
end
end Go.Eng
namespace Go.Eng
section
variable {P:Program}{T:TypeId->Option TyI}{μ:Nat->Place}{mem:Mem}{base:Nat}{w:World}
def jH(z:List AV):Nat->List AV
 |0=>[]
 |k+1=>z++jH z k
theorem qt(z:List AV):∀k,(jH z k).length=k*z.length
 |0=>by simp[jH]
 |k+1=>by simp[jH,qt z k,Nat.add_mul,QXX]
theorem yQ{n:Nat}{z:List AV}{Z:Array Value}(hz:afy μ n z Z.toList):∀(k:Nat) (j:Nat) v,(jH z k)[j]? =some v->
  ∃V,Z[j%Z.size]! =V/\afx μ n v V/\j<k*Z.size
 |0,j,v,h=>by simp[jH] at h
 |k+1,j,v,h=>by
  have X:Z.size=z.length:=by rw[<-QQl,hz.length]
  rw[jH] at h;by_cases S:j<z.length
  .rw[GE S] at h
   obtain⟨V,hV,U⟩:=hz.get j v h;refine⟨V,?_,U,by rw[X,Nat.add_mul];omega⟩;rw[QQa (by omega)];have:Z[j]? =some V:=by simpa using hV
   simp[getElem!_def,this]
  .rw[Ns (by omega)] at h
   obtain⟨V,hV,U,R⟩:=yQ hz k (j-z.length) v h;refine⟨V,?_,U,by rw[X] at R |-;rw[Nat.add_mul];omega⟩;rw[<-hV,X];congr 1;rw[Nat.mod_eq_sub_mod (by omega)]
theorem FN{Z:Array Value}{m j:Nat}(h:j<m):((Array.range m).map (fun i=>Z[i%Z.size]!))[j]? =some (Z[j%Z.size]!):=by simp[h]
def gf(T:TypeId->Option TyI)(mem:Mem)(t:TypeId)(H:Nat)(parts:List (Nat×AV)):Option (AV×Mem):=
 match T t with
 |none=>none
 |some i=>
  match i.desc with
  |.slice e=>
   match T e with
   |none=>none
   |some j=>
    if H*j.size<=16777216/\0<j.size/\j.size<1000 then
     match qG (fun k=>some (k*j.size,j.size)) (jH (oK j.zero).cells H) parts with
     |some cs=>some (.slice mem.length 0 H none,mem++[.cells true j.size cs])
     |none=>none
    else none
  |_=>none
theorem yj(hT:dS P T)(hH:afJ base μ mem w){t:TypeId}{H:Nat}{parts:List (Nat×AV)}{I:List (Nat×Value)}{v:AV}{J :Mem}(hp:I.map (·.1)=parts.map (·.1))(hv:afy μ mem.length (parts.map (·.2)) (I.map (·.2)))(h:gf T mem t H parts=some (v,J)):
  agF P (Instr.buildSlice t H ⟨I⟩) base μ mem w v J :=by
 unfold gf at h;cases ht:T t with
 |none=>rw[ht] at h;cases h
 |some i=>
  rw[ht] at h;simp only at h;have B:=(hT t i ht).desc;split at h
  .rename_i e D'
   rw[D'] at B;split at h
   .cases h
   .rename_i j M
    split at h
    .rename_i y
     split at h
     .rename_i cs o
      cases h;have Y:=qf μ mem.length j.zero;have R:=(hT e j M).ahg;have Q:(oK j.zero).cells.length=j.size:=by rw[<-Y.length,QQl,R]
      have Y':afy μ mem.length (jH (oK j.zero).cells H) ((Array.range (H*j.size)).map (fun i=>j.zero.cells[i%j.zero.cells.size]!)).toList:=by
       refine afy.agy (by simp[qt,Q]) fun q u K=>?_
       obtain⟨V,G,F,h3⟩:=yQ Y H q u K;refine⟨V,?_,F⟩;have:=FN (Z:=j.zero.cells) (m:=H*j.size) (j:=q) (by rw[R] at h3;exact h3);rw[G] at this;rw[Array.getElem?_toList];exact this
      obtain⟨W,hF,O⟩:=sU o Y' hp hv;obtain⟨G,F⟩:=tx hH e ⟨W⟩ j.size (by omega) cs (fun q u K=>by obtain⟨U,hU,hr⟩:=O.get q u K;exact⟨U,by simpa using hU,hr⟩)
      have C':W.length=H*j.size:=by
       rw[O.length];have:∀{pl:Nat->Option (Nat×Nat)}{N:List (Nat×AV)}{a b:List AV},qG pl a N=some b->b.length=a.length:=by
        intro pl N;induction N with
        |nil=>intro a b X;simp only[qG,Mp] at X;rw[X]
        |cons p N ih=>
         obtain⟨pi,pv⟩:=p;intro a b X;rw[qG] at X;cases hpl:pl pi with
         |none=>rw[hpl] at X;cases X
         |some os=>
          obtain⟨off,size⟩:=os;rw[hpl] at X;simp only at X;split at X
          .rename_i D
           simp only[Ar,Cs] at D;rw[ih X];simp only[Nm,M0,QQh];omega
          .cases X
       rw[this o,qt,Q]
      refine⟨.slice (some ⟨w.heap.size,0,none⟩) H H,_,_,?_,?_,G,F⟩
      .simp only[Instr.buildSlice,Sem.run_bind,run_underlying B,Result.andThen_ok,dI hT M]
       rw[if_neg (by omega)];have S :=hF;rw[show(⟨((Array.range (H*j.size)).map (fun i=>j.zero.cells[i%j.zero.cells.size]!)).toList⟩:Array Value)=(Array.range (H*j.size)).map (fun i=>j.zero.cells[i%j.zero.cells.size]!) from rfl] at S;by_cases C:H*j.size=0
       .rw[if_pos C]
        rw[C] at S |-;simp only[Sem.run_bind,Sem.run_pure,Result.andThen_ok,Array.range_zero',Array.map_empty] at S |-;rw[S];simp only[newRow,Sem.run_bind,run_newObj,Result.andThen_ok,Sem.run_pure];rfl
       .rw[if_neg C]
        simp only[Sem.run_bind,Sem.run_pure,Result.andThen_ok,fG hT M];rw[S];simp only[newRow,Sem.run_bind,run_newObj,Result.andThen_ok,Sem.run_pure];rfl
      .simp only[afx,fq,od,Nm,List.length_singleton]
       refine⟨by omega,?_⟩;simp only[QQg,C',List.size_toArray,QQa y.2.2,Nat.mul_div_cancel _ y.2.1]
     .cases h
    .cases h
  .cases h
end
variable{n:Int}
theorem af(h0: -9223372036854775808<=n:=by omega)(Z:n<=9223372036854775807:=by omega):IntKind.i64.wrap n=n:=by simp only[IntKind.wrap,IntKind.bits,IntKind.signed,Bool.true_and,ge_iff_le,Cs,Nat.reduceSub];split<;>omega
theorem dc(h0:0<=n)(h1:n<=18446744073709551615):IntKind.u64.wrap n=n:=by simp only[IntKind.wrap,IntKind.bits,IntKind.signed,Bool.false_and,Bool.false_eq_true,if_false];omega
section
variable {P:Program}{T:TypeId->Option TyI}{μ:Nat->Place}{mem:Mem}{base:Nat}{w:World}
def lz(T:TypeId->Option TyI)(mem:Mem)(t:TypeId)(l c:AV):Option (AV×Mem):=
 match T t with
 |none=>none
 |some i=>
  match i.desc,l,c with
  |.slice e,.int _ l,.int _ c=>
   match T e with
   |none=>none
   |some j=>
    if 0<=l/\l<=c/\(j.bytes:Int)*c<=281474976710656/\c<=281474976710656/\0<j.size/\j.size<1000 then
     some (.slice mem.length 0 l.toNat none,mem++[.cells true j.size (jH (oK j.zero).cells l.toNat)])
    else none
  |_,_,_=>none
theorem Au(hT:dS P T)(I:afJ base μ mem w){t:TypeId}{l c v:AV}{L C:Value}{H :Mem}(J:afx μ mem.length l L)(hc:afx μ mem.length c C)(h:lz T mem t l c=some (v,H)):
  agF P (Instr.makeSlice t L C) base μ mem w v H :=by
 unfold lz at h;cases ht:T t with
 |none=>rw[ht] at h;cases h
 |some i=>
  rw[ht] at h;simp only at h;have F:=(hT t i ht).desc;split at h
  .rename_i e k1 l k2 c B
   rw[B] at F;split at h
   .cases h
   .rename_i j S
    split at h
    .rename_i R
     obtain⟨g1,g2,g3,g4,y,o⟩:=R;cases h;rw[J.int,hc.int];have D:=qf μ mem.length j.zero;have X:=(hT e j S).ahg;have Y:(oK j.zero).cells.length=j.size:=by rw[<-D.length,QQl,X]
     obtain⟨f,W,hfs,U,hfz⟩:=zJ hT S w;have w1:IntKind.i64.wrap l=l:=af;have w2:IntKind.i64.wrap c=c:=af;obtain⟨h1,h2⟩:=tx I e ((Array.range (c.toNat*j.size)).map (fun i=>j.zero.cells[i%j.zero.cells.size]!)) j.size (by omega) (jH (oK j.zero).cells l.toNat) (fun q u hu=>by obtain⟨V,e1,e2,e3⟩:=yQ D _ q u hu;refine⟨V,?_,e2⟩;rw[X] at e3;have hle:l.toNat*j.size<=c.toNat*j.size:=QQe _ (by omega);have:=FN (Z:=j.zero.cells) (m:=c.toNat*j.size) (j:=q) (by omega);rw[e1] at this;exact this)
     refine⟨.slice (some ⟨w.heap.size,0,none⟩) l.toNat c.toNat,_,_,?_,?_,h1,h2⟩
     .have hb:¬(281474976710656<(f.bytes:Int)*c):=by rw[U];omega
      have hb2:¬((f.bytes:Int)*c>2 ^ 48):=by rw[U];omega
      have Q:¬c<0:=by omega
      have O:¬l<0:=by omega
      have N:¬l>c:=by omega
      simp only[Instr.makeSlice,Sem.run_bind,run_underlying F,asInt,asIntOf,Sem.run_pure,Result.andThen_ok,W,w1,w2];have M:((decide (c<0)||decide ((f.bytes:Int)*c>2 ^ 48))||decide (l<0)||decide (l>c))=false:=by simp[Q,O,N,hb]
      simp only[M,Bool.false_eq_true,if_false];have K:∀n,(askRoom n).run P w=.ok () w:=by intro n;unfold askRoom;split<;>simp[mark,Sem.run]
      simp only[Sem.run_bind,K,Result.andThen_ok,dI hT S];by_cases G:c.toNat*j.size=0
      .rw[if_pos G]
       rw[G];simp only[Sem.run_bind,Sem.run_pure,Result.andThen_ok,Array.range_zero',Array.map_empty,newRow,run_newObj];rfl
      .rw[if_neg G]
       simp only[Sem.run_bind,Sem.run_pure,Result.andThen_ok,fG hT S,newRow,run_newObj];rfl
     .simp only[afx,fq,od,Nm,List.length_singleton]
      refine⟨by omega,?_⟩;simp only[QQg,Array.size_map,Array.size_range,QQa o,Nat.mul_div_cancel _ y]
    .cases h
  .cases h
def cY(T:TypeId->Option TyI)(mem:Mem)(H:Nat)(t2:TypeId):AV->Option (Nat×List AV)
 |.kO=>some (0,[])
 |.slice b o m _=>match mem[b]? with
  |some (.cells _ _ cs)=>if o+m*H<=cs.length then some (m,(cs.drop o).take (m*H)) else none
  |_=>if m=0 then some (0,[]) else none
 |.str s=>match T t2 with
  |some i=>match i.desc with
   |.string=>if H=1 then some (s.length,s.map fun c=>.int .u8 c.toNat) else none
   |_=>none
  |none=>none
 |_=>none
def Me(i:TyI):Bool:=match i.desc with
 |.slice _=>true
 |.string=>true
 |_=>false
def DC(j:TyI)(e:TypeId):Nat:=match j.desc with
 |.int .u8=>j.size+1000*(e+1)
 |_=>j.size
def pP(T:TypeId->Option TyI)(mem:Mem)(t t2:TypeId)(s x:AV):Option (AV×Mem):=
 match T t with
 |none=>none
 |some i=>
  match i.desc with
  |.slice e=>
   match T e,T t2 with
   |some j,some i2=>
    if j.size=0\/1000<=j.size\/Me i2=false then none else
    match cY T mem j.size t2 x with
    |none=>none
    |some (m,news)=>
     if news.all AV.adM=true then
      match s with
      |.kO=>
       if m=0 then some (.kO,mem)
       else if m*j.bytes<=140737488355328/\m<=140737488355328 then some (.slice mem.length 0 m none,mem++[.cells true (DC j e) news])
       else none
      |.slice b 0 n none=>
       match mem[b]? with
       |some (.cells true es cs)=>
        if (es=j.size\/es=DC j e)/\n*j.size<=cs.length/\(n+m)*j.bytes<=140737488355328/\n+m<=140737488355328 then
         some (.slice mem.length 0 (n+m) none,mem.set b .y9++[.cells true es (cs.take (n*j.size)++news)])
        else none
       |_=>none
      |_=>none
     else none
   |_,_=>none
  |_=>none
theorem EO(I:afJ base μ mem w){H:Nat}{t2:TypeId}{x:AV}{X:Value}{m:Nat}{news:List AV}(hx:afx μ mem.length x X)(h:cY T mem H t2 x=some (m,news)):
  ∃R,afy μ mem.length news R/\news.length=m*H/\(Builtin.lenOf X).run P w=.ok m w/\
   ∀w',(∀a,w'.cell? a=w.cell? a)->(Builtin.firstCells H m X).run P w' =.ok ⟨R⟩ w' :=by
 unfold cY at h;split at h
 .cases h
  simp only[afx] at hx;subst hx;exact⟨[],by simp[afy],by simp,by simp[Builtin.lenOf],fun w' _=>by simp[Builtin.firstCells]⟩
 .rename_i b o k c
  split at h
  .rename_i own es D N
   split at h
   .rename_i V
    cases h;obtain⟨U,rfl⟩:=hx.slice;obtain⟨Q,M,K,h3⟩:=I.cells N V;refine⟨Q,M,by simp;omega,by simp[Builtin.lenOf],fun w' O=>?_⟩;exact run_firstCells_some w' H m _ _ _ Q K (fun j v Z=>by rw[O];exact h3 j v Z)
   .cases h
  .split at h
   .rename_i G
    cases h;subst G;obtain⟨U,rfl⟩:=hx.slice;refine⟨[],by simp[afy],by simp,by simp[Builtin.lenOf],fun w' O=>?_⟩;exact run_firstCells_some w' H 0 _ _ _ [] (by simp) (fun j v Z=>by simp at Z)
   .cases h
 .rename_i s
  split at h
  .split at h
   .split at h
    .rename_i S
     cases h;subst S;rw[hx.str];refine⟨s.map fun c=>.int .u8 c.toNat,?_,by simp,by simp[Builtin.lenOf,yu],fun w' _=>?_⟩
     .refine afy.agy (by simp) fun i v Z=>?_
      simp only[Y1,Pi] at Z |-;obtain⟨c,F,rfl⟩:=Z;exact⟨_,⟨c,F,rfl⟩,by simp[afx]⟩
     .simp only[Builtin.firstCells,Sem.run_pure,Result.ok.injEq,and_true]
      have:(ByteArray.mk s.toArray).extract 0 s.length=⟨s.toArray⟩:=by apply ByteArray.ext;apply Array.ext';simp[List.extract]
      rw[this];simp
    .cases h
   .cases h
  .cases h
 .cases h
end
end Go.Eng
namespace Go.Eng
variable{b:Nat}{j:TyI}
section
variable {P:Program}{T:TypeId->Option TyI}{μ:Nat->Place}{mem:Mem}{base:Nat}{w:World}
section
variable (hT:dS P T){t t2 ty e:TypeId}(hd:P.underlying t=some (.slice e))(hj:T e=some j)(ht2:(∃e2,P.underlying t2=some (.slice e2))\/P.underlying t2=some .string)(bs:Option Addr)
include hT t t2 ty e hd hj ht2 bs
theorem CA(n c m:Nat)(X:Value)(w:World)(I:(Builtin.lenOf X).run P w=.ok m w)(H:n+m<=c):
  (Builtin.append_ #[t,t2] ty #[.slice bs n c,X]).run P w=
   ((Builtin.firstCells j.size m X).run P w).andThen fun V w' =>match bs with
    |some a=>((storeCells (a.add (n*j.size)) V.toList).run P w').andThen fun _ U =>.ok (.slice bs (n+m) c) U
    |none=>.ok (.slice bs (n+m) c) w' :=by
 rcases ht2 with⟨S,Z⟩ | Z<;>
  simp[Builtin.append_,run_underlying hd,run_underlying Z,dI hT hj,I,H]<;>cases bs<;>simp
theorem Cz(n c m:Nat)(X:Value)(w:World)(Os I:List Value)(J:(Builtin.lenOf X).run P w=.ok m w)(H:c<n+m)(W:(n+m)*j.bytes<=140737488355328)(hm:n+m<=140737488355328)(Y:(Builtin.firstCells j.size n (.slice bs n c)).run P w.drew=.ok ⟨Os⟩ w.drew)(hN:(Builtin.firstCells j.size m X).run P w.drew=.ok ⟨I⟩ w.drew):
  ∃V,n+m<=V/\(Builtin.append_ #[t,t2] ty #[.slice bs n c,X]).run P w=
   .ok (.slice (some ⟨w.heap.size,0,none⟩) (n+m) V) (w.drew.alloc (.cells (⟨Os⟩++(⟨I⟩++Builtin.zeroCells j.zero.cells (V-(n+m)))) e)):=by
 obtain⟨f,K,U,S,R⟩:=(hT e j hj).info;have Q:¬(n+m<=c):=by omega
 have O:¬(9223372036854775807<((n:Int)+(m:Int))):=by omega
 have N:¬(281474976710656<Builtin.nextslicecap (n+m) c*f.bytes):=by have:=growslice_fits H (bytes:=f.bytes) (by rw[S];exact W);omega
 have M:∀n w,(askRoom n).run P w=.ok () w:=by intro n w;unfold askRoom;split<;>simp[mark,Sem.run]
 refine⟨grownCap w (n+m) c e,grownCap_ge w (n+m) c e,?_⟩;rcases ht2 with⟨G,Z⟩ | Z<;>
  simp[Builtin.append_,run_underlying hd,run_underlying Z,sizeOf,typeInfo,zeroValue,K,U,R,J,Q,O,N,Question.forced,Y,hN,newRow,grownCap,M]
end
theorem afJ.drop{s:afz}(H:afJ base μ mem w)(I:mem[b]? =some s):afJ base μ (mem.set b .y9) w:=by
 have R:b<mem.length:=gL I;have own:∀x,eH (mem.set b .y9) x->eH mem x/\x≠b:=by
  intro x U;by_cases Z:x=b
  .subst Z
   obtain⟨N,V,Q⟩:=U;rw[QQQ R] at V;cases V;cases Q
  .obtain⟨N,V,Q⟩:=U
   rw[QQK (Ne.symm Z)] at V;exact⟨⟨N,V,Q⟩,Z⟩
 refine⟨H.afF,fun x t S=>?_,fun x M t U X K O=>?_⟩
 .rw[QQZ]
  by_cases Z:x=b
  .subst Z;rw[QQQ R] at S;cases S;trivial
  .rw[QQK (Ne.symm Z)] at S;exact H.slot x t S
 .by_cases Z:M =b
  .subst Z;rw[QQQ R] at X;cases X;exact absurd rfl K
  .rw[QQK (Ne.symm Z)] at X
   exact H.sep x M t (own x U).1 X K O
theorem Step.drop{m0:Nat}{μ:Nat->Place}{mem:Mem}{w:World}(h:m0<=mem.length):Step m0 μ mem w μ (mem.set b .y9) w:=by
 refine⟨by simpa using h,fun _ _=>rfl,rfl,rfl,rfl,Es _,fun _ _ _=>rfl,fun x U _=>⟨x,?_,rfl⟩,Es _⟩;by_cases X:x=b
 .subst X
  by_cases R:x<mem.length
  .obtain⟨S,Z,V⟩:=U
   rw[QQQ R] at Z;cases Z;cases V
  .obtain⟨S,Z,V⟩:=U
   have:=gL Z;simp at this;omega
 .obtain⟨S,Z,V⟩:=U
  rw[QQK (Ne.symm X)] at Z;exact⟨S,Z,V⟩
theorem afJ.rename{es:Nat}{cs H :List AV}{w' :World}(hH:afJ base μ mem w)(hb:mem[b]? =some (.cells true es cs))(I:w'.drawn=w.drawn)(J:w'.os=w.os)(W:w'.tape=w.tape)(Y:w'.output=w.output)(hsz:w'.heap.size=w.heap.size)(acb:∀k,k≠(μ b).blk->w'.heap[k]? =w.heap[k]?)(hs:afM μ mem.length base w' (μ b) (.cells true es H)):
  afJ base (upd μ mem.length (μ b)) (mem.set b .y9++[.cells true es H]) w' /\
  Step mem.length μ mem w (upd μ mem.length (μ b)) (mem.set b .y9++[.cells true es H]) w' :=by
 have D:b<mem.length:=gL hb;have V:eH mem b:=qg hb;have hw:=hH.write (s' :=.cells true es H) hb V (fun _=>⟨_,QQQ D,rfl⟩) I J W Y hsz acb hs;have hμ:∀x,x<mem.length->upd μ mem.length (μ b) x=μ x:=fun x R=>xz R
 have C':(mem.set b .y9).length=mem.length:=by simp
 have own:∀x,eH (mem.set b .y9++[.cells true es H]) x->(x<mem.length/\x≠b/\eH mem x)\/x=mem.length:=by
  intro x R;by_cases Q:x<mem.length
  .refine .inl ⟨Q,?_⟩
   have U :eH (mem.set b .y9) x:=by obtain⟨K,X,N⟩:=R;rw[GE (by omega)] at X;exact⟨K,X,N⟩
   by_cases Z:x=b
   .subst Z
    obtain⟨K,X,N⟩:=U;rw[QQQ D] at X;cases X;cases N
   .refine⟨Z,?_⟩
    obtain⟨K,X,N⟩:=U;rw[QQK (Ne.symm Z)] at X;exact⟨K,X,N⟩
  .refine .inr ?_
   obtain⟨K,X,N⟩:=R;have:=gL X;simp at this;omega
 constructor
 .refine⟨hw.1.afF,fun x t S=>?_,fun x G t R U u F=>?_⟩
  .rw[Nm,List.length_singleton,C']
   by_cases Q:x<mem.length
   .rw[GE (by omega)] at S
    rw[hμ x Q];by_cases Z:x=b
    .subst Z;rw[QQQ D] at S;cases S;trivial
    .rw[QQK (Ne.symm Z)] at S
     have:=hw.1.slot x t (by rw[QQK (Ne.symm Z)];exact S);rw[QQZ] at this;exact this.mono (Nat.le_succ _) hμ fun _=>rfl
   .have o:x=mem.length:=by have:=gL S;simp at this;omega
    subst o;rw[Ns (by omega),C'] at S;simp at S;subst S;rw[fq];exact hs.mono (Nat.le_succ _) hμ fun _=>rfl
  .have m:∀y s,(mem.set b .y9++[.cells true es H])[y]? =some s->s≠ .y9->(y<mem.length/\y≠b/\mem[y]? =some s)\/y=mem.length:=by
    intro y s M hns;by_cases hyl:y<mem.length
    .rw[GE (by omega)] at M
     by_cases O:y=b
     .subst O;rw[QQQ D] at M;cases M;exact absurd rfl hns
     .rw[QQK (Ne.symm O)] at M;exact .inl ⟨hyl,O,M⟩
    .exact .inr (by have:=gL M;simp at this;omega)
   rcases own x R with⟨C,a2,B⟩ | rfl<;>rcases m G t U u with⟨b1,b2,b3⟩ | rfl
   .rw[hμ x C,hμ G b1];exact hH.sep x G t B b3 u F
   .rw[hμ x C,fq];exact hH.sep x b _ B hb (by simp) a2
   .rw[hμ G b1,fq];exact hH.sep b G t V b3 u (Ne.symm b2)
   .exact absurd rfl F
 .refine⟨by simp,hμ,J,W,Y,by omega,fun k hk hf=>acb k fun he=>hf b V he.symm,fun x R aao =>?_,Nat.le_of_eq I.symm⟩
  rcases own x R with⟨C,_,B⟩ | rfl
  .exact⟨x,B,by rw[hμ x C]⟩
  .exact⟨b,V,by rw[fq]⟩
end
end Go.Eng
namespace Go.Eng
section
variable {P:Program}{T:TypeId->Option TyI}{μ:Nat->Place}{mem:Mem}{base:Nat}{w:World}
theorem afJ.drew(h:afJ base μ mem w):afJ base μ mem w.drew:=h.agL rfl
theorem afy.agG{n:Nat}{vs:List AV}{Vs:List Value}(h:afy μ n vs Vs)(H:vs.all AV.adM=true):∀u∈Vs,u.oneCell' =true:=by
 intro u V;obtain⟨j,Z⟩:=QXJ V;have S:j<vs.length:=by rw[<-h.length];exact(gL Z)
 obtain⟨U,X,R⟩:=h.get j vs[j] (by simp[S]);rw[Z] at X;cases X;exact R.agS (List.all_eq_true.1 H _ (by simp))
theorem O6{j:TyI}{e:TypeId}(h:j.size<1000):DC j e%1000=j.size/\(1000<=DC j e->e+1=DC j e / 1000):=by
 unfold DC;split
 .refine⟨by rw[Nat.add_mul_mod_self_left,QQa h],fun _=>by rw[Nat.add_mul_div_left _ _ (by omega),Nat.div_eq_of_lt h,QQY]⟩
 .exact⟨QQa h,fun Z=>by omega⟩
theorem Uf(hH:afJ base μ mem w){e:TypeId}{H I J es:Nat}(W:es%1000=H/\(1000<=es->e+1=es / 1000)){olds news:List AV}{Os Y:List Value}{z:Array Value}(h0:0<H)(hz:z.size=H)(hO:afy μ mem.length olds Os)(hN:afy μ mem.length news Y)(hl:olds.length+news.length=I*H)(hnc:I<=J){x:Sem Value}(hx:x.run P w=.ok (.slice (some ⟨w.heap.size,0,none⟩) I J) (w.drew.alloc (.cells (⟨Os⟩++(⟨Y⟩++Builtin.zeroCells z (J-I))) e))):
  agF P x base μ mem w (.slice mem.length 0 I none) (mem++[.cells true es (olds++news)]):=by
 have Z:(⟨Os⟩++(⟨Y⟩++Builtin.zeroCells z (J-I)):Array Value).size=J*H:=by simp only[Array.size_append,List.size_toArray,size_zeroCells,hz,hO.length,hN.length];rw[<-QXZ,hl,<-Nat.add_mul];congr 1;omega
 obtain⟨V,S⟩:=tx hH.drew e (⟨Os⟩++(⟨Y⟩++Builtin.zeroCells z (J-I))) es W.2 (olds++news) (fun j v R=>by obtain⟨U,X,Q⟩:=(hO.append hN).get j v R;refine⟨U,?_,Q⟩;have O:j<(Os++Y).length:=gL X;rw[<-Array.append_assoc,Array.getElem?_append_left (by simpa using O)];simpa using X)
 refine⟨_,_,_,hx,?_,V,?_⟩
 .simp only[afx,fq,od,Nm,List.length_singleton,World.size_drew]
  refine⟨by omega,?_⟩;rw[QQg,Z,W.1,Nat.mul_div_cancel _ h0]
 .exact(Step.drew (m0:=mem.length) (Es _)).trans S
theorem GQ(hT:dS P T)(I:afJ base μ mem w){t t2 ty:TypeId}{s x v:AV}{S X:Value}{H :Mem}(hs:afx μ mem.length s S)(hx:afx μ mem.length x X)(h:pP T mem t t2 s x=some (v,H)):
  agF P (Builtin.append_ #[t,t2] ty #[S,X]) base μ mem w v H :=by
 unfold pP at h;cases ht:T t with
 |none=>rw[ht] at h;cases h
 |some i=>
  rw[ht] at h;simp only at h;have Y:=(hT t i ht).desc;split at h
  .rename_i e D'
   rw[D'] at Y;split at h
   .rename_i j i2 W hi2
    split at h
    .cases h
    .rename_i G
     have O:=(hT t2 i2 hi2).desc;have N:(∃J,P.underlying t2=some (.slice J))\/P.underlying t2=some .string:=by
      have F:Me i2=true:=by
       cases h2:Me i2 with
       |true=>rfl
       |false=>exact absurd (.inr (.inr h2)) G
      unfold Me at F;split at F
      next J h2=>rw[h2] at O;exact .inl ⟨J,O⟩
      next h2=>rw[h2] at O;exact .inr O
      .cases F
     have D:0<j.size:=by
      rcases P1 j.size with h0 | h0
      .exact absurd (.inl h0) G
      .exact h0
     have C:j.size<1000:=by
      rcases Nat.lt_or_ge j.size 1000 with h0 | h0
      .exact h0
      .exact absurd (.inr (.inl h0)) G
     have hzs:=(hT e j W).ahg;split at h
     .cases h
     .rename_i m Z aek
      split at h
      .rename_i I'
       obtain⟨K,g1,g2,g3,g4⟩:=EO (P:=P) I hx aek;split at h
       .
        simp only[afx] at hs;subst hs;split at h
        .rename_i hm
         cases h;subst hm;have Q:=CA hT (ty:=ty) Y W N none 0 0 0 X w g3 (Es _);rw[g4 w (fun _=>rfl)] at Q;exact agF.afW I ⟨_,Q,by simp[afx]⟩
        .rename_i hm
         split at h
         .rename_i B
          cases h;obtain⟨nc,M,Q⟩:=Cz hT (ty:=ty) Y W N none 0 0 m X w [] K g3 (by omega) (by simpa using B.1) (by simpa using B.2) (by simp[Builtin.firstCells]) (g4 w.drew (fun _=>rfl));simp only[QQY] at Q M;have:=Uf (P:=P) I (es:=DC j e) (O6 C) (olds:=[]) (news:=Z) D hzs (by simp[afy]) g1 (by simpa using g2) M Q;simpa using this
         .cases h
       .rename_i b n
        split at h
        .rename_i es cs B
         split at h
         .rename_i hc
          obtain⟨k1,k2,k3,k4⟩:=hc;cases h;obtain⟨hbn,rfl⟩:=hs.slice;have hsl:=I.slot b _ B;simp only[afM] at hsl;obtain⟨R,el,fr,s1,s2,s3,s4,s5⟩:=hsl;obtain⟨s6,s7,s8,s9⟩:=s5 trivial;subst s7;have hes:es%1000=j.size/\(1000<=es->e+1=es / 1000):=by
           rcases k1 with rfl | rfl
           .exact⟨QQa C,fun h1=>by omega⟩
           .exact O6 C
          have s2' :(μ b).es=j.size:=by rw[s2.1];exact hes.1
          have abo:od (μ b) 0 none=(μ b).tot / j.size:=by simp[od,s2']
          have abQ:(μ b).off+0=0:=by omega
          rw[abQ,abo];obtain⟨Os,o1,o2,o3⟩:=I.cells B (o:=0) (k:=n*j.size) (by omega);simp only[List.drop_zero] at o1;rw[abQ] at o3;have afj:0<j.size:=D;by_cases aaY:n+m<=(μ b).tot / j.size
          .have Q:=CA hT (ty:=ty) Y W N (some ⟨(μ b).blk,0,none⟩) n _ m X w g3 aaY
           rw[g4 w (fun _=>rfl)] at Q;have y:(n+m)*j.size<=(μ b).tot:=by have:=QQe j.size aaY;exact Y2 this (Nat.div_mul_le_self _ _)
           have hNl:K.length=m*j.size:=by rw[g1.length,g2,]
           have hst:=run_storeCells_at (P:=P) (μ b).blk (n*j.size) el K 0 R w s1 (by rw[hNl,s8,Nat.add_zero,<-Nat.add_mul];exact y) (g1.agG I');simp only[Result.andThen_ok,Addr.add_lit,QQY,hst] at Q;have C':cs.length<=R.size:=by rw[s8];exact s3
           have hs' :afM μ mem.length base (w.setRow (μ b).blk (R.toList.take (n*j.size+0)++K++R.toList.drop (n*j.size+0+K.length)).toArray) (μ b) (.cells true es (cs.take (n*j.size)++Z)):=by
            simp only[afM];refine⟨_,el,(0,0),setRow_heap w (μ b).blk R _ el (0,0) s1,s2,?_,fun q u hu=>?_,fun _=>⟨s6,rfl,?_,s9⟩⟩
            .simp only[Nm,M0,g2]
             rw[Nat.add_mul] at y;omega
            .rw[s6,QQY]
             have e1:(cs.take (n*j.size)).length=n*j.size:=by simp;omega
             have J:(R.toList.take (n*j.size+0)).length=n*j.size:=by simp;omega
             simp only[List.getElem?_toArray,S2];by_cases hq:q<n*j.size
             .rw[GE (by omega),V2 hq] at hu
              rw[GE (by omega),V2 (by omega)];obtain⟨U,hU,Q⟩:=s4 q u hu;rw[s6,QQY] at hU;exact⟨U,by simpa using hU,Q⟩
             .rw[Ns (by omega),e1] at hu
              rw[Ns (by omega),J];obtain⟨U,hU,Q⟩:=g1.get _ u hu;rw[GE (gL hU)];exact⟨U,hU,Q⟩
            .simp only[List.size_toArray,Nm,M0,QQh,QQl,hNl]
             rw[Nat.add_mul] at y;omega
           obtain⟨r1,r2⟩:=I.rename (w' :=w.setRow (μ b).blk (R.toList.take (n*j.size+0)++K++R.toList.drop (n*j.size+0+K.length)).toArray) B rfl rfl rfl rfl (by simp[World.setRow]) (fun k hk=>setRow_other w _ k _ hk) hs';refine⟨_,_,_,Q,?_,r1,r2⟩;simp only[afx,fq,od,Nm,QQZ,List.length_singleton];refine⟨by omega,?_⟩;rw[s2',s6];rfl
          .have hO:(Builtin.firstCells j.size n (.slice (some ⟨(μ b).blk,0,none⟩) n ((μ b).tot / j.size))).run P w.drew=.ok ⟨Os⟩ w.drew:=
            run_firstCells_some w.drew j.size n _ _ _ Os (by rw[o2,]) (fun q u hq=>o3 q u hq)
           obtain⟨nc,M,Q⟩:=Cz hT (ty:=ty) Y W N (some ⟨(μ b).blk,0,none⟩) n _ m X w Os K g3 (by omega) k3 k4 hO (g4 w.drew (fun _=>rfl));have hH2:=I.drop B;have C':(mem.set b .y9).length=mem.length:=by simp
           have:=Uf (P:=P) hH2 (es:=es) hes (olds:=cs.take (n*j.size)) (news:=Z) D hzs (by rw[C'];exact o1) (by rw[C'];exact g1) (by rw[M0,g2,Nat.add_mul];omega) M Q;obtain⟨V,w',μ',q1,q2,q3,q4⟩:=this;rw[] at q2 q3 q4;rw[C'] at q2 q4;exact⟨V,w',μ',q1,q2,q3,(Step.drop (b:=b) (Es _)).trans q4⟩
         .cases h
        .cases h
       .cases h
      .cases h
   .cases h
  .cases h
end
def UB(T:TypeId->Option TyI)(q:TypeId->AV->Bool)(H:List AV):List Field->Bool
 | []=>true
 |f::fs=>
  match T f.type with
  |none=>false
  |some i=>match jJ i H f.offset with
   |some a=>q f.type a&&UB T q H fs
   |none=>false
def Lz(q:AV->Bool)(i:TyI)(H:List AV):List Nat->Bool
 | []=>true
 |j::js=>match jJ i H (j*i.size) with
  |some a=>q a&&Lz q i H js
  |none=>false
def mG(T:TypeId->Option TyI):Nat->TypeId->AV->Bool
 |0,_,_=>false
 |d+1,t,x=>
  match T t with
  |none=>false
  |some i=>
   match i.desc,x with
   |.bool,.bool _=>true
   |.int _,.int _ _=>true
   |.string,.str _=>true
   |.struct fs,.agg xs=>UB T (mG T d) xs fs.toList
   |.array n e,.agg xs=>match T e with
    |some j=>Lz (mG T d e) j xs (List.range' 0 n)
    |none=>false
   |_,_=>false
def jU(T:TypeId->Option TyI)(H:TypeId)(k:AV):List (AV×AV)->Nat->Option (Option (Nat×AV))
 | [],_=>some none
 |e::es,i=>match kS T 20 H k e.1 with
  |some true=>some (some (i,e.2))
  |some false=>jU T H k es (i+1)
  |none=>none
def AV.agl:AV->Bool
 |.bool _ | .int _ _ | .str _=>true
 |_=>false
def ka(mem:Mem):AV->Option (List (AV×AV))
 |.afV=>some []
 |.map b=>match mem[b]? with
  |some (.map es)=>some es
  |some (.af6 es)=>some es
  |_=>none
 |_=>none
def lU(T:TypeId->Option TyI)(mem:Mem)(t:TypeId)(m k:AV)(ok:Bool):Option AV:=
 match T t with
 |none=>none
 |some i=>
  match i.desc with
  |.map kt et=>
   match T et,ka mem m with
   |some j,some es=>
    if mG T 20 kt k then
     match jU T kt k es 0 with
     |some (some (_,v))=>some (if ok then .tuple [v,.bool true] else v)
     |some none=>some (if ok then .tuple [oK j.zero,.bool false] else oK j.zero)
     |none=>none
    else none
   |_,_=>none
  |_=>none
def fz(T:TypeId->Option TyI)(mem:Mem)(t:TypeId)(m k v:AV):Option Mem:=
 match T t with
 |none=>none
 |some i=>
  match i.desc,m with
  |.map kt _,.map b=>
   match mem[b]? with
   |some (.map es)=>
    if mG T 20 kt k then
     match jU T kt k es 0 with
     |some (some (i,_))=>if k.agl then some (mem.set b (.map (es.set i (k,v)))) else none
     |some none=>some (mem.set b (.map (es++[(k,v)])))
     |none=>none
    else none
   |_=>none
  |_,_=>none
variable{K:Value}{k:AV}
section
variable {P:Program}{T:TypeId->Option TyI}{μ:Nat->Place}{mem:Mem}{base:Nat}{w:World}{n:Nat}
theorem CX(hT:dS P T){d:Nat}{q:TypeId->AV->Bool}{em:Bool}
  (I:∀{t:TypeId}{x:AV}{X:Value},q t x=true->afx μ n x X->∀(w:World),(Instr.checkKey em d t X).run P w=.ok () w)
  {J:List AV}{W:List Value}(hx:afy μ n J W) (w:World):∀{H:List Field},UB T q J H=true->
  ((forIn H PUnit.unit fun f _=>(do
    if f.name ≠ "_" then
     let a <-part f.type ⟨W⟩ f.offset
     Instr.checkKey em d f.type a
     pure (ForInStep.yield PUnit.unit)
    else pure (ForInStep.yield PUnit.unit):Sem (ForInStep PUnit))).run P w=.ok PUnit.unit w)
 | [],_=>by simp
 |f::H,h=>by
  rw[UB] at h;split at h
  .cases h
  .rename_i i S
   split at h
   .rename_i a R
    simp only[Ar] at h;obtain⟨A,Q,V⟩:=jh (P:=P) (μ:=μ) (n:=n) hT S R hx w;have O:=I h.1 V w;have U:=CX hT I hx w h.2;rw[List.forIn_cons];by_cases Z:f.name = "_"
    .simp only[Z,ne_eq,not_true_eq_false,if_false,pure_bind]
     simp only[ne_eq] at U;exact U
    .simp only[Z,ne_eq,not_false_eq_true,if_true,Sem.run_bind,Q,O,Result.andThen_ok,Sem.run_pure]
     exact U
   .cases h
theorem CW(hT:dS P T){d:Nat}{e:TypeId}{i:TyI}(H:T e=some i){q:AV->Bool}{em:Bool}
  (J:∀{x:AV}{X:Value},q x=true->afx μ n x X->∀(w:World),(Instr.checkKey em d e X).run P w=.ok () w)
  {W:List AV}{Y:List Value}(hx:afy μ n W Y) (w:World):∀{I:List Nat},Lz q i W I=true->
  ((forIn I PUnit.unit fun j _=>(do
    let s <-sizeOf e
    let a <-part e ⟨Y⟩ (j*s)
    Instr.checkKey em d e a
    pure (ForInStep.yield PUnit.unit):Sem (ForInStep PUnit))).run P w=.ok PUnit.unit w)
 | [],_=>by simp
 |j::I,h=>by
  rw[Lz] at h;split at h
  .rename_i a V
   simp only[Ar] at h;obtain⟨A,U,Z⟩:=jh (P:=P) (μ:=μ) (n:=n) hT H V hx w;have S:=J h.1 Z w;have R:=CW hT H J hx w h.2;rw[List.forIn_cons];simp only[Sem.run_bind,dI hT H,U,S,Result.andThen_ok,Sem.run_pure];exact R
  .cases h
theorem me(hT:dS P T)(em:Bool):∀(d:Nat) {t:TypeId} {x:AV} {X:Value},mG T d t x=true->afx μ n x X->
  ∀(k:Nat) (w:World),(Instr.checkKey em (d+k) t X).run P w=.ok () w
 |0,_,_,_,h,_,_,_=>by simp[mG] at h
 |d+1,t,x,X,h,hx,k,w=>by
  rw[mG] at h;rw[show d+1+k=d+k+1 by omega];cases ht:T t with
  |none=>rw[ht] at h;cases h
  |some i=>
   rw[ht] at h;simp only at h;have Z:=(hT t i ht).desc;split at h
   next V=>rw[V] at Z;rw[hx.bool,Instr.checkKey];simp[run_underlying Z]
   next V=>rw[V] at Z;rw[hx.int,Instr.checkKey];simp[run_underlying Z]
   next V=>rw[V] at Z;rw[hx.str,Instr.checkKey];simp[run_underlying Z]
   .rename_i M Q V
    rw[V] at Z;obtain⟨O,rfl,U⟩:=hx.agg;have:=CX (em:=em) hT (fun S R w=>me hT em d S R k w) U w h;rw[Instr.checkKey];simp only[Sem.run_bind,run_underlying Z,Result.andThen_ok];rw[<-Array.forIn_toList];rw[this];rfl
   .rename_i m e Q V
    rw[V] at Z;split at h
    .rename_i j N
     obtain⟨O,rfl,U⟩:=hx.agg;have:=CW (em:=em) hT N (fun S R w=>me hT em d S R k w) U w h;rw[Instr.checkKey];simp only[Sem.run_bind,run_underlying Z,Result.andThen_ok];simp only[Std.Legacy.Range.forIn_eq_forIn_range',Std.Legacy.Range.size,QQg,Nat.add_sub_cancel,Nat.div_one];rw[this];rfl
    .cases h
   .cases h
def Ou(μ:Nat->Place)(n:Nat):Option (Nat×AV)->Option (Nat×Value)->Prop
 |some (a,v),some (b,V)=>a=b/\afx μ n v V
 |none,none=>True
 |_,_=>False
theorem qz(hT:dS P T){I:TypeId}{k:AV}{K:Value}(J:afx μ n k K)(w:World):∀{es:List (AV×AV)} {H:List MapEntry} {i:Nat} {r:Option (Nat×AV)},
  H.length=es.length->(∀(j:Nat) e,es[j]? =some e->∃E,H[j]? =some E/\Ph μ n e E)->jU T I k es i=some r->
  ∃R,(Instr.findAsking I K H i).run P w=.ok R w/\Ou μ n r R
 | [],H,i,r,hl,_,h=>by have:H=[]:=GT hl;subst this;simp only[jU,Mp] at h;subst h;exact⟨none,by simp[Instr.findAsking],trivial⟩
 |e::es,[],i,r,hl,_,h=>by simp at hl
 |e::es,E::H,i,r,hl,hr,h=>by
  rw[jU] at h;obtain⟨X,Q,V⟩:=hr 0 e rfl;simp at Q;subst Q;have U:∀(j:Nat) Z,es[j]? =some Z ->∃X,H[j]? =some X /\Ph μ n Z X :=fun j Z O=>by simpa using hr (j+1) Z (by simpa using O)
  split at h
  .rename_i S
   cases h;have:=jg hT 20 S J V.1 9980 w;refine⟨some (i,E.val),?_,rfl,V.2⟩;simp only[Instr.findAsking,Sem.run_bind];rw[show Op.equal I K E.key=Op.equalIn (20+9980) I K E.key from rfl,this];simp
  .rename_i S
   have:=jg hT 20 S J V.1 9980 w;obtain⟨R,g1,N⟩:=qz hT J w (by simpa using hl) U h;refine⟨R,?_,N⟩;simp only[Instr.findAsking,Sem.run_bind];rw[show Op.equal I K E.key=Op.equalIn (20+9980) I K E.key from rfl,this];simpa using g1
  .cases h
theorem tV(hT:dS P T){H:TypeId}{kd:TypeDesc}(J:P.underlying H=some kd){k:AV}{K:Value}(W:afx μ n k K)(w:World):
  ∀{es:List (AV×AV)}{I:List MapEntry}{i:Nat}{r:Option (Nat×AV)}{R:Option (Nat×Value)},
  I.length=es.length->(∀(j:Nat) e,es[j]? =some e->∃E,I[j]? =some E/\Ph μ n e E)->jU T H k es i=some r->Instr.findNow kd K I i=some R->
  (Instr.findAsking H K I i).run P w=.ok R w
 | [],I,i,r,R,hl,_,_,h=>by have:I=[]:=GT hl;subst this;simp only[Instr.findNow,Mp] at h;subst h;simp[Instr.findAsking]
 |e::es,[],i,r,R,hl,_,_,h=>by simp at hl
 |e::es,E::I,i,r,R,hl,hr,hf,h=>by
  obtain⟨N,D,C⟩:=hr 0 e rfl;simp at D;subst D;have M:∀(j:Nat) O,es[j]? =some O ->∃N,I[j]? =some N /\Ph μ n O N :=fun j O X=>by simpa using hr (j+1) O (by simpa using X)
  rw[jU] at hf;have V:∀b,kS T 20 H k e.1=some b->∀U,Instr.sameNow kd K E.key=some U ->U =b:=by
   intro b G U Z;have X:=jg hT 20 G W C.1 9980 w;unfold Instr.sameNow at Z;split at Z
   .rename_i y a u c B S
    split at Z
    .rename_i F
     cases Z;rw[S] at X;subst F;rw[run_equalIn_int w _ H _ _ _ _ J] at X;cases X;rfl
    .cases Z
   .rename_i a c B S
    cases Z;rw[S] at X;rw[run_equalIn_string w _ H _ _ J] at X;cases X;rw[beq_toListBytes]
   .rename_i a c B S
    cases Z;rw[S] at X;rw[run_equalIn_bool' w _ H _ _ J] at X;cases X;rfl
   .cases Z
  rw[Instr.findNow] at h;have step:∀b,kS T 20 H k e.1=some b->(Instr.findAsking H K (E::I) i).run P w=if b then .ok (some (i,E.val)) w else (Instr.findAsking H K I (i+1)).run P w:=by intro b G;have X:=jg hT 20 G W C.1 9980 w;simp only[Instr.findAsking,Sem.run_bind];rw[show Op.equal H K E.key=Op.equalIn (20+9980) H K E.key from rfl,X];cases b<;>simp
  split at hf
  .rename_i Q
   rw[step _ Q];cases hs:Instr.sameNow kd K E.key with
   |none=>rw[hs] at h;cases h
   |some U =>
    have:=V _ Q _ hs;subst this;rw[hs] at h;simp only[Mp] at h;subst h;simp
  .rename_i Q
   rw[step _ Q];cases hs:Instr.sameNow kd K E.key with
   |none=>rw[hs] at h;cases h
   |some U =>
    have:=V _ Q _ hs;subst this;rw[hs] at h;simp only at h;simpa using tV hT J W w (by simpa using hl) M hf h
  .cases hf
theorem ig(hT:dS P T){H:TypeId}{J:TyI}(W:T H=some J)(Y:afx μ n k K){es:List (AV×AV)}{I:List MapEntry}{r:Option (Nat×AV)}(hl:I.length=es.length)(hr:∀(j:Nat) e,es[j]? =some e->∃E,I[j]? =some E/\Ph μ n e E)(h:jU T H k es 0=some r)(w:World):
  ∃R,(Instr.findKey H K I).run P w=.ok R w/\Ou μ n r R:=by
 have Z:=(hT H J W).desc;obtain⟨R,g1,X⟩:=qz hT Y w hl hr h;refine⟨R,?_,X⟩;simp only[Instr.findKey,Sem.run_bind,run_underlying Z,Result.andThen_ok];cases hn:Instr.findNow J.desc K I 0 with
 |none=>simpa using g1
 |some R' =>
  have:=tV hT Z Y w hl hr h hn;rw[this] at g1;cases g1;simp
theorem GR(hT:dS P T)(hH:afJ base μ mem w){t:TypeId}{m k v:AV}{M:Value}{ok:Bool}(H:afx μ mem.length m M)(I:afx μ mem.length k K)(h:lU T mem t m k ok=some v):Val P (Instr.lookup t M K ok) w μ mem.length v:=by
 unfold lU at h;cases ht:T t with
 |none=>rw[ht] at h;cases h
 |some i=>
  rw[ht] at h;simp only at h;have O:=(hT t i ht).desc;split at h
  .rename_i kt et D'
   rw[D'] at O;split at h
   .rename_i j es hj Z
    split at h
    .rename_i X
     have B:∃S:Array MapEntry,(M=.map none/\S= #[]\/∃r c,M=.map (some r)/\(getObj r).run P w=.ok (.map S c) w)/\S.toList.length=es.length/\
       ∀(j:Nat) e,es[j]? =some e->∃E,S.toList[j]? =some E/\Ph μ mem.length e E:=by
      unfold ka at Z;split at Z
      .cases Z
       simp only[afx] at H;subst H;exact⟨#[],.inl ⟨rfl,rfl⟩,rfl,by simp⟩
      .rename_i b
       split at Z
       .rename_i y u
        cases Z;simp only[afx] at H;obtain⟨_,rfl⟩:=H;have N:=hH.slot b _ u;simp only[afM] at N;obtain⟨o,Y,W,_,J,h3⟩:=N;refine⟨o,.inr ⟨_,Y,rfl,by simp[getObj,Sem.run,W]⟩,by simpa using J,fun j e he=>?_⟩;obtain⟨E,hE,hr⟩:=h3 j e he;exact⟨E,by simpa using hE,hr⟩
       .rename_i y u
        cases Z;simp only[afx] at H;obtain⟨_,rfl⟩:=H;have N:=hH.slot b _ u;simp only[afM] at N;obtain⟨o,Y,W,_,J,h3⟩:=N;refine⟨o,.inr ⟨_,Y,rfl,by simp[getObj,Sem.run,W]⟩,by simpa using J,fun j e he=>?_⟩;obtain⟨E,hE,hr⟩:=h3 j e he;exact⟨E,by simpa using hE,hr⟩
       .cases Z
      .cases Z
     obtain⟨S,Q,e2,e3⟩:=B;have U:=me (P:=P) (n:=mem.length) hT S.isEmpty 20 X I 9980 w;have hkt:∃D,T kt=some D:=by
      rw[mG] at X;cases hx:T kt with
      |none=>rw[hx] at X;cases X
      |some D=>exact⟨D,rfl⟩
     obtain⟨D,G⟩:=hkt;split at h
     .rename_i q v' hf
      cases h;obtain⟨R,g1,C⟩:=ig hT G I e2 e3 hf w;cases R with
      |none=>exact C.elim
      |some x=>
       obtain⟨_,V⟩:=x;have F:=C.2;refine⟨if ok then .tuple #[V,.bool true] else V,?_,?_⟩
       .rcases Q with⟨rfl,rfl⟩ | ⟨r,c,rfl,Q⟩
        .simp only[Instr.lookup,Sem.run_bind,run_underlying O,Result.andThen_ok,Sem.run_pure]
         rw[show(10000:Nat)=20+9980 from rfl,U];simp only[Result.andThen_ok,g1,Sem.run_pure,Sem.run_bind]
        .simp only[Instr.lookup,Sem.run_bind,run_underlying O,Result.andThen_ok,Q,Sem.run_pure]
         rw[show(10000:Nat)=20+9980 from rfl,U];simp only[Result.andThen_ok,g1,Sem.run_pure,Sem.run_bind]
       .cases ok
        .exact F
        .simp only[if_true,afx];exact⟨[V,.bool true],rfl,bW.2 ⟨F,bW.2 ⟨by simp[afx],by simp[afy]⟩⟩⟩
     .rename_i hf
      cases h;obtain⟨R,g1,C⟩:=ig hT G I e2 e3 hf w;cases R with
      |some x=>exact C.elim
      |none=>
       have F:=yh μ mem.length j.zero;refine⟨if ok then .tuple #[j.zero,.bool false] else j.zero,?_,?_⟩
       .rcases Q with⟨rfl,rfl⟩ | ⟨r,c,rfl,Q⟩
        .simp only[Instr.lookup,Sem.run_bind,run_underlying O,Result.andThen_ok,Sem.run_pure]
         rw[show(10000:Nat)=20+9980 from rfl,U];simp only[Result.andThen_ok,g1,Sem.run_pure,Sem.run_bind,fG hT hj]
        .simp only[Instr.lookup,Sem.run_bind,run_underlying O,Result.andThen_ok,Q,Sem.run_pure]
         rw[show(10000:Nat)=20+9980 from rfl,U];simp only[Result.andThen_ok,g1,Sem.run_pure,Sem.run_bind,fG hT hj]
       .cases ok
        .exact F
        .simp only[if_true,afx];exact⟨[j.zero,.bool false],rfl,bW.2 ⟨F,bW.2 ⟨by simp[afx],by simp[afy]⟩⟩⟩
     .cases h
    .cases h
   .cases h
  .cases h
theorem sF{J :Value}{e:AV}{b:Bool}{W:TypeId}(hs:k.agl=true)(H:afx μ n k K)(I:afx μ n e J)(h:kS T 20 W k e=some b)(Y:b=true):
  Instr.sameBits 10000 J K=true:=by
 subst Y;rw[kS] at h;cases ht:T W with
 |none=>rw[ht] at h;cases h
 |some i=>
  rw[ht] at h;simp only at h;split at h
  .rw[H.bool,I.bool]
   simp only[Mp] at h;simp only[Instr.sameBits];rw[beq_iff_eq] at h |-;exact h.symm
  .split at h
   .rename_i Z
    subst Z;simp only[Mp,Cs] at h;rw[H.int,I.int,h];simp[Instr.sameBits]
   .cases h
  .rw[H.str,I.str]
   simp only[Mp,beq_iff_eq] at h;rw[h];simp only[Instr.sameBits];rw[beq_toListBytes];simp
  .cases hs
  .cases hs
  .cases h
theorem ot{H:TypeId}{k:AV}:∀{es:List (AV×AV)} {i q:Nat} {v:AV},jU T H k es i=some (some (q,v))->∃j e,q=i+j/\es[j]? =some e/\kS T 20 H k e.1=some true
 | [],i,q,v,h=>by simp[jU] at h
 |e::es,i,q,v,h=>by
  rw[jU] at h;split at h
  next Z=>cases h;exact⟨0,e,rfl,rfl,Z⟩
  .obtain⟨j,X,U,V,h3⟩:=ot h
   exact⟨j+1,X,by omega,by simpa using V,h3⟩
  .cases h
theorem tE{r:Nat}{o H :Obj}(h:w.heap[r]? =some o)(I:∀c e f,o≠ .cells c e f):(setObj r H).run P w=.ok () { w with heap:=w.heap.setIfInBounds r H }:=by simp only[setObj,Sem.run,h];try (split<;>first | (rename_i Z;cases Z;exact absurd rfl (I _ _ _)) | rfl | simp_all)
theorem Aw(hT:dS P T)(hH:afJ base μ mem w){t:TypeId}{m k v:AV}{M K V:Value}{mem' :Mem}(hm:afx μ mem.length m M)(H:afx μ mem.length k K)(hv:afx μ mem.length v V)(h:fz T mem t m k v=some mem'):∃w',(Instr.mapUpdate t M K V).run P w=.ok () w' /\afJ base μ mem' w' /\Step mem.length μ mem w μ mem' w' :=by
 unfold fz at h;cases ht:T t with
 |none=>rw[ht] at h;cases h
 |some i=>
  rw[ht] at h;simp only at h;have hd:=(hT t i ht).desc;split at h
  .rename_i kt et b D'
   rw[D'] at hd;split at h
   .rename_i es hb
    split at h
    .rename_i N
     simp only[afx] at hm;obtain⟨hbn,rfl⟩:=hm;have hs:=hH.slot b _ hb;simp only[afM] at hs;obtain⟨C,B,h1,S,Y,h3⟩:=hs;have hg:(getObj (μ b).blk).run P w=.ok (.map C B) w:=by simp[getObj,Sem.run,h1]
     have y:=me (P:=P) (n:=mem.length) hT false 20 N H 9980 w;have hkt:∃W,T kt=some W:=by
      rw[mG] at N;cases hx:T kt with
      |none=>rw[hx] at N;cases N
      |some W=>exact⟨W,rfl⟩
     obtain⟨W,u⟩:=hkt;have e2:C.toList.length=es.length:=by simpa using Y
     have e3:∀(j:Nat) e,es[j]? =some e->∃E,C.toList[j]? =some E/\Ph μ mem.length e E:=fun j e J=>by obtain⟨E,I,hr⟩:=h3 j e J;exact⟨E,by simpa using I,hr⟩
     have A':(μ b).blk<w.heap.size:=(J1.1 h1).1;have o:∀(U :Array MapEntry) (Q :Nat) (O :List (AV×AV)),ER U Q ->U.size=O.length->(∀(j:Nat) e,O[j]? =some e->∃E,U[j]? =some E/\Ph μ mem.length e E)->
       (setObj (μ b).blk (.map U Q)).run P w=.ok () { w with heap:=w.heap.setIfInBounds (μ b).blk (.map U Q) }/\
       afJ base μ (mem.set b (.map O)) { w with heap:=w.heap.setIfInBounds (μ b).blk (.map U Q) }/\Step mem.length μ mem w μ (mem.set b (.map O)) { w with heap:=w.heap.setIfInBounds (μ b).blk (.map U Q) }:=by
      intro U Q O g0 g1 g2;refine⟨tE h1 (by simp),hH.write hb (LP hb) (fun _=>⟨_,QQQ (gL hb),rfl⟩) rfl rfl rfl rfl (by simp) (fun q hq=>?_) ?_⟩
      .simp[P3 (Ne.symm hq)]
      .simp only[afM]
       exact⟨U,Q,by simp[A'],⟨S.1,g0⟩,g1,g2⟩
     split at h
     .rename_i q v' hf
      split at h
      .rename_i hsc
       cases h;obtain⟨R,g1,g2⟩:=ig hT u H e2 e3 hf w;cases R with
       |none=>exact g2.elim
       |some x=>
        obtain⟨q',V'⟩:=x;obtain⟨rfl,_⟩:=g2;obtain⟨j,e,hq,J,X'⟩:=ot hf;have hq' :q=j:=by omega
        subst hq';obtain⟨E,I,hr⟩:=h3 q e J;have hsb:=sF (μ:=μ) (n:=mem.length) hsc H hr.1 X' rfl;obtain⟨f1,f2,f3⟩:=o (C.modify q fun e=>{ e with key:=K,val:=V }) B (es.set q (k,v)) ⟨by simpa using S.2.1,fun j G Z =>by
         rw[Array.getElem?_modify] at Z;split at Z
         .simp only[Pi] at Z
          obtain⟨E0,k1,rfl⟩:=Z;exact S.2.2 j E0 k1
         .exact S.2.2 j G Z⟩ (by simpa using Y) (fun j e' X =>by
         rw[List.getElem?_set] at X;by_cases F:q=j
         .subst F
          have aao :q<es.length:=gL J;simp only[if_true,aao,Mp] at X;subst X;exact⟨{ E with key:=K,val:=V },by simp[Array.getElem?_modify,I],H,hv⟩
         .rw[if_neg F] at X
          obtain⟨G,Z,D⟩:=h3 j e' X;exact⟨G,by simp[Array.getElem?_modify,F,Z],D⟩)
        refine⟨_,?_,f2,f3⟩;simp only[Instr.mapUpdate,Sem.run_bind,run_underlying hd,Result.andThen_ok,hg];rw[show(10000:Nat)=20+9980 from rfl,y];simp only[Result.andThen_ok,g1,Sem.run_bind];have abc:(Instr.keyThatStays (((C[q]?).map (·.key)).getD K) K).run P w=.ok K w:=by unfold Instr.keyThatStays;rw[I];simp only[Option.map_some,Option.getD_some,hsb,if_true];rfl
        rw[abc];simpa using f1
      .cases h
     .rename_i hf
      cases h;obtain⟨R,g1,g2⟩:=ig hT u H e2 e3 hf w;cases R with
      |some x=>exact g2.elim
      |none=>
       obtain⟨f1,f2,f3⟩:=o (C.push { key:=K,val:=V,born:=B }) (B+1) (es++[(k,v)]) ⟨by simp[S.2.1],fun j G Z =>by
        rw[Array.getElem?_push] at Z;split at Z
        next hj=>cases Z;rw[hj];exact S.2.1
        .exact S.2.2 j G Z⟩ (by simp[Y]) (fun j e' X =>by
        by_cases hj:j<es.length
        .rw[GE hj] at X
         obtain⟨G,Z,D⟩:=h3 j e' X;exact⟨G,by rw[Array.getElem?_push,if_neg (by omega)];exact Z,D⟩
        .have hje:j=es.length:=by have:=(gL X);simp at this;omega
         subst hje;simp at X;subst X;exact⟨{ key:=K,val:=V,born:=B },by rw[Array.getElem?_push,if_pos Y.symm],H,hv⟩)
       refine⟨_,?_,f2,f3⟩;simp only[Instr.mapUpdate,Sem.run_bind,run_underlying hd,Result.andThen_ok,hg];rw[show(10000:Nat)=20+9980 from rfl,y];simp only[Result.andThen_ok,g1];exact f1
     .cases h
    .cases h
   .cases h
  .cases h
theorem Hh(H:afJ base μ mem w){t:TypeId}:agF P (Instr.makeMap t none) base μ mem w (.map mem.length) (mem++[.map []]):=by
 obtain⟨Z,X⟩:=H.push (.map #[] 0) (.map []) ⟨w.heap.size,0,0,0⟩ rfl (by simp only[afM];exact⟨#[],0,heap_alloc_new w _,⟨H.afF,rfl,by simp⟩,rfl,by simp⟩)
 refine⟨.map (some w.heap.size),_,_,?_,?_,Z,X⟩
 .simp only[Instr.makeMap,Sem.run_bind,Sem.run_pure,run_newObj,Result.andThen_ok]
  rfl
 .simp[afx,fq]
end
end Go.Eng
namespace Go.Eng
def jt:List AV->Option (List UInt8)
 | []=>some []
 |.int .u8 n::l=>if 0<=n/\n<256 then match jt l with
  |some r=>some (UInt8.ofNat n.toNat::r)
  |none=>none
  else none
 |_::_=>none
def sP(mem:Mem)(x:AV):Option AV:=match x with
 |.slice b o n none=>match mem[b]? with
  |some (.cells _ es cs)=>if 0<n/\0<es%1000/\o+n*(es%1000)<=cs.length then some (.ptr b o) else none
  |_=>none
 |_=>none
def yp(T:TypeId->Option TyI)(mem:Mem)(pt:TypeId)(x l:AV):Option (AV×Mem):=match T pt,x,l with
 |some i,.ptr b 0,.int .i64 n=>match i.desc with
  |.pointer e=>match T e,mem[b]? with
   |some j,some (.cells true es cs)=>
    if j.size=1/\es=1+1000*(e+1)/\0<n/\n<=cs.length/\n<=9223372036854775807 then match jt (cs.take n.toNat) with
     |some s=>some (.str s,mem.set b .y9)
     |none=>none
    else none
   |_,_=>none
  |_=>none
 |_,_,_=>none
theorem YF(a es:Nat)(h:es=1+1000*(a+1)):1000<=es/\es / 1000=a+1/\es%1000=1:=by omega
theorem Fc:∀{l:List AV} {s:List UInt8},jt l=some s->s.length=l.length/\∀(j:Nat) x,s[j]? =some x->l[j]? =some (.int .u8 (x.toNat:Int))
 | [],s,h=>by cases h;exact⟨rfl,fun j x Z=>by simp at Z⟩
 |v::l,s,h=>by
  cases v<;>try (unfold jt at h;cases h;done)
  rename_i k n;cases k<;>try (unfold jt at h;cases h;done)
  unfold jt at h;split at h
  .rename_i S
   split at h
   .rename_i r X
    cases h;obtain⟨V,U⟩:=Fc X;refine⟨by simp[V],fun j x Z=>?_⟩;cases j with
    |zero=>
     simp at Z;subst Z;simp only[List.getElem?_cons_zero,Mp,AV.int.injEq,true_and];rw[UInt8.toNat_ofNat'];have:n.toNat%256=n.toNat:=QQa (by omega);show n=((n.toNat%256:Nat):Int)
     rw[this];omega
    |succ j=>simpa using U j x (by simpa using Z)
   .cases h
  .cases h
theorem NO(w:World)(a:Addr)(n:Nat):(w.freeze a n).heap.size=w.heap.size:=by unfold World.freeze;split<;>simp
theorem Lu(w:World)(a:Addr)(n k:Nat)(h:k≠a.block):(w.freeze a n).heap[k]? =w.heap[k]? :=by
 unfold World.freeze;split
 .rfl
 .simp only[Array.getElem?_modify,if_neg (Ne.symm h)]
section
variable {P:Program}{T:TypeId->Option TyI}{μ:Nat->Place}{mem:Mem}{base:Nat}{w:World}
theorem Ax(H:afJ base μ mem w){x v:AV}{X:Value}(ts:Array TypeId)(ty:TypeId)(hx:afx μ mem.length x X)(h:sP mem x=some v):Val P (Builtin.unsafeSliceData_ ts ty #[X]) w μ mem.length v:=by
 unfold sP at h;split at h
 .rename_i b o n
  split at h
  .rename_i own es N S
   split at h
   .rename_i R
    cases h;obtain⟨Z,rfl⟩:=hx.slice;have U:=H.slot b _ S;simp only[afM] at U;obtain⟨Q,el,M,K,O,G,_,_⟩:=U;have V:od (μ b) o none≠0:=by
     simp only[od,O.1];have:n<=((μ b).tot-o) / (es%1000):=by rw[Nat.le_div_iff_mul_le R.2.1];omega
     omega
    exact⟨_,Lib.run_unsafeSliceData_row _ _ _ _ _ _ V,by simp[afx,Z]⟩
   .cases h
  .cases h
 .cases h
theorem GW(hT:dS P T)(I:afJ base μ mem w){pt J ty:TypeId}{x l v:AV}{X L:Value}{H :Mem}(hx:afx μ mem.length x X)(W:afx μ mem.length l L)(h:yp T mem pt x l=some (v,H)):
  agF P (Builtin.unsafeString_ #[pt,J] ty #[X,L]) base μ mem w v H :=by
 unfold yp at h;split at h
 .rename_i i b n o
  split at h
  .rename_i e m
   split at h
   .rename_i j es cs Y Q
    split at h
    .rename_i hc
     obtain⟨c1,c2,c3,c4,c5⟩:=hc;split at h
     .rename_i s hs
      cases h;obtain⟨g1,g2⟩:=Fc hs;have hX:=hx.ptr;have hL:=W.int;have Z:=(hT pt i o).desc;rw[m] at Z;obtain⟨f,hf,O,_,_⟩:=(hT e j Y).info;have N:P.cellsOf e=1:=by unfold Program.cellsOf;rw[hf];simp[O,c1]
      have U:=I.slot b _ Q;simp only[afM] at U;obtain⟨S,el,fr,D,s2,s3,s4,s5⟩:=U;obtain⟨C,rfl,s8,s9⟩:=s5 trivial;have M:el=e:=by obtain⟨q1,q2,_⟩:=YF e es c2;have:=s2.2 q1;rw[q2] at this;exact Nat.succ.inj this
      subst M;have K:s.length=n.toNat:=by rw[g1,M0];omega
      have hn:n=(s.length:Int):=by omega
      rw[hX.2,hL,hn,C];have G:w.shape? (μ b).blk=some (el,S.size):=by simp[World.shape?,D]
      have IR:=Lib.run_unsafeString_row (P:=P) w pt J ty el Z N (μ b).blk S.size G s (by intro e;rw[e] at K;simp at K;omega) (by rw[s8];omega) (by omega) (fun q u B=>by
       have y:=g2 q u B;have F:q<n.toNat:=by rw[<-K];exact(gL B)
       rw[V2 F] at y;obtain⟨V,hV,hr⟩:=s4 q _ y;rw[hr.int] at hV;rw[C,QQY] at hV;simp only[Addr.add_lit,World.cell?,D,QQY];exact hV)
      have G':¬s.length=0:=by omega
      have R:(w.freeze ⟨(μ b).blk,0,none⟩ s.length).os=w.os/\(w.freeze ⟨(μ b).blk,0,none⟩ s.length).tape=w.tape/\(w.freeze ⟨(μ b).blk,0,none⟩ s.length).output=w.output/\(w.freeze ⟨(μ b).blk,0,none⟩ s.length).drawn=w.drawn:=by unfold World.freeze;rw[if_neg G'];exact⟨rfl,rfl,rfl,rfl⟩
      obtain⟨k1,k2⟩:=I.write (w' :=w.freeze ⟨(μ b).blk,0,none⟩ s.length) (s' :=.y9) Q (qg Q) (fun h=>absurd rfl h) R.2.2.2 R.1 R.2.1 R.2.2.1 (NO ..) (fun k hk=>Lu _ _ _ _ hk) trivial;refine⟨_,_,μ,IR,by simp[afx],k1,?_⟩;exact k2
     .cases h
    .cases h
   .cases h
  .cases h
 .cases h
end
section
variable {P:Program}{T:TypeId->Option TyI}{μ:Nat->Place}{mem:Mem}{base:Nat}{w:World}
end
section
variable {P:Program}{T:TypeId->Option TyI}{μ:Nat->Place}{mem:Mem}{base:Nat}{w:World}
end
def yn(T:TypeId->Option TyI)(mem:Mem)(t:TypeId)(x:AV)(H I:Option AV):Option (AV×Mem):=
 match T t,x with
 |some i,.slice b o n none=>
  match i.desc with
  |.slice e=>match T e,mem[b]? with
   |some j,some (.cells _ es cs)=>match I,H with
    |none,some (.int _ l)=>if l=n/\0<n/\es=j.size/\0<es/\es<1000/\o+n*es<=cs.length then some (.slice mem.length 0 0 none,mem++[.y9]) else none
    |_,_=>none
   |_,_=>none
  |_=>none
 |_,_=>none
section
variable {P:Program}{T:TypeId->Option TyI}{μ:Nat->Place}{mem:Mem}{base:Nat}{w:World}
theorem afJ.y9(h:afJ base μ mem w)(p:Place):afJ base (upd μ mem.length p) (mem++[.y9]) w/\Step mem.length μ mem w (upd μ mem.length p) (mem++[.y9]) w:=by
 have hμ:∀b,b<mem.length->upd μ mem.length p b=μ b:=fun b X=>xz X
 have low:∀{b:Nat}{s:afz},(mem++[afz.y9])[b]? =some s->s≠ .y9->b<mem.length/\mem[b]? =some s:=by
  intro b s Z U;by_cases S:b<mem.length
  .rw[GE S] at Z;exact⟨S,Z⟩
  .exfalso
   have R:b=mem.length:=by have:=gL Z;simp at this;omega
   subst R;simp at Z;exact U Z.symm
 have own:∀{b:Nat},eH (mem++[afz.y9]) b->b<mem.length/\eH mem b:=by rintro b ⟨s,Z,ho⟩;have:=low Z (afz.af7 ho);exact⟨this.1,s,this.2,ho⟩
 refine⟨⟨h.afF,fun b s Z=>?_,fun b G F X Q U O=>?_⟩,?_⟩
 .by_cases V:s=.y9
  .subst V;trivial
  .obtain⟨S,N⟩:=low Z V
   rw[hμ b S];exact(h.slot b s N).mono (by simp) hμ fun _=>rfl
 .obtain⟨M,K⟩:=own X
  obtain⟨h3,D⟩:=low Q U;rw[hμ b M,hμ G h3];exact h.sep b G F K D U O
 .exact⟨by simp,hμ,rfl,rfl,rfl,Es _,fun _ _ _=>rfl,fun b X _=>by obtain⟨M,K⟩:=own X;exact⟨b,K,(congrArg Place.blk (hμ b M)).symm⟩,Es _⟩
theorem GU(hT:dS P T)(hH:afJ base μ mem w){t:TypeId}{x v:AV}{X:Value}{I J:Option AV}{W Y:Option Value}{H :Mem}(hx:afx μ mem.length x X)(hlo:(I=none/\W=none)\/∃l L,I=some l/\W=some L/\afx μ mem.length l L)(hhi:(J=none/\Y=none)\/∃l L,J=some l/\Y=some L/\afx μ mem.length l L)(h:yn T mem t x I J=some (v,H)):
  agF P (Instr.sliceAt t X W Y none) base μ mem w v H :=by
 unfold yn at h;split at h
 .rename_i i b o n F
  split at h
  .rename_i e D
   have M:=(hT t i F).desc;rw[D] at M;split at h
   .rename_i j own es cs C B
    split at h
    .rename_i k l
     split at h
     .rename_i y
      obtain⟨rfl,g1,u,K,R,g7⟩:=y;cases h;rcases hhi with⟨_,rfl⟩ | ⟨_,_,U,_⟩
      .rcases hlo with⟨U,_⟩ | ⟨a,L,U,rfl,m⟩
       .cases U
       .cases U
        rw[m.int];obtain⟨hbn,rfl⟩:=hx.slice;have G:=hH.slot b _ B;simp only[afM] at G;obtain⟨cur,el,fr,hs1,hs2,hs3,_,_⟩:=G;have hs2:=hs2.es R;subst hs2;have Q:n<=od (μ b) o none:=by simp only[od];rw[Nat.le_div_iff_mul_le K];omega
        obtain⟨c,O⟩:=xE (od (μ b) o none);rw[<-O] at Q |-;obtain⟨S,Z⟩:=xE (if c=n then (μ b).off+o else (μ b).off+(o+n*(μ b).es));obtain⟨a1,a2⟩:=hH.y9 ⟨(μ b).blk,S,(c-n)*(μ b).es,(μ b).es⟩;have P':(Instr.sliceBounds true n c (some (.int k (n:Int))) none none).run P w=.ok (n,n,c) w:=by
         have T':(0:Int)<=(n:Int):=by omega
         have N:(n:Int)<=((n:Nat):Int):=Int.le_refl _;simp[Instr.sliceBounds,iJ T' N]
        refine⟨.slice (some ⟨(μ b).blk,S,none⟩) 0 (c-n),w,_,?_,?_,a1,a2⟩
        .simp[Instr.sliceAt,Instr.slice,run_underlying M,P',dI hT C]
         by_cases V:c=n
         .rw[if_pos V] at Z
          simp[V,Z]
         .rw[if_neg V] at Z
          simp[V,Z,Addr.add_lit,u,QXZ]
        .simp only[afx,fq,od,Nm,List.length_singleton,Nat.add_zero,QQg]
         refine⟨by omega,?_⟩;rw[Nat.mul_div_cancel _ K]
      .cases U
     .cases h
    .cases h
   .cases h
  .cases h
 .cases h
end
section
variable {P:Program}{T:TypeId->Option TyI}{μ:Nat->Place}{mem:Mem}{base:Nat}{w:World}
end
def rK(T:TypeId->Option TyI)(mem:Mem)(t:TypeId)(m k:AV):Option (AV×Mem):=
 match T t with
 |none=>none
 |some i=>
  match i.desc,m with
  |.map kt et,.map b=>
   match T et,mem[b]? with
   |some j,some (.map es)=>
    if mG T 20 kt k then
     match jU T kt k es 0 with
     |some (some (q,v))=>if k.agl then some (.tuple [v,.int .i64 q],mem.set b (.map (es.set q (k,v)))) else none
     |some none=>some (.tuple [oK j.zero,.int .i64 es.length],mem.set b (.map (es++[(k,oK j.zero)])))
     |none=>none
    else none
   |_,_=>none
  |_,_=>none
def lS(mem:Mem)(m s v:AV):Option Mem:=
 match m,s with
 |.map b,.int _ (.ofNat q)=>match mem[b]? with
  |some (.map es)=>match es[q]? with
   |some e=>some (mem.set b (.map (es.set q (e.1,v))))
   |none=>none
  |_=>none
 |_,_=>none
variable{FS:Array MapEntry}
section
variable {P:Program}{T:TypeId->Option TyI}{μ:Nat->Place}{mem:Mem}{base:Nat}{w:World}{n:Nat}
theorem Lr{H:TypeId}{k:AV}:∀{es:List (AV×AV)} {i q:Nat} {v:AV},jU T H k es i=some (some (q,v))->(es[q-i]?).map (·.2)=some v
 | [],i,q,v,h=>by simp[jU] at h
 |e::es,i,q,v,h=>by
  have X:=ot h;rw[jU] at h;split at h
  .cases h;simp
  .have:=Lr h
   obtain⟨j,V,Z,U,h3⟩:=ot h;subst Z;rw[show i+1+j-(i+1)=j by omega] at this;rw[show i+1+j-i=j+1 by omega];simpa using this
  .cases h
theorem De(I:afJ base μ mem w){b J aak :Nat}{es es' :List (AV×AV)}{aan :Array MapEntry}(hb:mem[b]? =some (.map es))(h1:w.heap[(μ b).blk]? =some (.map FS J))(H:base<=(μ b).blk)(W:ER aan aak)(g1:aan.size=es'.length)(g2:∀(j:Nat) e,es'[j]? =some e->∃E,aan[j]? =some E/\Ph μ mem.length e E):
  (setObj (μ b).blk (.map aan aak)).run P w=.ok () { w with heap:=w.heap.setIfInBounds (μ b).blk (.map aan aak) }/\
  afJ base μ (mem.set b (.map es')) { w with heap:=w.heap.setIfInBounds (μ b).blk (.map aan aak) }/\Step mem.length μ mem w μ (mem.set b (.map es')) { w with heap:=w.heap.setIfInBounds (μ b).blk (.map aan aak) }:=by
 have Z:(μ b).blk<w.heap.size:=(J1.1 h1).1;refine⟨tE h1 (by simp),I.write hb (LP hb) (fun _=>⟨_,QQQ (gL hb),rfl⟩) rfl rfl rfl rfl (by simp) (fun q X=>?_) ?_⟩
 .simp[P3 (Ne.symm X)]
 .simp only[afM]
  exact⟨aan,aak,by simp[Z],⟨H,W⟩,g1,g2⟩
theorem RL{H i:Nat}(h:ER FS H)(I:i<FS.size):FS.findIdx? (fun e=>(e.born:Int)==(i:Int))=some i:=by
 rw[Array.findIdx?_eq_some_iff_getElem];refine⟨I,?_,?_⟩
 .have:=h.2 i FS[i] (by simp)
  simp[this]
 .intro j Z
  have:=h.2 j FS[j] (by simp);simp[this];omega
theorem yl(H:afJ base μ mem w){t:TypeId}{m s v:AV}{M S V:Value}{mem' :Mem}(I:afx μ mem.length m M)(hs:afx μ mem.length s S)(J:afx μ mem.length v V)(h:lS mem m s v=some mem'):∃w',(Instr.entryStore t M S V).run P w=.ok () w' /\afJ base μ mem' w' /\Step mem.length μ mem w μ mem' w' :=by
 unfold lS at h;split at h
 .rename_i b k q
  split at h
  .rename_i es hb
   split at h
   .rename_i e G
    cases h;simp only[afx] at I;obtain⟨_,rfl⟩:=I;have Q:=H.slot b _ hb;simp only[afM] at Q;obtain⟨FS,F,D,X,C,h3⟩:=Q;have B:(getObj (μ b).blk).run P w=.ok (.map FS F) w:=by simp[getObj,Sem.run,D]
    have y:q<es.length:=gL G;have u:=RL X.2 (i:=q) (by omega);obtain⟨f1,f2,f3⟩:=De (P:=P) H (es' :=es.set q (e.1,v)) (aan :=FS.modify q fun e=>{ e with val:=V }) (aak :=F) hb D X.1 ⟨by simpa using X.2.1,fun j O Z =>by
     rw[Array.getElem?_modify] at Z;split at Z
     .simp only[Pi] at Z
      obtain⟨o,Y,rfl⟩:=Z;exact X.2.2 j o Y
     .exact X.2.2 j O Z⟩ (by simpa using C) (fun j e' U =>by
     rw[List.getElem?_set] at U;by_cases R:q=j
     .subst R
      simp only[if_true,y,Mp] at U;subst U;obtain⟨E,W,hr⟩:=h3 q e G;exact⟨{ E with val:=V },by simp[Array.getElem?_modify,W],hr.1,J⟩
     .rw[if_neg R] at U
      obtain⟨O,Z,N⟩:=h3 j e' U;exact⟨O,by simp[Array.getElem?_modify,R,Z],N⟩)
    refine⟨_,?_,f2,f3⟩;rw[hs.int];have K :FS.findIdx? (fun e=>(e.born:Int)==Int.ofNat q)=some q:=u;simp only[Instr.entryStore,Sem.run_bind,Result.andThen_ok,B,asInt,asIntOf,Sem.run_pure,K];exact f1
   .cases h
  .cases h
 .cases h
theorem Cv(hT:dS P T)(I:afJ base μ mem w){t:TypeId}{m k v:AV}{M K:Value}{mem' :Mem}(hm:afx μ mem.length m M)(H:afx μ mem.length k K)(h:rK T mem t m k=some (v,mem')):agF P (Instr.mapEntry t M K) base μ mem w v mem' :=by
 unfold rK at h;cases ht:T t with
 |none=>rw[ht] at h;cases h
 |some i=>
  rw[ht] at h;simp only at h;have W:=(hT t i ht).desc;split at h
  .rename_i kt et b D'
   rw[D'] at W;split at h
   .rename_i j es J hb
    split at h
    .rename_i U
     simp only[afx] at hm;obtain⟨hbn,rfl⟩:=hm;have hs:=I.slot b _ hb;simp only[afM] at hs;obtain⟨FS,S,h1,V,F,h3⟩:=hs;have hg:(getObj (μ b).blk).run P w=.ok (.map FS S) w:=by simp[getObj,Sem.run,h1]
     have D:=me (P:=P) (n:=mem.length) hT false 20 U H 9980 w;have hkt:∃o,T kt=some o:=by
      rw[mG] at U;cases hx:T kt with
      |none=>rw[hx] at U;cases U
      |some o=>exact⟨o,rfl⟩
     obtain⟨o,C⟩:=hkt;have e2:FS.toList.length=es.length:=by simpa using F
     have e3:∀(j:Nat) e,es[j]? =some e->∃E,FS.toList[j]? =some E/\Ph μ mem.length e E:=fun j e B=>by obtain⟨E,G,Y⟩:=h3 j e B;exact⟨E,by simpa using G,Y⟩
     split at h
     .rename_i q v' y
      split at h
      .rename_i hsc
       cases h;obtain⟨R,g1,g2⟩:=ig hT C H e2 e3 y w;cases R with
       |none=>exact g2.elim
       |some x=>
        obtain⟨q',V'⟩:=x;obtain⟨rfl,hv⟩:=g2;obtain⟨u,e,hq,B,X'⟩:=ot y;have hq' :q=u :=by omega
        subst hq';obtain⟨E,G,Y⟩:=h3 q e B;have hsb:=sF (μ:=μ) (n:=mem.length) hsc H Y.1 X' rfl;have aao :q<es.length:=gL B;have hev:e.2=v' :=by have:=Lr y;rw[QQg] at this;rw[B] at this;simpa using this
        obtain⟨f1,f2,f3⟩:=De (P:=P) I (es' :=es.set q (k,v')) (aan :=FS.modify q fun e=>{ e with key:=K }) (aak :=S) hb h1 V.1 ⟨by simpa using V.2.1,fun j Q Z =>by
         rw[Array.getElem?_modify] at Z;split at Z
         .simp only[Pi] at Z
          obtain⟨E0,k1,rfl⟩:=Z;exact V.2.2 j E0 k1
         .exact V.2.2 j Q Z⟩ (by simpa using F) (fun j e' X =>by
         rw[List.getElem?_set] at X;by_cases O:q=j
         .subst O
          simp only[if_true,aao,Mp] at X;subst X;exact⟨{ E with key:=K },by simp[Array.getElem?_modify,G],H,by rw[<-hev];exact Y.2⟩
         .rw[if_neg O] at X
          obtain⟨Q,Z,N⟩:=h3 j e' X;exact⟨Q,by simp[Array.getElem?_modify,O,Z],N⟩)
        refine⟨.tuple #[V',goInt q],_,μ,?_,?_,f2,f3⟩
        .simp only[Instr.mapEntry,Sem.run_bind,run_underlying W,Result.andThen_ok,hg]
         rw[show(10000:Nat)=20+9980 from rfl,D];simp only[Result.andThen_ok,g1,Sem.run_bind];have abc:(Instr.keyThatStays (((FS[q]?).map (·.key)).getD K) K).run P w=.ok K w:=by unfold Instr.keyThatStays;rw[G];simp only[Option.map_some,Option.getD_some,hsb,if_true];rfl
         rw[abc];simp only[Result.andThen_ok,f1,Sem.run_pure];rw[G];simp only[Option.map_some,Option.getD_some,V.2.2 q E G]
        .simp only[QQZ,afx]
         exact⟨[V',goInt q],rfl,bW.2 ⟨hv,bW.2 ⟨by simp[afx,goInt],by simp[afy]⟩⟩⟩
      .cases h
     .rename_i y
      cases h;obtain⟨R,g1,g2⟩:=ig hT C H e2 e3 y w;cases R with
      |some x=>exact g2.elim
      |none=>
       have hz:=yh μ mem.length j.zero;obtain⟨f1,f2,f3⟩:=De (P:=P) I (es' :=es++[(k,oK j.zero)]) (aan :=FS.push { key:=K,val:=j.zero,born:=S }) (aak :=S+1) hb h1 V.1 ⟨by simp[V.2.1],fun j Q Z =>by
        rw[Array.getElem?_push] at Z;split at Z
        next J=>cases Z;rw[J];exact V.2.1
        .exact V.2.2 j Q Z⟩ (by simp[F]) (fun u e' X =>by
        by_cases hj' :u <es.length
        .rw[GE hj'] at X
         obtain⟨Q,Z,N⟩:=h3 u e' X;exact⟨Q,by rw[Array.getElem?_push,if_neg (by omega)];exact Z,N⟩
        .have hje:u =es.length:=by have:=(gL X);simp at this;omega
         subst hje;simp at X;subst X;exact⟨{ key:=K,val:=j.zero,born:=S },by rw[Array.getElem?_push,if_pos F.symm],H,hz⟩)
       refine⟨.tuple #[j.zero,goInt S],_,μ,?_,?_,f2,f3⟩
       .simp only[Instr.mapEntry,Sem.run_bind,run_underlying W,Result.andThen_ok,hg]
        rw[show(10000:Nat)=20+9980 from rfl,D];simp only[Result.andThen_ok,g1,Sem.run_bind,fG hT J,f1,Sem.run_pure]
       .simp only[QQZ,afx]
        exact⟨[j.zero,goInt S],rfl,bW.2 ⟨hz,bW.2 ⟨by simp[afx,goInt,V.2.1,F],by simp[afy]⟩⟩⟩
     .cases h
    .cases h
   .cases h
  .cases h
end
end Go.Eng
namespace Go.Eng
def aUn(H:UnOp)(x:AV):Option AV:=
 match H,x with
 |.not,.bool b=>some (.bool (!b))
 |.neg,.int k n=>some (.int k (k.wrap (0-n)))
 |_,_=>none
def aOp(T:TypeId->Option TyI)(env:Env)(mem:Mem)(H:Op):Option (AV×Mem):=
 match H with
 |.move x=>some (get env x,mem)
 |.assign x=>some (get env x,mem)
 |.pick c a b=>match get env c with
  |.bool t=>some (if t then get env a else get env b,mem)
  |_=>none
 |.alloc e=>tQ T mem e
 |.box _ x=>Yu mem (get env x)
 |.build t ps=>match aD T t (ps.toList.map fun p=>(p.1,get env p.2)) with
  |some v=>some (v,mem)
  |none=>none
 |.buildSlice t n ps=>gf T mem t n (ps.toList.map fun p=>(p.1,get env p.2))
 |.load t a=>match Q1 T mem t (get env a) with
  |some v=>some (v,mem)
  |none=>none
 |.store t a x=>match tT T mem t (get env a) (get env x) with
  |some m=>some (.undef,m)
  |none=>none
 |.nilCheck x=>match get env x with
  |.ptr b o=>some (.ptr b o,mem)
  |.func f Z=>some (.func f Z,mem)
  |_=>none
 |.binOp H t x y _=>match Zm T H t (rZ x) (rZ y) (get env x) (get env y) with
  |some v=>some (v,mem)
  |none=>none
 |.unOp H _ x=>match aUn H (get env x) with
  |some v=>some (v,mem)
  |none=>none
 |.convert s d x=>match AJ T s d (get env x) with
  |some v=>some (v,mem)
  |none=>none
 |.makeFunc (.func f) first acd=>if first.size=0 then some (.func f (Yx env acd),mem) else none
 |.makeSlice t l c=>lz T mem t (get env l) (get env c)
 |.slice t x lo hi none=>match Oz T mem t (get env x) (lo.map (get env)) (hi.map (get env)) with
  |some v=>some (v,mem)
  |none=>yn T mem t (get env x) (lo.map (get env)) (hi.map (get env))
 |.fieldAddr t x f=>match sN T t (get env x) f with
  |some v=>some (v,mem)
  |none=>none
 |.field t x f=>match Cr T t (get env x) f with
  |some v=>some (v,mem)
  |none=>none
 |.indexAddr t x i=>match sO T t (get env x) (get env i) with
  |some v=>some (v,mem)
  |none=>none
 |.index t x i=>match Oy T t (get env x) (get env i) with
  |some v=>some (v,mem)
  |none=>none
 |.makeMap _ none=>some (.map mem.length,mem++[.map []])
 |.lookup t m k ok=>match lU T mem t (get env m) (get env k) ok with
  |some v=>some (v,mem)
  |none=>none
 |.mapUpdate t m k x=>match fz T mem t (get env m) (get env k) (get env x) with
  |some m=>some (.undef,m)
  |none=>none
 |.mapEntry t m k=>rK T mem t (get env m) (get env k)
 |.entryStore _ m s x=>match lS mem (get env m) (get env s) (get env x) with
  |some m=>some (.undef,m)
  |none=>none
 |.extract t i=>match get env t with
  |.tuple Z=>match Z[i]? with
   |some v=>some (v,mem)
   |none=>none
  |_=>none
 |.call { callee:=.builtin .len,args:=⟨[x]⟩,argTypes:=⟨[t]⟩ }=>match ym T t mem (get env x) with
  |some v=>some (v,mem)
  |none=>none
 |.call { callee:=.builtin .append,args:=⟨[s,x]⟩,argTypes:=⟨[t,t2]⟩ }=>pP T mem t t2 (get env s) (get env x)
 |.call { callee:=.builtin .unsafeSliceData,args:=⟨[x]⟩,argTypes:=_ }=>match sP mem (get env x) with
  |some v=>some (v,mem)
  |none=>none
 |.call { callee:=.builtin .unsafeString,args:=⟨[x,y]⟩,argTypes:=⟨[pt,_]⟩ }=>yp T mem pt (get env x) (get env y)
 |.call { callee:=.builtin .min,args:=⟨[x,y]⟩,argTypes:=_ }=>match get env x,get env y with
  |.int k a,.int k' b=>if k=k' then some (.int k (if b<a then b else a),mem) else none
  |_,_=>none
 |.call { callee:=.builtin .max,args:=⟨[x,y]⟩,argTypes:=_ }=>match get env x,get env y with
  |.int k a,.int k' b=>if k=k' then some (.int k (if a<b then b else a),mem) else none
  |_,_=>none
 |_=>none
variable{a:Act}
section
variable {P:Program}{T:TypeId->Option TyI}{μ:Nat->Place}{mem:Mem}{base:Nat}{w:World}
def Z8(μ:Nat->Place)(n:Nat)(N:Next)(v:AV):Prop:=(∃V,N=.value V/\afx μ n v V)\/(N=.skip/\v=.undef)
def ags(P:Program)(x:Sem Next)(base:Nat) (μ:Nat->Place)(mem:Mem)(w:World)(v:AV) (H :Mem):Prop:=
 ∃N w' μ',x.run P w=.ok N w' /\Z8 μ' H.length N v/\afJ base μ' H w' /\Step mem.length μ mem w μ' H w'
theorem ags.agw{x:Sem Value}{v:AV}{H :Mem}(h:agF P x base μ mem w v H):ags P (do pure (.value (<-x))) base μ mem w v H :=by obtain⟨V,w',μ',Z,X,h3,U⟩:=h;exact⟨.value V,w',μ',by simp[Z],.inl ⟨V,rfl,X⟩,h3,U⟩
theorem ags.afW{x:Sem Value}{v:AV}(H:afJ base μ mem w)(h:Val P x w μ mem.length v):ags P (do pure (.value (<-x))) base μ mem w v mem:=
 .agw (.afW H h)
theorem ags.pure{V:Value}{v:AV}(H:afJ base μ mem w)(h:afx μ mem.length v V):ags P (Pure.pure (.value V)) base μ mem w v mem:=
 ⟨.value V,w,μ,rfl,.inl ⟨V,rfl,h⟩,H,.refl (Es _)⟩
theorem LR{env:Env}{n:Nat}(I:af2 μ n env a.tmps)(H:Array (Nat×Operand)):
  (H.toList.map fun p=>(p.1,a.eval p.2)).map (·.1)=(H.toList.map fun p=>(p.1,get env p.2)).map (·.1)/\
  afy μ n ((H.toList.map fun p=>(p.1,get env p.2)).map (·.2)) ((H.toList.map fun p=>(p.1,a.eval p.2)).map (·.2)):=by
 constructor
 .simp[Function.comp_def]
 .have:=AR I (H.toList.map (·.2))
  simpa [Function.comp_def] using this
theorem Hn{env:Env}{n:Nat}(H:af2 μ n env a.tmps)(x:Option Operand):
  (x.map (get env)=none/\x.map a.eval=none)\/∃l L,x.map (get env)=some l/\x.map a.eval=some L/\afx μ n l L:=by
 cases x with
 |none=>exact .inl ⟨rfl,rfl⟩
 |some x=>exact .inr ⟨_,_,rfl,rfl,bY H x⟩
theorem TN(hT:dS P T)(I:afJ base μ mem w){env:Env}{o:Oper}{v:AV}{J :Mem}(H:af2 μ mem.length env a.tmps)(h:aOp T env mem o.op=some (v,J)):ags P (execOp a.eval o) base μ mem w v J :=by
 unfold aOp at h;split at h
 .rename_i x Z
  cases h;simp only[execOp,Z];exact .pure I (bY H x)
 .rename_i x Z
  cases h;simp only[execOp,Z];exact .pure I (bY H x)
 .rename_i c x y Z
  split at h
  .rename_i t hc
   cases h;have:=bY H c;rw[hc] at this;simp only[execOp,Z,this.bool,asBool,pure_bind];cases t
   .exact .pure I (bY H y)
   .exact .pure I (bY H x)
  .cases h
 .rename_i e Z
  simp only[execOp,Z];exact .agw (KN hT I h)
 .rename_i e x Z
  simp only[execOp,Z];exact .agw (QY I (bY H x) h)
 .rename_i t Q Z
  split at h
  .rename_i S X
   cases h;obtain⟨C,B⟩:=LR H Q;simp only[execOp,Z];refine .afW I ?_;have:=KO (P:=P) hT X C B w;have e:(⟨Q.toList.map fun p=>(p.1,a.eval p.2)⟩:Array (Nat×Value))=Q.map fun(i,x)=>(i,a.eval x):=by apply Array.ext';simp
   rw[e] at this;exact this
  .cases h
 .rename_i t n Q Z
  obtain⟨C,B⟩:=LR H Q;simp only[execOp,Z];refine .agw ?_;have:=yj (P:=P) hT I C B h;have e:(⟨Q.toList.map fun p=>(p.1,a.eval p.2)⟩:Array (Nat×Value))=Q.map fun(i,x)=>(i,a.eval x):=by apply Array.ext';simp
  rw[e] at this;exact this
 .rename_i t x Z
  split at h
  .rename_i S X
   cases h;simp only[execOp,Z];exact .afW I (Ct hT I (bY H x) X)
  .cases h
 .rename_i t x y Z
  split at h
  .rename_i m X
   cases h;obtain⟨w',M,R,h3⟩:=KU (P:=P) hT I (bY H x) (bY H y) X;simp only[execOp,Z];exact⟨.skip,w',μ,by simp[M],.inr ⟨rfl,rfl⟩,R,h3⟩
  .cases h
 .rename_i x Z
  split at h
  .rename_i b o U
   cases h;have:=bY H x;rw[U] at this;simp only[execOp,Z,this.ptr.2];refine .pure I ?_;rw[this.ptr.2] at this;exact this
  .rename_i f cs U
   cases h;have:=bY H x;rw[U] at this;have R:=this;simp only[afx] at R;obtain⟨Us,F,_⟩:=R;simp only[execOp,Z,F];refine .pure I ?_;rw[F] at this;exact this
  .cases h
 .rename_i op t x y yt Z
  split at h
  .rename_i S X
   cases h;simp only[execOp,Z];exact .afW I (QW hT (bY H x) (bY H y) x y X w)
  .cases h
 .rename_i op t x Z
  split at h
  .rename_i S X
   cases h;simp only[execOp,Z];refine .afW I ?_;have U:=bY H x;unfold aUn at X;split at X
   next O=>cases X;rw[O] at U;rw[U.bool];exact .bool rfl
   next O=>cases X;rw[O] at U;rw[U.int];exact .int rfl
   .cases X
  .cases h
 .rename_i s d x Z
  split at h
  .rename_i S X
   cases h;simp only[execOp,Z];exact .afW I (EA hT (bY H x) X w)
  .cases h
 .rename_i f first N Z
  split at h
  .rename_i hf
   cases h;simp only[execOp,Z];refine .afW I ⟨.func (.func f) (first.map a.eval) (N.map a.eval),rfl,?_⟩;simp only[afx];have:first= #[]:=Array.eq_empty_of_size_eq_zero hf
   subst this;refine⟨N.toList.map a.eval,?_,AR H N.toList⟩;simp only[Array.map_empty];congr 1;apply Array.ext';simp
  .cases h
 .rename_i t l c Z
  simp only[execOp,Z];exact .agw (Au hT I (bY H l) (bY H c) h)
 .rename_i t x W D Z
  split at h
  .rename_i S X
   cases h;simp only[execOp,Z];refine .afW I ?_;simp only[Option.map_none];exact KS hT I (bY H x) (Hn H W) (Hn H D) X
  .simp only[execOp,Z]
   simp only[Option.map_none];exact .agw (GU hT I (bY H x) (Hn H W) (Hn H D) h)
 .rename_i t x f Z
  split at h
  .rename_i S X
   cases h;simp only[execOp,Z];exact .afW I (Aq hT (bY H x) X w)
  .cases h
 .rename_i t x f Z
  split at h
  .rename_i S X
   cases h;simp only[execOp,Z];exact .afW I (KP hT (bY H x) X w)
  .cases h
 .rename_i t x i Z
  split at h
  .rename_i S X
   cases h;simp only[execOp,Z];exact .afW I (As hT (bY H x) (bY H i) X w)
  .cases h
 .rename_i t x i Z
  split at h
  .rename_i S X
   cases h;simp only[execOp,Z];exact .afW I (KQ hT (bY H x) (bY H i) X w)
  .cases h
 .rename_i t Z
  cases h;simp only[execOp,Z,Option.map_none];exact .agw (Hh I)
 .rename_i t m k ok Z
  split at h
  .rename_i S X
   cases h;simp only[execOp,Z];exact .afW I (GR hT I (bY H m) (bY H k) X)
  .cases h
 .rename_i t m k x Z
  split at h
  .rename_i m' X
   cases h;obtain⟨w',M,R,h3⟩:=Aw (P:=P) hT I (bY H m) (bY H k) (bY H x) X;simp only[execOp,Z];exact⟨.skip,w',μ,by simp[M],.inr ⟨rfl,rfl⟩,R,h3⟩
  .cases h
 .rename_i t m k Z
  simp only[execOp,Z];exact .agw (Cv hT I (bY H m) (bY H k) h)
 .rename_i t m s x Z
  split at h
  .rename_i m' X
   cases h;obtain⟨w',M,R,h3⟩:=yl (P:=P) (t:=t) I (bY H m) (bY H s) (bY H x) X;simp only[execOp,Z];exact⟨.skip,w',μ,by simp[M],.inr ⟨rfl,rfl⟩,R,h3⟩
  .cases h
 .rename_i t i Z
  split at h
  .rename_i cs U
   split at h
   .rename_i S D
    cases h;have:=bY H t;rw[U] at this;simp only[afx] at this;obtain⟨Us,F,hr⟩:=this;obtain⟨V,hV,hv⟩:=hr.get i _ D;simp only[execOp,Z,F];exact .afW I ⟨V,by simp[Instr.extract,hV],hv⟩
   .cases h
  .cases h
 .rename_i x t Z
  split at h
  .rename_i S X
   cases h;simp only[execOp,Z,resolve,invoke,builtin,pure_bind];rw[show Array.map a.eval ⟨[x]⟩= #[a.eval x] by simp];exact .afW I (Q0 hT I (bY H x) X)
  .cases h
 .rename_i s x t t2 Z
  simp only[execOp,Z,resolve,invoke,builtin,pure_bind];rw[show Array.map a.eval ⟨[s,x]⟩= #[a.eval s,a.eval x] by simp];exact .agw (GQ hT I (bY H s) (bY H x) h)
 .rename_i x ts Z
  split at h
  .rename_i S X
   cases h;simp only[execOp,Z,resolve,invoke,builtin,pure_bind];rw[show Array.map a.eval ⟨[x]⟩= #[a.eval x] by simp];exact .afW I (Ax I _ _ (bY H x) X)
  .cases h
 .rename_i x y pt it Z
  simp only[execOp,Z,resolve,invoke,builtin,pure_bind];rw[show Array.map a.eval ⟨[x,y]⟩= #[a.eval x,a.eval y] by simp];exact .agw (GW hT I (bY H x) (bY H y) h)
 .rename_i x y ts Z
  split at h
  .rename_i k i k' j U u
   split at h
   .rename_i Y
    cases h;subst Y;have K:=bY H x;have G:=bY H y;rw[U] at K;rw[u] at G;simp only[execOp,Z,resolve,invoke,builtin,pure_bind];refine .afW I (.int ?_);simp[Builtin.min_,Builtin.min2,K.int,G.int]
   .cases h
  .cases h
 .rename_i x y ts Z
  split at h
  .rename_i k i k' j U u
   split at h
   .rename_i Y
    cases h;subst Y;have K:=bY H x;have G:=bY H y;rw[U] at K;rw[u] at G;simp only[execOp,Z,resolve,invoke,builtin,pure_bind];refine .afW I (.int ?_);simp[Builtin.max_,Builtin.max2,K.int,G.int]
   .cases h
  .cases h
 .cases h
end
end Go.Eng
namespace Go.Eng
def Ms(P:Program)(f:FuncId):Prop:=∃fn,P.funcs[f]? =some fn/\fn.body.isSome=true/\(fn.name == "runtime.NumGoroutine")=false
abbrev Fr(H:Option Nat):Fence:={ Fence.wide with round:=H }
variable{f:FuncId}{ro:Option Nat}
theorem AL{n:Nat}{P:Program}{args:Array Value}{w:World}{R:Ending->World->Prop}:CallsIn (Fr ro) n P f args w R↔Calls P f args w R:=
 callsIn_wide (n:=n)
def yE:String:=String.ofList ([105,110,116,101,114,110,97,108,47,115,116,114,99,111,110,118,46,117,105,110,116,54,52,112,111,119,49,48].map Char.ofNat)
structure GOk (P:Program)(base:Nat)(w:World):Prop where
 below:P.globals.size<=base
 tab:Lib.TabIs P w yE .u64 Lib.pow10Tab
theorem GOk.ahC{P:Program}{H:Nat}{w:World}(h:GOk P H w){s:String}(hs:yE=s):Lib.TabIs P w s .u64 Lib.pow10Tab:=hs▸h.tab
theorem O2{H:Nat}{μ:Nat->Place}{mem:Mem}{w:World}(I:afJ H μ mem w){b:Nat}(J:eH mem b):H<=(μ b).blk:=by
 obtain⟨s,X,Z⟩:=J;have:=I.slot b s X;cases s with
 |y9=>cases Z
 |cells own es cs=>simp only[afz.own] at Z;subst Z;simp only[afM] at this;obtain⟨_,_,_,_,_,_,_,h⟩:=this;exact(h trivial).2.2.2
 |map es=>simp only[afM] at this;obtain⟨_,_,_,h,_⟩:=this;exact h.1
 |af6 es=>cases Z
 |loop r=>simp only[afM] at this;obtain⟨_,_,h,_⟩:=this;exact h
variable{name:String}
theorem EG{P:Program}{g:Nat}(h:P.globalNamed name=some g):g<P.globals.size:=by
 unfold Program.globalNamed at h;split at h
 .rename_i X Z
  cases h;have:g∈(List.range P.globals.size).filter fun g=>(P.globals[g]?).any (·.name==name):=by rw[Z];simp
  simpa using (List.mem_filter.1 this).1
 .cases h
variable{w' :World}
theorem Pf{P:Program}{w:World}(h:∀k,k<P.globals.size->w'.heap[k]? =w.heap[k]?):w'.var? P name=w.var? P name:=by
 unfold World.var?;cases hg:P.globalNamed name with
 |none=>rfl
 |some g=>simp only[Option.bind_some];rw[h g (EG hg)]
variable{m0:Nat}{μ' :Nat->Place}
theorem GOk.step{P:Program}{H:Nat}{μ:Nat->Place}{mem I :Mem}{w:World}(h:GOk P H w)(J:afJ H μ mem w)(hS:Step m0 μ mem w μ' I w'):GOk P H w' :=by
 refine⟨h.below,?_⟩;have:=h.tab;unfold Lib.TabIs at this |-;rw[<-this];refine Pf fun k X=>hS.frame k ?_ fun b Z=>?_
 .have:=h.below;have:=J.afF;omega
 .have:=O2 J Z;have:=h.below;omega
structure MOk (P:Program)(base h0:Nat)(w:World)(ds:List Deferred):Prop where
 agH:GOk P base w
 afF:base<=h0
 le:h0<=w.heap.size
 each:∀d∈ds,∃r,d={ target:=.collected r,args:= #[] }/\h0<=r/\w.heap[r]? =some (.deferred (some []))
 nodup:(ds.map (·.target)).Nodup
variable{h0:Nat}
theorem MOk.nil{P:Program}{H:Nat}(w:World)(hg:GOk P H w)(I:H<=h0)(h:h0<=w.heap.size):MOk P H h0 w []:=⟨hg,I,h,fun _ h=>by(cases h),by simp⟩
theorem qB{H:Nat}{μ:Nat->Place}{mem:Mem}{w:World}(I:afJ H μ mem w){r:Nat}{x}(hr:w.heap[r]? =some (.deferred x)){b:Nat}{s:afz}(J:mem[b]? =some s)(hs:s≠ .y9):(μ b).blk≠r:=by
 intro e;have:=I.slot b s J;cases s with
 |y9=>exact hs rfl
 |cells own es cs=>simp only[afM] at this;obtain⟨_,_,_,Z,_⟩:=this;rw[e,hr] at Z;cases Z
 |map es=>simp only[afM] at this;obtain⟨_,_,Z,_⟩:=this;rw[e,hr] at Z;cases Z
 |af6 es=>simp only[afM] at this;obtain⟨_,_,Z,_⟩:=this;rw[e,hr] at Z;cases Z
 |loop r=>simp only[afM] at this;obtain⟨_,Z,_⟩:=this;rw[e,hr] at Z;cases Z
theorem MOk.step{P:Program}{H:Nat}{μ:Nat->Place}{mem I :Mem}{w:World}{J:List Deferred}(h:MOk P H h0 w J)(W:afJ H μ mem w)(hS:Step m0 μ mem w μ' I w'):MOk P H h0 w' J:=by refine⟨h.agH.step W hS,h.afF,Y2 h.le hS.size,fun d V=>?_,h.nodup⟩;obtain⟨r,e,U,Z⟩:=h.each d V;refine⟨r,e,U,?_⟩;rw[hS.frame r (J1.1 Z).1 fun b X=>?_,Z];obtain⟨s,X,S⟩:=X;exact qB W Z X (afz.af7 S)
def af8(P:Program)(f:FuncId)(args:List AV)(mem:Mem)(R:AV->Mem->Prop):Prop:=
 Ms P f/\∀base μ w Vs,GOk P base w->afJ base μ mem w->afy μ mem.length args Vs->
  Calls P f ⟨Vs⟩ w fun e w' =>∃V v mem' μ',e=.returned V/\afx μ' mem'.length v V/\afJ base μ' mem' w' /\Step mem.length μ mem w μ' mem' w' /\R v mem'
def bz(P:Program)(f:FuncId)(args:List AV)(mem:Mem)(v:AV) (H :Mem):Prop:=af8 P f args mem fun Z X=>Z=v/\X=H
theorem af8.mono{P f args mem}{R H :AV->Mem->Prop}(h:af8 P f args mem R)(hr:∀v m,R v m->H v m):af8 P f args mem H :=
 ⟨h.1,fun base μ w Vs h0 h1 h2=>(h.2 base μ w Vs h0 h1 h2).mono fun _ _ ⟨V,v,m,μ',a,b,c,d,r⟩=>⟨V,v,m,μ',a,b,c,d,hr _ _ r⟩⟩
def agj(P:Program)(b:Nat)(args:List AV)(mem:Mem)(R:AV->Mem->Prop):Prop:=
 ∀base μ w Vs,GOk P base w->afJ base μ mem w->afy μ mem.length args Vs->b<mem.length->∃f Z assign X,
  (Instr.yield (μ b).blk ⟨Vs⟩).run P w=.ok (.round (μ b).blk f Z assign X) w/\
  RoundIn Fence.wide 0 P (μ b).blk f Z assign X w fun e w' =>∃V v mem' μ',e=.returned V/\afx μ' mem'.length v V/\afJ base μ' mem' w' /\Step mem.length μ mem w μ' mem' w' /\R v mem'
def gp(P:Program)(b:Nat)(args:List AV)(mem:Mem)(v:AV) (H :Mem):Prop:=agj P b args mem fun Z X=>Z=v/\X=H
def Be(env:Env):Op->Option (Nat×List AV)
 |.call { callee:=.value x,args,argTypes:=_ }=>match get env x with
  |.yield b=>some (b,Yx env args)
  |_=>none
 |_=>none
def G5(env:Env):Op->Option (FuncId×List AV)
 |.call { callee:=.value x,args,argTypes:=_ }=>match get env x with
  |.func f Z=>some (f,Yx env args++Z)
  |_=>none
 |_=>none
def sL(ops:Array Oper)(env:Env)(o:Oper):Option Bool:=
 match o.guard with
 |none=>some true
 |some (j,acP)=>match (ops[j]?).bind (·.dst) with
  |some d=>match aa env d with
   |.bool b=>some (b==acP)
   |.tuple []=>some false
   |_=>none
  |none=>none
def agm(env:Env)(H:Option Tmp)(v:AV):Env:=
 match H with
 |some d=>(d,v)::env
 |none=>env
structure St where
 env:Env
 mem:Mem
def EF(N:Nat)(o:Oper):Bool:=match o.dst with
 |some d=>decide (d<N)
 |none=>true
def xG(P:Program)(T:TypeId->Option TyI)(env:Env)(mem:Mem)(o:Oper)(v:AV) (H :Mem):Prop:=
 aOp T env mem o.op=some (v,H)\/(∃f Z,G5 env o.op=some (f,Z)/\bz P f Z mem v H)\/
  ∃b Z,Be env o.op=some (b,Z)/\gp P b Z mem v H
def nq(P:Program)(T:TypeId->Option TyI)(N:Nat)(ops:Array Oper):List Oper->St->St->Prop
 | [],st,UV =>UV =st
 |o::os,st,UV =>∃b,sL ops st.env o=some b/\EF N o=true/\
   (b=false->nq P T N ops os ⟨agm st.env o.dst (.tuple []),st.mem⟩ UV)/\
   (b=true->∃v Z,xG P T st.env st.mem o v Z /\nq P T N ops os ⟨agm st.env o.dst v,Z⟩ UV)
variable{o:Oper}
section
variable {P:Program}{T:TypeId->Option TyI}{μ:Nat->Place}{mem:Mem}{base:Nat}{w:World}
theorem af2.agm{n N:Nat}{env:Env}{a:Act}{v:AV}{V:Value}(h:af2 μ n env a.tmps)(H:a.tmps.size=N)(hd:EF N o=true)(I:afx μ n v V):
  af2 μ n (agm env o.dst v) (a.put o.dst V).tmps:=by
 unfold EF at hd;cases ho:o.dst with
 |none=>simpa [Go.Eng.agm,Act.put] using h
 |some d=>
  rw[ho] at hd;simp only[Cs] at hd;exact h.put (by rw[H];exact hd) I
theorem fF(a:Act)(d:Option Tmp)(V:Value):(a.put d V).tmps.size=a.tmps.size:=by cases d<;>simp[Act.put]
theorem fW(a:Act)(d:Option Tmp)(V:Value):(a.put d V).defers=a.defers:=by cases d<;>rfl
theorem qs{env:Env}{n:Nat}{ops:Array Oper}{a:Act}{b:Bool}(H:af2 μ n env a.tmps)(h:sL ops env o=some b):
  Region.wanted o (yielded ops a.tmps)=b:=by
 unfold sL at h;unfold Region.wanted;split at h
 next V=>cases h;simp[V]
 .rename_i j X V
  simp only[V];split at h
  .rename_i d R
   split at h
   .rename_i Q U
    cases h;have:=H d;rw[U] at this;have Z:=this.bool;simp only[yielded,R,Option.bind_some];have S:a.tmps[d]? =some (.bool Q):=by
     rw[Array.getD_eq_getD_getElem?] at Z;cases hx:a.tmps[d]? with
     |none=>rw[hx] at Z;simp[undef] at Z
     |some y=>rw[hx] at Z;simp at Z;rw[Z]
    rw[S];cases Q <;>cases X<;>rfl
   .rename_i U
    cases h;have:=H d;rw[U] at this;simp only[afx,afy] at this;obtain⟨O,Z,rfl⟩:=this;simp only[yielded,R,Option.bind_some];rw[Array.getD_eq_getD_getElem?] at Z;cases hx:a.tmps[d]? with
    |none=>rfl
    |some y=>rw[hx] at Z;simp only[Option.getD_some] at Z;rw[Z];cases X<;>rfl
   .cases h
  .cases h
theorem zi(h:Ms P f)(args:Array Value)(w:World):(callFunc f args).run P w=.ok (.enter f args) w:=by
 obtain⟨fn,X,Z,h3⟩:=h;have V:¬fn.body=none:=by intro e;rw[e] at Z;cases Z
 have U:¬fn.name = "runtime.NumGoroutine" := by simpa using h3
 simp[callFunc,X,U,V]
theorem GS{T:TypeId->Option TyI}{env:Env}{mem:Mem}{H:Op}{r}(h:aOp T env mem H=some r):∀c,H≠ .defer c:=by intro c e;subst e;simp[aOp] at h
theorem su(hT:dS P T)(hG:GOk P base w)(Y:afJ base μ mem w){N:Nat}{env:Env}{a:Act}{v:AV}{H :Mem}(I:af2 μ mem.length env a.tmps)(J:a.tmps.size=N)(hd:EF N o=true)(h:xG P T env mem o v H){K:Act->World->Prop}{Q:Exit->Act->World->Prop}(W:∀V w' μ',afx μ' H.length v V->afJ base μ' H w' ->af2 μ' H.length (agm env o.dst v) (a.put o.dst V).tmps->Step mem.length μ mem w μ' H w' ->K (a.put o.dst V) w'):
  o.wpIn (Fr ro) 0 P a w K Q:=by
 refine⟨fun _ _=>trivial,?_⟩;rcases h with h | ⟨f,S,Z,R⟩ | ⟨b,S,Z,hy⟩
 .rw[Oper.semAt_eq _ _ _ (GS h)]
  obtain⟨N',w',μ',y,u,h3,B⟩:=TN hT Y I h;rw[y];have O :af2 μ' H.length env a.tmps:=I.mono B.len B.agree;rcases u with⟨V,rfl,M⟩ | ⟨rfl,rfl⟩
  .exact W V w' μ' M h3 (O.agm J hd M) B
  .have M:afx μ' H.length .undef undef:=by simp[afx]
   exact W undef w' μ' M h3 (O.agm J hd M) B
 .unfold G5 at Z
  split at Z
  .rename_i x U ts G
   split at Z
   .rename_i f' caps m
    cases Z;have X:=bY I x;rw[m] at X;simp only[afx] at X;obtain⟨Us,j,hus⟩:=X;have IR:(execOp a.eval o).run P w=.ok (.enter f ⟨U.toList.map a.eval++Us⟩) w:=by simp only[execOp,G,resolve,j,Deferred.ofValue,pure_bind,invoke];rw[zi R.1];congr 2;apply Array.ext';simp
    rw[Oper.semAt_eq _ _ _ (by rw[G];intro c e;cases e),IR];refine⟨fun h=>by simp[Fence.wide] at h,AL.2 ((R.2 base μ w _ hG Y ((AR I U.toList).append hus)).mono ?_)⟩;rintro e w' ⟨V,v',m',μ',rfl,q1,q2,q3,rfl,rfl⟩;exact W V w' μ' q1 q2 ((I.mono q3.len q3.agree).agm J hd q1) q3
   .cases Z
  .cases Z
 .unfold Be at Z
  split at Z
  .rename_i x U ts G
   split at Z
   .rename_i b' m
    cases Z;have X:=bY I x;rw[m] at X;simp only[afx] at X;obtain⟨hb,j⟩:=X;obtain⟨f,D,asg,C,y,u⟩:=hy base μ w _ hG Y (AR I U.toList) hb;have IR:(execOp a.eval o).run P w=.ok (.round (μ b).blk f D asg C) w:=by
     rw[<-y];simp only[execOp,G,resolve,j,Deferred.ofValue,pure_bind,invoke];have e: #[]++U.map a.eval=(⟨U.toList.map a.eval⟩:Array Value):=by apply Array.ext';simp
     rw[e]
    rw[Oper.semAt_eq _ _ _ (by rw[G];intro c e;cases e),IR];refine⟨fun h=>by simp[Fence.wide] at h,RoundIn.mono (F:=Fr ro) u ?_⟩;rintro e w' ⟨V,v',m',μ',rfl,q1,q2,q3,rfl,rfl⟩;exact W V w' μ' q1 q2 ((I.mono q3.len q3.agree).agm J hd q1) q3
   .cases Z
  .cases Z
theorem xk(hT:dS P T){N:Nat}{ops:Array Oper}{Q:Exit->Act->World->Prop}:∀{l:List Oper}{H I :St}{μ:Nat->Place} {w:World} {a:Act} {m0:Nat}{μ0:Nat->Place} {mem0:Mem} {w0:World} {h0:Nat} {ro:Option Nat},
  nq P T N ops l H I ->afJ base μ H.mem w->af2 μ H.mem.length H.env a.tmps->a.tmps.size=N->MOk P base h0 w a.defers->m0<=H.mem.length->Step m0 μ0 mem0 w0 μ H.mem w->
  (∀a' w' μ',afJ base μ' I.mem w' ->af2 μ' I.mem.length I.env a'.tmps->a'.tmps.size=N->MOk P base h0 w' a'.defers->m0<=I.mem.length->Step m0 μ0 mem0 w0 μ' I.mem w' ->Q .normal a' w')->
  wpListIn (Fr ro) 0 P ops Q l a w
 | [],H,I,μ,w,a,m0,μ0,mem0,w0,h0,ro,h,hH,hR,hN,hdf,hm,hS,hQ=>by simp only[nq] at h;subst h;exact wpListIn_nil (hQ a w μ hH hR hN hdf hm hS)
 |o::os,H,I,μ,w,a,m0,μ0,mem0,w0,h0,ro,h,hH,hR,hN,hdf,hm,hS,hQ=>by
  obtain⟨b,R,X,O,M⟩:=h;refine wpListIn_step fun K U=>?_
  rw[qs hR R];cases b with
  |false=>
   simp only[Bool.false_eq_true,if_false];refine⟨fun _ _=>trivial,?_⟩;refine U _ _ (xk hT (O rfl) hH (hR.agm hN X (by simp[afx,afy,undef])) (by rw[fF];exact hN) (by rw[fW];exact hdf) hm hS hQ)
  |true=>
   simp only[if_true];obtain⟨v,S,Z,G⟩:=M rfl;refine su hT hdf.agH hH hR hN X Z fun V w' μ' q1 q2 q3 q4=>U _ _ ?_
   exact xk hT G q2 q3 (by rw[fF];exact hN) (by rw[fW];exact hdf.step hH q4) (Y2 hm q4.len) (hS.trans (q4.mono hm)) hQ
end
end Go.Eng
namespace Go.Eng
def AWP(P:Program)(tp:Bool)(N m0:Nat)(c:Code)(H:St)(Q:Exit->St->Prop):Prop:=
 ∀(X:Option Nat) (V:Nat) base μ w a,(tp=true->X=none)->afJ base μ H.mem w->af2 μ H.mem.length H.env a.tmps->a.tmps.size=N->MOk P base V w a.defers->m0<=H.mem.length->
  c.wpIn (Fr X) 0 P (fun e Z w' =>∃UV μ',afJ base μ' UV.mem w' /\af2 μ' UV.mem.length UV.env Z.tmps/\Z.tmps.size=N/\MOk P base V w' Z.defers/\m0<=UV.mem.length/\
   Step m0 μ H.mem w μ' UV.mem w' /\Q e UV) a w
variable{Q' :Exit->St->Prop}{c:Code}{id:Nat}
section
variable {P:Program}{T:TypeId->Option TyI}{tp:Bool}{N m0:Nat}{Q:Exit->St->Prop}{st:St}
theorem AWP.mono(h:AWP P tp N m0 c st Q)(hq:∀e s,Q e s->Q' e s):AWP P tp N m0 c st Q' :=
 fun ro h0 base μ w a hro h1 h2 h3 h4 h5=>wpIn_mono (h ro h0 base μ w a hro h1 h2 h3 h4 h5) fun _ _ _ ⟨s,μ',a1,a2,a3,a4,a5,a6,a7⟩=>⟨s,μ',a1,a2,a3,a4,a5,a6,hq _ _ a7⟩
theorem Wo(h:Q .normal st):AWP P tp N m0 .skip st Q:=
 fun _ _ _ μ _ _ _ h1 h2 h3 h4 h5=>wpIn_skip ⟨st,μ,h1,h2,h3,h4,h5,.refl h5,h⟩
theorem Wm(h:Q (.exit id) st):AWP P tp N m0 (.exit id) st Q:=
 fun _ _ _ μ _ _ _ h1 h2 h3 h4 h5=>wpIn_exit ⟨st,μ,h1,h2,h3,h4,h5,.refl h5,h⟩
theorem XD(h:Q .ret st):AWP P tp N m0 .ret st Q:=
 fun _ _ _ μ _ _ _ h1 h2 h3 h4 h5=>wpIn_ret ⟨st,μ,h1,h2,h3,h4,h5,.refl h5,h⟩
def Zf(R:St->Prop)(Q:Exit->St->Prop):Exit->St->Prop
 |.normal,s=>R s
 |e,s=>Q e s
theorem yr{x y:Code}(h:AWP P tp N m0 x st (Zf (fun s=>AWP P tp N m0 y s Q) Q)):AWP P tp N m0 (.seq x y) st Q:=by
 intro ro h0 base μ w a hro h1 h2 h3 h4 h5;refine wpIn_seq (wpIn_mono (h ro h0 base μ w a hro h1 h2 h3 h4 h5) ?_);rintro e a' w' ⟨s,μ',b1,b2,b3,b4,b5,b6,b7⟩;cases e with
 |normal=>
  refine wpIn_mono (b7 ro h0 base μ' w' a' hro b1 b2 b3 b4 b5) ?_;rintro e a2 w2 ⟨s2,μ2,c1,c2,c3,c4,c5,c6,c7⟩;exact⟨s2,μ2,c1,c2,c3,c4,c5,b6.trans c6,c7⟩
 |_=>exact⟨s,μ',b1,b2,b3,b4,b5,b6,b7⟩
theorem OA{c:Operand}{x y:Code}{b:Bool}(hc:get st.env c=.bool b)(H:b=true->AWP P tp N m0 x st Q)(hf:b=false->AWP P tp N m0 y st Q):
  AWP P tp N m0 (.cond c x y) st Q:=by
 intro ro h0 base μ w a hro h1 h2 h3 h4 h5;have Z:=bY h2 c;rw[hc] at Z;exact wpIn_cond_split Z.bool (fun e=>H e ro h0 base μ w a hro h1 h2 h3 h4 h5) (fun e=>hf e ro h0 base μ w a hro h1 h2 h3 h4 h5)
def OC(id:Nat)(Q:Exit->St->Prop):Exit->St->Prop
 |.exit i,s=>if i=id then Q .normal s else Q (.exit i) s
 |e,s=>Q e s
theorem CB(h:AWP P tp N m0 c st (OC id Q)):AWP P tp N m0 (.block id c) st Q:=by
 intro ro h0 base μ w a hro h1 h2 h3 h4 h5;refine wpIn_block (wpIn_mono (h ro h0 base μ w a hro h1 h2 h3 h4 h5) ?_);rintro e a' w' ⟨s,μ',b1,b2,b3,b4,b5,b6,b7⟩;cases e with
 |exit i=>
  simp only[Exit.inBlock,OC] at b7 |-;split at b7
  next Z=>rw[if_pos Z];exact⟨s,μ',b1,b2,b3,b4,b5,b6,b7⟩
  next Z=>rw[if_neg Z];exact⟨s,μ',b1,b2,b3,b4,b5,b6,b7⟩
 |_=>exact⟨s,μ',b1,b2,b3,b4,b5,b6,b7⟩
theorem Q5(hT:dS P T){ops:Array Oper}{H :St}(h:nq P T N ops ops.toList st H)(hq:Q .normal H):
  AWP P tp N m0 (.region id ops false) st Q:=by
 intro ro h0 base μ w a hro h1 h2 h3 h4 h5;exact wpIn_region_list (xk hT h h1 h2 h3 h4 h5 (.refl h5) fun a' w' μ' c1 c2 c3 c4 c5 c6=>⟨H,μ',c1,c2,c3,c4,c5,c6,hq⟩)
theorem zM{F:Fence}{r:Nat}{σ:Type}{Q:Exit->Act->World->Prop}(I:σ->Act->World->Prop)(m:σ->Nat)(H:∀s a w,I s a w->c.wpIn F r P (Exit.then (fun U w' =>∃O,I O U w' /\m O <m s) Q) a w):
  ∀{s a w},I s a w->(Code.loop c).wpIn F r P Q a w:=by
 intro s a w h₀ b k cs hro hb hr;have M:∀n s a w,m s=n->I s a w->
   ∃e U w',Q e U w' /\ArrivesIn (Machine.fenced P F) P (lone (b.atR a (.code c::.inLoop c::k)) cs w) b k cs e U w' :=by
  intro n;induction n using Nat.strongRecOn with
  |_ n ih=>
   intro s a w D C;obtain⟨e,S,R,X,Z⟩:=H s a w C b (.inLoop c::k) cs hro hb hr;cases e with
   |normal=>
    obtain⟨O,K,B⟩:=X;obtain⟨y,u,o,G,V⟩:=ih (m O) (D▸B) O S R rfl K;exact⟨y,u,o,G,.of_steps (StepsIn.trans Z (.one (fenced_calm hb hr rfl) stepR_inLoop)) V⟩
   |exit id=>exact⟨_,S,R,X,.pass (x:=.inLoop c) rfl (fun _ _=>.inl (by simp)) Z⟩
   |goto l=>exact⟨_,S,R,X,.pass (x:=.inLoop c) rfl (fun _ _=>.inl (by simp)) Z⟩
   |ret=>exact⟨_,S,R,X,.pass (x:=.inLoop c) rfl (fun _ _=>.inl (by simp)) Z⟩
   |panic ch=>exact⟨_,S,R,X,.pass (x:=.inLoop c) rfl (fun _ _=>.inl (by simp)) Z⟩
   |outgrown=>exact⟨_,S,R,X,.pass (x:=.inLoop c) rfl (fun _ _=>.inl (by simp)) Z⟩
 obtain⟨e,U,w',X,Z⟩:=M _ s a w rfl h₀;exact⟨e,U,w',X,.of_steps (.one (fenced_calm hb hr rfl) stepR_loop) Z⟩
theorem Wn{σ:Type}(I:σ->St->Prop)(m:σ->Nat){s:σ}(J:I s st)(H:∀s st,I s st->AWP P tp N m0 c st (Zf (fun Z =>∃V,I V Z /\m V <m s) Q)):AWP P tp N m0 (.loop c) st Q:=by
 intro ro h0 base μ w a hro h1 h2 h3 h4 h5;refine zM (σ:=σ) (fun s X w' =>∃Z μ',afJ base μ' Z.mem w' /\af2 μ' Z.mem.length Z.env X.tmps/\X.tmps.size=N/\MOk P base h0 w' X.defers/\m0<=Z.mem.length/\
   Step m0 μ st.mem w μ' Z.mem w' /\I s Z) m ?_ (s:=s) ⟨st,μ,h1,h2,h3,h4,h5,.refl h5,J⟩
 rintro s X w' ⟨Z,μ',b1,b2,b3,b4,b5,b6,b7⟩;refine wpIn_mono (H s Z b7 ro h0 base μ' w' X hro b1 b2 b3 b4 b5) ?_;rintro e a2 w2 ⟨s2,μ2,c1,c2,c3,c4,c5,c6,c7⟩;cases e with
 |normal=>
  obtain⟨V,d1,d2⟩:=c7;exact⟨V,⟨s2,μ2,c1,c2,c3,c4,c5,b6.trans c6,d1⟩,d2⟩
 |_=>exact⟨s2,μ2,c1,c2,c3,c4,c5,b6.trans c6,c7⟩
def agr(m0:Nat)(st st1:St):Prop:=∀base μ w tmps,afJ base μ st.mem w->af2 μ st.mem.length st.env tmps->m0<=st.mem.length->
 ∃μ1,afJ base μ1 st1.mem w/\af2 μ1 st1.mem.length st1.env tmps/\m0<=st1.mem.length/\Step m0 μ st.mem w μ1 st1.mem w
theorem Wp{st1:St}(H:agr m0 st st1)(h:AWP P tp N m0 c st1 Q):AWP P tp N m0 c st Q:=by intro ro h0 base μ w a hro h1 h2 h3 h4 h5;obtain⟨μ1,Z,X,V,U⟩:=H base μ w a.tmps h1 h2 h5;refine wpIn_mono (h ro h0 base μ1 w a hro Z X h3 h4 V) ?_;rintro e a2 w2 ⟨s2,μ2,c1,c2,c3,c4,c5,c6,c7⟩;exact⟨s2,μ2,c1,c2,c3,c4,c5,U.trans c6,c7⟩
theorem agr.trans{s1 H I:St}(h:agr m0 s1 H)(h' :agr m0 H I):agr m0 s1 I:=by intro base μ w tmps h1 h2 h3;obtain⟨μ1,Z,X,V,U⟩:=h base μ w tmps h1 h2 h3;obtain⟨μ2,S,R,O,M⟩:=h' base μ1 w tmps Z X V;exact⟨μ2,S,R,O,U.trans M⟩
theorem agr.env{env H:Env}{mem:Mem}(h:∀t,aa H t=aa env t\/aa H t=.undef):agr m0 ⟨env,mem⟩ ⟨H,mem⟩:=by
 intro base μ w tmps h1 h2 h3;refine⟨μ,h1,fun t=>?_,h3,.refl h3⟩;rcases h t with e | e
 .rw[e];exact h2 t
 .rw[e];simp[afx]
theorem AWP.ahV(h:AWP P tp N m0 c st Q')(hq:∀e s,Q' e s->∃Z,agr m0 s Z/\Q e Z):AWP P tp N m0 c st Q:=by intro ro h0 base μ w a hro h1 h2 h3 h4 h5;refine wpIn_mono (h ro h0 base μ w a hro h1 h2 h3 h4 h5) ?_;rintro e a2 w2 ⟨s2,μ2,c1,c2,c3,c4,c5,c6,c7⟩;obtain⟨Z,X,hQ⟩:=hq e s2 c7;obtain⟨μ1,V,U,S,R⟩:=X base μ2 w2 a2.tmps c1 c2 c5;exact⟨Z,μ1,V,U,c3,c4,S,c6.trans R,hQ⟩
end
end Go.Eng
namespace Go.Eng
def rho(m0:Nat)(ks:List Nat)(b:Nat):Option Nat:=if b<m0 then some b else (ks.idxOf? b).map (m0+·)
def sD(ρ:Nat->Option Nat)(env:Env):Env:=env.map fun e=>(e.1,e.2.ren ρ)
def afz.ren(ρ:Nat->Option Nat):afz->afz
 |.y9=>.y9
 |.cells own es cs=>.cells own es (AV.afR ρ cs)
 |.map es=>.map (es.map fun e=>(e.1.ren ρ,e.2.ren ρ))
 |.af6 es=>.af6 (es.map fun e=>(e.1.ren ρ,e.2.ren ρ))
 |.loop r=>.loop { r with env:=sD ρ r.env }
def agp(m0:Nat)(ks:List Nat)(mem:Mem):Mem:=ks.map fun k=>(mem.getD k .y9).ren (rho m0 ks)
def afH(m0:Nat)(ks:List Nat)(mem:Mem):Mem:=(mem.take m0).map (afz.ren (rho m0 ks))++agp m0 ks mem
def EI(m0 n:Nat)(ks:List Nat):Bool:=decide ks.Nodup&&ks.all fun k=>decide (m0<=k/\k<n)
theorem iW(ρ:Nat->Option Nat):∀(env:Env) (t:Nat),aa (sD ρ env) t=(aa env t).ren ρ
 | [],t=>by simp[sD,aa,AV.ren]
 |(k,v)::r,t=>by
  simp only[sD,List.map_cons,aa];by_cases h:k=t
  .simp[h]
  .simp only[h,if_false];exact iW ρ r t
variable{ks:List Nat}{p:Place}{s:afz}
section
variable {μ:Nat->Place}{mem:Mem}{base:Nat}{w:World}
theorem afM.ren{μ μ' :Nat->Place}{n n' base:Nat}{w:World}{ρ:Nat->Option Nat}(hρ:∀b b',b<n->ρ b=some b' ->b' <n' /\μ' b' =μ b)(h:afM μ n base w p s):afM μ' n' base w p (s.ren ρ):=by
 cases s with
 |y9=>trivial
 |cells own es cs=>
  simp only[afM,afz.ren] at h |-;obtain⟨N,e,fr,Z,X,h3,O,B⟩:=h;refine⟨N,e,fr,Z,X,by rw[gZ,QQm];exact h3,fun j v M=>?_,B⟩;rw[gZ,Y1] at M;simp only[Pi] at M;obtain⟨v0,K,rfl⟩:=M;obtain⟨V,hV,y⟩:=O j v0 K;exact⟨V,hV,y.ren hρ⟩
 |map es=>
  simp only[afM,afz.ren] at h |-;obtain⟨G,F,Z,X,h3,O⟩:=h;refine⟨G,F,Z,X,by rw[QQm];exact h3,fun j e U=>?_⟩;rw[Y1] at U;simp only[Pi] at U;obtain⟨D,S,rfl⟩:=U;obtain⟨E,C,R,Q⟩:=O j D S;exact⟨E,C,R.ren hρ,Q.ren hρ⟩
 |af6 es=>
  simp only[afM,afz.ren] at h |-;obtain⟨G,F,Z,X,h3,O⟩:=h;refine⟨G,F,Z,X,by rw[QQm];exact h3,fun j e U=>?_⟩;rw[Y1] at U;simp only[Pi] at U;obtain⟨D,S,rfl⟩:=U;obtain⟨E,C,R,Q⟩:=O j D S;exact⟨E,C,R.ren hρ,Q.ren hρ⟩
 |loop r=>
  simp only[afM,afz.ren] at h |-;obtain⟨L,Z,X,h3⟩:=h;exact⟨L,Z,X,{ h3 with tmps:=fun t=>by rw[iW];exact(h3.tmps t).ren hρ }⟩
theorem afz.agU(ρ:Nat->Option Nat)(s:afz):(s.ren ρ).own=s.own:=by cases s<;>rfl
theorem CY{m0 n:Nat}(h:EI m0 n ks=true):ks.Nodup/\∀k∈ks,m0<=k/\k<n:=by simp only[EI,Ar,Cs,List.all_eq_true] at h;exact h
theorem fI{m0:Nat}(H:m0<=mem.length):(afH m0 ks mem).length=m0+ks.length:=by simp[afH,agp];omega
def iG(m0:Nat)(ks:List Nat)(b:Nat):Nat:=if b<m0 then b else ks.getD (b-m0) 0
theorem vh{m0:Nat}(I:m0<=mem.length)(H:EI m0 mem.length ks=true){b:Nat}(h:(afH m0 ks mem)[b]? =some s):
  ∃Z,mem[iG m0 ks b]? =some Z/\s=Z.ren (rho m0 ks):=by
 obtain⟨_,V⟩:=CY H;have N:((mem.take m0).map (afz.ren (rho m0 ks))).length=m0:=by simp;omega
 unfold afH at h;by_cases U:b<m0
 .rw[GE (by omega),Y1,V2 U] at h
  simp only[Pi] at h;obtain⟨Z,X,S⟩:=h;exact⟨Z,by simpa [iG,U] using X,S.symm⟩
 .rw[Ns (by omega),N] at h
  unfold agp at h;rw[Y1] at h;simp only[Pi] at h;obtain⟨k,X,S⟩:=h;have R:=Lo X;obtain⟨_,O⟩:=V k R;have Q:mem[k]? =some mem[k]:=by simp[O]
  refine⟨mem[k],?_,?_⟩
  .simp[iG,U,X,O]
  .rw[<-S];simp[List.getD,Q]
theorem Q6{m0:Nat}(H:EI m0 mem.length ks=true){x y:Nat}(hx:x<m0+ks.length)(I:y<m0+ks.length)(h:iG m0 ks x=iG m0 ks y):x=y:=by
 obtain⟨X,V⟩:=CY H;have Z:∀z,¬z<m0->z<m0+ks.length->m0<=ks.getD (z-m0) 0:=by
  intro z U S;have O:z-m0<ks.length:=by omega
  have:ks.getD (z-m0) 0=ks[z-m0]:=by simp[O]
  rw[this];exact(V _ (by simp)).1
 unfold iG at h;by_cases U:x<m0<;>by_cases S:y<m0<;>simp only[U,S,if_true,if_false] at h
 .exact h
 .have:=Z y S I;omega
 .have:=Z x U hx;omega
 .have R :x-m0<ks.length:=by omega
  have Q :y-m0<ks.length:=by omega
  have N:ks.getD (x-m0) 0=ks[x-m0]:=by simp[R]
  have M:ks.getD (y-m0) 0=ks[y-m0]:=by simp[Q]
  rw[N,M] at h;have:=(List.getElem_inj X).1 h;omega
theorem afJ.afH{m0:Nat}(J:afJ base μ mem w)(H:m0<=mem.length)(I:EI m0 mem.length ks=true):
  afJ base (fun b=>μ (iG m0 ks b)) (afH m0 ks mem) w/\
  (∀b X,b<mem.length->rho m0 ks b=some X ->X <(Eng.afH m0 ks mem).length/\(fun b=>μ (iG m0 ks b)) X =μ b)/\
  Step m0 μ mem w (fun b=>μ (iG m0 ks b)) (Eng.afH m0 ks mem) w:=by
 obtain⟨u,o⟩:=CY I;have hρ:∀b X,b<mem.length->rho m0 ks b=some X ->X <(Eng.afH m0 ks mem).length/\(fun b=>μ (iG m0 ks b)) X =μ b:=by
  intro b X Q V;rw[fI H];unfold rho at V;by_cases Z:b<m0
  .rw[if_pos Z] at V
   cases V;exact⟨by omega,by simp[iG,Z]⟩
  .rw[if_neg Z] at V
   simp only[Pi] at V;obtain⟨i,m,rfl⟩:=V;have N :=List.idxOf?_eq_some_iff.1 m;obtain⟨O,M,_⟩:=N;refine⟨by omega,?_⟩;simp only[iG];rw[if_neg (by omega)];have:ks.getD (m0+i-m0) 0=b:=by rw[Nat.add_sub_cancel_left];simp[O,M]
   rw[this]
 have U:∀x,eH (Eng.afH m0 ks mem) x->eH mem (iG m0 ks x)/\x<m0+ks.length:=by intro x K;obtain⟨s,C,j⟩:=K;have O:=gL C;rw[fI H] at O;obtain⟨S,Z,rfl⟩:=vh H I C;exact⟨⟨S,Z,by rw[<-afz.agU];exact j⟩,O⟩
 refine⟨⟨J.afF,fun b s Y=>?_,fun x y s K B W G=>?_⟩,hρ,?_⟩
 .obtain⟨S,Z,rfl⟩:=vh H I Y
  exact(J.slot _ S Z).ren hρ
 .obtain⟨F,D⟩:=U x K
  have R:=gL B;rw[fI H] at R;obtain⟨S,Z,rfl⟩:=vh H I B;refine J.sep _ _ S F Z ?_ fun e=>G (Q6 I D R e)
  rintro rfl;exact W rfl
 .refine⟨by rw[fI H];omega,fun b Q=>by simp[iG,Q],rfl,rfl,rfl,Es _,fun _ _ _=>rfl,fun b Q _=>?_,Es _⟩
  exact⟨_,(U b Q).1,rfl⟩
theorem agr.afH{m0:Nat}{env:Env}{mem:Mem}(ks:List Nat)(H:EI m0 mem.length ks=true):
  agr m0 ⟨env,mem⟩ ⟨sD (rho m0 ks) env,afH m0 ks mem⟩:=by
 intro base μ w tmps h1 h2 h3;obtain⟨Z,X,V⟩:=h1.afH h3 H;refine⟨_,Z,fun t=>?_,by rw[fI h3];omega,V⟩;rw[iW];exact(h2 t).ren X
end
mutual
theorem afx.lower{μ μ' :Nat->Place}{n n' :Nat}(hμ:∀b,b<n->μ' b=μ b):∀{v V V'},afx μ n v V->afx μ' n' v V' ->afx μ n v V'
 |.undef,_,_,_,_=>by simp[afx]
 |.bool _,_,_,_,h=>by simpa [afx] using h
 |.int _ _,_,_,_,h=>by simpa [afx] using h
 |.str _,_,_,_,h=>by simpa [afx] using h
 |.ptr b o,_,_,h,Z =>by simp only[afx] at h Z |-;exact⟨h.1,by rw[<-hμ b h.1];exact Z.2⟩
 |.afL,_,_,_,h=>by simpa [afx] using h
 |.slice b o l c,_,_,h,Z =>by simp only[afx] at h Z |-;exact⟨h.1,by rw[<-hμ b h.1];exact Z.2⟩
 |.kO,_,_,_,h=>by simpa [afx] using h
 |.map b,_,_,h,Z =>by simp only[afx] at h Z |-;exact⟨h.1,by rw[<-hμ b h.1];exact Z.2⟩
 |.yield b,_,_,h,Z =>by simp only[afx] at h Z |-;exact⟨h.1,by rw[<-hμ b h.1];exact Z.2⟩
 |.afV,_,_,_,h=>by simpa [afx] using h
 |.func f R,_,_,h,Z =>by simp only[afx] at h Z |-;obtain⟨Q,e,h⟩:=h;obtain⟨X,S,Z⟩:=Z;exact⟨X,S,afy.lower hμ h Z⟩
 |.nilFunc,_,_,_,h=>by simpa [afx] using h
 |.iface t v,_,_,h,Z =>by simp only[afx] at h Z |-;obtain⟨U,e,h⟩:=h;obtain⟨O,S,Z⟩:=Z;exact⟨O,S,afx.lower hμ h Z⟩
 |.nilIface,_,_,_,h=>by simpa [afx] using h
 |.agg R,_,_,h,Z =>by simp only[afx] at h Z |-;obtain⟨Q,e,h⟩:=h;obtain⟨X,S,Z⟩:=Z;exact⟨X,S,afy.lower hμ h Z⟩
 |.tuple R,_,_,h,Z =>by simp only[afx] at h Z |-;obtain⟨Q,e,h⟩:=h;obtain⟨X,S,Z⟩:=Z;exact⟨X,S,afy.lower hμ h Z⟩
theorem afy.lower{μ μ' :Nat->Place}{n n' :Nat}(hμ:∀b,b<n->μ' b=μ b):∀{vs Us Us'},afy μ n vs Us->afy μ' n' vs Us' ->afy μ n vs Us'
 | [],_,_,_,h=>by simpa [afy] using h
 |v::vs,_,_,h,h' =>by simp only[afy] at h h' |-;obtain⟨U,N,e,S,R⟩:=h;obtain⟨Q,Z,O,X,V⟩:=h';exact⟨Q,Z,O,afx.lower hμ S X,afy.lower hμ R V⟩
end
theorem afM.lower{μ μ' :Nat->Place}{n n' base:Nat}{w w' :World}(hμ:∀b,b<n->μ' b=μ b)(h:afM μ n base w p s)(h' :afM μ' n' base w' p s):afM μ n base w' p s:=by
 cases s with
 |y9=>trivial
 |cells own es cs=>
  simp only[afM] at h h' |-;obtain⟨_,_,_,_,_,_,Q,_⟩:=h;obtain⟨N,e,fr,g1,g2,g3,g4,B⟩:=h';refine⟨N,e,fr,g1,g2,g3,fun j v C=>?_,B⟩;obtain⟨V,_,y⟩:=Q j v C;obtain⟨u,M,K⟩:=g4 j v C;exact⟨u,M,y.lower hμ K⟩
 |map es=>
  simp only[afM] at h h' |-;obtain⟨_,_,_,_,_,Q⟩:=h;obtain⟨G,F,g1,g2,g3,g4⟩:=h';refine⟨G,F,g1,g2,g3,fun j e O=>?_⟩;obtain⟨E,_,Z,X⟩:=Q j e O;obtain⟨D,U,S,R⟩:=g4 j e O;exact⟨D,U,Z.lower hμ S,X.lower hμ R⟩
 |af6 es=>
  simp only[afM] at h h' |-;obtain⟨_,_,_,_,_,Q⟩:=h;obtain⟨G,F,g1,g2,g3,g4⟩:=h';refine⟨G,F,g1,g2,g3,fun j e O=>?_⟩;obtain⟨E,_,Z,X⟩:=Q j e O;obtain⟨D,U,S,R⟩:=g4 j e O;exact⟨D,U,Z.lower hμ S,X.lower hμ R⟩
 |loop r=>
  simp only[afM] at h h' |-;obtain⟨L,_,_,h3⟩:=h;obtain⟨o,g1,g2,g3⟩:=h';exact⟨o,g1,g2,{ g3 with tmps:=fun t=>(h3.tmps t).lower hμ (g3.tmps t) }⟩
theorem afJ.swap{H:Nat}{μ:Nat->Place}{I J:Mem}{w:World}(h:afJ H μ I w)(W:J.length=I.length)(hs:∀b X,J[b]? =some X->∃Z,I[b]? =some Z/\Z.own=X.own/\(Z=.y9->X=.y9)/\afM μ I.length H w (μ b) X):afJ H μ J w:=by
 refine⟨h.afF,fun b s V=>?_,fun b R Q V U O S=>?_⟩
 .obtain⟨Z,_,_,_,N⟩:=hs b s V;rw[W];exact N
 .obtain⟨s,g1,M⟩:=V
  obtain⟨Z,K,G,_,_⟩:=hs b s g1;obtain⟨F,D,_,C,_⟩:=hs R Q U;exact h.sep b R F ⟨Z,K,by rw[G];exact M⟩ D (fun e=>O (C e)) S
end Go.Eng
namespace Go.Eng
def dQ:Nat->List AV->Env
 |_,[]=>[]
 |i,v::vs=>(i,v)::dQ (i+1) vs
def Zt(T:TypeId->Option TyI)(env:Env)(mem:Mem):ResultVar->Option AV
 |.tmp t=>some (aa env t)
 |.cell a t=>Q1 T mem t (aa env a)
def yL(T:TypeId->Option TyI)(env:Env)(mem:Mem):List ResultVar->Option (List AV)
 | []=>some []
 |r::rs=>match Zt T env mem r,yL T env mem rs with
  |some v,some vs=>some (v::vs)
  |_,_=>none
def jG(T:TypeId->Option TyI)(H:List ResultVar)(env:Env)(mem:Mem):Option AV:=
 match yL T env mem H with
 |some [v]=>some v
 |some vs=>some (.tuple vs)
 |none=>none
def Fin(mem:Mem)(v:AV) (H :Mem)(R:AV->Mem->Prop):Prop:=
 ∃Z,EI mem.length H.length Z=true/\
  ((H.take mem.length=mem/\R (v.ren (rho mem.length Z)) (mem++agp mem.length Z H))\/R (v.ren (rho mem.length Z)) (afH mem.length Z H))
variable{fn:Func}{r:Nat}
section
variable {P:Program}{T:TypeId->Option TyI}{μ:Nat->Place}{mem:Mem}{base:Nat}{w:World}
theorem yG{n:Nat}{μ:Nat->Place}:∀{vs:List AV} {Vs:List Value} (i:Nat),afy μ n vs Vs->∀t,afx μ n (aa (dQ i vs) t) (if t<i then undef else Vs.getD (t-i) undef)
 | [],Vs,i,h,t=>by simp[dQ,aa,afx]
 |v::vs,Vs,i,h,t=>by
  simp only[afy] at h;obtain⟨U,R,rfl,V,S⟩:=h;simp only[dQ,aa];by_cases Z:i=t
  .subst Z;simpa using V
  .simp only[Z,if_false]
   have:=yG (i+1) S t;by_cases X:t<i
   .rw[if_pos (by omega)] at this;rw[if_pos X];exact this
   .rw[if_neg (by omega)] at this
    rw[if_neg X];have e:t-i=(t-(i+1))+1:=by omega
    rw[e];simpa using this
def rvS(tmps:Array Value):ResultVar->Sem Value
 |.tmp t=>pure (tmps.getD t undef)
 |.cell a t=>do loadVar t (<-asAddr (tmps.getD a undef))
theorem qh(hT:dS P T)(J:afJ base μ mem w){env:Env}{tmps:Array Value}(H:af2 μ mem.length env tmps):
  ∀{I:List ResultVar}{vs:List AV},yL T env mem I=some vs->∃X,afy μ mem.length vs X/\
   (I.mapM (rvS tmps)).run P w=.ok X w
 | [],vs,h=>by simp only[yL,Mp] at h;subst h;exact⟨[],by simp[afy],by simp⟩
 |r::I,vs,h=>by
  simp only[yL] at h;split at h
  .rename_i v M Z K
   cases h;obtain⟨X,g1,O⟩:=qh hT J H K;cases r with
   |tmp t=>
    simp only[Zt,Mp] at Z;subst Z;exact⟨_::X,bW.2 ⟨H t,g1⟩,by rw[List.mapM_cons,rvS,pure_bind,Sem.run_bind,O];rfl⟩
   |cell a t=>
    simp only[Zt] at Z;obtain⟨V,S,G⟩:=Ct (P:=P) hT J (H a) Z;refine⟨V::X,bW.2 ⟨G,g1⟩,?_⟩;have R:∃b o,aa env a=.ptr b o:=by
     unfold Q1 at Z;split at Z
     next b o _ Q=>exact⟨b,o,Q⟩
     .cases Z
    obtain⟨b,o,Q⟩:=R;have N:=H a;rw[Q] at N;have U:=N.ptr.2;rw[U] at S;simp only[Instr.loadAt,Instr.sureAddr,Sem.run_bind,Sem.run_pure,Result.andThen_ok] at S;rw[List.mapM_cons,rvS,U,Sem.run_bind];simp only[asAddr,pure_bind,S,Result.andThen_ok];rw[Sem.run_bind,O];rfl
  .cases h
theorem tX(hT:dS P T)(H:afJ base μ mem w){env:Env}{tmps:Array Value}(I:af2 μ mem.length env tmps){v:AV}(h:jG T fn.results.toList env mem=some v):∃V,(results fn tmps).run P w=.ok V w/\afx μ mem.length v V:=by
 unfold jG at h;have run:∀Z,(fn.results.toList.mapM (rvS tmps)).run P w=.ok Z w->
   (results fn tmps).run P w=.ok (if h:Z.toArray.size=1 then Z.toArray[0] else .tuple Z.toArray) w:=by
  intro Z X;unfold results;rw[Array.mapM_eq_mapM_toList,Sem.run_bind,Sem.run_map];erw [X];rfl
 split at h
 .rename_i N S
  cases h;obtain⟨Z,g1,R⟩:=qh hT H I S;simp only[afy] at g1;obtain⟨U,M,rfl,g3,rfl⟩:=g1;exact⟨U,by rw[run _ R];simp,g3⟩
 .rename_i Q O S
  cases h;obtain⟨Z,g1,R⟩:=qh hT H I S;refine⟨.tuple Z.toArray,?_,by simp only[afx];exact⟨Z,rfl,g1⟩⟩;rw[run _ R];have:¬Z.toArray.size=1:=by
   have:=g1.length;intro e;simp at e;rw[e] at this
   match Q,this with
   | [x],_=>exact O x rfl
  rw[dif_neg this]
 .cases h
theorem AE{P:Program}{w:World}(h:w.heap[r]? =some (.deferred (some []))):
  (Instr.takeDeferred r).run P w=.ok [] { w with heap:=w.heap.setIfInBounds r (.deferred none) }:=by
 have Z:(getObj r).run P w=.ok (.deferred (some [])) w:=by simp[getObj,Sem.run,h]
 have X:(setObj r (.deferred none)).run P w=.ok () { w with heap:=w.heap.setIfInBounds r (.deferred none) }:=tE h (by intro c e f;simp);simp only[Instr.takeDeferred,Sem.run_bind,Z,Result.andThen_ok];rw[X];rfl
theorem afJ.shut{base:Nat}{μ:Nat->Place}{mem:Mem}{w:World}{r:Nat}{x y}(H:afJ base μ mem w)(h:w.heap[r]? =some (.deferred x)):
  afJ base μ mem { w with heap:=w.heap.setIfInBounds r (.deferred y) }:=by
 refine⟨by simpa using H.afF,fun b s Z=>?_,H.sep⟩;by_cases h0:s=.y9
 .subst h0;trivial
 .refine(H.slot b s Z).mono (Es _) (fun _ _=>rfl) fun _=>?_
  exact P3 (Ne.symm (qB H h Z h0))
theorem Step.shut{m0:Nat}{μ μ' :Nat->Place}{mem mem' :Mem}{w w' :World}{o:Obj}(h:Step m0 μ mem w μ' mem' w')(hr:w.heap.size<=r):
  Step m0 μ mem w μ' mem' { w' with heap:=w'.heap.setIfInBounds r o }:=by
 refine⟨h.len,h.agree,h.os,h.tape,h.output,by simpa using h.size,fun k Z X=>?_,h.owner,h.drawn⟩;rw[<-h.frame k Z X];exact P3 (by omega)
theorem MOk.shut{P:Program}{base h0 r:Nat}{w:World}{ds:List Deferred}{o:Obj}(h:MOk P base h0 w ({ target:=.collected r,args:= #[] }::ds)):
  MOk P base h0 { w with heap:=w.heap.setIfInBounds r o } ds:=by
 have U:h0<=r:=by obtain⟨q,e,Z,_⟩:=h.each _ (List.mem_cons_self ..);cases e;exact Z
 refine⟨⟨h.agH.below,?_⟩,h.afF,by simpa using h.le,fun d V=>?_,?_⟩
 .have:=h.agH.tab
  unfold Lib.TabIs at this |-;rw[<-this];refine Pf fun k Q=>P3 ?_
  have:=h.agH.below;have:=h.afF;omega
 .obtain⟨q,e,Z,S⟩:=h.each d (by simp[V])
  refine⟨q,e,Z,?_⟩;have R:r≠q:=by intro X;have:=h.nodup;simp only[List.map_cons,List.nodup_cons,QQd,not_exists] at this;exact this.1 d ⟨V,by rw[e,X]⟩
  show(w.heap.setIfInBounds r o)[q]? =_
  rw[P3 R,S]
 .have:=h.nodup
  simp only[List.map_cons,List.nodup_cons] at this;exact this.2
theorem se{P:Program}{fn:Func}{tmps:Array Value}{R:Ending->World->Prop}{base m0:Nat}{μ μ0:Nat->Place}{mem mem0:Mem}{w0:World}:
  ∀(H:List Deferred) (w:World),MOk P base w0.heap.size w H->afJ base μ mem w->Step m0 μ0 mem0 w0 μ mem w->
   (∀w',afJ base μ mem w' ->Step m0 μ0 mem0 w0 μ mem w' ->∃v,(results fn tmps).run P w' =.ok v w' /\R (.returned v) w')->
   LeavesInM (Fr none) 0 P fn tmps R H .returning w
 | [],w,_,hH,hS,hq=>hq w hH hS
 |d::H,w,hM,hH,hS,hq=>by obtain⟨r,rfl,X,Z⟩:=hM.each d (by simp);refine⟨by simp,.inl ⟨r,_,rfl,AE Z,?_⟩⟩;exact se H _ hM.shut (hH.shut Z) (hS.shut X) hq
theorem af8.intro(hT:dS P T){f:FuncId}{c:Code}{args:List AV}{mem:Mem}{R:AV->Mem->Prop}(hf:P.funcs[f]? =some fn)(H:fn.body=some c)(I:(fn.name == "runtime.NumGoroutine")=false)(hl:args.length<=fn.ntmps)(h:AWP P true fn.ntmps mem.length c ⟨dQ 0 args,mem⟩ fun e X =>(e=.normal\/e=.ret)/\∃v,jG T fn.results.toList X.env X.mem=some v/\Fin mem v X.mem R):
  af8 P f args mem R:=by
 refine⟨⟨fn,hf,by simp[H],I⟩,fun base μ w Vs hG hH hV=>?_⟩;refine AL.1 (callsIn_of_wp_marks (F:=Fr none) (n:=0) hf H trivial (wpIn_mono (h none w.heap.size base μ w _ (fun _=>rfl) hH ?_ ?_ (MOk.nil w hG hH.afF (Es _)) (Es _)) ?_) rfl)
 .intro t
  have:=yG 0 hV t;simp only[Nat.not_lt_zero,if_false,QQg] at this;by_cases ht:t<Vs.length
  .have e:(⟨Vs⟩++Array.replicate (fn.ntmps-(⟨Vs⟩:Array Value).size) undef:Array Value).getD t undef=Vs.getD t undef:=by simp only[Array.getD_eq_getD_getElem?];rw[Array.getElem?_append_left (by simpa using ht)];simp[List.getD]
   show afx μ mem.length (aa (dQ 0 args) t) ((⟨Vs⟩++Array.replicate (fn.ntmps-(⟨Vs⟩:Array Value).size) undef:Array Value).getD t undef)
   rw[e];exact this
  .have:aa (dQ 0 args) t=.undef:=by
    have B:=hV.length;have:∀(K:List AV) (i:Nat),i+K.length<=t->aa (dQ i K) t=.undef:=by
     intro K;induction K with
     |nil=>intro i _;rfl
     |cons v K ih=>
      intro i hi;simp only[List.length_cons] at hi;simp only[dQ,aa];rw[if_neg (by omega)];exact ih (i+1) (by omega)
    exact this args 0 (by omega)
   show afx μ mem.length (aa (dQ 0 args) t) _
   rw[this];simp[afx]
 .simp only[Array.size_append,List.size_toArray,Array.size_replicate,hV.length];omega
 .rintro e a' w' ⟨X,μ',b1,b2,b3,b4,b5,b6,he,v,hv,ks,hks,hR⟩
  have O:LeavesInM (Fr none) 0 P fn a'.tmps (fun e w' =>∃V v mem' μ',e=.returned V/\afx μ' mem'.length v V/\afJ base μ' mem' w' /\Step mem.length μ mem w μ' mem' w' /\R v mem') a'.defers .returning w' :=by
   refine se a'.defers w' b4 b1 b6 fun w2 u G=>?_
   obtain⟨V,o,y⟩:=tX (P:=P) (fn:=fn) hT u b2 hv;obtain⟨m,W,J⟩:=u.afH b5 hks;refine⟨V,o,?_⟩;rcases hR with⟨U,hr⟩ | hr
   .have B:(mem++agp mem.length ks X.mem).length=(afH mem.length ks X.mem).length:=by rw[fI b5];simp[agp]
    have D:∀b Z,(mem++agp mem.length ks X.mem)[b]? =some Z->∃C,(afH mem.length ks X.mem)[b]? =some C/\C.own=Z.own/\(C=.y9->Z=.y9)/\
      afM (fun b=>μ' (iG mem.length ks b)) (afH mem.length ks X.mem).length base w2 (μ' (iG mem.length ks b)) Z:=by
     intro b Z H;unfold afH;rw[U];by_cases N:b<mem.length
     .rw[GE N] at H
      refine⟨Z.ren (rho mem.length ks),by rw[GE (by simpa using N),Y1,H];rfl,afz.agU _ _,?_,?_⟩
      .intro h;cases Z<;>simp[afz.ren] at h |-
      .have j:iG mem.length ks b=b:=by simp[iG,N]
       rw[j];have g1:=hH.slot b Z H;have M:=u.slot b Z (by rw[<-H,<-U,V2 N]);rw[G.agree b N] at M |-;have g3:=afM.lower (w' :=w2) (fun b H=>G.agree b H) g1 M;refine g3.mono ?_ (fun b H=>?_) fun _=>rfl
       .simp[agp]
       .show μ' (iG mem.length ks b)=μ b
        rw[show iG mem.length ks b=b by simp[iG,H],G.agree b H]
     .have S :(afH mem.length ks X.mem)[b]? =some Z:=by unfold afH;rw[U,Ns (by simp;omega)];rw[Ns (by omega)] at H;simpa using H
      have:=m.slot b Z S;unfold afH at S this;rw[U] at S this;exact⟨Z,S,rfl,id,this⟩
    have Y:=m.swap B D;refine⟨V,_,_,_,rfl,y.ren fun b b' g1 M=>?_,Y,?_,hr⟩
    .obtain⟨g3,g4⟩:=W b b' g1 M
     exact⟨by rw[B];exact g3,g4⟩
    .have Q:=G.trans J
     refine⟨by rw[B];exact Q.len,Q.agree,Q.os,Q.tape,Q.output,Q.size,Q.frame,fun b H N=>?_,Q.drawn⟩;obtain⟨s,g1,M⟩:=H;obtain⟨C,o,y,_,_⟩:=D b s g1;exact Q.owner b ⟨C,o,by rw[y];exact M⟩ N
   .exact⟨V,_,_,_,rfl,y.ren W,m,G.trans J,hr⟩
  rcases he with rfl | rfl
  .exact O
  .exact O
end
end Go.Eng
