/- See D38. -/
import Derived.Test.YthpgbelancmpjaaGreatDoorD01
import Derived.Lib.UnsafeStr
import Derived.RangeFuncLeaves
import Derived.OrdersIn
import Derived.TacticsIn
import Derived.Lib.ItoaNum
import Derived.Lib.LaidTab
set_option linter.all false
namespace Go.Eng
variable{V X:Value}{cs:List AV}{mem' :Mem}{v x:AV}
section
variable {P:Program}{T:TypeId->Option TyI}{μ:Nat->Place}{mem:Mem}{base:Nat}{w:World}
def agt(P:Program)(x:Sem Value)(base:Nat) (μ:Nat->Place)(mem:Mem)(w:World)(v:AV) (mem' :Mem):Prop:=
 ∃V w' μ',x.run P w=.ok V w' /\afj μ' mem'.length v V/\afv base μ' mem' w' /\Step mem.length μ mem w μ' mem' w'
theorem agt.afH{x:Sem Value}(H:afv base μ mem w)(h:Val P x w μ mem.length v):agt P x base μ mem w v mem:=by obtain⟨V,Z,U⟩:=h;exact⟨V,w,μ,Z,U,H,.refl (L9 _)⟩
theorem sZ(J:afv base μ mem w)(e:TypeId)(H:Array Value)(es:Nat)(I:1000<=es->e+1=es / 1000)(cs:List AV)(h:∀(j:Nat) v,cs[j]? =some v->∃V,H[j]? =some V/\afj μ mem.length v V):
  afv base (upd μ mem.length ⟨w.heap.size,0,H.size,es%1000⟩) (mem++[.cells true es cs]) (w.alloc (.cells H e))/\
  Step mem.length μ mem w (upd μ mem.length ⟨w.heap.size,0,H.size,es%1000⟩) (mem++[.cells true es cs]) (w.alloc (.cells H e)):=by
 refine J.push _ _ _ rfl ?_;simp only[afx];refine⟨H,e,(0,0),heap_alloc_new w _,⟨rfl,I⟩,?_,fun j v Z=>?_,fun _=>by simp;exact J.afr⟩
 .rcases QQX cs.length with h0 | h0
  .omega
  .obtain⟨V,hV,_⟩:=h (cs.length-1) cs[cs.length-1] (by simp)
   have:=(Nm.1 hV).1;omega
 .obtain⟨V,hV,U⟩:=h j v Z
  exact⟨V,by simpa using hV,U.mono (Nat.le_succ _) fun b S=>w9 S⟩
theorem RH{n:Nat}{vs:List AV}{cur Vs:List Value}{o:Nat}(I:o+vs.length<=cs.length)(h:∀(j:Nat) v,cs[j]? =some v->∃V,cur[j]? =some V/\afj μ n v V)(H:afk μ n vs Vs):
  ∀(j:Nat) v,(cs.take o++vs++cs.drop (o+vs.length))[j]? =some v->∃V,(cur.take o++Vs++cur.drop (o+Vs.length))[j]? =some V/\afj μ n v V:=by
 have N:=H.length;have M:cs.length<=cur.length:=by
  rcases QQX cs.length with h0 | h0
  .omega
  .obtain⟨V,hV,_⟩:=h (cs.length-1) cs[cs.length-1] (by simp)
   have:=gL hV;omega
 have S:(cs.take o).length=o:=by simp;omega
 have R:(cur.take o).length=o:=by simp;omega
 intro j v Z;rw[Y1] at Z |-;by_cases U:j<o
 .rw[GE (by omega),QQQ U] at Z
  rw[GE (by omega),QQQ U];exact h j v Z
 .rw[V1 (by omega),S] at Z
  rw[V1 (by omega),R];by_cases O:j-o<vs.length
  .rw[GE O] at Z
   rw[GE (by omega)];exact H.get _ v Z
  .rw[V1 (by omega),QQa] at Z
   rw[V1 (by omega),QQa];rw[show o+Vs.length+(j-o-Vs.length)=o+vs.length+(j-o-vs.length) by omega];exact h _ v Z
def G8(T:TypeId->Option TyI)(e:TypeId)(i:TyI):Bool:=match i.desc with
 |.struct fs=>match fs[0]? with
  |some f=>match T f.type with
   |some k=>match k.desc with
    |.pointer e' =>e' ==e
    |_=>false
   |none=>false
  |none=>false
 |_=>false
def tN(T:TypeId->Option TyI)(mem:Mem)(e:TypeId):Option (AV×Mem):=
 match T e with
 |some i=>some (.ptr mem.length 0,mem++[.cells true (if G8 T e i then 1000*(e+1) else 0) (ot i.zero).cells])
 |none=>none
theorem zd(I:afv base μ mem w)(e:TypeId)(es:Nat)(H:1000<=es->e+1=es / 1000)(h:afk μ mem.length cs V.cells.toList):
  agt P (do pure (.pointer (some (<-newVar e V)))) base μ mem w (.ptr mem.length 0) (mem++[.cells true es cs]):=by
 obtain⟨Z,S⟩:=sZ I e V.cells es H cs (fun j v R=>by obtain⟨U,O,N⟩:=h.get j v R;exact⟨U,by simpa using O,N⟩)
 refine⟨.pointer (some ⟨w.heap.size,0,none⟩),_,_,?_,?_,Z,S⟩
 .simp only[newVar,newRow,Sem.run_bind,run_newObj,Result.andThen_ok,Sem.run_pure]
  rfl
 .simp[afj,fL]
theorem KJ(hT:dN P T)(H:afv base μ mem w){e:TypeId}(h:tN T mem e=some (v,mem')):
  agt P (Instr.alloc e true (.tuple #[])) base μ mem w v mem' :=by
 unfold tN at h;split at h
 .rename_i i Z
  cases h;have:=zd (P:=P) H e (if G8 T e i then 1000*(e+1) else 0) (by cases G8 T e i with | false=>simp | true=>simp only[if_true];intro _;rw[Nat.mul_div_cancel_left _ (by omega)]) (V:=i.zero) (pP μ mem.length i.zero);obtain⟨V,w',μ',U,S⟩:=this;refine⟨V,w',μ',?_,S⟩;simp only[Instr.alloc,Sem.run_bind,fX hT Z,Result.andThen_ok];exact U
 .cases h
def Xn(mem:Mem)(x:AV):Option (AV×Mem):=if x.known then some (.ptr mem.length 0,mem++[.cells true 0 x.cells]) else none
theorem QX(H:afv base μ mem w){e:TypeId}(I:afj μ mem.length x X)(h:Xn mem x=some (v,mem')):
  agt P (Instr.box e X) base μ mem w v mem' :=by
 unfold Xn at h;split at h
 .rename_i Z
  cases h;exact zd (P:=P) H e 0 (by omega) (I.cells Z)
 .cases h
theorem KQ(hT:dN P T)(I:afv base μ mem w){t:TypeId}(hx:afj μ mem.length x X)(H:afj μ mem.length v V)(h:tP T mem t x v=some mem'):∃w',(Instr.storeAt t X V).run P w=.ok () w' /\afv base μ mem' w' /\Step mem.length μ mem w μ mem' w' :=by
 unfold tP at h;split at h
 .rename_i i b o ht
  split at h
  .rename_i es cs N
   split at h
   .rename_i B
    cases h;simp only[C0,Es,List.all_eq_true] at B;obtain⟨⟨⟨K,R⟩,G⟩,Zj⟩:=B;obtain⟨hbn,rfl⟩:=hx.ptr;have m:=I.slot b _ N;simp only[afx] at m;obtain⟨Z,el,fr,Y,g2,g3,W,g5⟩:=m;obtain⟨M,g7,g8,g9⟩:=g5 trivial;subst g7;have S:=H.cells K;have O:V.cells.size=i.size:=by rw[<-QQm,S.length,R]
    have h1:∀u∈V.cells.toList,u.oneCell' =true:=by
     intro u F;obtain⟨j,J⟩:=QXa F;have D :j<v.cells.length:=by rw[<-S.length];exact(gL J)
     obtain⟨U,L,C⟩:=S.get j v.cells[j] (by simp[D]);rw[J] at L;cases L;exact C.agG (Zj _ (by simp))
    have Za:=run_storeCells_at (P:=P) (μ b).blk o el V.cells.toList 0 Z w Y (by rw[S.length,R];omega) h1;refine⟨w.setRow (μ b).blk (Z.toList.take (o+0)++V.cells.toList++Z.toList.drop (o+0+V.cells.toList.length)).toArray,?_,I.write N (pQ N) (fun _=>⟨_,QQY (gL N),rfl⟩) rfl rfl rfl rfl (by simp[World.setRow]) (fun k K=>setRow_other w _ k _ K) ?_⟩
    .simp only[Instr.storeAt,Instr.sureAddr,Sem.run_bind,Sem.run_pure,Result.andThen_ok,storeVar,dJ hT ht,O,ne_eq,not_true_eq_false,if_false,M,QQZ]
     exact Za
    .simp only[afx]
     refine⟨_,el,(0,0),setRow_heap w (μ b).blk Z _ el (0,0) Y,g2,?_,fun j u F=>?_,fun _=>⟨M,rfl,?_,g9⟩⟩
     .simp only[SP,S2,QQj,R];omega
     .rw[M] at W
      have:=RH (cs:=cs) (vs:=v.cells) (Vs:=V.cells.toList) (o:=o) (cur:=Z.toList) (by rw[R];exact G) (fun j v H=>by simpa using W j v H) S j u (by rw[R];exact F);obtain⟨U,L,C⟩:=this;refine⟨U,?_,C⟩;rw[M];simpa using L
     .simp only[List.size_toArray,SP,S2,QQj,QQm,O];omega
   .cases h
  .cases h
 .cases h
end
end Go.Eng
namespace Go.Eng
section
variable {P:Program}{T:TypeId->Option TyI}{μ:Nat->Place}{mem:Mem}{base:Nat}{w:World}
def jU(z:List AV):Nat->List AV
 |0=>[]
 |k+1=>z++jU z k
theorem pZ(z:List AV):∀k,(jU z k).length=k*z.length
 |0=>by simp[jU]
 |k+1=>by simp[jU,pZ z k,Nat.add_mul,QXJ]
theorem ym{n:Nat}{z:List AV}{Z:Array Value}(hz:afk μ n z Z.toList):∀(k:Nat) (j:Nat) v,(jU z k)[j]? =some v->
  ∃V,Z[j%Z.size]! =V/\afj μ n v V/\j<k*Z.size
 |0,j,v,h=>by simp[jU] at h
 |k+1,j,v,h=>by
  have X:Z.size=z.length:=by rw[<-QQm,hz.length]
  rw[jU] at h;by_cases S:j<z.length
  .rw[GE S] at h
   obtain⟨V,hV,U⟩:=hz.get j v h;refine⟨V,?_,U,by rw[X,Nat.add_mul];omega⟩;rw[QQe (by omega)];have:Z[j]? =some V:=by simpa using hV
   simp[getElem!_def,this]
  .rw[V1 (by omega)] at h
   obtain⟨V,hV,U,R⟩:=ym hz k (j-z.length) v h;refine⟨V,?_,U,by rw[X] at R |-;rw[Nat.add_mul];omega⟩;rw[<-hV,X];congr 1;rw[Nat.mod_eq_sub_mod (by omega)]
theorem E6{Z:Array Value}{m j:Nat}(h:j<m):((Array.range m).map (fun i=>Z[i%Z.size]!))[j]? =some (Z[j%Z.size]!):=by simp[h]
def gA(T:TypeId->Option TyI)(mem:Mem)(t:TypeId)(H:Nat)(parts:List (Nat×AV)):Option (AV×Mem):=
 match T t with
 |none=>none
 |some i=>
  match i.desc with
  |.slice e=>
   match T e with
   |none=>none
   |some j=>
    if H*j.size<=16777216/\0<j.size/\j.size<1000 then
     match qo (fun k=>some (k*j.size,j.size)) (jU (ot j.zero).cells H) parts with
     |some cs=>some (.slice mem.length 0 H none,mem++[.cells true j.size cs])
     |none=>none
    else none
  |_=>none
theorem xI(hT:dN P T)(hH:afv base μ mem w){t:TypeId}{H:Nat}{parts:List (Nat×AV)}{I:List (Nat×Value)}{v:AV}{J :Mem}(hp:I.map (·.1)=parts.map (·.1))(hv:afk μ mem.length (parts.map (·.2)) (I.map (·.2)))(h:gA T mem t H parts=some (v,J)):
  agt P (Instr.buildSlice t H ⟨I⟩) base μ mem w v J :=by
 unfold gA at h;cases ht:T t with
 |none=>rw[ht] at h;cases h
 |some i=>
  rw[ht] at h;simp only at h;have o:=(hT t i ht).desc;split at h
  .rename_i e H'
   rw[H'] at o;split at h
   .cases h
   .rename_i j L
    split at h
    .rename_i Y
     split at h
     .rename_i cs W
      cases h;have hz:=pP μ mem.length j.zero;have R:=(hT e j L).ag2;have O:(ot j.zero).cells.length=j.size:=by rw[<-hz.length,QQm,R]
      have K:afk μ mem.length (jU (ot j.zero).cells H) ((Array.range (H*j.size)).map (fun i=>j.zero.cells[i%j.zero.cells.size]!)).toList:=by
       refine afk.agp (by simp[pZ,O]) fun q u G=>?_
       obtain⟨V,F,D,h3⟩:=ym hz H q u G;refine⟨V,?_,D⟩;have:=E6 (Z:=j.zero.cells) (m:=H*j.size) (j:=q) (by rw[R] at h3;exact h3);rw[F] at this;rw[Array.getElem?_toList];exact this
      obtain⟨Cs,hF,N⟩:=sR W K hp hv;obtain⟨F,D⟩:=sZ hH e ⟨Cs⟩ j.size (by omega) cs (fun q u G=>by obtain⟨U,hU,hr⟩:=N.get q u G;exact⟨U,by simpa using hU,hr⟩)
      have F':Cs.length=H*j.size:=by
       rw[N.length];have:∀{pl:Nat->Option (Nat×Nat)}{M:List (Nat×AV)}{a b:List AV},qo pl a M=some b->b.length=a.length:=by
        intro pl M;induction M with
        |nil=>intro a b X;simp only[qo,Pi] at X;rw[X]
        |cons p M ih=>
         obtain⟨pi,pv⟩:=p;intro a b X;rw[qo] at X;cases hpl:pl pi with
         |none=>rw[hpl] at X;cases X
         |some os=>
          obtain⟨off,size⟩:=os;rw[hpl] at X;simp only at X;split at X
          .rename_i C
           simp only[C0,Es] at C;rw[ih X];simp only[SP,S2,QQj];omega
          .cases X
       rw[this W,pZ,O]
      refine⟨.slice (some ⟨w.heap.size,0,none⟩) H H,_,_,?_,?_,F,D⟩
      .simp only[Instr.buildSlice,Sem.run_bind,run_underlying o,Result.andThen_ok,dJ hT L]
       rw[if_neg (by omega)];have S :=hF;rw[show(⟨((Array.range (H*j.size)).map (fun i=>j.zero.cells[i%j.zero.cells.size]!)).toList⟩:Array Value)=(Array.range (H*j.size)).map (fun i=>j.zero.cells[i%j.zero.cells.size]!) from rfl] at S;by_cases B:H*j.size=0
       .rw[if_pos B]
        rw[B] at S |-;simp only[Sem.run_bind,Sem.run_pure,Result.andThen_ok,Array.range_zero',Array.map_empty] at S |-;rw[S];simp only[newRow,Sem.run_bind,run_newObj,Result.andThen_ok,Sem.run_pure];rfl
       .rw[if_neg B]
        simp only[Sem.run_bind,Sem.run_pure,Result.andThen_ok,fX hT L];rw[S];simp only[newRow,Sem.run_bind,run_newObj,Result.andThen_ok,Sem.run_pure];rfl
      .simp only[afj,fL,rK,SP,List.length_singleton]
       refine⟨by omega,?_⟩;simp only[QQi,F',List.size_toArray,QQe Y.2.2,Nat.mul_div_cancel _ Y.2.1]
     .cases h
    .cases h
  .cases h
end
variable{n:Int}
theorem af(h0: -9223372036854775808<=n:=by omega)(Z:n<=9223372036854775807:=by omega):IntKind.i64.wrap n=n:=by simp only[IntKind.wrap,IntKind.bits,IntKind.signed,Bool.true_and,ge_iff_le,Es,Nat.reduceSub];split<;>omega
theorem cU(h0:0<=n)(h1:n<=18446744073709551615):IntKind.u64.wrap n=n:=by simp only[IntKind.wrap,IntKind.bits,IntKind.signed,Bool.false_and,Bool.false_eq_true,if_false];omega
section
variable {P:Program}{T:TypeId->Option TyI}{μ:Nat->Place}{mem:Mem}{base:Nat}{w:World}
def lD(T:TypeId->Option TyI)(mem:Mem)(t:TypeId)(l c:AV):Option (AV×Mem):=
 match T t with
 |none=>none
 |some i=>
  match i.desc,l,c with
  |.slice e,.int _ l,.int _ c=>
   match T e with
   |none=>none
   |some j=>
    if 0<=l/\l<=c/\(j.bytes:Int)*c<=281474976710656/\c<=281474976710656/\0<j.size/\j.size<1000 then
     some (.slice mem.length 0 l.toNat none,mem++[.cells true j.size (jU (ot j.zero).cells l.toNat)])
    else none
  |_,_,_=>none
theorem Aa(hT:dN P T)(I:afv base μ mem w){t:TypeId}{l c v:AV}{L C:Value}{H :Mem}(J:afj μ mem.length l L)(hc:afj μ mem.length c C)(h:lD T mem t l c=some (v,H)):
  agt P (Instr.makeSlice t L C) base μ mem w v H :=by
 unfold lD at h;cases ht:T t with
 |none=>rw[ht] at h;cases h
 |some i=>
  rw[ht] at h;simp only at h;have F:=(hT t i ht).desc;split at h
  .rename_i e k1 l k2 c B
   rw[B] at F;split at h
   .cases h
   .rename_i j S
    split at h
    .rename_i R
     obtain⟨g1,g2,g3,g4,o,Y⟩:=R;cases h;rw[J.int,hc.int];have D:=pP μ mem.length j.zero;have X:=(hT e j S).ag2;have W:(ot j.zero).cells.length=j.size:=by rw[<-D.length,QQm,X]
     obtain⟨f,hf,hfs,U,hfz⟩:=zk hT S w;have w1:IntKind.i64.wrap l=l:=af;have w2:IntKind.i64.wrap c=c:=af;obtain⟨h1,h2⟩:=sZ I e ((Array.range (c.toNat*j.size)).map (fun i=>j.zero.cells[i%j.zero.cells.size]!)) j.size (by omega) (jU (ot j.zero).cells l.toNat) (fun q u hu=>by obtain⟨V,e1,e2,e3⟩:=ym D _ q u hu;refine⟨V,?_,e2⟩;rw[X] at e3;have Zl:l.toNat*j.size<=c.toNat*j.size:=QQf _ (by omega);have:=E6 (Z:=j.zero.cells) (m:=c.toNat*j.size) (j:=q) (by omega);rw[e1] at this;exact this)
     refine⟨.slice (some ⟨w.heap.size,0,none⟩) l.toNat c.toNat,_,_,?_,?_,h1,h2⟩
     .have hb:¬(281474976710656<(f.bytes:Int)*c):=by rw[U];omega
      have ZF:¬((f.bytes:Int)*c>2 ^ 48):=by rw[U];omega
      have O:¬c<0:=by omega
      have N:¬l<0:=by omega
      have M:¬l>c:=by omega
      simp only[Instr.makeSlice,Sem.run_bind,run_underlying F,asInt,asIntOf,Sem.run_pure,Result.andThen_ok,hf,w1,w2];have Y8:((decide (c<0)||decide ((f.bytes:Int)*c>2 ^ 48))||decide (l<0)||decide (l>c))=false:=by simp[O,N,M,hb]
      simp only[Y8,Bool.false_eq_true,if_false];have K:∀n,(askRoom n).run P w=.ok () w:=by intro n;unfold askRoom;split<;>simp[mark,Sem.run]
      simp only[Sem.run_bind,K,Result.andThen_ok,dJ hT S];by_cases G:c.toNat*j.size=0
      .rw[if_pos G]
       rw[G];simp only[Sem.run_bind,Sem.run_pure,Result.andThen_ok,Array.range_zero',Array.map_empty,newRow,run_newObj];rfl
      .rw[if_neg G]
       simp only[Sem.run_bind,Sem.run_pure,Result.andThen_ok,fX hT S,newRow,run_newObj];rfl
     .simp only[afj,fL,rK,SP,List.length_singleton]
      refine⟨by omega,?_⟩;simp only[QQi,Array.size_map,Array.size_range,QQe Y,Nat.mul_div_cancel _ o]
    .cases h
  .cases h
def pW(T:TypeId->Option TyI)(mem:Mem)(H:Nat)(t2:TypeId):AV->Option (Nat×List AV)
 |.qF=>some (0,[])
 |.slice b o m _=>match mem[b]? with
  |some (.cells _ _ cs)=>if o+m*H<=cs.length then some (m,(cs.drop o).take (m*H)) else none
  |_=>if m=0 then some (0,[]) else none
 |.str s=>match T t2 with
  |some i=>match i.desc with
   |.string=>if H=1 then some (s.length,s.map fun c=>.int .u8 c.toNat) else none
   |_=>none
  |none=>none
 |_=>none
def Mh(i:TyI):Bool:=match i.desc with
 |.slice _=>true
 |.string=>true
 |_=>false
def CS(j:TyI)(e:TypeId):Nat:=match j.desc with
 |.int .u8=>j.size+1000*(e+1)
 |_=>j.size
def pw(T:TypeId->Option TyI)(mem:Mem)(t t2:TypeId)(s x:AV):Option (AV×Mem):=
 match T t with
 |none=>none
 |some i=>
  match i.desc with
  |.slice e=>
   match T e,T t2 with
   |some j,some i2=>
    if j.size=0\/1000<=j.size\/Mh i2=false then none else
    match pW T mem j.size t2 x with
    |none=>none
    |some (m,news)=>
     if news.all AV.afi=true then
      match s with
      |.qF=>
       if m=0 then some (.qF,mem)
       else if m*j.bytes<=140737488355328/\m<=140737488355328 then some (.slice mem.length 0 m none,mem++[.cells true (CS j e) news])
       else none
      |.slice b 0 n none=>
       match mem[b]? with
       |some (.cells true es cs)=>
        if (es=j.size\/es=CS j e)/\n*j.size<=cs.length/\(n+m)*j.bytes<=140737488355328/\n+m<=140737488355328 then
         some (.slice mem.length 0 (n+m) none,mem.set b .qK++[.cells true es (cs.take (n*j.size)++news)])
        else none
       |_=>none
      |_=>none
     else none
   |_,_=>none
  |_=>none
theorem Ea(J:afv base μ mem w){H:Nat}{t2:TypeId}{x:AV}{X:Value}{m:Nat}{news:List AV}(I:afj μ mem.length x X)(h:pW T mem H t2 x=some (m,news)):
  ∃U,afk μ mem.length news U/\news.length=m*H/\(Builtin.lenOf X).run P w=.ok m w/\
   ∀w',(∀a,w'.cell? a=w.cell? a)->(Builtin.firstCells H m X).run P w' =.ok ⟨U⟩ w' :=by
 unfold pW at h;split at h
 .cases h
  simp only[afj] at I;subst I;exact⟨[],by simp[afk],by simp,by simp[Builtin.lenOf],fun w' _=>by simp[Builtin.firstCells]⟩
 .rename_i b o k c
  split at h
  .rename_i own es D O
   split at h
   .rename_i N
    cases h;obtain⟨V,rfl⟩:=I.slice;obtain⟨S,M,L,h3⟩:=J.cells O N;refine⟨S,M,by simp;omega,by simp[Builtin.lenOf],fun w' R=>?_⟩;exact run_firstCells_some w' H m _ _ _ S L (fun j v Z=>by rw[R];exact h3 j v Z)
   .cases h
  .split at h
   .rename_i K
    cases h;subst K;obtain⟨V,rfl⟩:=I.slice;refine⟨[],by simp[afk],by simp,by simp[Builtin.lenOf],fun w' R=>?_⟩;exact run_firstCells_some w' H 0 _ _ _ [] (by simp) (fun j v Z=>by simp at Z)
   .cases h
 .rename_i s
  split at h
  .split at h
   .split at h
    .rename_i G
     cases h;subst G;rw[I.str];refine⟨s.map fun c=>.int .u8 c.toNat,?_,by simp,by simp[Builtin.lenOf,sN],fun w' _=>?_⟩
     .refine afk.agp (by simp) fun i v Z=>?_
      simp only[Zo,Y2] at Z |-;obtain⟨c,F,rfl⟩:=Z;exact⟨_,⟨c,F,rfl⟩,by simp[afj]⟩
     .simp only[Builtin.firstCells,Sem.run_pure,Result.ok.injEq,and_true]
      have:(ByteArray.mk s.toArray).extract 0 s.length=⟨s.toArray⟩:=by apply ByteArray.ext;apply Array.ext';simp[List.extract]
      rw[this];simp
    .cases h
   .cases h
  .cases h
 .cases h
end
end Go.Eng
namespace Go.Eng
variable{b:Nat}{j:TyI}
section
variable {P:Program}{T:TypeId->Option TyI}{μ:Nat->Place}{mem:Mem}{base:Nat}{w:World}
section
variable (hT:dN P T){t t2 ty e:TypeId}(hd:P.underlying t=some (.slice e))(hj:T e=some j)(ht2:(∃e2,P.underlying t2=some (.slice e2))\/P.underlying t2=some .string)(bs:Option Addr)
include hT t t2 ty e hd hj ht2 bs
theorem BT(n c m:Nat)(X:Value)(w:World)(I:(Builtin.lenOf X).run P w=.ok m w)(H:n+m<=c):
  (Builtin.append_ #[t,t2] ty #[.slice bs n c,X]).run P w=
   ((Builtin.firstCells j.size m X).run P w).andThen fun V w' =>match bs with
    |some a=>((storeCells (a.add (n*j.size)) V.toList).run P w').andThen fun _ U =>.ok (.slice bs (n+m) c) U
    |none=>.ok (.slice bs (n+m) c) w' :=by
 rcases ht2 with⟨S,Z⟩ | Z<;>
  simp[Builtin.append_,run_underlying hd,run_underlying Z,dJ hT hj,I,H]<;>cases bs<;>simp
theorem BS(n c m:Nat)(X:Value)(w:World)(Os I:List Value)(J:(Builtin.lenOf X).run P w=.ok m w)(H:c<n+m)(W:(n+m)*j.bytes<=140737488355328)(hm:n+m<=140737488355328)(Y:(Builtin.firstCells j.size n (.slice bs n c)).run P w.drew=.ok ⟨Os⟩ w.drew)(hN:(Builtin.firstCells j.size m X).run P w.drew=.ok ⟨I⟩ w.drew):
  ∃V,n+m<=V/\(Builtin.append_ #[t,t2] ty #[.slice bs n c,X]).run P w=
   .ok (.slice (some ⟨w.heap.size,0,none⟩) (n+m) V) (w.drew.alloc (.cells (⟨Os⟩++(⟨I⟩++Builtin.zeroCells j.zero.cells (V-(n+m)))) e)):=by
 obtain⟨f,K,U,S,R⟩:=(hT e j hj).info;have O:¬(n+m<=c):=by omega
 have N:¬(9223372036854775807<((n:Int)+(m:Int))):=by omega
 have M:¬(281474976710656<Builtin.nextslicecap (n+m) c*f.bytes):=by have:=growslice_fits H (bytes:=f.bytes) (by rw[S];exact W);omega
 have L:∀n w,(askRoom n).run P w=.ok () w:=by intro n w;unfold askRoom;split<;>simp[mark,Sem.run]
 refine⟨grownCap w (n+m) c e,grownCap_ge w (n+m) c e,?_⟩;rcases ht2 with⟨G,Z⟩ | Z<;>
  simp[Builtin.append_,run_underlying hd,run_underlying Z,sizeOf,typeInfo,zeroValue,K,U,R,J,O,N,M,Question.forced,Y,hN,newRow,grownCap,L]
end
theorem afv.drop{s:afl}(H:afv base μ mem w)(I:mem[b]? =some s):afv base μ (mem.set b .qK) w:=by
 have R:b<mem.length:=gL I;have own:∀x,eJ (mem.set b .qK) x->eJ mem x/\x≠b:=by
  intro x V;by_cases Z:x=b
  .subst Z
   obtain⟨M,X,O⟩:=V;rw[QQY R] at X;cases X;cases O
  .obtain⟨M,X,O⟩:=V
   rw[QQK (Ne.symm Z)] at X;exact⟨⟨M,X,O⟩,Z⟩
 refine⟨H.afr,fun x t U=>?_,fun x L t V S K N=>?_⟩
 .rw[QQc]
  by_cases Z:x=b
  .subst Z;rw[QQY R] at U;cases U;trivial
  .rw[QQK (Ne.symm Z)] at U;exact H.slot x t U
 .by_cases Z:L =b
  .subst Z;rw[QQY R] at S;cases S;exact absurd rfl K
  .rw[QQK (Ne.symm Z)] at S
   exact H.sep x L t (own x V).1 S K N
theorem Step.drop{m0:Nat}{μ:Nat->Place}{mem:Mem}{w:World}(h:m0<=mem.length):Step m0 μ mem w μ (mem.set b .qK) w:=by
 refine⟨by simpa using h,fun _ _=>rfl,rfl,rfl,rfl,L9 _,fun _ _ _=>rfl,fun x V _=>⟨x,?_,rfl⟩,L9 _⟩;by_cases S:x=b
 .subst S
  by_cases R:x<mem.length
  .obtain⟨U,Z,X⟩:=V
   rw[QQY R] at Z;cases Z;cases X
  .obtain⟨U,Z,X⟩:=V
   have:=gL Z;simp at this;omega
 .obtain⟨U,Z,X⟩:=V
  rw[QQK (Ne.symm S)] at Z;exact⟨U,Z,X⟩
theorem afv.rename{es:Nat}{cs H :List AV}{w' :World}(hH:afv base μ mem w)(hb:mem[b]? =some (.cells true es cs))(I:w'.drawn=w.drawn)(J:w'.os=w.os)(W:w'.tape=w.tape)(Y:w'.output=w.output)(ZH:w'.heap.size=w.heap.size)(abE:∀k,k≠(μ b).blk->w'.heap[k]? =w.heap[k]?)(hs:afx μ mem.length base w' (μ b) (.cells true es H)):
  afv base (upd μ mem.length (μ b)) (mem.set b .qK++[.cells true es H]) w' /\
  Step mem.length μ mem w (upd μ mem.length (μ b)) (mem.set b .qK++[.cells true es H]) w' :=by
 have G:b<mem.length:=gL hb;have F:eJ mem b:=pQ hb;have hw:=hH.write (s' :=.cells true es H) hb F (fun _=>⟨_,QQY G,rfl⟩) I J W Y ZH abE hs;have hμ:∀x,x<mem.length->upd μ mem.length (μ b) x=μ x:=fun x V=>w9 V
 have F':(mem.set b .qK).length=mem.length:=by simp
 have own:∀x,eJ (mem.set b .qK++[.cells true es H]) x->(x<mem.length/\x≠b/\eJ mem x)\/x=mem.length:=by
  intro x V;by_cases U:x<mem.length
  .refine .inl ⟨U,?_⟩
   have D :eJ (mem.set b .qK) x:=by obtain⟨M,Z,O⟩:=V;rw[GE (by omega)] at Z;exact⟨M,Z,O⟩
   by_cases S:x=b
   .subst S
    obtain⟨M,Z,O⟩:=D;rw[QQY G] at Z;cases Z;cases O
   .refine⟨S,?_⟩
    obtain⟨M,Z,O⟩:=D;rw[QQK (Ne.symm S)] at Z;exact⟨M,Z,O⟩
  .refine .inr ?_
   obtain⟨M,Z,O⟩:=V;have:=gL Z;simp at this;omega
 constructor
 .refine⟨hw.1.afr,fun x t X=>?_,fun x L t V D u K=>?_⟩
  .rw[SP,List.length_singleton,F']
   by_cases U:x<mem.length
   .rw[GE (by omega)] at X
    rw[hμ x U];by_cases S:x=b
    .subst S;rw[QQY G] at X;cases X;trivial
    .rw[QQK (Ne.symm S)] at X
     have:=hw.1.slot x t (by rw[QQK (Ne.symm S)];exact X);rw[QQc] at this;exact this.mono (Nat.le_succ _) hμ fun _=>rfl
   .have o:x=mem.length:=by have:=gL X;simp at this;omega
    subst o;rw[V1 (by omega),F'] at X;simp at X;subst X;rw[fL];exact hs.mono (Nat.le_succ _) hμ fun _=>rfl
  .have m:∀y s,(mem.set b .qK++[.cells true es H])[y]? =some s->s≠ .qK->(y<mem.length/\y≠b/\mem[y]? =some s)\/y=mem.length:=by
    intro y s N hns;by_cases hyl:y<mem.length
    .rw[GE (by omega)] at N
     by_cases R:y=b
     .subst R;rw[QQY G] at N;cases N;exact absurd rfl hns
     .rw[QQK (Ne.symm R)] at N;exact .inl ⟨hyl,R,N⟩
    .exact .inr (by have:=gL N;simp at this;omega)
   rcases own x V with⟨C,a2,B⟩ | rfl<;>rcases m L t D u with⟨b1,b2,b3⟩ | rfl
   .rw[hμ x C,hμ L b1];exact hH.sep x L t B b3 u K
   .rw[hμ x C,fL];exact hH.sep x b _ B hb (by simp) a2
   .rw[hμ L b1,fL];exact hH.sep b L t F b3 u (Ne.symm b2)
   .exact absurd rfl K
 .refine⟨by simp,hμ,J,W,Y,by omega,fun k hk hf=>abE k fun he=>hf b F he.symm,fun x V Y5 =>?_,Nat.le_of_eq I.symm⟩
  rcases own x V with⟨C,_,B⟩ | rfl
  .exact⟨x,B,by rw[hμ x C]⟩
  .exact⟨b,F,by rw[fL]⟩
end
end Go.Eng
namespace Go.Eng
section
variable {P:Program}{T:TypeId->Option TyI}{μ:Nat->Place}{mem:Mem}{base:Nat}{w:World}
theorem afv.drew(h:afv base μ mem w):afv base μ mem w.drew:=h.agn rfl
theorem afk.agu{n:Nat}{vs:List AV}{Vs:List Value}(h:afk μ n vs Vs)(H:vs.all AV.afi=true):∀u∈Vs,u.oneCell' =true:=by
 intro u V;obtain⟨j,Z⟩:=QXa V;have S:j<vs.length:=by rw[<-h.length];exact(gL Z)
 obtain⟨U,X,R⟩:=h.get j vs[j] (by simp[S]);rw[Z] at X;cases X;exact R.agG (List.all_eq_true.1 H _ (by simp))
theorem Ps{j:TyI}{e:TypeId}(h:j.size<1000):CS j e%1000=j.size/\(1000<=CS j e->e+1=CS j e / 1000):=by
 unfold CS;split
 .refine⟨by rw[Nat.add_mul_mod_self_left,QQe h],fun _=>by rw[Nat.add_mul_div_left _ _ (by omega),Nat.div_eq_of_lt h,QQZ]⟩
 .exact⟨QQe h,fun Z=>by omega⟩
theorem S0(hH:afv base μ mem w){e:TypeId}{H I J es:Nat}(W:es%1000=H/\(1000<=es->e+1=es / 1000)){olds news:List AV}{Os Y:List Value}{z:Array Value}(h0:0<H)(hz:z.size=H)(hO:afk μ mem.length olds Os)(hN:afk μ mem.length news Y)(hl:olds.length+news.length=I*H)(hnc:I<=J){x:Sem Value}(hx:x.run P w=.ok (.slice (some ⟨w.heap.size,0,none⟩) I J) (w.drew.alloc (.cells (⟨Os⟩++(⟨Y⟩++Builtin.zeroCells z (J-I))) e))):
  agt P x base μ mem w (.slice mem.length 0 I none) (mem++[.cells true es (olds++news)]):=by
 have X:(⟨Os⟩++(⟨Y⟩++Builtin.zeroCells z (J-I)):Array Value).size=J*H:=by simp only[Array.size_append,List.size_toArray,size_zeroCells,hz,hO.length,hN.length];rw[<-QXX,hl,<-Nat.add_mul];congr 1;omega
 obtain⟨V,S⟩:=sZ hH.drew e (⟨Os⟩++(⟨Y⟩++Builtin.zeroCells z (J-I))) es W.2 (olds++news) (fun j v R=>by obtain⟨U,Z,O⟩:=(hO.append hN).get j v R;refine⟨U,?_,O⟩;have N:j<(Os++Y).length:=gL Z;rw[<-Array.append_assoc,Array.getElem?_append_left (by simpa using N)];simpa using Z)
 refine⟨_,_,_,hx,?_,V,?_⟩
 .simp only[afj,fL,rK,SP,List.length_singleton,World.size_drew]
  refine⟨by omega,?_⟩;rw[QQi,X,W.1,Nat.mul_div_cancel _ h0]
 .exact(Step.drew (m0:=mem.length) (L9 _)).trans S
theorem Gp(hT:dN P T)(I:afv base μ mem w){t t2 ty:TypeId}{s x v:AV}{S X:Value}{H :Mem}(hs:afj μ mem.length s S)(hx:afj μ mem.length x X)(h:pw T mem t t2 s x=some (v,H)):
  agt P (Builtin.append_ #[t,t2] ty #[S,X]) base μ mem w v H :=by
 unfold pw at h;cases ht:T t with
 |none=>rw[ht] at h;cases h
 |some i=>
  rw[ht] at h;simp only at h;have C:=(hT t i ht).desc;split at h
  .rename_i e H'
   rw[H'] at C;split at h
   .rename_i j i2 B hi2
    split at h
    .cases h
    .rename_i Y8
     have N:=(hT t2 i2 hi2).desc;have M:(∃Y,P.underlying t2=some (.slice Y))\/P.underlying t2=some .string:=by
      have Zj:Mh i2=true:=by
       cases W:Mh i2 with
       |true=>rfl
       |false=>exact absurd (.inr (.inr W)) Y8
      unfold Mh at Zj;split at Zj
      next Y W=>rw[W] at N;exact .inl ⟨Y,N⟩
      next W=>rw[W] at N;exact .inr N
      .cases Zj
     have ZH:0<j.size:=by
      rcases QQX j.size with h0 | h0
      .exact absurd (.inl h0) Y8
      .exact h0
     have G:j.size<1000:=by
      rcases Nat.lt_or_ge j.size 1000 with h0 | h0
      .exact h0
      .exact absurd (.inr (.inl h0)) Y8
     have J:=(hT e j B).ag2;split at h
     .cases h
     .rename_i m Z adO
      split at h
      .rename_i PP
       obtain⟨K,g1,g2,g3,g4⟩:=Ea (P:=P) I hx adO;split at h
       .
        simp only[afj] at hs;subst hs;split at h
        .rename_i hm
         cases h;subst hm;have O:=BT hT (ty:=ty) C B M none 0 0 0 X w g3 (L9 _);rw[g4 w (fun _=>rfl)] at O;exact agt.afH I ⟨_,O,by simp[afj]⟩
        .rename_i hm
         split at h
         .rename_i F
          cases h;obtain⟨nc,L,O⟩:=BS hT (ty:=ty) C B M none 0 0 m X w [] K g3 (by omega) (by simpa using F.1) (by simpa using F.2) (by simp[Builtin.firstCells]) (g4 w.drew (fun _=>rfl));simp only[QQZ] at O L;have:=S0 (P:=P) I (es:=CS j e) (Ps G) (olds:=[]) (news:=Z) ZH J (by simp[afk]) g1 (by simpa using g2) L O;simpa using this
         .cases h
       .rename_i b n
        split at h
        .rename_i es cs F
         split at h
         .rename_i hc
          obtain⟨k1,k2,k3,k4⟩:=hc;cases h;obtain⟨hbn,rfl⟩:=hs.slice;have hsl:=I.slot b _ F;simp only[afx] at hsl;obtain⟨R,el,fr,s1,s2,s3,s4,s5⟩:=hsl;obtain⟨s6,s7,s8,s9⟩:=s5 trivial;subst s7;have hes:es%1000=j.size/\(1000<=es->e+1=es / 1000):=by
           rcases k1 with rfl | rfl
           .exact⟨QQe G,fun h1=>by omega⟩
           .exact Ps G
          have s2' :(μ b).es=j.size:=by rw[s2.1];exact hes.1
          have aa8:rK (μ b) 0 none=(μ b).tot / j.size:=by simp[rK,s2']
          have ac8:(μ b).off+0=0:=by omega
          rw[ac8,aa8];obtain⟨Os,o1,o2,o3⟩:=I.cells F (o:=0) (k:=n*j.size) (by omega);simp only[List.drop_zero] at o1;rw[ac8] at o3;have ae7:0<j.size:=ZH;by_cases aap:n+m<=(μ b).tot / j.size
          .have O:=BT hT (ty:=ty) C B M (some ⟨(μ b).blk,0,none⟩) n _ m X w g3 aap
           rw[g4 w (fun _=>rfl)] at O;have D:(n+m)*j.size<=(μ b).tot:=by have:=QQf j.size aap;exact QQJ this (Nat.div_mul_le_self _ _)
           have hNl:K.length=m*j.size:=by rw[g1.length,g2,]
           have Za:=run_storeCells_at (P:=P) (μ b).blk (n*j.size) el K 0 R w s1 (by rw[hNl,s8,Nat.add_zero,<-Nat.add_mul];exact D) (g1.agu PP);simp only[Result.andThen_ok,Addr.add_lit,QQZ,Za] at O;have F':cs.length<=R.size:=by rw[s8];exact s3
           have Z9 :afx μ mem.length base (w.setRow (μ b).blk (R.toList.take (n*j.size+0)++K++R.toList.drop (n*j.size+0+K.length)).toArray) (μ b) (.cells true es (cs.take (n*j.size)++Z)):=by
            simp only[afx];refine⟨_,el,(0,0),setRow_heap w (μ b).blk R _ el (0,0) s1,s2,?_,fun q u hu=>?_,fun _=>⟨s6,rfl,?_,s9⟩⟩
            .simp only[SP,S2,g2]
             rw[Nat.add_mul] at D;omega
            .rw[s6,QQZ]
             have e1:(cs.take (n*j.size)).length=n*j.size:=by simp;omega
             have Y:(R.toList.take (n*j.size+0)).length=n*j.size:=by simp;omega
             simp only[List.getElem?_toArray,Y1];by_cases hq:q<n*j.size
             .rw[GE (by omega),QQQ hq] at hu
              rw[GE (by omega),QQQ (by omega)];obtain⟨U,hU,O⟩:=s4 q u hu;rw[s6,QQZ] at hU;exact⟨U,by simpa using hU,O⟩
             .rw[V1 (by omega),e1] at hu
              rw[V1 (by omega),Y];obtain⟨U,hU,O⟩:=g1.get _ u hu;rw[GE (gL hU)];exact⟨U,hU,O⟩
            .simp only[List.size_toArray,SP,S2,QQj,QQm,hNl]
             rw[Nat.add_mul] at D;omega
           obtain⟨r1,r2⟩:=I.rename (w' :=w.setRow (μ b).blk (R.toList.take (n*j.size+0)++K++R.toList.drop (n*j.size+0+K.length)).toArray) F rfl rfl rfl rfl (by simp[World.setRow]) (fun k hk=>setRow_other w _ k _ hk) Z9;refine⟨_,_,_,O,?_,r1,r2⟩;simp only[afj,fL,rK,SP,QQc,List.length_singleton];refine⟨by omega,?_⟩;rw[s2',s6];rfl
          .have hO:(Builtin.firstCells j.size n (.slice (some ⟨(μ b).blk,0,none⟩) n ((μ b).tot / j.size))).run P w.drew=.ok ⟨Os⟩ w.drew:=
            run_firstCells_some w.drew j.size n _ _ _ Os (by rw[o2,]) (fun q u hq=>o3 q u hq)
           obtain⟨nc,L,O⟩:=BS hT (ty:=ty) C B M (some ⟨(μ b).blk,0,none⟩) n _ m X w Os K g3 (by omega) k3 k4 hO (g4 w.drew (fun _=>rfl));have hH2:=I.drop F;have F':(mem.set b .qK).length=mem.length:=by simp
           have:=S0 (P:=P) hH2 (es:=es) hes (olds:=cs.take (n*j.size)) (news:=Z) ZH J (by rw[F'];exact o1) (by rw[F'];exact g1) (by rw[S2,g2,Nat.add_mul];omega) L O;obtain⟨V,w',μ',q1,q2,q3,q4⟩:=this;rw[] at q2 q3 q4;rw[F'] at q2 q4;exact⟨V,w',μ',q1,q2,q3,(Step.drop (b:=b) (L9 _)).trans q4⟩
         .cases h
        .cases h
       .cases h
      .cases h
   .cases h
  .cases h
end
def Tv(T:TypeId->Option TyI)(q:TypeId->AV->Bool)(H:List AV):List Field->Bool
 | []=>true
 |f::fs=>
  match T f.type with
  |none=>false
  |some i=>match jV i H f.offset with
   |some a=>q f.type a&&Tv T q H fs
   |none=>false
def Ly(q:AV->Bool)(i:TyI)(H:List AV):List Nat->Bool
 | []=>true
 |j::js=>match jV i H (j*i.size) with
  |some a=>q a&&Ly q i H js
  |none=>false
def mC(T:TypeId->Option TyI):Nat->TypeId->AV->Bool
 |0,_,_=>false
 |d+1,t,x=>
  match T t with
  |none=>false
  |some i=>
   match i.desc,x with
   |.bool,.bool _=>true
   |.int _,.int _ _=>true
   |.string,.str _=>true
   |.struct fs,.agg xs=>Tv T (mC T d) xs fs.toList
   |.array n e,.agg xs=>match T e with
    |some j=>Ly (mC T d e) j xs (List.range' 0 n)
    |none=>false
   |_,_=>false
def kc(T:TypeId->Option TyI)(H:TypeId)(k:AV):List (AV×AV)->Nat->Option (Option (Nat×AV))
 | [],_=>some none
 |e::es,i=>match k9 T 20 H k e.1 with
  |some true=>some (some (i,e.2))
  |some false=>kc T H k es (i+1)
  |none=>none
def AV.af7:AV->Bool
 |.bool _ | .int _ _ | .str _=>true
 |_=>false
def ky(mem:Mem):AV->Option (List (AV×AV))
 |.afG=>some []
 |.map b=>match mem[b]? with
  |some (.map es)=>some es
  |some (.afS es)=>some es
  |_=>none
 |_=>none
def lV(T:TypeId->Option TyI)(mem:Mem)(t:TypeId)(m k:AV)(ok:Bool):Option AV:=
 match T t with
 |none=>none
 |some i=>
  match i.desc with
  |.map kt et=>
   match T et,ky mem m with
   |some j,some es=>
    if mC T 20 kt k then
     match kc T kt k es 0 with
     |some (some (_,v))=>some (if ok then .tuple [v,.bool true] else v)
     |some none=>some (if ok then .tuple [ot j.zero,.bool false] else ot j.zero)
     |none=>none
    else none
   |_,_=>none
  |_=>none
def fP(T:TypeId->Option TyI)(mem:Mem)(t:TypeId)(m k v:AV):Option Mem:=
 match T t with
 |none=>none
 |some i=>
  match i.desc,m with
  |.map kt _,.map b=>
   match mem[b]? with
   |some (.map es)=>
    if mC T 20 kt k then
     match kc T kt k es 0 with
     |some (some (i,_))=>if k.af7 then some (mem.set b (.map (es.set i (k,v)))) else none
     |some none=>some (mem.set b (.map (es++[(k,v)])))
     |none=>none
    else none
   |_=>none
  |_,_=>none
variable{K:Value}{k:AV}
section
variable {P:Program}{T:TypeId->Option TyI}{μ:Nat->Place}{mem:Mem}{base:Nat}{w:World}{n:Nat}
theorem Ck(hT:dN P T){d:Nat}{q:TypeId->AV->Bool}{em:Bool}
  (I:∀{t:TypeId}{x:AV}{X:Value},q t x=true->afj μ n x X->∀(w:World),(Instr.checkKey em d t X).run P w=.ok () w)
  {J:List AV}{W:List Value}(Y:afk μ n J W) (w:World):∀{H:List Field},Tv T q J H=true->
  ((forIn H PUnit.unit fun f _=>(do
    if f.name ≠ "_" then
     let a <-part f.type ⟨W⟩ f.offset
     Instr.checkKey em d f.type a
     pure (ForInStep.yield PUnit.unit)
    else pure (ForInStep.yield PUnit.unit):Sem (ForInStep PUnit))).run P w=.ok PUnit.unit w)
 | [],_=>by simp
 |f::H,h=>by
  rw[Tv] at h;split at h
  .cases h
  .rename_i i S
   split at h
   .rename_i a R
    simp only[C0] at h;obtain⟨A,O,V⟩:=jA (P:=P) (μ:=μ) (n:=n) hT S R Y w;have N:=I h.1 V w;have U:=Ck hT I Y w h.2;rw[List.forIn_cons];by_cases Z:f.name = "_"
    .simp only[Z,ne_eq,not_true_eq_false,if_false,pure_bind]
     simp only[ne_eq] at U;exact U
    .simp only[Z,ne_eq,not_false_eq_true,if_true,Sem.run_bind,O,N,Result.andThen_ok,Sem.run_pure]
     exact U
   .cases h
theorem Cj(hT:dN P T){d:Nat}{e:TypeId}{i:TyI}(H:T e=some i){q:AV->Bool}{em:Bool}
  (J:∀{x:AV}{X:Value},q x=true->afj μ n x X->∀(w:World),(Instr.checkKey em d e X).run P w=.ok () w)
  {W:List AV}{Y:List Value}(hx:afk μ n W Y) (w:World):∀{I:List Nat},Ly q i W I=true->
  ((forIn I PUnit.unit fun j _=>(do
    let s <-sizeOf e
    let a <-part e ⟨Y⟩ (j*s)
    Instr.checkKey em d e a
    pure (ForInStep.yield PUnit.unit):Sem (ForInStep PUnit))).run P w=.ok PUnit.unit w)
 | [],_=>by simp
 |j::I,h=>by
  rw[Ly] at h;split at h
  .rename_i a V
   simp only[C0] at h;obtain⟨A,U,Z⟩:=jA (P:=P) (μ:=μ) (n:=n) hT H V hx w;have S:=J h.1 Z w;have R:=Cj hT H J hx w h.2;rw[List.forIn_cons];simp only[Sem.run_bind,dJ hT H,U,S,Result.andThen_ok,Sem.run_pure];exact R
  .cases h
theorem me(hT:dN P T)(em:Bool):∀(d:Nat) {t:TypeId} {x:AV} {X:Value},mC T d t x=true->afj μ n x X->
  ∀(k:Nat) (w:World),(Instr.checkKey em (d+k) t X).run P w=.ok () w
 |0,_,_,_,h,_,_,_=>by simp[mC] at h
 |d+1,t,x,X,h,hx,k,w=>by
  rw[mC] at h;rw[show d+1+k=d+k+1 by omega];cases ht:T t with
  |none=>rw[ht] at h;cases h
  |some i=>
   rw[ht] at h;simp only at h;have Z:=(hT t i ht).desc;split at h
   next V=>rw[V] at Z;rw[hx.bool,Instr.checkKey];simp[run_underlying Z]
   next V=>rw[V] at Z;rw[hx.int,Instr.checkKey];simp[run_underlying Z]
   next V=>rw[V] at Z;rw[hx.str,Instr.checkKey];simp[run_underlying Z]
   .rename_i L O V
    rw[V] at Z;obtain⟨N,rfl,U⟩:=hx.agg;have:=Ck (em:=em) hT (fun S R w=>me hT em d S R k w) U w h;rw[Instr.checkKey];simp only[Sem.run_bind,run_underlying Z,Result.andThen_ok];rw[<-Array.forIn_toList];rw[this];rfl
   .rename_i m e O V
    rw[V] at Z;split at h
    .rename_i j M
     obtain⟨N,rfl,U⟩:=hx.agg;have:=Cj (em:=em) hT M (fun S R w=>me hT em d S R k w) U w h;rw[Instr.checkKey];simp only[Sem.run_bind,run_underlying Z,Result.andThen_ok];simp only[Std.Legacy.Range.forIn_eq_forIn_range',Std.Legacy.Range.size,QQi,Nat.add_sub_cancel,Nat.div_one];rw[this];rfl
    .cases h
   .cases h
def OQ(μ:Nat->Place)(n:Nat):Option (Nat×AV)->Option (Nat×Value)->Prop
 |some (a,v),some (b,V)=>a=b/\afj μ n v V
 |none,none=>True
 |_,_=>False
theorem qe(hT:dN P T){I:TypeId}{k:AV}{K:Value}(J:afj μ n k K)(w:World):∀{es:List (AV×AV)} {H:List MapEntry} {i:Nat} {r:Option (Nat×AV)},
  H.length=es.length->(∀(j:Nat) e,es[j]? =some e->∃E,H[j]? =some E/\PE μ n e E)->kc T I k es i=some r->
  ∃R,(Instr.findAsking I K H i).run P w=.ok R w/\OQ μ n r R
 | [],H,i,r,hl,_,h=>by have:H=[]:=Mp hl;subst this;simp only[kc,Pi] at h;subst h;exact⟨none,by simp[Instr.findAsking],trivial⟩
 |e::es,[],i,r,hl,_,h=>by simp at hl
 |e::es,E::H,i,r,hl,hr,h=>by
  rw[kc] at h;obtain⟨X,S,V⟩:=hr 0 e rfl;simp at S;subst S;have O:∀(j:Nat) Z,es[j]? =some Z ->∃X,H[j]? =some X /\PE μ n Z X :=fun j Z N=>by simpa using hr (j+1) Z (by simpa using N)
  split at h
  .rename_i U
   cases h;have:=jy hT 20 U J V.1 9980 w;refine⟨some (i,E.val),?_,rfl,V.2⟩;simp only[Instr.findAsking,Sem.run_bind];rw[show Op.equal I K E.key=Op.equalIn (20+9980) I K E.key from rfl,this];simp
  .rename_i U
   have:=jy hT 20 U J V.1 9980 w;obtain⟨R,M,L⟩:=qe hT J w (by simpa using hl) O h;refine⟨R,?_,L⟩;simp only[Instr.findAsking,Sem.run_bind];rw[show Op.equal I K E.key=Op.equalIn (20+9980) I K E.key from rfl,this];simpa using M
  .cases h
theorem tQ(hT:dN P T){H:TypeId}{kd:TypeDesc}(J:P.underlying H=some kd){k:AV}{K:Value}(W:afj μ n k K)(w:World):
  ∀{es:List (AV×AV)}{I:List MapEntry}{i:Nat}{r:Option (Nat×AV)}{R:Option (Nat×Value)},
  I.length=es.length->(∀(j:Nat) e,es[j]? =some e->∃E,I[j]? =some E/\PE μ n e E)->kc T H k es i=some r->Instr.findNow kd K I i=some R->
  (Instr.findAsking H K I i).run P w=.ok R w
 | [],I,i,r,R,hl,_,_,h=>by have:I=[]:=Mp hl;subst this;simp only[Instr.findNow,Pi] at h;subst h;simp[Instr.findAsking]
 |e::es,[],i,r,R,hl,_,_,h=>by simp at hl
 |e::es,E::I,i,r,R,hl,hr,hf,h=>by
  obtain⟨M,F,D⟩:=hr 0 e rfl;simp at F;subst F;have B:∀(j:Nat) N,es[j]? =some N ->∃M,I[j]? =some M /\PE μ n N M :=fun j N Z=>by simpa using hr (j+1) N (by simpa using Z)
  rw[kc] at hf;have V:∀b,k9 T 20 H k e.1=some b->∀U,Instr.sameNow kd K E.key=some U ->U =b:=by
   intro b L U X;have Z:=jy hT 20 L W D.1 9980 w;unfold Instr.sameNow at X;split at X
   .rename_i u a o c C S
    split at X
    .rename_i G
     cases X;rw[S] at Z;subst G;rw[run_equalIn_int w _ H _ _ _ _ J] at Z;cases Z;rfl
    .cases X
   .rename_i a c C S
    cases X;rw[S] at Z;rw[run_equalIn_string w _ H _ _ J] at Z;cases Z;rw[beq_toListBytes]
   .rename_i a c C S
    cases X;rw[S] at Z;rw[run_equalIn_bool' w _ H _ _ J] at Z;cases Z;rfl
   .cases X
  rw[Instr.findNow] at h;have step:∀b,k9 T 20 H k e.1=some b->(Instr.findAsking H K (E::I) i).run P w=if b then .ok (some (i,E.val)) w else (Instr.findAsking H K I (i+1)).run P w:=by intro b L;have Z:=jy hT 20 L W D.1 9980 w;simp only[Instr.findAsking,Sem.run_bind];rw[show Op.equal H K E.key=Op.equalIn (20+9980) H K E.key from rfl,Z];cases b<;>simp
  split at hf
  .rename_i O
   rw[step _ O];cases hs:Instr.sameNow kd K E.key with
   |none=>rw[hs] at h;cases h
   |some U =>
    have:=V _ O _ hs;subst this;rw[hs] at h;simp only[Pi] at h;subst h;simp
  .rename_i O
   rw[step _ O];cases hs:Instr.sameNow kd K E.key with
   |none=>rw[hs] at h;cases h
   |some U =>
    have:=V _ O _ hs;subst this;rw[hs] at h;simp only at h;simpa using tQ hT J W w (by simpa using hl) B hf h
  .cases hf
theorem iE(hT:dN P T){H:TypeId}{J:TyI}(W:T H=some J)(Y:afj μ n k K){es:List (AV×AV)}{I:List MapEntry}{r:Option (Nat×AV)}(hl:I.length=es.length)(hr:∀(j:Nat) e,es[j]? =some e->∃E,I[j]? =some E/\PE μ n e E)(h:kc T H k es 0=some r)(w:World):
  ∃R,(Instr.findKey H K I).run P w=.ok R w/\OQ μ n r R:=by
 have Z:=(hT H J W).desc;obtain⟨R,X,V⟩:=qe hT Y w hl hr h;refine⟨R,?_,V⟩;simp only[Instr.findKey,Sem.run_bind,run_underlying Z,Result.andThen_ok];cases hn:Instr.findNow J.desc K I 0 with
 |none=>simpa using X
 |some R' =>
  have:=tQ hT Z Y w hl hr h hn;rw[this] at X;cases X;simp
theorem Gq(hT:dN P T)(hH:afv base μ mem w){t:TypeId}{m k v:AV}{M:Value}{ok:Bool}(H:afj μ mem.length m M)(I:afj μ mem.length k K)(h:lV T mem t m k ok=some v):Val P (Instr.lookup t M K ok) w μ mem.length v:=by
 unfold lV at h;cases ht:T t with
 |none=>rw[ht] at h;cases h
 |some i=>
  rw[ht] at h;simp only at h;have O:=(hT t i ht).desc;split at h
  .rename_i kt et H'
   rw[H'] at O;split at h
   .rename_i j es hj Z
    split at h
    .rename_i D
     have u:∃U:Array MapEntry,(M=.map none/\U= #[]\/∃r c,M=.map (some r)/\(getObj r).run P w=.ok (.map U c) w)/\U.toList.length=es.length/\
       ∀(j:Nat) e,es[j]? =some e->∃E,U.toList[j]? =some E/\PE μ mem.length e E:=by
      unfold ky at Z;split at Z
      .cases Z
       simp only[afj] at H;subst H;exact⟨#[],.inl ⟨rfl,rfl⟩,rfl,by simp⟩
      .rename_i b
       split at Z
       .rename_i o Y
        cases Z;simp only[afj] at H;obtain⟨_,rfl⟩:=H;have N:=hH.slot b _ Y;simp only[afx] at N;obtain⟨W,J,h1,_,h2,h3⟩:=N;refine⟨W,.inr ⟨_,J,rfl,by simp[getObj,Sem.run,h1]⟩,by simpa using h2,fun j e he=>?_⟩;obtain⟨E,hE,hr⟩:=h3 j e he;exact⟨E,by simpa using hE,hr⟩
       .rename_i o Y
        cases Z;simp only[afj] at H;obtain⟨_,rfl⟩:=H;have N:=hH.slot b _ Y;simp only[afx] at N;obtain⟨W,J,h1,_,h2,h3⟩:=N;refine⟨W,.inr ⟨_,J,rfl,by simp[getObj,Sem.run,h1]⟩,by simpa using h2,fun j e he=>?_⟩;obtain⟨E,hE,hr⟩:=h3 j e he;exact⟨E,by simpa using hE,hr⟩
       .cases Z
      .cases Z
     obtain⟨U,S,e2,e3⟩:=u;have X:=me (P:=P) (n:=mem.length) hT U.isEmpty 20 D I 9980 w;have hkt:∃C,T kt=some C:=by
      rw[mC] at D;cases hx:T kt with
      |none=>rw[hx] at D;cases D
      |some C=>exact⟨C,rfl⟩
     obtain⟨C,L⟩:=hkt;split at h
     .rename_i q v' hf
      cases h;obtain⟨R,G,B⟩:=iE hT L I e2 e3 hf w;cases R with
      |none=>exact B.elim
      |some x=>
       obtain⟨_,V⟩:=x;have F:=B.2;refine⟨if ok then .tuple #[V,.bool true] else V,?_,?_⟩
       .rcases S with⟨rfl,rfl⟩ | ⟨r,c,rfl,S⟩
        .simp only[Instr.lookup,Sem.run_bind,run_underlying O,Result.andThen_ok,Sem.run_pure]
         rw[show(10000:Nat)=20+9980 from rfl,X];simp only[Result.andThen_ok,G,Sem.run_pure,Sem.run_bind]
        .simp only[Instr.lookup,Sem.run_bind,run_underlying O,Result.andThen_ok,S,Sem.run_pure]
         rw[show(10000:Nat)=20+9980 from rfl,X];simp only[Result.andThen_ok,G,Sem.run_pure,Sem.run_bind]
       .cases ok
        .exact F
        .simp only[if_true,afj];exact⟨[V,.bool true],rfl,bV.2 ⟨F,bV.2 ⟨by simp[afj],by simp[afk]⟩⟩⟩
     .rename_i hf
      cases h;obtain⟨R,G,B⟩:=iE hT L I e2 e3 hf w;cases R with
      |some x=>exact B.elim
      |none=>
       have F:=xG μ mem.length j.zero;refine⟨if ok then .tuple #[j.zero,.bool false] else j.zero,?_,?_⟩
       .rcases S with⟨rfl,rfl⟩ | ⟨r,c,rfl,S⟩
        .simp only[Instr.lookup,Sem.run_bind,run_underlying O,Result.andThen_ok,Sem.run_pure]
         rw[show(10000:Nat)=20+9980 from rfl,X];simp only[Result.andThen_ok,G,Sem.run_pure,Sem.run_bind,fX hT hj]
        .simp only[Instr.lookup,Sem.run_bind,run_underlying O,Result.andThen_ok,S,Sem.run_pure]
         rw[show(10000:Nat)=20+9980 from rfl,X];simp only[Result.andThen_ok,G,Sem.run_pure,Sem.run_bind,fX hT hj]
       .cases ok
        .exact F
        .simp only[if_true,afj];exact⟨[j.zero,.bool false],rfl,bV.2 ⟨F,bV.2 ⟨by simp[afj],by simp[afk]⟩⟩⟩
     .cases h
    .cases h
   .cases h
  .cases h
theorem sz{J :Value}{e:AV}{b:Bool}{W:TypeId}(hs:k.af7=true)(H:afj μ n k K)(I:afj μ n e J)(h:k9 T 20 W k e=some b)(Y:b=true):
  Instr.sameBits 10000 J K=true:=by
 subst Y;rw[k9] at h;cases ht:T W with
 |none=>rw[ht] at h;cases h
 |some i=>
  rw[ht] at h;simp only at h;split at h
  .rw[H.bool,I.bool]
   simp only[Pi] at h;simp only[Instr.sameBits];rw[beq_iff_eq] at h |-;exact h.symm
  .split at h
   .rename_i Z
    subst Z;simp only[Pi,Es] at h;rw[H.int,I.int,h];simp[Instr.sameBits]
   .cases h
  .rw[H.str,I.str]
   simp only[Pi,beq_iff_eq] at h;rw[h];simp only[Instr.sameBits];rw[beq_toListBytes];simp
  .cases hs
  .cases hs
  .cases h
theorem nV{H:TypeId}{k:AV}:∀{es:List (AV×AV)} {i q:Nat} {v:AV},kc T H k es i=some (some (q,v))->∃j e,q=i+j/\es[j]? =some e/\k9 T 20 H k e.1=some true
 | [],i,q,v,h=>by simp[kc] at h
 |e::es,i,q,v,h=>by
  rw[kc] at h;split at h
  next Z=>cases h;exact⟨0,e,rfl,rfl,Z⟩
  .obtain⟨j,X,U,V,h3⟩:=nV h
   exact⟨j+1,X,by omega,by simpa using V,h3⟩
  .cases h
theorem th{r:Nat}{o o' :Obj}(h:w.heap[r]? =some o)(H:∀c e f,o≠ .cells c e f):(setObj r o').run P w=.ok () { w with heap:=w.heap.setIfInBounds r o' }:=by simp only[setObj,Sem.run,h];try (split<;>first | (rename_i Z;cases Z;exact absurd rfl (H _ _ _)) | rfl | simp_all)
theorem Ac(hT:dN P T)(hH:afv base μ mem w){t:TypeId}{m k v:AV}{M K V:Value}{mem' :Mem}(hm:afj μ mem.length m M)(H:afj μ mem.length k K)(hv:afj μ mem.length v V)(h:fP T mem t m k v=some mem'):∃w',(Instr.mapUpdate t M K V).run P w=.ok () w' /\afv base μ mem' w' /\Step mem.length μ mem w μ mem' w' :=by
 unfold fP at h;cases ht:T t with
 |none=>rw[ht] at h;cases h
 |some i=>
  rw[ht] at h;simp only at h;have hd:=(hT t i ht).desc;split at h
  .rename_i kt et b H'
   rw[H'] at hd;split at h
   .rename_i es hb
    split at h
    .rename_i Y
     simp only[afj] at hm;obtain⟨hbn,rfl⟩:=hm;have hs:=hH.slot b _ hb;simp only[afx] at hs;obtain⟨D,C,h1,X,W,h3⟩:=hs;have hg:(getObj (μ b).blk).run P w=.ok (.map D C) w:=by simp[getObj,Sem.run,h1]
     have B:=me (P:=P) (n:=mem.length) hT false 20 Y H 9980 w;have hkt:∃J,T kt=some J:=by
      rw[mC] at Y;cases hx:T kt with
      |none=>rw[hx] at Y;cases Y
      |some J=>exact⟨J,rfl⟩
     obtain⟨J,u⟩:=hkt;have e2:D.toList.length=es.length:=by simpa using W
     have e3:∀(j:Nat) e,es[j]? =some e->∃E,D.toList[j]? =some E/\PE μ mem.length e E:=fun j e I=>by obtain⟨E,hE,hr⟩:=h3 j e I;exact⟨E,by simpa using hE,hr⟩
     have FS:(μ b).blk<w.heap.size:=(Nm.1 h1).1;have o:∀(O :Array MapEntry) (N :Nat) (S :List (AV×AV)),Ec O N ->O.size=S.length->(∀(j:Nat) e,S[j]? =some e->∃E,O[j]? =some E/\PE μ mem.length e E)->
       (setObj (μ b).blk (.map O N)).run P w=.ok () { w with heap:=w.heap.setIfInBounds (μ b).blk (.map O N) }/\
       afv base μ (mem.set b (.map S)) { w with heap:=w.heap.setIfInBounds (μ b).blk (.map O N) }/\Step mem.length μ mem w μ (mem.set b (.map S)) { w with heap:=w.heap.setIfInBounds (μ b).blk (.map O N) }:=by
      intro O N S g0 g1 g2;refine⟨th h1 (by simp),hH.write hb (LR hb) (fun _=>⟨_,QQY (gL hb),rfl⟩) rfl rfl rfl rfl (by simp) (fun q hq=>?_) ?_⟩
      .simp[ZX (Ne.symm hq)]
      .simp only[afx]
       exact⟨O,N,by simp[FS],⟨X.1,g0⟩,g1,g2⟩
     split at h
     .rename_i q v' hf
      split at h
      .rename_i hsc
       cases h;obtain⟨R,g1,g2⟩:=iE hT u H e2 e3 hf w;cases R with
       |none=>exact g2.elim
       |some x=>
        obtain⟨q',V'⟩:=x;obtain⟨rfl,_⟩:=g2;obtain⟨j,e,hq,I,X'⟩:=nV hf;have hq' :q=j:=by omega
        subst hq';obtain⟨E,hE,hr⟩:=h3 q e I;have hsb:=sz (μ:=μ) (n:=mem.length) hsc H hr.1 X' rfl;obtain⟨f1,f2,f3⟩:=o (D.modify q fun e=>{ e with key:=K,val:=V }) C (es.set q (k,v)) ⟨by simpa using X.2.1,fun j L U =>by
         rw[Array.getElem?_modify] at U;split at U
         .simp only[Y2] at U
          obtain⟨E0,k1,rfl⟩:=U;exact X.2.2 j E0 k1
         .exact X.2.2 j L U⟩ (by simpa using W) (fun j e' Z =>by
         rw[List.getElem?_set] at Z;by_cases G:q=j
         .subst G
          have Y5 :q<es.length:=gL I;simp only[if_true,Y5,Pi] at Z;subst Z;exact⟨{ E with key:=K,val:=V },by simp[Array.getElem?_modify,hE],H,hv⟩
         .rw[if_neg G] at Z
          obtain⟨L,U,F⟩:=h3 j e' Z;exact⟨L,by simp[Array.getElem?_modify,G,U],F⟩)
        refine⟨_,?_,f2,f3⟩;simp only[Instr.mapUpdate,Sem.run_bind,run_underlying hd,Result.andThen_ok,hg];rw[show(10000:Nat)=20+9980 from rfl,B];simp only[Result.andThen_ok,g1,Sem.run_bind];have aaD:(Instr.keyThatStays (((D[q]?).map (·.key)).getD K) K).run P w=.ok K w:=by unfold Instr.keyThatStays;rw[hE];simp only[Option.map_some,Option.getD_some,hsb,if_true];rfl
        rw[aaD];simpa using f1
      .cases h
     .rename_i hf
      cases h;obtain⟨R,g1,g2⟩:=iE hT u H e2 e3 hf w;cases R with
      |some x=>exact g2.elim
      |none=>
       obtain⟨f1,f2,f3⟩:=o (D.push { key:=K,val:=V,born:=C }) (C+1) (es++[(k,v)]) ⟨by simp[X.2.1],fun j L U =>by
        rw[Array.getElem?_push] at U;split at U
        next hj=>cases U;rw[hj];exact X.2.1
        .exact X.2.2 j L U⟩ (by simp[W]) (fun j e' Z =>by
        by_cases hj:j<es.length
        .rw[GE hj] at Z
         obtain⟨L,U,F⟩:=h3 j e' Z;exact⟨L,by rw[Array.getElem?_push,if_neg (by omega)];exact U,F⟩
        .have hje:j=es.length:=by have:=(gL Z);simp at this;omega
         subst hje;simp at Z;subst Z;exact⟨{ key:=K,val:=V,born:=C },by rw[Array.getElem?_push,if_pos W.symm],H,hv⟩)
       refine⟨_,?_,f2,f3⟩;simp only[Instr.mapUpdate,Sem.run_bind,run_underlying hd,Result.andThen_ok,hg];rw[show(10000:Nat)=20+9980 from rfl,B];simp only[Result.andThen_ok,g1];exact f1
     .cases h
    .cases h
   .cases h
  .cases h
theorem GR(H:afv base μ mem w){t:TypeId}:agt P (Instr.makeMap t none) base μ mem w (.map mem.length) (mem++[.map []]):=by
 obtain⟨Z,X⟩:=H.push (.map #[] 0) (.map []) ⟨w.heap.size,0,0,0⟩ rfl (by simp only[afx];exact⟨#[],0,heap_alloc_new w _,⟨H.afr,rfl,by simp⟩,rfl,by simp⟩)
 refine⟨.map (some w.heap.size),_,_,?_,?_,Z,X⟩
 .simp only[Instr.makeMap,Sem.run_bind,Sem.run_pure,run_newObj,Result.andThen_ok]
  rfl
 .simp[afj,fL]
end
end Go.Eng
namespace Go.Eng
def jF:List AV->Option (List UInt8)
 | []=>some []
 |.int .u8 n::l=>if 0<=n/\n<256 then match jF l with
  |some r=>some (UInt8.ofNat n.toNat::r)
  |none=>none
  else none
 |_::_=>none
def sL(mem:Mem)(x:AV):Option AV:=match x with
 |.slice b o n none=>match mem[b]? with
  |some (.cells _ es cs)=>if 0<n/\0<es%1000/\o+n*(es%1000)<=cs.length then some (.ptr b o) else none
  |_=>none
 |_=>none
def xL(T:TypeId->Option TyI)(mem:Mem)(pt:TypeId)(x l:AV):Option (AV×Mem):=match T pt,x,l with
 |some i,.ptr b 0,.int .i64 n=>match i.desc with
  |.pointer e=>match T e,mem[b]? with
   |some j,some (.cells true es cs)=>
    if j.size=1/\es=1+1000*(e+1)/\0<n/\n<=cs.length/\n<=9223372036854775807 then match jF (cs.take n.toNat) with
     |some s=>some (.str s,mem.set b .qK)
     |none=>none
    else none
   |_,_=>none
  |_=>none
 |_,_,_=>none
theorem Xz(a es:Nat)(h:es=1+1000*(a+1)):1000<=es/\es / 1000=a+1/\es%1000=1:=by omega
theorem Eo:∀{l:List AV} {s:List UInt8},jF l=some s->s.length=l.length/\∀(j:Nat) x,s[j]? =some x->l[j]? =some (.int .u8 (x.toNat:Int))
 | [],s,h=>by cases h;exact⟨rfl,fun j x Z=>by simp at Z⟩
 |v::l,s,h=>by
  cases v<;>try (unfold jF at h;cases h;done)
  rename_i k n;cases k<;>try (unfold jF at h;cases h;done)
  unfold jF at h;split at h
  .rename_i S
   split at h
   .rename_i r X
    cases h;obtain⟨V,U⟩:=Eo X;refine⟨by simp[V],fun j x Z=>?_⟩;cases j with
    |zero=>
     simp at Z;subst Z;simp only[List.getElem?_cons_zero,Pi,AV.int.injEq,true_and];rw[UInt8.toNat_ofNat'];have:n.toNat%256=n.toNat:=QQe (by omega);show n=((n.toNat%256:Nat):Int)
     rw[this];omega
    |succ j=>simpa using U j x (by simpa using Z)
   .cases h
  .cases h
theorem Ob(w:World)(a:Addr)(n:Nat):(w.freeze a n).heap.size=w.heap.size:=by unfold World.freeze;split<;>simp
theorem Lt(w:World)(a:Addr)(n k:Nat)(h:k≠a.block):(w.freeze a n).heap[k]? =w.heap[k]? :=by
 unfold World.freeze;split
 .rfl
 .simp only[Array.getElem?_modify,if_neg (Ne.symm h)]
section
variable {P:Program}{T:TypeId->Option TyI}{μ:Nat->Place}{mem:Mem}{base:Nat}{w:World}
theorem Ad(H:afv base μ mem w){x v:AV}{X:Value}(ts:Array TypeId)(ty:TypeId)(I:afj μ mem.length x X)(h:sL mem x=some v):Val P (Builtin.unsafeSliceData_ ts ty #[X]) w μ mem.length v:=by
 unfold sL at h;split at h
 .rename_i b o n
  split at h
  .rename_i own es M S
   split at h
   .rename_i R
    cases h;obtain⟨Z,rfl⟩:=I.slice;have U:=H.slot b _ S;simp only[afx] at U;obtain⟨O,el,L,K,N,G,_,_⟩:=U;have V:rK (μ b) o none≠0:=by
     simp only[rK,N.1];have:n<=((μ b).tot-o) / (es%1000):=by rw[Nat.le_div_iff_mul_le R.2.1];omega
     omega
    exact⟨_,Lib.run_unsafeSliceData_row _ _ _ _ _ _ V,by simp[afj,Z]⟩
   .cases h
  .cases h
 .cases h
theorem Gt(hT:dN P T)(I:afv base μ mem w){pt J ty:TypeId}{x l v:AV}{X L:Value}{H :Mem}(W:afj μ mem.length x X)(Y:afj μ mem.length l L)(h:xL T mem pt x l=some (v,H)):
  agt P (Builtin.unsafeString_ #[pt,J] ty #[X,L]) base μ mem w v H :=by
 unfold xL at h;split at h
 .rename_i i b n hi
  split at h
  .rename_i e hd
   split at h
   .rename_i j es cs hj O
    split at h
    .rename_i hc
     obtain⟨c1,c2,c3,c4,c5⟩:=hc;split at h
     .rename_i s hs
      cases h;obtain⟨g1,g2⟩:=Eo hs;have hX:=W.ptr;have hL:=Y.int;have Z:=(hT pt i hi).desc;rw[hd] at Z;obtain⟨f,hf,N,_,_⟩:=(hT e j hj).info;have M:P.cellsOf e=1:=by unfold Program.cellsOf;rw[hf];simp[N,c1]
      have U:=I.slot b _ O;simp only[afx] at U;obtain⟨S,el,fr,C,s2,s3,s4,s5⟩:=U;obtain⟨B,rfl,s8,s9⟩:=s5 trivial;have K:el=e:=by obtain⟨q1,q2,_⟩:=Xz e es c2;have:=s2.2 q1;rw[q2] at this;exact Nat.succ.inj this
      subst K;have G:s.length=n.toNat:=by rw[g1,S2];omega
      have hn:n=(s.length:Int):=by omega
      rw[hX.2,hL,hn,B];have F:w.shape? (μ b).blk=some (el,S.size):=by simp[World.shape?,C]
      have Y6:=Lib.run_unsafeString_row (P:=P) w pt J ty el Z M (μ b).blk S.size F s (by intro e;rw[e] at G;simp at G;omega) (by rw[s8];omega) (by omega) (fun q u o=>by
       have m:=g2 q u o;have D:q<n.toNat:=by rw[<-G];exact(gL o)
       rw[QQQ D] at m;obtain⟨V,hV,hr⟩:=s4 q _ m;rw[hr.int] at hV;rw[B,QQZ] at hV;simp only[Addr.add_lit,World.cell?,C,QQZ];exact hV)
      have I':¬s.length=0:=by omega
      have R:(w.freeze ⟨(μ b).blk,0,none⟩ s.length).os=w.os/\(w.freeze ⟨(μ b).blk,0,none⟩ s.length).tape=w.tape/\(w.freeze ⟨(μ b).blk,0,none⟩ s.length).output=w.output/\(w.freeze ⟨(μ b).blk,0,none⟩ s.length).drawn=w.drawn:=by unfold World.freeze;rw[if_neg I'];exact⟨rfl,rfl,rfl,rfl⟩
      obtain⟨k1,k2⟩:=I.write (w' :=w.freeze ⟨(μ b).blk,0,none⟩ s.length) (s' :=.qK) O (pQ O) (fun h=>absurd rfl h) R.2.2.2 R.1 R.2.1 R.2.2.1 (Ob ..) (fun k hk=>Lt _ _ _ _ hk) trivial;refine⟨_,_,μ,Y6,by simp[afj],k1,?_⟩;exact k2
     .cases h
    .cases h
   .cases h
  .cases h
 .cases h
end
section
variable {P:Program}{T:TypeId->Option TyI}{μ:Nat->Place}{mem:Mem}{base:Nat}{w:World}
def nK(T:TypeId->Option TyI)(mem:Mem)(s d:TypeId):AV->Option (AV×Mem)
 |.str l=>match T s,T d with
  |some i,some j=>match i.desc,j.desc with
   |.string,.slice e=>match T e with
    |some k=>match k.desc with
     |.int .u8=>some (.slice mem.length 0 l.length none,mem++[.cells false 1 (l.map fun c=>.int .u8 c.toNat)])
     |_=>none
    |none=>none
   |_,_=>none
  |_,_=>none
 |_=>none
theorem Ls(w:World)(H:Array Value)(e:TypeId)(n:Nat):
  (w.alloc (.cells H e)).freeze ⟨w.heap.size,n,none⟩ 1=w.alloc (.cells H e (n,n+1)):=by
 unfold World.freeze;rw[if_neg (by decide)];simp only[World.alloc];congr 1;apply Array.ext
 .simp
 .intro k Z V
  simp only[Array.getElem_modify,Array.getElem_push];by_cases X:k<w.heap.size
  .simp[X];omega
  .simp at Z
   have:k=w.heap.size:=by omega
   subst this;simp
theorem zX(hT:dN P T)(I:afv base μ mem w){s d:TypeId}{x v:AV}{X:Value}{H :Mem}(J:afj μ mem.length x X)(h:nK T mem s d x=some (v,H)):
  agt P (convert s d X) base μ mem w v H :=by
 unfold nK at h;split at h
 .rename_i l
  split at h
  .rename_i i j B o
   have K:=(hT s i B).desc;have G:=(hT d j o).desc;split at h
   .rename_i e U S
    rw[U] at K;rw[S] at G;split at h
    .rename_i k m
     have h3:=(hT e k m).desc;split at h
     .rename_i R
      rw[R] at h3;cases h;rw[J.str];let c:=grownCap w l.length 0 e
      have Y:l.length<=c:=grownCap_ge w l.length 0 e;let Cs:Array Value:=(l.map fun c=>Value.int .u8 c.toNat).toArray++Array.replicate (c-l.length) (.int .u8 0)
      have Z:Cs.size=c:=by simp[Cs];omega
      have O:afv base μ mem w.drew:=I.agn rfl;obtain⟨W,g2⟩:=O.push (.cells Cs e (Cs.size,Cs.size+1)) (.cells false 1 (l.map fun c=>.int .u8 c.toNat)) ⟨w.heap.size,0,Cs.size,1⟩ rfl (by simp only[afx];refine⟨Cs,e,(Cs.size,Cs.size+1),heap_alloc_new w.drew _,ahi.small rfl (by decide),by simp[Z];exact Y,fun q u F=>?_,fun h=>by cases h⟩;rw[Zo,Y2] at F;obtain⟨a,D,rfl⟩:=F;have hq:=gL D;refine⟨.int .u8 a.toNat,?_,by simp[afj]⟩;simp only[QQZ,Cs];rw[Array.getElem?_append_left (by simpa using hq)];simp[D])
      refine⟨.slice (some ⟨w.heap.size,0,none⟩) l.length c,w.drew.alloc (.cells Cs e (Cs.size,Cs.size+1)),_,?_,?_,W,?_⟩
      .have hf:(Question.appendCap l.length 0 e).forced=false:=by simp[Question.forced]
       have UV:(ByteArray.mk l.toArray).size=l.length:=sN ..;have N :(ByteArray.mk l.toArray).data.map (fun b=>Value.int .u8 b.toNat)++Array.replicate (c-l.length) (.int .u8 0)=Cs:=by simp[Cs]
       have M:(w.drew.alloc (.cells Cs e)).shape? w.heap.size=some (e,Cs.size):=by unfold World.shape?;rw[show(w.drew.alloc (.cells Cs e)).heap[w.heap.size]? =_ from heap_alloc_new w.drew _]
       have V:=Ls w.drew Cs e Cs.size;have C:w.drew.heap.size=w.heap.size:=rfl;rw[C] at V;simp only[convert,Sem.run_bind,run_underlying K,run_underlying G,run_underlying h3,Result.andThen_ok,Conv.stringToBytes,choose,Sem.run,hf,Bool.false_eq_true,if_false,UV];change ((newRow e ((ByteArray.mk l.toArray).data.map (fun b=>Value.int .u8 b.toNat)++Array.replicate (c-l.length) (.int .u8 0))).run P w.drew).andThen _=_;rw[N];simp only[newRow,run_newObj,Result.andThen_ok,Sem.run_bind,markStringish,shape,freeze,Sem.run];have L:({ heap:=w.drew.heap.push (Obj.cells Cs e),tape:=w.drew.tape,drawn:=w.drew.drawn,os:=w.drew.os,output:=w.drew.output }:World)=w.drew.alloc (.cells Cs e):=rfl;simp only[Sem.run_pure,Result.andThen_ok,L,C,M,Sem.run,V];rfl
      .simp only[afj,fL,rK,SP,List.length_singleton]
       refine⟨by omega,?_⟩;simp[Z]
      .exact(Step.drew (m0:=mem.length) (L9 _)).trans g2
     .cases h
    .cases h
   .cases h
  .cases h
 .cases h
end
section
variable {P:Program}{T:TypeId->Option TyI}{μ:Nat->Place}{mem:Mem}{base:Nat}{w:World}
end
section
variable {P:Program}{T:TypeId->Option TyI}{μ:Nat->Place}{mem:Mem}{base:Nat}{w:World}
theorem afv.qK(h:afv base μ mem w)(p:Place):afv base (upd μ mem.length p) (mem++[.qK]) w/\Step mem.length μ mem w (upd μ mem.length p) (mem++[.qK]) w:=by
 have hμ:∀b,b<mem.length->upd μ mem.length p b=μ b:=fun b X=>w9 X
 have low:∀{b:Nat}{s:afl},(mem++[afl.qK])[b]? =some s->s≠ .qK->b<mem.length/\mem[b]? =some s:=by
  intro b s Z U;by_cases S:b<mem.length
  .rw[GE S] at Z;exact⟨S,Z⟩
  .exfalso
   have R:b=mem.length:=by have:=gL Z;simp at this;omega
   subst R;simp at Z;exact U Z.symm
 have own:∀{b:Nat},eJ (mem++[afl.qK]) b->b<mem.length/\eJ mem b:=by rintro b ⟨s,Z,ho⟩;have:=low Z (afl.afT ho);exact⟨this.1,s,this.2,ho⟩
 refine⟨⟨h.afr,fun b s Z=>?_,fun b M L X K U G=>?_⟩,?_⟩
 .by_cases V:s=.qK
  .subst V;trivial
  .obtain⟨S,F⟩:=low Z V
   rw[hμ b S];exact(h.slot b s F).mono (by simp) hμ fun _=>rfl
 .obtain⟨O,N⟩:=own X
  obtain⟨h3,D⟩:=low K U;rw[hμ b O,hμ M h3];exact h.sep b M L N D U G
 .exact⟨by simp,hμ,rfl,rfl,rfl,L9 _,fun _ _ _=>rfl,fun b X _=>by obtain⟨O,N⟩:=own X;exact⟨b,N,(congrArg Place.blk (hμ b O)).symm⟩,L9 _⟩
end
section
variable {P:Program}{T:TypeId->Option TyI}{μ:Nat->Place}{mem:Mem}{base:Nat}{w:World}
end
def rH(T:TypeId->Option TyI)(mem:Mem)(t:TypeId)(m k:AV):Option (AV×Mem):=
 match T t with
 |none=>none
 |some i=>
  match i.desc,m with
  |.map kt et,.map b=>
   match T et,mem[b]? with
   |some j,some (.map es)=>
    if mC T 20 kt k then
     match kc T kt k es 0 with
     |some (some (q,v))=>if k.af7 then some (.tuple [v,.int .i64 q],mem.set b (.map (es.set q (k,v)))) else none
     |some none=>some (.tuple [ot j.zero,.int .i64 es.length],mem.set b (.map (es++[(k,ot j.zero)])))
     |none=>none
    else none
   |_,_=>none
  |_,_=>none
def lU(mem:Mem)(m s v:AV):Option Mem:=
 match m,s with
 |.map b,.int _ (.ofNat q)=>match mem[b]? with
  |some (.map es)=>match es[q]? with
   |some e=>some (mem.set b (.map (es.set q (e.1,v))))
   |none=>none
  |_=>none
 |_,_=>none
variable{G':Array MapEntry}
section
variable {P:Program}{T:TypeId->Option TyI}{μ:Nat->Place}{mem:Mem}{base:Nat}{w:World}{n:Nat}
theorem Lp{H:TypeId}{k:AV}:∀{es:List (AV×AV)} {i q:Nat} {v:AV},kc T H k es i=some (some (q,v))->(es[q-i]?).map (·.2)=some v
 | [],i,q,v,h=>by simp[kc] at h
 |e::es,i,q,v,h=>by
  have X:=nV h;rw[kc] at h;split at h
  .cases h;simp
  .have:=Lp h
   obtain⟨j,V,Z,U,h3⟩:=nV h;subst Z;rw[show i+1+j-(i+1)=j by omega] at this;rw[show i+1+j-i=j+1 by omega];simpa using this
  .cases h
theorem Cu(I:afv base μ mem w){b J Zf :Nat}{es es' :List (AV×AV)}{Zk :Array MapEntry}(hb:mem[b]? =some (.map es))(h1:w.heap[(μ b).blk]? =some (.map G' J))(H:base<=(μ b).blk)(W:Ec Zk Zf)(g1:Zk.size=es'.length)(g2:∀(j:Nat) e,es'[j]? =some e->∃E,Zk[j]? =some E/\PE μ mem.length e E):
  (setObj (μ b).blk (.map Zk Zf)).run P w=.ok () { w with heap:=w.heap.setIfInBounds (μ b).blk (.map Zk Zf) }/\
  afv base μ (mem.set b (.map es')) { w with heap:=w.heap.setIfInBounds (μ b).blk (.map Zk Zf) }/\Step mem.length μ mem w μ (mem.set b (.map es')) { w with heap:=w.heap.setIfInBounds (μ b).blk (.map Zk Zf) }:=by
 have Z:(μ b).blk<w.heap.size:=(Nm.1 h1).1;refine⟨th h1 (by simp),I.write hb (LR hb) (fun _=>⟨_,QQY (gL hb),rfl⟩) rfl rfl rfl rfl (by simp) (fun q X=>?_) ?_⟩
 .simp[ZX (Ne.symm X)]
 .simp only[afx]
  exact⟨Zk,Zf,by simp[Z],⟨H,W⟩,g1,g2⟩
theorem RJ{H i:Nat}(h:Ec G' H)(I:i<G'.size):G'.findIdx? (fun e=>(e.born:Int)==(i:Int))=some i:=by
 rw[Array.findIdx?_eq_some_iff_getElem];refine⟨I,?_,?_⟩
 .have:=h.2 i G'[i] (by simp)
  simp[this]
 .intro j Z
  have:=h.2 j G'[j] (by simp);simp[this];omega
theorem xK(H:afv base μ mem w){t:TypeId}{m s v:AV}{M S V:Value}{mem' :Mem}(I:afj μ mem.length m M)(hs:afj μ mem.length s S)(J:afj μ mem.length v V)(h:lU mem m s v=some mem'):∃w',(Instr.entryStore t M S V).run P w=.ok () w' /\afv base μ mem' w' /\Step mem.length μ mem w μ mem' w' :=by
 unfold lU at h;split at h
 .rename_i b k q
  split at h
  .rename_i es hb
   split at h
   .rename_i e G
    cases h;simp only[afj] at I;obtain⟨_,rfl⟩:=I;have O:=H.slot b _ hb;simp only[afx] at O;obtain⟨G',F,D,Z,C,h3⟩:=O;have B:(getObj (μ b).blk).run P w=.ok (.map G' F) w:=by simp[getObj,Sem.run,D]
    have u:q<es.length:=gL G;have o:=RJ Z.2 (i:=q) (by omega);obtain⟨f1,f2,f3⟩:=Cu (P:=P) H (es' :=es.set q (e.1,v)) (Zk :=G'.modify q fun e=>{ e with val:=V }) (Zf :=F) hb D Z.1 ⟨by simpa using Z.2.1,fun j N U =>by
     rw[Array.getElem?_modify] at U;split at U
     .simp only[Y2] at U
      obtain⟨Y,W,rfl⟩:=U;exact Z.2.2 j Y W
     .exact Z.2.2 j N U⟩ (by simpa using C) (fun j e' X =>by
     rw[List.getElem?_set] at X;by_cases R:q=j
     .subst R
      simp only[if_true,u,Pi] at X;subst X;obtain⟨E,hE,hr⟩:=h3 q e G;exact⟨{ E with val:=V },by simp[Array.getElem?_modify,hE],hr.1,J⟩
     .rw[if_neg R] at X
      obtain⟨N,U,L⟩:=h3 j e' X;exact⟨N,by simp[Array.getElem?_modify,R,U],L⟩)
    refine⟨_,?_,f2,f3⟩;rw[hs.int];have K :G'.findIdx? (fun e=>(e.born:Int)==Int.ofNat q)=some q:=o;simp only[Instr.entryStore,Sem.run_bind,Result.andThen_ok,B,asInt,asIntOf,Sem.run_pure,K];exact f1
   .cases h
  .cases h
 .cases h
theorem BP(hT:dN P T)(I:afv base μ mem w){t:TypeId}{m k v:AV}{M K:Value}{mem' :Mem}(hm:afj μ mem.length m M)(H:afj μ mem.length k K)(h:rH T mem t m k=some (v,mem')):agt P (Instr.mapEntry t M K) base μ mem w v mem' :=by
 unfold rH at h;cases ht:T t with
 |none=>rw[ht] at h;cases h
 |some i=>
  rw[ht] at h;simp only at h;have J:=(hT t i ht).desc;split at h
  .rename_i kt et b H'
   rw[H'] at J;split at h
   .rename_i j es hj hb
    split at h
    .rename_i o
     simp only[afj] at hm;obtain⟨hbn,rfl⟩:=hm;have hs:=I.slot b _ hb;simp only[afx] at hs;obtain⟨G',U,h1,X,G,h3⟩:=hs;have hg:(getObj (μ b).blk).run P w=.ok (.map G' U) w:=by simp[getObj,Sem.run,h1]
     have F:=me (P:=P) (n:=mem.length) hT false 20 o H 9980 w;have hkt:∃Y,T kt=some Y:=by
      rw[mC] at o;cases hx:T kt with
      |none=>rw[hx] at o;cases o
      |some Y=>exact⟨Y,rfl⟩
     obtain⟨Y,D⟩:=hkt;have e2:G'.toList.length=es.length:=by simpa using G
     have e3:∀(j:Nat) e,es[j]? =some e->∃E,G'.toList[j]? =some E/\PE μ mem.length e E:=fun j e C=>by obtain⟨E,L,W⟩:=h3 j e C;exact⟨E,by simpa using L,W⟩
     split at h
     .rename_i q v' B
      split at h
      .rename_i hsc
       cases h;obtain⟨R,g1,g2⟩:=iE hT D H e2 e3 B w;cases R with
       |none=>exact g2.elim
       |some x=>
        obtain⟨q',V'⟩:=x;obtain⟨rfl,hv⟩:=g2;obtain⟨u,e,hq,C,X'⟩:=nV B;have hq' :q=u :=by omega
        subst hq';obtain⟨E,L,W⟩:=h3 q e C;have hsb:=sz (μ:=μ) (n:=mem.length) hsc H W.1 X' rfl;have Y5 :q<es.length:=gL C;have hev:e.2=v' :=by have:=Lp B;rw[QQi] at this;rw[C] at this;simpa using this
        obtain⟨f1,f2,f3⟩:=Cu (P:=P) I (es' :=es.set q (k,v')) (Zk :=G'.modify q fun e=>{ e with key:=K }) (Zf :=U) hb h1 X.1 ⟨by simpa using X.2.1,fun j S V =>by
         rw[Array.getElem?_modify] at V;split at V
         .simp only[Y2] at V
          obtain⟨E0,k1,rfl⟩:=V;exact X.2.2 j E0 k1
         .exact X.2.2 j S V⟩ (by simpa using G) (fun j e' Z =>by
         rw[List.getElem?_set] at Z;by_cases O:q=j
         .subst O
          simp only[if_true,Y5,Pi] at Z;subst Z;exact⟨{ E with key:=K },by simp[Array.getElem?_modify,L],H,by rw[<-hev];exact W.2⟩
         .rw[if_neg O] at Z
          obtain⟨S,V,N⟩:=h3 j e' Z;exact⟨S,by simp[Array.getElem?_modify,O,V],N⟩)
        refine⟨.tuple #[V',goInt q],_,μ,?_,?_,f2,f3⟩
        .simp only[Instr.mapEntry,Sem.run_bind,run_underlying J,Result.andThen_ok,hg]
         rw[show(10000:Nat)=20+9980 from rfl,F];simp only[Result.andThen_ok,g1,Sem.run_bind];have aaD:(Instr.keyThatStays (((G'[q]?).map (·.key)).getD K) K).run P w=.ok K w:=by unfold Instr.keyThatStays;rw[L];simp only[Option.map_some,Option.getD_some,hsb,if_true];rfl
         rw[aaD];simp only[Result.andThen_ok,f1,Sem.run_pure];rw[L];simp only[Option.map_some,Option.getD_some,X.2.2 q E L]
        .simp only[QQc,afj]
         exact⟨[V',goInt q],rfl,bV.2 ⟨hv,bV.2 ⟨by simp[afj,goInt],by simp[afk]⟩⟩⟩
      .cases h
     .rename_i B
      cases h;obtain⟨R,g1,g2⟩:=iE hT D H e2 e3 B w;cases R with
      |some x=>exact g2.elim
      |none=>
       have hz:=xG μ mem.length j.zero;obtain⟨f1,f2,f3⟩:=Cu (P:=P) I (es' :=es++[(k,ot j.zero)]) (Zk :=G'.push { key:=K,val:=j.zero,born:=U }) (Zf :=U+1) hb h1 X.1 ⟨by simp[X.2.1],fun j S V =>by
        rw[Array.getElem?_push] at V;split at V
        next hj=>cases V;rw[hj];exact X.2.1
        .exact X.2.2 j S V⟩ (by simp[G]) (fun u e' Z =>by
        by_cases hj' :u <es.length
        .rw[GE hj'] at Z
         obtain⟨S,V,N⟩:=h3 u e' Z;exact⟨S,by rw[Array.getElem?_push,if_neg (by omega)];exact V,N⟩
        .have hje:u =es.length:=by have:=(gL Z);simp at this;omega
         subst hje;simp at Z;subst Z;exact⟨{ key:=K,val:=j.zero,born:=U },by rw[Array.getElem?_push,if_pos G.symm],H,hz⟩)
       refine⟨.tuple #[j.zero,goInt U],_,μ,?_,?_,f2,f3⟩
       .simp only[Instr.mapEntry,Sem.run_bind,run_underlying J,Result.andThen_ok,hg]
        rw[show(10000:Nat)=20+9980 from rfl,F];simp only[Result.andThen_ok,g1,Sem.run_bind,fX hT hj,f1,Sem.run_pure]
       .simp only[QQc,afj]
        exact⟨[j.zero,goInt U],rfl,bV.2 ⟨hz,bV.2 ⟨by simp[afj,goInt,X.2.1,G],by simp[afk]⟩⟩⟩
     .cases h
    .cases h
   .cases h
  .cases h
end
end Go.Eng
namespace Go.Eng
def aUn(H:UnOp)(x:AV):Option AV:=
 match H,x with
 |.not,.bool b=>some (.bool (!b))
 |.neg,.int k n=>some (.int k (k.wrap (0-n)))
 |_,_=>none
def aOp(T:TypeId->Option TyI)(env:Env)(mem:Mem)(H:Op):Option (AV×Mem):=
 match H with
 |.move x=>some (get env x,mem)
 |.assign x=>some (get env x,mem)
 |.pick c a b=>match get env c with
  |.bool t=>some (if t then get env a else get env b,mem)
  |_=>none
 |.alloc e=>tN T mem e
 |.box _ x=>Xn mem (get env x)
 |.build t ps=>match cv T t (ps.toList.map fun p=>(p.1,get env p.2)) with
  |some v=>some (v,mem)
  |none=>none
 |.buildSlice t n ps=>gA T mem t n (ps.toList.map fun p=>(p.1,get env p.2))
 |.load t a=>match Q0 T mem t (get env a) with
  |some v=>some (v,mem)
  |none=>none
 |.store t a x=>match tP T mem t (get env a) (get env x) with
  |some m=>some (.undef,m)
  |none=>none
 |.nilCheck x=>match get env x with
  |.ptr b o=>some (.ptr b o,mem)
  |.func f Z=>some (.func f Z,mem)
  |_=>none
 |.binOp H t x y _=>match Yi T H t (rW x) (rW y) (get env x) (get env y) with
  |some v=>some (v,mem)
  |none=>none
 |.unOp H _ x=>match aUn H (get env x) with
  |some v=>some (v,mem)
  |none=>none
 |.convert s d x=>match Au T s d (get env x) with
  |some v=>some (v,mem)
  |none=>nK T mem s d (get env x)
 |.makeFunc (.func f) first abF=>if first.size=0 then some (.func f (Xq env abF),mem) else none
 |.makeSlice t l c=>lD T mem t (get env l) (get env c)
 |.slice t x lo hi none=>match OU T mem t (get env x) (lo.map (get env)) (hi.map (get env)) with
  |some v=>some (v,mem)
  |none=>none
 |.fieldAddr t x f=>match sJ T t (get env x) f with
  |some v=>some (v,mem)
  |none=>none
 |.field t x f=>match kZ T t (get env x) f with
  |some v=>some (v,mem)
  |none=>none
 |.indexAddr t x i=>match sK T t (get env x) (get env i) with
  |some v=>some (v,mem)
  |none=>none
 |.index t x i=>match OT T t (get env x) (get env i) with
  |some v=>some (v,mem)
  |none=>none
 |.makeMap _ none=>some (.map mem.length,mem++[.map []])
 |.lookup t m k ok=>match lV T mem t (get env m) (get env k) ok with
  |some v=>some (v,mem)
  |none=>none
 |.mapUpdate t m k x=>match fP T mem t (get env m) (get env k) (get env x) with
  |some m=>some (.undef,m)
  |none=>none
 |.mapEntry t m k=>rH T mem t (get env m) (get env k)
 |.entryStore _ m s x=>match lU mem (get env m) (get env s) (get env x) with
  |some m=>some (.undef,m)
  |none=>none
 |.extract t i=>match get env t with
  |.tuple Z=>match Z[i]? with
   |some v=>some (v,mem)
   |none=>none
  |_=>none
 |.call { callee:=.builtin .len,args:=⟨[x]⟩,argTypes:=⟨[t]⟩ }=>match WI T t mem (get env x) with
  |some v=>some (v,mem)
  |none=>none
 |.call { callee:=.builtin .append,args:=⟨[s,x]⟩,argTypes:=⟨[t,t2]⟩ }=>pw T mem t t2 (get env s) (get env x)
 |.call { callee:=.builtin .unsafeSliceData,args:=⟨[x]⟩,argTypes:=_ }=>match sL mem (get env x) with
  |some v=>some (v,mem)
  |none=>none
 |.call { callee:=.builtin .unsafeString,args:=⟨[x,y]⟩,argTypes:=⟨[pt,_]⟩ }=>xL T mem pt (get env x) (get env y)
 |.call { callee:=.builtin .min,args:=⟨[x,y]⟩,argTypes:=_ }=>match get env x,get env y with
  |.int k a,.int k' b=>if k=k' then some (.int k (if b<a then b else a),mem) else none
  |.str a,.str b=>some (.str (if Op.bytesLess a b||a==b then a else b),mem)
  |_,_=>none
 |.call { callee:=.builtin .max,args:=⟨[x,y]⟩,argTypes:=_ }=>match get env x,get env y with
  |.int k a,.int k' b=>if k=k' then some (.int k (if a<b then b else a),mem) else none
  |.str a,.str b=>some (.str (if Op.bytesLess a b then b else a),mem)
  |_,_=>none
 |_=>none
variable{a:Act}{s u:List UInt8}{ts:Array TypeId}
section
variable {P:Program}{T:TypeId->Option TyI}{μ:Nat->Place}{mem:Mem}{base:Nat}{w:World}
def YU(μ:Nat->Place)(n:Nat)(N:Next)(v:AV):Prop:=(∃V,N=.value V/\afj μ n v V)\/(N=.skip/\v=.undef)
def agf(P:Program)(x:Sem Next)(base:Nat) (μ:Nat->Place)(mem:Mem)(w:World)(v:AV) (H :Mem):Prop:=
 ∃N w' μ',x.run P w=.ok N w' /\YU μ' H.length N v/\afv base μ' H w' /\Step mem.length μ mem w μ' H w'
theorem agf.agl{x:Sem Value}{v:AV}{H :Mem}(h:agt P x base μ mem w v H):agf P (do pure (.value (<-x))) base μ mem w v H :=by obtain⟨V,w',μ',Z,X,h3,U⟩:=h;exact⟨.value V,w',μ',by simp[Z],.inl ⟨V,rfl,X⟩,h3,U⟩
theorem agf.afH{x:Sem Value}{v:AV}(H:afv base μ mem w)(h:Val P x w μ mem.length v):agf P (do pure (.value (<-x))) base μ mem w v mem:=
 .agl (.afH H h)
theorem agf.pure{V:Value}{v:AV}(H:afv base μ mem w)(h:afj μ mem.length v V):agf P (Pure.pure (.value V)) base μ mem w v mem:=
 ⟨.value V,w,μ,rfl,.inl ⟨V,rfl,h⟩,H,.refl (L9 _)⟩
theorem LU{env:Env}{n:Nat}(I:afO μ n env a.tmps)(H:Array (Nat×Operand)):
  (H.toList.map fun p=>(p.1,a.eval p.2)).map (·.1)=(H.toList.map fun p=>(p.1,get env p.2)).map (·.1)/\
  afk μ n ((H.toList.map fun p=>(p.1,get env p.2)).map (·.2)) ((H.toList.map fun p=>(p.1,a.eval p.2)).map (·.2)):=by
 constructor
 .simp[Function.comp_def]
 .have:=AB I (H.toList.map (·.2))
  simpa [Function.comp_def] using this
theorem TM{env:Env}{n:Nat}(H:afO μ n env a.tmps)(x:Option Operand):
  (x.map (get env)=none/\x.map a.eval=none)\/∃l L,x.map (get env)=some l/\x.map a.eval=some L/\afj μ n l L:=by
 cases x with
 |none=>exact .inl ⟨rfl,rfl⟩
 |some x=>exact .inr ⟨_,_,rfl,rfl,bQ H x⟩
theorem VL{n:Nat}{ty:TypeId}{X Y:Value}(H:afj μ n (.str s) X)(I:afj μ n (.str u) Y):Val P (Builtin.min_ ts ty #[X,Y]) w μ n (.str (if Op.bytesLess s u||s==u then s else u)):=by rw[H.str,I.str];refine .str ?_;simp[Builtin.min_,Builtin.min2,Op.stringOp,asBool];split<;>rfl
theorem VJ{n:Nat}{ty:TypeId}{X Y:Value}(H:afj μ n (.str s) X)(I:afj μ n (.str u) Y):Val P (Builtin.max_ ts ty #[X,Y]) w μ n (.str (if Op.bytesLess s u then u else s)):=by rw[H.str,I.str];refine .str ?_;simp[Builtin.max_,Builtin.max2,Op.stringOp,asBool];cases Op.bytesLess s u<;>simp
theorem Su(hT:dN P T)(I:afv base μ mem w){env:Env}{o:Oper}{v:AV}{J :Mem}(H:afO μ mem.length env a.tmps)(h:aOp T env mem o.op=some (v,J)):agf P (execOp a.eval o) base μ mem w v J :=by
 unfold aOp at h;split at h
 .rename_i x Z
  cases h;simp only[execOp,Z];exact .pure I (bQ H x)
 .rename_i x Z
  cases h;simp only[execOp,Z];exact .pure I (bQ H x)
 .rename_i c x y Z
  split at h
  .rename_i t hc
   cases h;have:=bQ H c;rw[hc] at this;simp only[execOp,Z,this.bool,asBool,pure_bind];cases t
   .exact .pure I (bQ H y)
   .exact .pure I (bQ H x)
  .cases h
 .rename_i e Z
  simp only[execOp,Z];exact .agl (KJ hT I h)
 .rename_i e x Z
  simp only[execOp,Z];exact .agl (QX I (bQ H x) h)
 .rename_i t M Z
  split at h
  .rename_i S X
   cases h;obtain⟨D,C⟩:=LU H M;simp only[execOp,Z];refine .afH I ?_;have:=KK (P:=P) hT X D C w;have e:(⟨M.toList.map fun p=>(p.1,a.eval p.2)⟩:Array (Nat×Value))=M.map fun(i,x)=>(i,a.eval x):=by apply Array.ext';simp
   rw[e] at this;exact this
  .cases h
 .rename_i t n M Z
  obtain⟨D,C⟩:=LU H M;simp only[execOp,Z];refine .agl ?_;have:=xI (P:=P) hT I D C h;have e:(⟨M.toList.map fun p=>(p.1,a.eval p.2)⟩:Array (Nat×Value))=M.map fun(i,x)=>(i,a.eval x):=by apply Array.ext';simp
  rw[e] at this;exact this
 .rename_i t x Z
  split at h
  .rename_i S X
   cases h;simp only[execOp,Z];exact .afH I (BN hT I (bQ H x) X)
  .cases h
 .rename_i t x y Z
  split at h
  .rename_i m X
   cases h;obtain⟨w',G,N,h3⟩:=KQ (P:=P) hT I (bQ H x) (bQ H y) X;simp only[execOp,Z];exact⟨.skip,w',μ,by simp[G],.inr ⟨rfl,rfl⟩,N,h3⟩
  .cases h
 .rename_i x Z
  split at h
  .rename_i b o U
   cases h;have:=bQ H x;rw[U] at this;simp only[execOp,Z,this.ptr.2];refine .pure I ?_;rw[this.ptr.2] at this;exact this
  .rename_i f cs U
   cases h;have:=bQ H x;rw[U] at this;have N:=this;simp only[afj] at N;obtain⟨Us,F,_⟩:=N;simp only[execOp,Z,F];refine .pure I ?_;rw[F] at this;exact this
  .cases h
 .rename_i op t x y yt Z
  split at h
  .rename_i S X
   cases h;simp only[execOp,Z];exact .afH I (QV hT (bQ H x) (bQ H y) x y X w)
  .cases h
 .rename_i op t x Z
  split at h
  .rename_i S X
   cases h;simp only[execOp,Z];refine .afH I ?_;have U:=bQ H x;unfold aUn at X;split at X
   next B=>cases X;rw[B] at U;rw[U.bool];exact .bool rfl
   next B=>cases X;rw[B] at U;rw[U.int];exact .int rfl
   .cases X
  .cases h
 .rename_i s d x Z
  split at h
  .rename_i S X
   cases h;simp only[execOp,Z];exact .afH I (DP hT (bQ H x) X w)
  .simp only[execOp,Z];exact .agl (zX hT I (bQ H x) h)
 .rename_i f first L Z
  split at h
  .rename_i hf
   cases h;simp only[execOp,Z];refine .afH I ⟨.func (.func f) (first.map a.eval) (L.map a.eval),rfl,?_⟩;simp only[afj];have:first= #[]:=Array.eq_empty_of_size_eq_zero hf
   subst this;refine⟨L.toList.map a.eval,?_,AB H L.toList⟩;simp only[Array.map_empty];congr 1;apply Array.ext';simp
  .cases h
 .rename_i t l c Z
  simp only[execOp,Z];exact .agl (Aa hT I (bQ H l) (bQ H c) h)
 .rename_i t x lo Y Z
  split at h
  .rename_i S X
   cases h;simp only[execOp,Z];refine .afH I ?_;simp only[Option.map_none];exact KO hT I (bQ H x) (TM H lo) (TM H Y) X
  .cases h
 .rename_i t x f Z
  split at h
  .rename_i S X
   cases h;simp only[execOp,Z];exact .afH I (zY hT (bQ H x) X w)
  .cases h
 .rename_i t x f Z
  split at h
  .rename_i S X
   cases h;simp only[execOp,Z];exact .afH I (KL hT (bQ H x) X w)
  .cases h
 .rename_i t x i Z
  split at h
  .rename_i S X
   cases h;simp only[execOp,Z];exact .afH I (zZ hT (bQ H x) (bQ H i) X w)
  .cases h
 .rename_i t x i Z
  split at h
  .rename_i S X
   cases h;simp only[execOp,Z];exact .afH I (KM hT (bQ H x) (bQ H i) X w)
  .cases h
 .rename_i t Z
  cases h;simp only[execOp,Z,Option.map_none];exact .agl (GR I)
 .rename_i t m k ok Z
  split at h
  .rename_i S X
   cases h;simp only[execOp,Z];exact .afH I (Gq hT I (bQ H m) (bQ H k) X)
  .cases h
 .rename_i t m k x Z
  split at h
  .rename_i m' X
   cases h;obtain⟨w',G,N,h3⟩:=Ac (P:=P) hT I (bQ H m) (bQ H k) (bQ H x) X;simp only[execOp,Z];exact⟨.skip,w',μ,by simp[G],.inr ⟨rfl,rfl⟩,N,h3⟩
  .cases h
 .rename_i t m k Z
  simp only[execOp,Z];exact .agl (BP hT I (bQ H m) (bQ H k) h)
 .rename_i t m s x Z
  split at h
  .rename_i m' X
   cases h;obtain⟨w',G,N,h3⟩:=xK (P:=P) (t:=t) I (bQ H m) (bQ H s) (bQ H x) X;simp only[execOp,Z];exact⟨.skip,w',μ,by simp[G],.inr ⟨rfl,rfl⟩,N,h3⟩
  .cases h
 .rename_i t i Z
  split at h
  .rename_i cs U
   split at h
   .rename_i S Y
    cases h;have:=bQ H t;rw[U] at this;simp only[afj] at this;obtain⟨Us,F,hr⟩:=this;obtain⟨V,hV,hv⟩:=hr.get i _ Y;simp only[execOp,Z,F];exact .afH I ⟨V,by simp[Instr.extract,hV],hv⟩
   .cases h
  .cases h
 .rename_i x t Z
  split at h
  .rename_i S X
   cases h;simp only[execOp,Z,resolve,invoke,builtin,pure_bind];rw[show Array.map a.eval ⟨[x]⟩= #[a.eval x] by simp];exact .afH I (QZ hT I (bQ H x) X)
  .cases h
 .rename_i s x t t2 Z
  simp only[execOp,Z,resolve,invoke,builtin,pure_bind];rw[show Array.map a.eval ⟨[s,x]⟩= #[a.eval s,a.eval x] by simp];exact .agl (Gp hT I (bQ H s) (bQ H x) h)
 .rename_i x ts Z
  split at h
  .rename_i S X
   cases h;simp only[execOp,Z,resolve,invoke,builtin,pure_bind];rw[show Array.map a.eval ⟨[x]⟩= #[a.eval x] by simp];exact .afH I (Ad I _ _ (bQ H x) X)
  .cases h
 .rename_i x y pt it Z
  simp only[execOp,Z,resolve,invoke,builtin,pure_bind];rw[show Array.map a.eval ⟨[x,y]⟩= #[a.eval x,a.eval y] by simp];exact .agl (Gt hT I (bQ H x) (bQ H y) h)
 .rename_i x y ts Z
  split at h
  .rename_i k i k' j U K
   split at h
   .rename_i W
    cases h;subst W;have R:=bQ H x;have O:=bQ H y;rw[U] at R;rw[K] at O;simp only[execOp,Z,resolve,invoke,builtin,pure_bind];refine .afH I (.int ?_);simp[Builtin.min_,Builtin.min2,R.int,O.int]
   .cases h
  .rename_i s u U K
   cases h;have R:=bQ H x;have O:=bQ H y;rw[U] at R;rw[K] at O;simp only[execOp,Z,resolve,invoke,builtin,pure_bind];rw[show Array.map a.eval ⟨[x,y]⟩= #[a.eval x,a.eval y] by simp];exact .afH I (VL R O)
  .cases h
 .rename_i x y ts Z
  split at h
  .rename_i k i k' j U K
   split at h
   .rename_i W
    cases h;subst W;have R:=bQ H x;have O:=bQ H y;rw[U] at R;rw[K] at O;simp only[execOp,Z,resolve,invoke,builtin,pure_bind];refine .afH I (.int ?_);simp[Builtin.max_,Builtin.max2,R.int,O.int]
   .cases h
  .rename_i s u U K
   cases h;have R:=bQ H x;have O:=bQ H y;rw[U] at R;rw[K] at O;simp only[execOp,Z,resolve,invoke,builtin,pure_bind];rw[show Array.map a.eval ⟨[x,y]⟩= #[a.eval x,a.eval y] by simp];exact .afH I (VJ R O)
  .cases h
 .cases h
end
end Go.Eng
namespace Go.Eng
def Uw(P:Program)(f:FuncId):Prop:=∃fn,P.funcs[f]? =some fn/\fn.body.isSome=true/\(fn.name == "runtime.NumGoroutine")=false
abbrev Fr(H:Option Nat):Fence:={ Fence.wide with round:=H }
variable{f:FuncId}{ro:Option Nat}
theorem Ax{n:Nat}{P:Program}{args:Array Value}{w:World}{R:Ending->World->Prop}:CallsIn (Fr ro) n P f args w R↔Calls P f args w R:=
 callsIn_wide (n:=n)
def xW:String:=String.ofList ([105,110,116,101,114,110,97,108,47,115,116,114,99,111,110,118,46,117,105,110,116,54,52,112,111,119,49,48].map Char.ofNat)
structure GOk (P:Program)(base:Nat)(w:World):Prop where
 below:P.globals.size<=base
 tab:Lib.TabIs P w xW .u64 Lib.pow10Tab
theorem GOk.ahj{P:Program}{H:Nat}{w:World}(h:GOk P H w){s:String}(hs:xW=s):Lib.TabIs P w s .u64 Lib.pow10Tab:=hs▸h.tab
theorem Pk{H:Nat}{μ:Nat->Place}{mem:Mem}{w:World}(I:afv H μ mem w){b:Nat}(J:eJ mem b):H<=(μ b).blk:=by
 obtain⟨s,X,Z⟩:=J;have:=I.slot b s X;cases s with
 |qK=>cases Z
 |cells own es cs=>simp only[afl.own] at Z;subst Z;simp only[afx] at this;obtain⟨_,_,_,_,_,_,_,h⟩:=this;exact(h trivial).2.2.2
 |map es=>simp only[afx] at this;obtain⟨_,_,_,h,_⟩:=this;exact h.1
 |afS es=>cases Z
 |loop r=>simp only[afx] at this;obtain⟨_,_,h,_⟩:=this;exact h
variable{name:String}
theorem DU{P:Program}{g:Nat}(h:P.globalNamed name=some g):g<P.globals.size:=by
 unfold Program.globalNamed at h;split at h
 .rename_i X Z
  cases h;have:g∈(List.range P.globals.size).filter fun g=>(P.globals[g]?).any (·.name==name):=by rw[Z];simp
  simpa using (List.mem_filter.1 this).1
 .cases h
variable{w' :World}
theorem PB{P:Program}{w:World}(h:∀k,k<P.globals.size->w'.heap[k]? =w.heap[k]?):w'.var? P name=w.var? P name:=by
 unfold World.var?;cases hg:P.globalNamed name with
 |none=>rfl
 |some g=>simp only[Option.bind_some];rw[h g (DU hg)]
variable{m0:Nat}{μ' :Nat->Place}
theorem GOk.step{P:Program}{H:Nat}{μ:Nat->Place}{mem I :Mem}{w:World}(h:GOk P H w)(J:afv H μ mem w)(hS:Step m0 μ mem w μ' I w'):GOk P H w' :=by
 refine⟨h.below,?_⟩;have:=h.tab;unfold Lib.TabIs at this |-;rw[<-this];refine PB fun k X=>hS.frame k ?_ fun b Z=>?_
 .have:=h.below;have:=J.afr;omega
 .have:=Pk J Z;have:=h.below;omega
structure MOk (P:Program)(base h0:Nat)(w:World)(ds:List Deferred):Prop where
 agv:GOk P base w
 afr:base<=h0
 le:h0<=w.heap.size
 each:∀d∈ds,∃r,d={ target:=.collected r,args:= #[] }/\h0<=r/\w.heap[r]? =some (.deferred (some []))
 nodup:(ds.map (·.target)).Nodup
variable{h0:Nat}
theorem MOk.nil{P:Program}{H:Nat}(w:World)(hg:GOk P H w)(I:H<=h0)(h:h0<=w.heap.size):MOk P H h0 w []:=⟨hg,I,h,fun _ h=>by(cases h),by simp⟩
theorem qg{H:Nat}{μ:Nat->Place}{mem:Mem}{w:World}(I:afv H μ mem w){r:Nat}{x}(hr:w.heap[r]? =some (.deferred x)){b:Nat}{s:afl}(J:mem[b]? =some s)(hs:s≠ .qK):(μ b).blk≠r:=by
 intro e;have:=I.slot b s J;cases s with
 |qK=>exact hs rfl
 |cells own es cs=>simp only[afx] at this;obtain⟨_,_,_,Z,_⟩:=this;rw[e,hr] at Z;cases Z
 |map es=>simp only[afx] at this;obtain⟨_,_,Z,_⟩:=this;rw[e,hr] at Z;cases Z
 |afS es=>simp only[afx] at this;obtain⟨_,_,Z,_⟩:=this;rw[e,hr] at Z;cases Z
 |loop r=>simp only[afx] at this;obtain⟨_,Z,_⟩:=this;rw[e,hr] at Z;cases Z
theorem MOk.step{P:Program}{H:Nat}{μ:Nat->Place}{mem I :Mem}{w:World}{J:List Deferred}(h:MOk P H h0 w J)(W:afv H μ mem w)(hS:Step m0 μ mem w μ' I w'):MOk P H h0 w' J:=by refine⟨h.agv.step W hS,h.afr,QQJ h.le hS.size,fun d V=>?_,h.nodup⟩;obtain⟨r,e,U,Z⟩:=h.each d V;refine⟨r,e,U,?_⟩;rw[hS.frame r (Nm.1 Z).1 fun b X=>?_,Z];obtain⟨s,X,S⟩:=X;exact qg W Z X (afl.afT S)
def afU(P:Program)(f:FuncId)(args:List AV)(mem:Mem)(R:AV->Mem->Prop):Prop:=
 Uw P f/\∀base μ w Vs,GOk P base w->afv base μ mem w->afk μ mem.length args Vs->
  Calls P f ⟨Vs⟩ w fun e w' =>∃V v mem' μ',e=.returned V/\afj μ' mem'.length v V/\afv base μ' mem' w' /\Step mem.length μ mem w μ' mem' w' /\R v mem'
def kO(P:Program)(f:FuncId)(args:List AV)(mem:Mem)(v:AV) (H :Mem):Prop:=afU P f args mem fun Z X=>Z=v/\X=H
theorem afU.mono{P f args mem}{R H :AV->Mem->Prop}(h:afU P f args mem R)(hr:∀v m,R v m->H v m):afU P f args mem H :=
 ⟨h.1,fun base μ w Vs h0 h1 h2=>(h.2 base μ w Vs h0 h1 h2).mono fun _ _ ⟨V,v,m,μ',a,b,c,d,r⟩=>⟨V,v,m,μ',a,b,c,d,hr _ _ r⟩⟩
def af3(P:Program)(b:Nat)(args:List AV)(mem:Mem)(R:AV->Mem->Prop):Prop:=
 ∀base μ w Vs,GOk P base w->afv base μ mem w->afk μ mem.length args Vs->b<mem.length->∃f Z assign X,
  (Instr.yield (μ b).blk ⟨Vs⟩).run P w=.ok (.round (μ b).blk f Z assign X) w/\
  RoundIn Fence.wide 0 P (μ b).blk f Z assign X w fun e w' =>∃V v mem' μ',e=.returned V/\afj μ' mem'.length v V/\afv base μ' mem' w' /\Step mem.length μ mem w μ' mem' w' /\R v mem'
def gH(P:Program)(b:Nat)(args:List AV)(mem:Mem)(v:AV) (H :Mem):Prop:=af3 P b args mem fun Z X=>Z=v/\X=H
def AO(env:Env):Op->Option (Nat×List AV)
 |.call { callee:=.value x,args,argTypes:=_ }=>match get env x with
  |.yield b=>some (b,Xq env args)
  |_=>none
 |_=>none
def GA(env:Env):Op->Option (FuncId×List AV)
 |.call { callee:=.value x,args,argTypes:=_ }=>match get env x with
  |.func f Z=>some (f,Xq env args++Z)
  |_=>none
 |_=>none
def sE(ops:Array Oper)(env:Env)(o:Oper):Option Bool:=
 match o.guard with
 |none=>some true
 |some (j,acf)=>match (ops[j]?).bind (·.dst) with
  |some d=>match ae env d with
   |.bool b=>some (b==acf)
   |.tuple []=>some false
   |_=>none
  |none=>none
def af9(env:Env)(H:Option Tmp)(v:AV):Env:=
 match H with
 |some d=>(d,v)::env
 |none=>env
structure St where
 env:Env
 mem:Mem
def DT(N:Nat)(o:Oper):Bool:=match o.dst with
 |some d=>decide (d<N)
 |none=>true
def xg(P:Program)(T:TypeId->Option TyI)(env:Env)(mem:Mem)(o:Oper)(v:AV) (H :Mem):Prop:=
 aOp T env mem o.op=some (v,H)\/(∃f Z,GA env o.op=some (f,Z)/\kO P f Z mem v H)\/
  ∃b Z,AO env o.op=some (b,Z)/\gH P b Z mem v H
def ni(P:Program)(T:TypeId->Option TyI)(N:Nat)(ops:Array Oper):List Oper->St->St->Prop
 | [],st,T' =>T' =st
 |o::os,st,T' =>∃b,sE ops st.env o=some b/\DT N o=true/\
   (b=false->ni P T N ops os ⟨af9 st.env o.dst (.tuple []),st.mem⟩ T')/\
   (b=true->∃v Z,xg P T st.env st.mem o v Z /\ni P T N ops os ⟨af9 st.env o.dst v,Z⟩ T')
variable{o:Oper}
section
variable {P:Program}{T:TypeId->Option TyI}{μ:Nat->Place}{mem:Mem}{base:Nat}{w:World}
theorem afO.af9{n N:Nat}{env:Env}{a:Act}{v:AV}{V:Value}(h:afO μ n env a.tmps)(H:a.tmps.size=N)(hd:DT N o=true)(I:afj μ n v V):
  afO μ n (af9 env o.dst v) (a.put o.dst V).tmps:=by
 unfold DT at hd;cases ho:o.dst with
 |none=>simpa [Go.Eng.af9,Act.put] using h
 |some d=>
  rw[ho] at hd;simp only[Es] at hd;exact h.put (by rw[H];exact hd) I
theorem fV(a:Act)(d:Option Tmp)(V:Value):(a.put d V).tmps.size=a.tmps.size:=by cases d<;>simp[Act.put]
theorem gp(a:Act)(d:Option Tmp)(V:Value):(a.put d V).defers=a.defers:=by cases d<;>rfl
theorem pY{env:Env}{n:Nat}{ops:Array Oper}{a:Act}{b:Bool}(H:afO μ n env a.tmps)(h:sE ops env o=some b):
  Region.wanted o (yielded ops a.tmps)=b:=by
 unfold sE at h;unfold Region.wanted;split at h
 next V=>cases h;simp[V]
 .rename_i j X V
  simp only[V];split at h
  .rename_i d R
   split at h
   .rename_i O U
    cases h;have:=H d;rw[U] at this;have Z:=this.bool;simp only[yielded,R,Option.bind_some];have S:a.tmps[d]? =some (.bool O):=by
     rw[Array.getD_eq_getD_getElem?] at Z;cases hx:a.tmps[d]? with
     |none=>rw[hx] at Z;simp[undef] at Z
     |some y=>rw[hx] at Z;simp at Z;rw[Z]
    rw[S];cases O <;>cases X<;>rfl
   .rename_i U
    cases h;have:=H d;rw[U] at this;simp only[afj,afk] at this;obtain⟨N,Z,rfl⟩:=this;simp only[yielded,R,Option.bind_some];rw[Array.getD_eq_getD_getElem?] at Z;cases hx:a.tmps[d]? with
    |none=>rfl
    |some y=>rw[hx] at Z;simp only[Option.getD_some] at Z;rw[Z];cases X<;>rfl
   .cases h
  .cases h
theorem yS(h:Uw P f)(args:Array Value)(w:World):(callFunc f args).run P w=.ok (.enter f args) w:=by
 obtain⟨fn,X,Z,h3⟩:=h;have V:¬fn.body=none:=by intro e;rw[e] at Z;cases Z
 have U:¬fn.name = "runtime.NumGoroutine" := by simpa using h3
 simp[callFunc,X,U,V]
theorem Gr{T:TypeId->Option TyI}{env:Env}{mem:Mem}{H:Op}{r}(h:aOp T env mem H=some r):∀c,H≠ .defer c:=by intro c e;subst e;simp[aOp] at h
theorem sj(hT:dN P T)(hG:GOk P base w)(Y:afv base μ mem w){N:Nat}{env:Env}{a:Act}{v:AV}{H :Mem}(I:afO μ mem.length env a.tmps)(J:a.tmps.size=N)(hd:DT N o=true)(h:xg P T env mem o v H){K:Act->World->Prop}{Q:Exit->Act->World->Prop}(W:∀V w' μ',afj μ' H.length v V->afv base μ' H w' ->afO μ' H.length (af9 env o.dst v) (a.put o.dst V).tmps->Step mem.length μ mem w μ' H w' ->K (a.put o.dst V) w'):
  o.wpIn (Fr ro) 0 P a w K Q:=by
 refine⟨fun _ _=>trivial,?_⟩;rcases h with h | ⟨f,S,Z,R⟩ | ⟨b,S,Z,hy⟩
 .rw[Oper.semAt_eq _ _ _ (Gr h)]
  obtain⟨N',w',μ',B,u,h3,C⟩:=Su hT Y I h;rw[B];have O :afO μ' H.length env a.tmps:=I.mono C.len C.agree;rcases u with⟨V,rfl,M⟩ | ⟨rfl,rfl⟩
  .exact W V w' μ' M h3 (O.af9 J hd M) C
  .have M:afj μ' H.length .undef undef:=by simp[afj]
   exact W undef w' μ' M h3 (O.af9 J hd M) C
 .unfold GA at Z
  split at Z
  .rename_i x U ts L
   split at Z
   .rename_i f' caps m
    cases Z;have X:=bQ I x;rw[m] at X;simp only[afj] at X;obtain⟨Us,j,hus⟩:=X;have Y6:(execOp a.eval o).run P w=.ok (.enter f ⟨U.toList.map a.eval++Us⟩) w:=by simp only[execOp,L,resolve,j,Deferred.ofValue,pure_bind,invoke];rw[yS R.1];congr 2;apply Array.ext';simp
    rw[Oper.semAt_eq _ _ _ (by rw[L];intro c e;cases e),Y6];refine⟨fun h=>by simp[Fence.wide] at h,Ax.2 ((R.2 base μ w _ hG Y ((AB I U.toList).append hus)).mono ?_)⟩;rintro e w' ⟨V,v',m',μ',rfl,q1,q2,q3,rfl,rfl⟩;exact W V w' μ' q1 q2 ((I.mono q3.len q3.agree).af9 J hd q1) q3
   .cases Z
  .cases Z
 .unfold AO at Z
  split at Z
  .rename_i x U ts L
   split at Z
   .rename_i b' m
    cases Z;have X:=bQ I x;rw[m] at X;simp only[afj] at X;obtain⟨hb,j⟩:=X;obtain⟨f,G,Zb,D,B,u⟩:=hy base μ w _ hG Y (AB I U.toList) hb;have Y6:(execOp a.eval o).run P w=.ok (.round (μ b).blk f G Zb D) w:=by
     rw[<-B];simp only[execOp,L,resolve,j,Deferred.ofValue,pure_bind,invoke];have e: #[]++U.map a.eval=(⟨U.toList.map a.eval⟩:Array Value):=by apply Array.ext';simp
     rw[e]
    rw[Oper.semAt_eq _ _ _ (by rw[L];intro c e;cases e),Y6];refine⟨fun h=>by simp[Fence.wide] at h,RoundIn.mono (F:=Fr ro) u ?_⟩;rintro e w' ⟨V,v',m',μ',rfl,q1,q2,q3,rfl,rfl⟩;exact W V w' μ' q1 q2 ((I.mono q3.len q3.agree).af9 J hd q1) q3
   .cases Z
  .cases Z
theorem wQ(hT:dN P T){N:Nat}{ops:Array Oper}{Q:Exit->Act->World->Prop}:∀{l:List Oper}{H I :St}{μ:Nat->Place} {w:World} {a:Act} {m0:Nat}{μ0:Nat->Place} {mem0:Mem} {w0:World} {h0:Nat} {ro:Option Nat},
  ni P T N ops l H I ->afv base μ H.mem w->afO μ H.mem.length H.env a.tmps->a.tmps.size=N->MOk P base h0 w a.defers->m0<=H.mem.length->Step m0 μ0 mem0 w0 μ H.mem w->
  (∀a' w' μ',afv base μ' I.mem w' ->afO μ' I.mem.length I.env a'.tmps->a'.tmps.size=N->MOk P base h0 w' a'.defers->m0<=I.mem.length->Step m0 μ0 mem0 w0 μ' I.mem w' ->Q .normal a' w')->
  wpListIn (Fr ro) 0 P ops Q l a w
 | [],H,I,μ,w,a,m0,μ0,mem0,w0,h0,ro,h,hH,hR,hN,hdf,hm,hS,hQ=>by simp only[ni] at h;subst h;exact wpListIn_nil (hQ a w μ hH hR hN hdf hm hS)
 |o::os,H,I,μ,w,a,m0,μ0,mem0,w0,h0,ro,h,hH,hR,hN,hdf,hm,hS,hQ=>by
  obtain⟨b,R,X,O,M⟩:=h;refine wpListIn_step fun K U=>?_
  rw[pY hR R];cases b with
  |false=>
   simp only[Bool.false_eq_true,if_false];refine⟨fun _ _=>trivial,?_⟩;refine U _ _ (wQ hT (O rfl) hH (hR.af9 hN X (by simp[afj,afk,undef])) (by rw[fV];exact hN) (by rw[gp];exact hdf) hm hS hQ)
  |true=>
   simp only[if_true];obtain⟨v,S,Z,L⟩:=M rfl;refine sj hT hdf.agv hH hR hN X Z fun V w' μ' q1 q2 q3 q4=>U _ _ ?_
   exact wQ hT L q2 q3 (by rw[fV];exact hN) (by rw[gp];exact hdf.step hH q4) (QQJ hm q4.len) (hS.trans (q4.mono hm)) hQ
end
end Go.Eng
namespace Go.Eng
def AWP(P:Program)(tp:Bool)(N m0:Nat)(c:Code)(H:St)(Q:Exit->St->Prop):Prop:=
 ∀(X:Option Nat) (V:Nat) base μ w a,(tp=true->X=none)->afv base μ H.mem w->afO μ H.mem.length H.env a.tmps->a.tmps.size=N->MOk P base V w a.defers->m0<=H.mem.length->
  c.wpIn (Fr X) 0 P (fun e Z w' =>∃T' μ',afv base μ' T'.mem w' /\afO μ' T'.mem.length T'.env Z.tmps/\Z.tmps.size=N/\MOk P base V w' Z.defers/\m0<=T'.mem.length/\
   Step m0 μ H.mem w μ' T'.mem w' /\Q e T') a w
variable{Q' :Exit->St->Prop}{c:Code}{id:Nat}
section
variable {P:Program}{T:TypeId->Option TyI}{tp:Bool}{N m0:Nat}{Q:Exit->St->Prop}{st:St}
theorem AWP.mono(h:AWP P tp N m0 c st Q)(hq:∀e s,Q e s->Q' e s):AWP P tp N m0 c st Q' :=
 fun ro h0 base μ w a hro h1 h2 h3 h4 h5=>wpIn_mono (h ro h0 base μ w a hro h1 h2 h3 h4 h5) fun _ _ _ ⟨s,μ',a1,a2,a3,a4,a5,a6,a7⟩=>⟨s,μ',a1,a2,a3,a4,a5,a6,hq _ _ a7⟩
theorem Vo(h:Q .normal st):AWP P tp N m0 .skip st Q:=
 fun _ _ _ μ _ _ _ h1 h2 h3 h4 h5=>wpIn_skip ⟨st,μ,h1,h2,h3,h4,h5,.refl h5,h⟩
theorem Vm(h:Q (.exit id) st):AWP P tp N m0 (.exit id) st Q:=
 fun _ _ _ μ _ _ _ h1 h2 h3 h4 h5=>wpIn_exit ⟨st,μ,h1,h2,h3,h4,h5,.refl h5,h⟩
theorem WL(h:Q .ret st):AWP P tp N m0 .ret st Q:=
 fun _ _ _ μ _ _ _ h1 h2 h3 h4 h5=>wpIn_ret ⟨st,μ,h1,h2,h3,h4,h5,.refl h5,h⟩
def Ya(R:St->Prop)(Q:Exit->St->Prop):Exit->St->Prop
 |.normal,s=>R s
 |e,s=>Q e s
theorem xM{x y:Code}(h:AWP P tp N m0 x st (Ya (fun s=>AWP P tp N m0 y s Q) Q)):AWP P tp N m0 (.seq x y) st Q:=by
 intro ro h0 base μ w a hro h1 h2 h3 h4 h5;refine wpIn_seq (wpIn_mono (h ro h0 base μ w a hro h1 h2 h3 h4 h5) ?_);rintro e a' w' ⟨s,μ',b1,b2,b3,b4,b5,b6,b7⟩;cases e with
 |normal=>
  refine wpIn_mono (b7 ro h0 base μ' w' a' hro b1 b2 b3 b4 b5) ?_;rintro e a2 w2 ⟨s2,μ2,c1,c2,c3,c4,c5,c6,c7⟩;exact⟨s2,μ2,c1,c2,c3,c4,c5,b6.trans c6,c7⟩
 |_=>exact⟨s,μ',b1,b2,b3,b4,b5,b6,b7⟩
theorem OV{c:Operand}{x y:Code}{b:Bool}(hc:get st.env c=.bool b)(H:b=true->AWP P tp N m0 x st Q)(hf:b=false->AWP P tp N m0 y st Q):
  AWP P tp N m0 (.cond c x y) st Q:=by
 intro ro h0 base μ w a hro h1 h2 h3 h4 h5;have Z:=bQ h2 c;rw[hc] at Z;exact wpIn_cond_split Z.bool (fun e=>H e ro h0 base μ w a hro h1 h2 h3 h4 h5) (fun e=>hf e ro h0 base μ w a hro h1 h2 h3 h4 h5)
def OX(id:Nat)(Q:Exit->St->Prop):Exit->St->Prop
 |.exit i,s=>if i=id then Q .normal s else Q (.exit i) s
 |e,s=>Q e s
theorem BW(h:AWP P tp N m0 c st (OX id Q)):AWP P tp N m0 (.block id c) st Q:=by
 intro ro h0 base μ w a hro h1 h2 h3 h4 h5;refine wpIn_block (wpIn_mono (h ro h0 base μ w a hro h1 h2 h3 h4 h5) ?_);rintro e a' w' ⟨s,μ',b1,b2,b3,b4,b5,b6,b7⟩;cases e with
 |exit i=>
  simp only[Exit.inBlock,OX] at b7 |-;split at b7
  next Z=>rw[if_pos Z];exact⟨s,μ',b1,b2,b3,b4,b5,b6,b7⟩
  next Z=>rw[if_neg Z];exact⟨s,μ',b1,b2,b3,b4,b5,b6,b7⟩
 |_=>exact⟨s,μ',b1,b2,b3,b4,b5,b6,b7⟩
theorem Q6(hT:dN P T){ops:Array Oper}{H :St}(h:ni P T N ops ops.toList st H)(hq:Q .normal H):
  AWP P tp N m0 (.region id ops false) st Q:=by
 intro ro h0 base μ w a hro h1 h2 h3 h4 h5;exact wpIn_region_list (wQ hT h h1 h2 h3 h4 h5 (.refl h5) fun a' w' μ' c1 c2 c3 c4 c5 c6=>⟨H,μ',c1,c2,c3,c4,c5,c6,hq⟩)
theorem zo{F:Fence}{r:Nat}{σ:Type}{Q:Exit->Act->World->Prop}(I:σ->Act->World->Prop)(m:σ->Nat)(H:∀s a w,I s a w->c.wpIn F r P (Exit.then (fun U w' =>∃O,I O U w' /\m O <m s) Q) a w):
  ∀{s a w},I s a w->(Code.loop c).wpIn F r P Q a w:=by
 intro s a w h₀ b k cs hro hb hr;have M:∀n s a w,m s=n->I s a w->
   ∃e U w',Q e U w' /\ArrivesIn (Machine.fenced P F) P (lone (b.atR a (.code c::.inLoop c::k)) cs w) b k cs e U w' :=by
  intro n;induction n using Nat.strongRecOn with
  |_ n ih=>
   intro s a w G D;obtain⟨e,S,R,X,Z⟩:=H s a w D b (.inLoop c::k) cs hro hb hr;cases e with
   |normal=>
    obtain⟨O,L,C⟩:=X;obtain⟨B,u,o,K,V⟩:=ih (m O) (G▸C) O S R rfl L;exact⟨B,u,o,K,.of_steps (StepsIn.trans Z (.one (fenced_calm hb hr rfl) stepR_inLoop)) V⟩
   |exit id=>exact⟨_,S,R,X,.pass (x:=.inLoop c) rfl (fun _ _=>.inl (by simp)) Z⟩
   |goto l=>exact⟨_,S,R,X,.pass (x:=.inLoop c) rfl (fun _ _=>.inl (by simp)) Z⟩
   |ret=>exact⟨_,S,R,X,.pass (x:=.inLoop c) rfl (fun _ _=>.inl (by simp)) Z⟩
   |panic ch=>exact⟨_,S,R,X,.pass (x:=.inLoop c) rfl (fun _ _=>.inl (by simp)) Z⟩
   |outgrown=>exact⟨_,S,R,X,.pass (x:=.inLoop c) rfl (fun _ _=>.inl (by simp)) Z⟩
 obtain⟨e,U,w',X,Z⟩:=M _ s a w rfl h₀;exact⟨e,U,w',X,.of_steps (.one (fenced_calm hb hr rfl) stepR_loop) Z⟩
theorem Vn{σ:Type}(I:σ->St->Prop)(m:σ->Nat){s:σ}(J:I s st)(H:∀s st,I s st->AWP P tp N m0 c st (Ya (fun Z =>∃V,I V Z /\m V <m s) Q)):AWP P tp N m0 (.loop c) st Q:=by
 intro ro h0 base μ w a hro h1 h2 h3 h4 h5;refine zo (σ:=σ) (fun s X w' =>∃Z μ',afv base μ' Z.mem w' /\afO μ' Z.mem.length Z.env X.tmps/\X.tmps.size=N/\MOk P base h0 w' X.defers/\m0<=Z.mem.length/\
   Step m0 μ st.mem w μ' Z.mem w' /\I s Z) m ?_ (s:=s) ⟨st,μ,h1,h2,h3,h4,h5,.refl h5,J⟩
 rintro s X w' ⟨Z,μ',b1,b2,b3,b4,b5,b6,b7⟩;refine wpIn_mono (H s Z b7 ro h0 base μ' w' X hro b1 b2 b3 b4 b5) ?_;rintro e a2 w2 ⟨s2,μ2,c1,c2,c3,c4,c5,c6,c7⟩;cases e with
 |normal=>
  obtain⟨V,d1,d2⟩:=c7;exact⟨V,⟨s2,μ2,c1,c2,c3,c4,c5,b6.trans c6,d1⟩,d2⟩
 |_=>exact⟨s2,μ2,c1,c2,c3,c4,c5,b6.trans c6,c7⟩
def age(m0:Nat)(st st1:St):Prop:=∀base μ w tmps,afv base μ st.mem w->afO μ st.mem.length st.env tmps->m0<=st.mem.length->
 ∃μ1,afv base μ1 st1.mem w/\afO μ1 st1.mem.length st1.env tmps/\m0<=st1.mem.length/\Step m0 μ st.mem w μ1 st1.mem w
theorem Vp{st1:St}(H:age m0 st st1)(h:AWP P tp N m0 c st1 Q):AWP P tp N m0 c st Q:=by intro ro h0 base μ w a hro h1 h2 h3 h4 h5;obtain⟨μ1,Z,X,V,U⟩:=H base μ w a.tmps h1 h2 h5;refine wpIn_mono (h ro h0 base μ1 w a hro Z X h3 h4 V) ?_;rintro e a2 w2 ⟨s2,μ2,c1,c2,c3,c4,c5,c6,c7⟩;exact⟨s2,μ2,c1,c2,c3,c4,c5,U.trans c6,c7⟩
theorem age.trans{s1 H I:St}(h:age m0 s1 H)(h' :age m0 H I):age m0 s1 I:=by intro base μ w tmps h1 h2 h3;obtain⟨μ1,Z,X,V,U⟩:=h base μ w tmps h1 h2 h3;obtain⟨μ2,S,R,O,M⟩:=h' base μ1 w tmps Z X V;exact⟨μ2,S,R,O,U.trans M⟩
theorem age.env{env H:Env}{mem:Mem}(h:∀t,ae H t=ae env t\/ae H t=.undef):age m0 ⟨env,mem⟩ ⟨H,mem⟩:=by
 intro base μ w tmps h1 h2 h3;refine⟨μ,h1,fun t=>?_,h3,.refl h3⟩;rcases h t with e | e
 .rw[e];exact h2 t
 .rw[e];simp[afj]
theorem AWP.ahI(h:AWP P tp N m0 c st Q')(hq:∀e s,Q' e s->∃Z,age m0 s Z/\Q e Z):AWP P tp N m0 c st Q:=by intro ro h0 base μ w a hro h1 h2 h3 h4 h5;refine wpIn_mono (h ro h0 base μ w a hro h1 h2 h3 h4 h5) ?_;rintro e a2 w2 ⟨s2,μ2,c1,c2,c3,c4,c5,c6,c7⟩;obtain⟨Z,X,hQ⟩:=hq e s2 c7;obtain⟨μ1,V,U,S,R⟩:=X base μ2 w2 a2.tmps c1 c2 c5;exact⟨Z,μ1,V,U,c3,c4,S,c6.trans R,hQ⟩
end
end Go.Eng
namespace Go.Eng
def rho(m0:Nat)(ks:List Nat)(b:Nat):Option Nat:=if b<m0 then some b else (ks.idxOf? b).map (m0+·)
def su(ρ:Nat->Option Nat)(env:Env):Env:=env.map fun e=>(e.1,e.2.ren ρ)
def afl.ren(ρ:Nat->Option Nat):afl->afl
 |.qK=>.qK
 |.cells own es cs=>.cells own es (AV.afz ρ cs)
 |.map es=>.map (es.map fun e=>(e.1.ren ρ,e.2.ren ρ))
 |.afS es=>.afS (es.map fun e=>(e.1.ren ρ,e.2.ren ρ))
 |.loop r=>.loop { r with env:=su ρ r.env }
def af4(m0:Nat)(ks:List Nat)(mem:Mem):Mem:=ks.map fun k=>(mem.getD k .qK).ren (rho m0 ks)
def afu(m0:Nat)(ks:List Nat)(mem:Mem):Mem:=(mem.take m0).map (afl.ren (rho m0 ks))++af4 m0 ks mem
def DX(m0 n:Nat)(ks:List Nat):Bool:=decide ks.Nodup&&ks.all fun k=>decide (m0<=k/\k<n)
theorem jm(ρ:Nat->Option Nat):∀(env:Env) (t:Nat),ae (su ρ env) t=(ae env t).ren ρ
 | [],t=>by simp[su,ae,AV.ren]
 |(k,v)::r,t=>by
  simp only[su,List.map_cons,ae];by_cases h:k=t
  .simp[h]
  .simp only[h,if_false];exact jm ρ r t
variable{ks:List Nat}{p:Place}
section
variable {μ:Nat->Place}{mem:Mem}{base:Nat}{w:World}
theorem afx.ren{μ μ' :Nat->Place}{n n' base:Nat}{w:World}{s:afl}{ρ:Nat->Option Nat}(hρ:∀b b',b<n->ρ b=some b' ->b' <n' /\μ' b' =μ b)(h:afx μ n base w p s):afx μ' n' base w p (s.ren ρ):=by
 cases s with
 |qK=>trivial
 |cells own es cs=>
  simp only[afx,afl.ren] at h |-;obtain⟨O,e,fr,Z,X,h3,R,u⟩:=h;refine⟨O,e,fr,Z,X,by rw[ix,QXY];exact h3,fun j v N=>?_,u⟩;rw[ix,Zo] at N;simp only[Y2] at N;obtain⟨v0,M,rfl⟩:=N;obtain⟨V,hV,o⟩:=R j v0 M;exact⟨V,hV,o.ren hρ⟩
 |map es=>
  simp only[afx,afl.ren] at h |-;obtain⟨K,G,Z,X,h3,R⟩:=h;refine⟨K,G,Z,X,by rw[QXY];exact h3,fun j e U=>?_⟩;rw[Zo] at U;simp only[Y2] at U;obtain⟨F,S,rfl⟩:=U;obtain⟨E,D,C,B⟩:=R j F S;exact⟨E,D,C.ren hρ,B.ren hρ⟩
 |afS es=>
  simp only[afx,afl.ren] at h |-;obtain⟨K,G,Z,X,h3,R⟩:=h;refine⟨K,G,Z,X,by rw[QXY];exact h3,fun j e U=>?_⟩;rw[Zo] at U;simp only[Y2] at U;obtain⟨F,S,rfl⟩:=U;obtain⟨E,D,C,B⟩:=R j F S;exact⟨E,D,C.ren hρ,B.ren hρ⟩
 |loop r=>
  simp only[afx,afl.ren] at h |-;obtain⟨L,Z,X,h3⟩:=h;exact⟨L,Z,X,{ h3 with tmps:=fun t=>by rw[jm];exact(h3.tmps t).ren hρ }⟩
theorem afl.agI(ρ:Nat->Option Nat)(s:afl):(s.ren ρ).own=s.own:=by cases s<;>rfl
theorem Cl{m0 n:Nat}(h:DX m0 n ks=true):ks.Nodup/\∀k∈ks,m0<=k/\k<n:=by simp only[DX,C0,Es,List.all_eq_true] at h;exact h
theorem fZ{m0:Nat}(H:m0<=mem.length):(afu m0 ks mem).length=m0+ks.length:=by simp[afu,af4];omega
def iW(m0:Nat)(ks:List Nat)(b:Nat):Nat:=if b<m0 then b else ks.getD (b-m0) 0
theorem uR{m0:Nat}(I:m0<=mem.length)(H:DX m0 mem.length ks=true){b:Nat}{s:afl}(h:(afu m0 ks mem)[b]? =some s):
  ∃Z,mem[iW m0 ks b]? =some Z/\s=Z.ren (rho m0 ks):=by
 obtain⟨_,O⟩:=Cl H;have N:((mem.take m0).map (afl.ren (rho m0 ks))).length=m0:=by simp;omega
 unfold afu at h;by_cases V:b<m0
 .rw[GE (by omega),Zo,QQQ V] at h
  simp only[Y2] at h;obtain⟨Z,X,U⟩:=h;exact⟨Z,by simpa [iW,V] using X,U.symm⟩
 .rw[V1 (by omega),N] at h
  unfold af4 at h;rw[Zo] at h;simp only[Y2] at h;obtain⟨k,X,U⟩:=h;have S:=J1 X;obtain⟨_,R⟩:=O k S;have M:mem[k]? =some mem[k]:=by simp[R]
  refine⟨mem[k],?_,?_⟩
  .simp[iW,V,X,R]
  .rw[<-U];simp[List.getD,M]
theorem Q7{m0:Nat}(H:DX m0 mem.length ks=true){x y:Nat}(I:x<m0+ks.length)(J:y<m0+ks.length)(h:iW m0 ks x=iW m0 ks y):x=y:=by
 obtain⟨X,S⟩:=Cl H;have Z:∀z,¬z<m0->z<m0+ks.length->m0<=ks.getD (z-m0) 0:=by
  intro z V U;have R:z-m0<ks.length:=by omega
  have:ks.getD (z-m0) 0=ks[z-m0]:=by simp[R]
  rw[this];exact(S _ (by simp)).1
 unfold iW at h;by_cases V:x<m0<;>by_cases U:y<m0<;>simp only[V,U,if_true,if_false] at h
 .exact h
 .have:=Z y U J;omega
 .have:=Z x V I;omega
 .have O :x-m0<ks.length:=by omega
  have N :y-m0<ks.length:=by omega
  have M:ks.getD (x-m0) 0=ks[x-m0]:=by simp[O]
  have L:ks.getD (y-m0) 0=ks[y-m0]:=by simp[N]
  rw[M,L] at h;have:=(List.getElem_inj X).1 h;omega
theorem afv.afu{m0:Nat}(J:afv base μ mem w)(H:m0<=mem.length)(I:DX m0 mem.length ks=true):
  afv base (fun b=>μ (iW m0 ks b)) (afu m0 ks mem) w/\
  (∀b X,b<mem.length->rho m0 ks b=some X ->X <(Eng.afu m0 ks mem).length/\(fun b=>μ (iW m0 ks b)) X =μ b)/\
  Step m0 μ mem w (fun b=>μ (iW m0 ks b)) (Eng.afu m0 ks mem) w:=by
 obtain⟨B,W⟩:=Cl I;have hρ:∀b X,b<mem.length->rho m0 ks b=some X ->X <(Eng.afu m0 ks mem).length/\(fun b=>μ (iW m0 ks b)) X =μ b:=by
  intro b X O V;rw[fZ H];unfold rho at V;by_cases Z:b<m0
  .rw[if_pos Z] at V
   cases V;exact⟨by omega,by simp[iW,Z]⟩
  .rw[if_neg Z] at V
   simp only[Y2] at V;obtain⟨i,u,rfl⟩:=V;have M :=List.idxOf?_eq_some_iff.1 u;obtain⟨N,o,_⟩:=M;refine⟨by omega,?_⟩;simp only[iW];rw[if_neg (by omega)];have:ks.getD (m0+i-m0) 0=b:=by rw[Nat.add_sub_cancel_left];simp[N,o]
   rw[this]
 have U:∀x,eJ (Eng.afu m0 ks mem) x->eJ mem (iW m0 ks x)/\x<m0+ks.length:=by intro x L;obtain⟨s,D,m⟩:=L;have N:=gL D;rw[fZ H] at N;obtain⟨S,Z,rfl⟩:=uR H I D;exact⟨⟨S,Z,by rw[<-afl.agI];exact m⟩,N⟩
 refine⟨⟨J.afr,fun b s j=>?_,fun x y s L C Y K=>?_⟩,hρ,?_⟩
 .obtain⟨S,Z,rfl⟩:=uR H I j
  exact(J.slot _ S Z).ren hρ
 .obtain⟨G,F⟩:=U x L
  have R:=gL C;rw[fZ H] at R;obtain⟨S,Z,rfl⟩:=uR H I C;refine J.sep _ _ S G Z ?_ fun e=>K (Q7 I F R e)
  rintro rfl;exact Y rfl
 .refine⟨by rw[fZ H];omega,fun b O=>by simp[iW,O],rfl,rfl,rfl,L9 _,fun _ _ _=>rfl,fun b O _=>?_,L9 _⟩
  exact⟨_,(U b O).1,rfl⟩
theorem age.afu{m0:Nat}{env:Env}{mem:Mem}(ks:List Nat)(H:DX m0 mem.length ks=true):
  age m0 ⟨env,mem⟩ ⟨su (rho m0 ks) env,afu m0 ks mem⟩:=by
 intro base μ w tmps h1 h2 h3;obtain⟨Z,X,V⟩:=h1.afu h3 H;refine⟨_,Z,fun t=>?_,by rw[fZ h3];omega,V⟩;rw[jm];exact(h2 t).ren X
end
mutual
theorem afj.lower{μ μ' :Nat->Place}{n n' :Nat}(hμ:∀b,b<n->μ' b=μ b):∀{v V V'},afj μ n v V->afj μ' n' v V' ->afj μ n v V'
 |.undef,_,_,_,_=>by simp[afj]
 |.bool _,_,_,_,h=>by simpa [afj] using h
 |.int _ _,_,_,_,h=>by simpa [afj] using h
 |.str _,_,_,_,h=>by simpa [afj] using h
 |.ptr b o,_,_,h,Z =>by simp only[afj] at h Z |-;exact⟨h.1,by rw[<-hμ b h.1];exact Z.2⟩
 |.afw,_,_,_,h=>by simpa [afj] using h
 |.slice b o l c,_,_,h,Z =>by simp only[afj] at h Z |-;exact⟨h.1,by rw[<-hμ b h.1];exact Z.2⟩
 |.qF,_,_,_,h=>by simpa [afj] using h
 |.map b,_,_,h,Z =>by simp only[afj] at h Z |-;exact⟨h.1,by rw[<-hμ b h.1];exact Z.2⟩
 |.yield b,_,_,h,Z =>by simp only[afj] at h Z |-;exact⟨h.1,by rw[<-hμ b h.1];exact Z.2⟩
 |.afG,_,_,_,h=>by simpa [afj] using h
 |.func f R,_,_,h,Z =>by simp only[afj] at h Z |-;obtain⟨O,e,h⟩:=h;obtain⟨X,S,Z⟩:=Z;exact⟨X,S,afk.lower hμ h Z⟩
 |.nilFunc,_,_,_,h=>by simpa [afj] using h
 |.iface t v,_,_,h,Z =>by simp only[afj] at h Z |-;obtain⟨U,e,h⟩:=h;obtain⟨N,S,Z⟩:=Z;exact⟨N,S,afj.lower hμ h Z⟩
 |.nilIface,_,_,_,h=>by simpa [afj] using h
 |.agg R,_,_,h,Z =>by simp only[afj] at h Z |-;obtain⟨O,e,h⟩:=h;obtain⟨X,S,Z⟩:=Z;exact⟨X,S,afk.lower hμ h Z⟩
 |.tuple R,_,_,h,Z =>by simp only[afj] at h Z |-;obtain⟨O,e,h⟩:=h;obtain⟨X,S,Z⟩:=Z;exact⟨X,S,afk.lower hμ h Z⟩
theorem afk.lower{μ μ' :Nat->Place}{n n' :Nat}(hμ:∀b,b<n->μ' b=μ b):∀{vs Us Us'},afk μ n vs Us->afk μ' n' vs Us' ->afk μ n vs Us'
 | [],_,_,_,h=>by simpa [afk] using h
 |v::vs,_,_,h,h' =>by simp only[afk] at h h' |-;obtain⟨U,M,e,V,S⟩:=h;obtain⟨R,Z,O,N,X⟩:=h';exact⟨R,Z,O,afj.lower hμ V N,afk.lower hμ S X⟩
end
theorem afx.lower{μ μ' :Nat->Place}{n n' base:Nat}{w w' :World}{s:afl}(hμ:∀b,b<n->μ' b=μ b)(h:afx μ n base w p s)(h' :afx μ' n' base w' p s):afx μ n base w' p s:=by
 cases s with
 |qK=>trivial
 |cells own es cs=>
  simp only[afx] at h h' |-;obtain⟨_,_,_,_,_,_,U,_⟩:=h;obtain⟨R,e,fr,g1,g2,g3,g4,u⟩:=h';refine⟨R,e,fr,g1,g2,g3,fun j v B=>?_,u⟩;obtain⟨V,_,o⟩:=U j v B;obtain⟨m,O,N⟩:=g4 j v B;exact⟨m,O,o.lower hμ N⟩
 |map es=>
  simp only[afx] at h h' |-;obtain⟨_,_,_,_,_,U⟩:=h;obtain⟨M,K,g1,g2,g3,g4⟩:=h';refine⟨M,K,g1,g2,g3,fun j e S=>?_⟩;obtain⟨E,_,G,F⟩:=U j e S;obtain⟨D,C,Z,X⟩:=g4 j e S;exact⟨D,C,G.lower hμ Z,F.lower hμ X⟩
 |afS es=>
  simp only[afx] at h h' |-;obtain⟨_,_,_,_,_,U⟩:=h;obtain⟨M,K,g1,g2,g3,g4⟩:=h';refine⟨M,K,g1,g2,g3,fun j e S=>?_⟩;obtain⟨E,_,G,F⟩:=U j e S;obtain⟨D,C,Z,X⟩:=g4 j e S;exact⟨D,C,G.lower hμ Z,F.lower hμ X⟩
 |loop r=>
  simp only[afx] at h h' |-;obtain⟨L,_,_,h3⟩:=h;obtain⟨Y,g1,g2,g3⟩:=h';exact⟨Y,g1,g2,{ g3 with tmps:=fun t=>(h3.tmps t).lower hμ (g3.tmps t) }⟩
theorem afv.swap{H:Nat}{μ:Nat->Place}{I J:Mem}{w:World}(h:afv H μ I w)(W:J.length=I.length)(hs:∀b X,J[b]? =some X->∃Z,I[b]? =some Z/\Z.own=X.own/\(Z=.qK->X=.qK)/\afx μ I.length H w (μ b) X):afv H μ J w:=by
 refine⟨h.afr,fun b s V=>?_,fun b U S V R O N=>?_⟩
 .obtain⟨Z,_,_,_,M⟩:=hs b s V;rw[W];exact M
 .obtain⟨s,L,K⟩:=V
  obtain⟨Z,G,F,_,_⟩:=hs b s L;obtain⟨D,C,_,B,_⟩:=hs U S R;exact h.sep b U D ⟨Z,G,by rw[F];exact K⟩ C (fun e=>O (B e)) N
end Go.Eng
namespace Go.Eng
def dL:Nat->List AV->Env
 |_,[]=>[]
 |i,v::vs=>(i,v)::dL (i+1) vs
def Yu(T:TypeId->Option TyI)(env:Env)(mem:Mem):ResultVar->Option AV
 |.tmp t=>some (ae env t)
 |.cell a t=>Q0 T mem t (ae env a)
def yf(T:TypeId->Option TyI)(env:Env)(mem:Mem):List ResultVar->Option (List AV)
 | []=>some []
 |r::rs=>match Yu T env mem r,yf T env mem rs with
  |some v,some vs=>some (v::vs)
  |_,_=>none
def jT(T:TypeId->Option TyI)(H:List ResultVar)(env:Env)(mem:Mem):Option AV:=
 match yf T env mem H with
 |some [v]=>some v
 |some vs=>some (.tuple vs)
 |none=>none
def Fin(mem:Mem)(v:AV) (H :Mem)(R:AV->Mem->Prop):Prop:=
 ∃Z,DX mem.length H.length Z=true/\
  ((H.take mem.length=mem/\R (v.ren (rho mem.length Z)) (mem++af4 mem.length Z H))\/R (v.ren (rho mem.length Z)) (afu mem.length Z H))
variable{fn:Func}{r:Nat}
section
variable {P:Program}{T:TypeId->Option TyI}{μ:Nat->Place}{mem:Mem}{base:Nat}{w:World}
theorem xY{n:Nat}{μ:Nat->Place}:∀{vs:List AV} {Vs:List Value} (i:Nat),afk μ n vs Vs->∀t,afj μ n (ae (dL i vs) t) (if t<i then undef else Vs.getD (t-i) undef)
 | [],Vs,i,h,t=>by simp[dL,ae,afj]
 |v::vs,Vs,i,h,t=>by
  simp only[afk] at h;obtain⟨U,R,rfl,V,S⟩:=h;simp only[dL,ae];by_cases Z:i=t
  .subst Z;simpa using V
  .simp only[Z,if_false]
   have:=xY (i+1) S t;by_cases X:t<i
   .rw[if_pos (by omega)] at this;rw[if_pos X];exact this
   .rw[if_neg (by omega)] at this
    rw[if_neg X];have e:t-i=(t-(i+1))+1:=by omega
    rw[e];simpa using this
def rvS(tmps:Array Value):ResultVar->Sem Value
 |.tmp t=>pure (tmps.getD t undef)
 |.cell a t=>do loadVar t (<-asAddr (tmps.getD a undef))
theorem pR(hT:dN P T)(J:afv base μ mem w){env:Env}{tmps:Array Value}(H:afO μ mem.length env tmps):
  ∀{I:List ResultVar}{vs:List AV},yf T env mem I=some vs->∃X,afk μ mem.length vs X/\
   (I.mapM (rvS tmps)).run P w=.ok X w
 | [],vs,h=>by simp only[yf,Pi] at h;subst h;exact⟨[],by simp[afk],by simp⟩
 |r::I,vs,h=>by
  simp only[yf] at h;split at h
  .rename_i v K Z G
   cases h;obtain⟨X,N,M⟩:=pR hT J H G;cases r with
   |tmp t=>
    simp only[Yu,Pi] at Z;subst Z;exact⟨_::X,bV.2 ⟨H t,N⟩,by rw[List.mapM_cons,rvS,pure_bind,Sem.run_bind,M];rfl⟩
   |cell a t=>
    simp only[Yu] at Z;obtain⟨V,S,F⟩:=BN (P:=P) hT J (H a) Z;refine⟨V::X,bV.2 ⟨F,N⟩,?_⟩;have R:∃b o,ae env a=.ptr b o:=by
     unfold Q0 at Z;split at Z
     next b o _ O=>exact⟨b,o,O⟩
     .cases Z
    obtain⟨b,o,O⟩:=R;have L:=H a;rw[O] at L;have U:=L.ptr.2;rw[U] at S;simp only[Instr.loadAt,Instr.sureAddr,Sem.run_bind,Sem.run_pure,Result.andThen_ok] at S;rw[List.mapM_cons,rvS,U,Sem.run_bind];simp only[asAddr,pure_bind,S,Result.andThen_ok];rw[Sem.run_bind,M];rfl
  .cases h
theorem tT(hT:dN P T)(H:afv base μ mem w){env:Env}{tmps:Array Value}(I:afO μ mem.length env tmps){v:AV}(h:jT T fn.results.toList env mem=some v):∃V,(results fn tmps).run P w=.ok V w/\afj μ mem.length v V:=by
 unfold jT at h;have run:∀Z,(fn.results.toList.mapM (rvS tmps)).run P w=.ok Z w->
   (results fn tmps).run P w=.ok (if h:Z.toArray.size=1 then Z.toArray[0] else .tuple Z.toArray) w:=by
  intro Z S;unfold results;rw[Array.mapM_eq_mapM_toList,Sem.run_bind,Sem.run_map];erw [S];rfl
 split at h
 .rename_i L R
  cases h;obtain⟨Z,X,O⟩:=pR hT H I R;simp only[afk] at X;obtain⟨U,K,rfl,g3,rfl⟩:=X;exact⟨U,by rw[run _ O];simp,g3⟩
 .rename_i N M R
  cases h;obtain⟨Z,X,O⟩:=pR hT H I R;refine⟨.tuple Z.toArray,?_,by simp only[afj];exact⟨Z,rfl,X⟩⟩;rw[run _ O];have:¬Z.toArray.size=1:=by
   have:=X.length;intro e;simp at e;rw[e] at this
   match N,this with
   | [x],_=>exact M x rfl
  rw[dif_neg this]
 .cases h
theorem Am{P:Program}{w:World}(h:w.heap[r]? =some (.deferred (some []))):
  (Instr.takeDeferred r).run P w=.ok [] { w with heap:=w.heap.setIfInBounds r (.deferred none) }:=by
 have Z:(getObj r).run P w=.ok (.deferred (some [])) w:=by simp[getObj,Sem.run,h]
 have X:(setObj r (.deferred none)).run P w=.ok () { w with heap:=w.heap.setIfInBounds r (.deferred none) }:=th h (by intro c e f;simp);simp only[Instr.takeDeferred,Sem.run_bind,Z,Result.andThen_ok];rw[X];rfl
theorem afv.shut{base:Nat}{μ:Nat->Place}{mem:Mem}{w:World}{r:Nat}{x y}(H:afv base μ mem w)(h:w.heap[r]? =some (.deferred x)):
  afv base μ mem { w with heap:=w.heap.setIfInBounds r (.deferred y) }:=by
 refine⟨by simpa using H.afr,fun b s Z=>?_,H.sep⟩;by_cases h0:s=.qK
 .subst h0;trivial
 .refine(H.slot b s Z).mono (L9 _) (fun _ _=>rfl) fun _=>?_
  exact ZX (Ne.symm (qg H h Z h0))
theorem Step.shut{m0:Nat}{μ μ' :Nat->Place}{mem mem' :Mem}{w w' :World}{o:Obj}(h:Step m0 μ mem w μ' mem' w')(hr:w.heap.size<=r):
  Step m0 μ mem w μ' mem' { w' with heap:=w'.heap.setIfInBounds r o }:=by
 refine⟨h.len,h.agree,h.os,h.tape,h.output,by simpa using h.size,fun k Z X=>?_,h.owner,h.drawn⟩;rw[<-h.frame k Z X];exact ZX (by omega)
theorem MOk.shut{P:Program}{base h0 r:Nat}{w:World}{ds:List Deferred}{o:Obj}(h:MOk P base h0 w ({ target:=.collected r,args:= #[] }::ds)):
  MOk P base h0 { w with heap:=w.heap.setIfInBounds r o } ds:=by
 have U:h0<=r:=by obtain⟨q,e,Z,_⟩:=h.each _ (List.mem_cons_self ..);cases e;exact Z
 refine⟨⟨h.agv.below,?_⟩,h.afr,by simpa using h.le,fun d V=>?_,?_⟩
 .have:=h.agv.tab
  unfold Lib.TabIs at this |-;rw[<-this];refine PB fun k O=>ZX ?_
  have:=h.agv.below;have:=h.afr;omega
 .obtain⟨q,e,Z,S⟩:=h.each d (by simp[V])
  refine⟨q,e,Z,?_⟩;have R:r≠q:=by intro X;have:=h.nodup;simp only[List.map_cons,List.nodup_cons,QQh,not_exists] at this;exact this.1 d ⟨V,by rw[e,X]⟩
  show(w.heap.setIfInBounds r o)[q]? =_
  rw[ZX R,S]
 .have:=h.nodup
  simp only[List.map_cons,List.nodup_cons] at this;exact this.2
theorem rZ{P:Program}{fn:Func}{tmps:Array Value}{R:Ending->World->Prop}{base m0:Nat}{μ μ0:Nat->Place}{mem mem0:Mem}{w0:World}:
  ∀(H:List Deferred) (w:World),MOk P base w0.heap.size w H->afv base μ mem w->Step m0 μ0 mem0 w0 μ mem w->
   (∀w',afv base μ mem w' ->Step m0 μ0 mem0 w0 μ mem w' ->∃v,(results fn tmps).run P w' =.ok v w' /\R (.returned v) w')->
   LeavesInM (Fr none) 0 P fn tmps R H .returning w
 | [],w,_,hH,hS,hq=>hq w hH hS
 |d::H,w,hM,hH,hS,hq=>by obtain⟨r,rfl,X,Z⟩:=hM.each d (by simp);refine⟨by simp,.inl ⟨r,_,rfl,Am Z,?_⟩⟩;exact rZ H _ hM.shut (hH.shut Z) (hS.shut X) hq
theorem afU.intro(hT:dN P T){f:FuncId}{c:Code}{args:List AV}{mem:Mem}{R:AV->Mem->Prop}(hf:P.funcs[f]? =some fn)(H:fn.body=some c)(hn:(fn.name == "runtime.NumGoroutine")=false)(hl:args.length<=fn.ntmps)(h:AWP P true fn.ntmps mem.length c ⟨dL 0 args,mem⟩ fun e X =>(e=.normal\/e=.ret)/\∃v,jT T fn.results.toList X.env X.mem=some v/\Fin mem v X.mem R):
  afU P f args mem R:=by
 refine⟨⟨fn,hf,by simp[H],hn⟩,fun base μ w Vs hG hH hV=>?_⟩;refine Ax.1 (callsIn_of_wp_marks (F:=Fr none) (n:=0) hf H trivial (wpIn_mono (h none w.heap.size base μ w _ (fun _=>rfl) hH ?_ ?_ (MOk.nil w hG hH.afr (L9 _)) (L9 _)) ?_) rfl)
 .intro t
  have:=xY 0 hV t;simp only[Nat.not_lt_zero,if_false,QQi] at this;by_cases ht:t<Vs.length
  .have e:(⟨Vs⟩++Array.replicate (fn.ntmps-(⟨Vs⟩:Array Value).size) undef:Array Value).getD t undef=Vs.getD t undef:=by simp only[Array.getD_eq_getD_getElem?];rw[Array.getElem?_append_left (by simpa using ht)];simp[List.getD]
   show afj μ mem.length (ae (dL 0 args) t) ((⟨Vs⟩++Array.replicate (fn.ntmps-(⟨Vs⟩:Array Value).size) undef:Array Value).getD t undef)
   rw[e];exact this
  .have:ae (dL 0 args) t=.undef:=by
    have C:=hV.length;have:∀(M:List AV) (i:Nat),i+M.length<=t->ae (dL i M) t=.undef:=by
     intro M;induction M with
     |nil=>intro i _;rfl
     |cons v M ih=>
      intro i hi;simp only[List.length_cons] at hi;simp only[dL,ae];rw[if_neg (by omega)];exact ih (i+1) (by omega)
    exact this args 0 (by omega)
   show afj μ mem.length (ae (dL 0 args) t) _
   rw[this];simp[afj]
 .simp only[Array.size_append,List.size_toArray,Array.size_replicate,hV.length];omega
 .rintro e a' w' ⟨X,μ',b1,b2,b3,b4,b5,b6,he,v,hv,ks,Z0,hR⟩
  have S:LeavesInM (Fr none) 0 P fn a'.tmps (fun e w' =>∃V v mem' μ',e=.returned V/\afj μ' mem'.length v V/\afv base μ' mem' w' /\Step mem.length μ mem w μ' mem' w' /\R v mem') a'.defers .returning w' :=by
   refine rZ a'.defers w' b4 b1 b6 fun w2 m L=>?_
   obtain⟨V,j,B⟩:=tT (P:=P) (fn:=fn) hT m b2 hv;obtain⟨Y,I,c3⟩:=m.afu b5 Z0;refine⟨V,j,?_⟩;rcases hR with⟨u,hr⟩ | hr
   .have C:(mem++af4 mem.length ks X.mem).length=(afu mem.length ks X.mem).length:=by rw[fZ b5];simp[af4]
    have K:∀b Z,(mem++af4 mem.length ks X.mem)[b]? =some Z->∃G,(afu mem.length ks X.mem)[b]? =some G/\G.own=Z.own/\(G=.qK->Z=.qK)/\
      afx (fun b=>μ' (iW mem.length ks b)) (afu mem.length ks X.mem).length base w2 (μ' (iW mem.length ks b)) Z:=by
     intro b Z H;unfold afu;rw[u];by_cases O:b<mem.length
     .rw[GE O] at H
      refine⟨Z.ren (rho mem.length ks),by rw[GE (by simpa using O),Zo,H];rfl,afl.agI _ _,?_,?_⟩
      .intro h;cases Z<;>simp[afl.ren] at h |-
      .have W:iW mem.length ks b=b:=by simp[iW,O]
       rw[W];have D:=hH.slot b Z H;have N:=m.slot b Z (by rw[<-H,<-u,QQQ O]);rw[L.agree b O] at N |-;have g3:=afx.lower (w' :=w2) (fun b H=>L.agree b H) D N;refine g3.mono ?_ (fun b H=>?_) fun _=>rfl
       .simp[af4]
       .show μ' (iW mem.length ks b)=μ b
        rw[show iW mem.length ks b=b by simp[iW,H],L.agree b H]
     .have o :(afu mem.length ks X.mem)[b]? =some Z:=by unfold afu;rw[u,V1 (by simp;omega)];rw[V1 (by omega)] at H;simpa using H
      have:=Y.slot b Z o;unfold afu at o this;rw[u] at o this;exact⟨Z,o,rfl,id,this⟩
    have J:=Y.swap C K;refine⟨V,_,_,_,rfl,B.ren fun b b' D N=>?_,J,?_,hr⟩
    .obtain⟨g3,g4⟩:=I b b' D N
     exact⟨by rw[C];exact g3,g4⟩
    .have U:=L.trans c3
     refine⟨by rw[C];exact U.len,U.agree,U.os,U.tape,U.output,U.size,U.frame,fun b H O=>?_,U.drawn⟩;obtain⟨s,D,N⟩:=H;obtain⟨G,j,B,_,_⟩:=K b s D;exact U.owner b ⟨G,j,by rw[B];exact N⟩ O
   .exact⟨V,_,_,_,rfl,B.ren I,Y,L.trans c3,hr⟩
  rcases he with rfl | rfl
  .exact S
  .exact S
end
end Go.Eng
