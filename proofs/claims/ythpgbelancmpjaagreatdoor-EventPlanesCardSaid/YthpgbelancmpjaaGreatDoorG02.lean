/- See G38. -/
import Derived.Test.YthpgbelancmpjaaGreatDoorG01
import Derived.Lib.UnsafeStr
import Derived.RangeFuncLeaves
import Derived.OrdersIn
import Derived.TacticsIn
import Derived.Lib.ItoaNum
import Derived.Lib.LaidTab
set_option linter.all false
namespace Go.Eng
variable{V X:Value}{cs:List AV}{mem' :Mem}{v x:AV}
section
variable {P:Program}{T:TypeId->Option TyI}{μ:Nat->Place}{mem:Mem}{base:Nat}{w:World}
def agy(P:Program)(x:Sem Value)(base:Nat) (μ:Nat->Place)(mem:Mem)(w:World)(v:AV) (mem' :Mem):Prop:=
 ∃V w' μ',x.run P w=.ok V w' /\afn μ' mem'.length v V/\afA base μ' mem' w' /\Step mem.length μ mem w μ' mem' w'
theorem agy.afO{x:Sem Value}(H:afA base μ mem w)(h:Val P x w μ mem.length v):agy P x base μ mem w v mem:=by obtain⟨V,Z,U⟩:=h;exact⟨V,w,μ,Z,U,H,.refl (L9 _)⟩
theorem th(J:afA base μ mem w)(e:TypeId)(H:Array Value)(es:Nat)(I:1000<=es->e+1=es / 1000)(cs:List AV)(h:∀(j:Nat) v,cs[j]? =some v->∃V,H[j]? =some V/\afn μ mem.length v V):
  afA base (upd μ mem.length ⟨w.heap.size,0,H.size,es%1000⟩) (mem++[.cells true es cs]) (w.alloc (.cells H e))/\
  Step mem.length μ mem w (upd μ mem.length ⟨w.heap.size,0,H.size,es%1000⟩) (mem++[.cells true es cs]) (w.alloc (.cells H e)):=by
 refine J.push _ _ _ rfl ?_;simp only[afD];refine⟨H,e,(0,0),heap_alloc_new w _,⟨rfl,I⟩,?_,fun j v Z=>?_,fun _=>by simp;exact J.afx⟩
 .rcases QQK cs.length with h0 | h0
  .omega
  .obtain⟨V,hV,_⟩:=h (cs.length-1) cs[cs.length-1] (by simp)
   have:=(Nm.1 hV).1;omega
 .obtain⟨V,hV,U⟩:=h j v Z
  exact⟨V,by simpa using hV,U.mono (Nat.le_succ _) fun b S=>xm S⟩
theorem RR{n:Nat}{vs:List AV}{cur Vs:List Value}{o:Nat}(I:o+vs.length<=cs.length)(h:∀(j:Nat) v,cs[j]? =some v->∃V,cur[j]? =some V/\afn μ n v V)(H:afo μ n vs Vs):
  ∀(j:Nat) v,(cs.take o++vs++cs.drop (o+vs.length))[j]? =some v->∃V,(cur.take o++Vs++cur.drop (o+Vs.length))[j]? =some V/\afn μ n v V:=by
 have N:=H.length;have M:cs.length<=cur.length:=by
  rcases QQK cs.length with h0 | h0
  .omega
  .obtain⟨V,hV,_⟩:=h (cs.length-1) cs[cs.length-1] (by simp)
   have:=gL hV;omega
 have S:(cs.take o).length=o:=by simp;omega
 have R:(cur.take o).length=o:=by simp;omega
 intro j v Z;rw[QQQ] at Z |-;by_cases U:j<o
 .rw[GT (by omega),QQa U] at Z
  rw[GT (by omega),QQa U];exact h j v Z
 .rw[V1 (by omega),S] at Z
  rw[V1 (by omega),R];by_cases O:j-o<vs.length
  .rw[GT O] at Z
   rw[GT (by omega)];exact H.get _ v Z
  .rw[V1 (by omega),QQf] at Z
   rw[V1 (by omega),QQf];rw[show o+Vs.length+(j-o-Vs.length)=o+vs.length+(j-o-vs.length) by omega];exact h _ v Z
def Hn(T:TypeId->Option TyI)(e:TypeId)(i:TyI):Bool:=match i.desc with
 |.struct fs=>match fs[0]? with
  |some f=>match T f.type with
   |some k=>match k.desc with
    |.pointer e' =>e' ==e
    |_=>false
   |none=>false
  |none=>false
 |_=>false
def tN(T:TypeId->Option TyI)(mem:Mem)(e:TypeId):Option (AV×Mem):=
 match T e with
 |some i=>some (.ptr mem.length 0,mem++[.cells true (if Hn T e i then 1000*(e+1) else 0) (oh i.zero).cells])
 |none=>none
theorem zx(I:afA base μ mem w)(e:TypeId)(es:Nat)(H:1000<=es->e+1=es / 1000)(h:afo μ mem.length cs V.cells.toList):
  agy P (do pure (.pointer (some (<-newVar e V)))) base μ mem w (.ptr mem.length 0) (mem++[.cells true es cs]):=by
 obtain⟨Z,S⟩:=th I e V.cells es H cs (fun j v R=>by obtain⟨U,O,N⟩:=h.get j v R;exact⟨U,by simpa using O,N⟩)
 refine⟨.pointer (some ⟨w.heap.size,0,none⟩),_,_,?_,?_,Z,S⟩
 .simp only[newVar,newRow,Sem.run_bind,run_newObj,Result.andThen_ok,Sem.run_pure]
  rfl
 .simp[afn,fL]
theorem KX(hT:dQ P T)(H:afA base μ mem w){e:TypeId}(h:tN T mem e=some (v,mem')):
  agy P (Instr.alloc e true (.tuple #[])) base μ mem w v mem' :=by
 unfold tN at h;split at h
 .rename_i i Z
  cases h;have:=zx (P:=P) H e (if Hn T e i then 1000*(e+1) else 0) (by cases Hn T e i with | false=>simp | true=>simp only[if_true];intro _;rw[Nat.mul_div_cancel_left _ (by omega)]) (V:=i.zero) (pQ μ mem.length i.zero);obtain⟨V,w',μ',U,S⟩:=this;refine⟨V,w',μ',?_,S⟩;simp only[Instr.alloc,Sem.run_bind,fZ hT Z,Result.andThen_ok];exact U
 .cases h
def XE(mem:Mem)(x:AV):Option (AV×Mem):=if x.known then some (.ptr mem.length 0,mem++[.cells true 0 x.cells]) else none
theorem Q7(H:afA base μ mem w){e:TypeId}(I:afn μ mem.length x X)(h:XE mem x=some (v,mem')):
  agy P (Instr.box e X) base μ mem w v mem' :=by
 unfold XE at h;split at h
 .rename_i Z
  cases h;exact zx (P:=P) H e 0 (by omega) (I.cells Z)
 .cases h
theorem Le(hT:dQ P T)(I:afA base μ mem w){t:TypeId}(hx:afn μ mem.length x X)(H:afn μ mem.length v V)(h:tQ T mem t x v=some mem'):∃w',(Instr.storeAt t X V).run P w=.ok () w' /\afA base μ mem' w' /\Step mem.length μ mem w μ mem' w' :=by
 unfold tQ at h;split at h
 .rename_i i b o ht
  split at h
  .rename_i es cs N
   split at h
   .rename_i m
    cases h;simp only[Es,GE,List.all_eq_true] at m;obtain⟨⟨⟨K,R⟩,G⟩,ZF⟩:=m;obtain⟨hbn,rfl⟩:=hx.ptr;have Y:=I.slot b _ N;simp only[afD] at Y;obtain⟨Z,el,fr,J,g2,g3,g4,g5⟩:=Y;obtain⟨M,g7,g8,g9⟩:=g5 trivial;subst g7;have S:=H.cells K;have O:V.cells.size=i.size:=by rw[<-QXJ,S.length,R]
    have h1:∀u∈V.cells.toList,u.oneCell' =true:=by
     intro u F;obtain⟨j,hj⟩:=QXe F;have C :j<v.cells.length:=by rw[<-S.length];exact(gL hj)
     obtain⟨U,L,B⟩:=S.get j v.cells[j] (by simp[C]);rw[hj] at L;cases L;exact B.agJ (ZF _ (by simp))
    have Zy:=run_storeCells_at (P:=P) (μ b).blk o el V.cells.toList 0 Z w J (by rw[S.length,R];omega) h1;refine⟨w.setRow (μ b).blk (Z.toList.take (o+0)++V.cells.toList++Z.toList.drop (o+0+V.cells.toList.length)).toArray,?_,I.write N (pR N) (fun _=>⟨_,QQc (gL N),rfl⟩) rfl rfl rfl rfl (by simp[World.setRow]) (fun k K=>setRow_other w _ k _ K) ?_⟩
    .simp only[Instr.storeAt,Instr.sureAddr,Sem.run_bind,Sem.run_pure,Result.andThen_ok,storeVar,dK hT ht,O,ne_eq,not_true_eq_false,if_false,M,QQb]
     exact Zy
    .simp only[afD]
     refine⟨_,el,(0,0),setRow_heap w (μ b).blk Z _ el (0,0) J,g2,?_,fun j u F=>?_,fun _=>⟨M,rfl,?_,g9⟩⟩
     .simp only[Qs,SP,QXX,R];omega
     .rw[M] at g4
      have:=RR (cs:=cs) (vs:=v.cells) (Vs:=V.cells.toList) (o:=o) (cur:=Z.toList) (by rw[R];exact G) (fun j v H=>by simpa using g4 j v H) S j u (by rw[R];exact F);obtain⟨U,L,B⟩:=this;refine⟨U,?_,B⟩;rw[M];simpa using L
     .simp only[List.size_toArray,Qs,SP,QXX,QXJ,O];omega
   .cases h
  .cases h
 .cases h
end
end Go.Eng
namespace Go.Eng
section
variable {P:Program}{T:TypeId->Option TyI}{μ:Nat->Place}{mem:Mem}{base:Nat}{w:World}
def jT(z:List AV):Nat->List AV
 |0=>[]
 |k+1=>z++jT z k
theorem qf(z:List AV):∀k,(jT z k).length=k*z.length
 |0=>by simp[jT]
 |k+1=>by simp[jT,qf z k,Nat.add_mul,QXc]
theorem yE{n:Nat}{z:List AV}{Z:Array Value}(hz:afo μ n z Z.toList):∀(k:Nat) (j:Nat) v,(jT z k)[j]? =some v->
  ∃V,Z[j%Z.size]! =V/\afn μ n v V/\j<k*Z.size
 |0,j,v,h=>by simp[jT] at h
 |k+1,j,v,h=>by
  have X:Z.size=z.length:=by rw[<-QXJ,hz.length]
  rw[jT] at h;by_cases S:j<z.length
  .rw[GT S] at h
   obtain⟨V,hV,U⟩:=hz.get j v h;refine⟨V,?_,U,by rw[X,Nat.add_mul];omega⟩;rw[QQj (by omega)];have:Z[j]? =some V:=by simpa using hV
   simp[getElem!_def,this]
  .rw[V1 (by omega)] at h
   obtain⟨V,hV,U,R⟩:=yE hz k (j-z.length) v h;refine⟨V,?_,U,by rw[X] at R |-;rw[Nat.add_mul];omega⟩;rw[<-hV,X];congr 1;rw[Nat.mod_eq_sub_mod (by omega)]
theorem Fk{Z:Array Value}{m j:Nat}(h:j<m):((Array.range m).map (fun i=>Z[i%Z.size]!))[j]? =some (Z[j%Z.size]!):=by simp[h]
def gA(T:TypeId->Option TyI)(mem:Mem)(t:TypeId)(H:Nat)(parts:List (Nat×AV)):Option (AV×Mem):=
 match T t with
 |none=>none
 |some i=>
  match i.desc with
  |.slice e=>
   match T e with
   |none=>none
   |some j=>
    if H*j.size<=16777216/\0<j.size/\j.size<1000 then
     match qs (fun k=>some (k*j.size,j.size)) (jT (oh j.zero).cells H) parts with
     |some cs=>some (.slice mem.length 0 H none,mem++[.cells true j.size cs])
     |none=>none
    else none
  |_=>none
theorem xT(hT:dQ P T)(hH:afA base μ mem w){t:TypeId}{H:Nat}{parts:List (Nat×AV)}{I:List (Nat×Value)}{v:AV}{J :Mem}(hp:I.map (·.1)=parts.map (·.1))(hv:afo μ mem.length (parts.map (·.2)) (I.map (·.2)))(h:gA T mem t H parts=some (v,J)):
  agy P (Instr.buildSlice t H ⟨I⟩) base μ mem w v J :=by
 unfold gA at h;cases ht:T t with
 |none=>rw[ht] at h;cases h
 |some i=>
  rw[ht] at h;simp only at h;have Y:=(hT t i ht).desc;split at h
  .rename_i e IR
   rw[IR] at Y;split at h
   .cases h
   .rename_i j L
    split at h
    .rename_i hc
     split at h
     .rename_i cs hf
      cases h;have hz:=pQ μ mem.length j.zero;have R:=(hT e j L).ag6;have O:(oh j.zero).cells.length=j.size:=by rw[<-hz.length,QXJ,R]
      have K:afo μ mem.length (jT (oh j.zero).cells H) ((Array.range (H*j.size)).map (fun i=>j.zero.cells[i%j.zero.cells.size]!)).toList:=by
       refine afo.agu (by simp[qf,O]) fun q u G=>?_
       obtain⟨V,F,C,h3⟩:=yE hz H q u G;refine⟨V,?_,C⟩;have:=Fk (Z:=j.zero.cells) (m:=H*j.size) (j:=q) (by rw[R] at h3;exact h3);rw[F] at this;rw[Array.getElem?_toList];exact this
      obtain⟨Cs,hF,N⟩:=sW hf K hp hv;obtain⟨F,C⟩:=th hH e ⟨Cs⟩ j.size (by omega) cs (fun q u G=>by obtain⟨U,hU,hr⟩:=N.get q u G;exact⟨U,by simpa using hU,hr⟩)
      have G':Cs.length=H*j.size:=by
       rw[N.length];have:∀{pl:Nat->Option (Nat×Nat)}{M:List (Nat×AV)}{a b:List AV},qs pl a M=some b->b.length=a.length:=by
        intro pl M;induction M with
        |nil=>intro a b X;simp only[qs,Pi] at X;rw[X]
        |cons p M ih=>
         obtain⟨pi,pv⟩:=p;intro a b X;rw[qs] at X;cases hpl:pl pi with
         |none=>rw[hpl] at X;cases X
         |some os=>
          obtain⟨off,size⟩:=os;rw[hpl] at X;simp only at X;split at X
          .rename_i B
           simp only[Es,GE] at B;rw[ih X];simp only[Qs,SP,QXX];omega
          .cases X
       rw[this hf,qf,O]
      refine⟨.slice (some ⟨w.heap.size,0,none⟩) H H,_,_,?_,?_,F,C⟩
      .simp only[Instr.buildSlice,Sem.run_bind,run_underlying Y,Result.andThen_ok,dK hT L]
       rw[if_neg (by omega)];have S :=hF;rw[show(⟨((Array.range (H*j.size)).map (fun i=>j.zero.cells[i%j.zero.cells.size]!)).toList⟩:Array Value)=(Array.range (H*j.size)).map (fun i=>j.zero.cells[i%j.zero.cells.size]!) from rfl] at S;by_cases o:H*j.size=0
       .rw[if_pos o]
        rw[o] at S |-;simp only[Sem.run_bind,Sem.run_pure,Result.andThen_ok,Array.range_zero',Array.map_empty] at S |-;rw[S];simp only[newRow,Sem.run_bind,run_newObj,Result.andThen_ok,Sem.run_pure];rfl
       .rw[if_neg o]
        simp only[Sem.run_bind,Sem.run_pure,Result.andThen_ok,fZ hT L];rw[S];simp only[newRow,Sem.run_bind,run_newObj,Result.andThen_ok,Sem.run_pure];rfl
      .simp only[afn,fL,rO,Qs,List.length_singleton]
       refine⟨by omega,?_⟩;simp only[QXQ,G',List.size_toArray,QQj hc.2.2,Nat.mul_div_cancel _ hc.2.1]
     .cases h
    .cases h
  .cases h
end
variable{n:Int}
theorem af(h0: -9223372036854775808<=n:=by omega)(Z:n<=9223372036854775807:=by omega):IntKind.i64.wrap n=n:=by simp only[IntKind.wrap,IntKind.bits,IntKind.signed,Bool.true_and,ge_iff_le,GE,Nat.reduceSub];split<;>omega
theorem cS(h0:0<=n)(h1:n<=18446744073709551615):IntKind.u64.wrap n=n:=by simp only[IntKind.wrap,IntKind.bits,IntKind.signed,Bool.false_and,Bool.false_eq_true,if_false];omega
section
variable {P:Program}{T:TypeId->Option TyI}{μ:Nat->Place}{mem:Mem}{base:Nat}{w:World}
def lC(T:TypeId->Option TyI)(mem:Mem)(t:TypeId)(l c:AV):Option (AV×Mem):=
 match T t with
 |none=>none
 |some i=>
  match i.desc,l,c with
  |.slice e,.int _ l,.int _ c=>
   match T e with
   |none=>none
   |some j=>
    if 0<=l/\l<=c/\(j.bytes:Int)*c<=281474976710656/\c<=281474976710656/\0<j.size/\j.size<1000 then
     some (.slice mem.length 0 l.toNat none,mem++[.cells true j.size (jT (oh j.zero).cells l.toNat)])
    else none
  |_,_,_=>none
theorem As(hT:dQ P T)(I:afA base μ mem w){t:TypeId}{l c v:AV}{L C:Value}{H :Mem}(J:afn μ mem.length l L)(hc:afn μ mem.length c C)(h:lC T mem t l c=some (v,H)):
  agy P (Instr.makeSlice t L C) base μ mem w v H :=by
 unfold lC at h;cases ht:T t with
 |none=>rw[ht] at h;cases h
 |some i=>
  rw[ht] at h;simp only at h;have F:=(hT t i ht).desc;split at h
  .rename_i e k1 l k2 c o
   rw[o] at F;split at h
   .cases h
   .rename_i j S
    split at h
    .rename_i R
     obtain⟨g1,g2,g3,g4,Y,g6⟩:=R;cases h;rw[J.int,hc.int];have B:=pQ μ mem.length j.zero;have X:=(hT e j S).ag6;have hzl:(oh j.zero).cells.length=j.size:=by rw[<-B.length,QXJ,X]
     obtain⟨f,hf,hfs,U,hfz⟩:=zF hT S w;have w1:IntKind.i64.wrap l=l:=af;have w2:IntKind.i64.wrap c=c:=af;obtain⟨h1,h2⟩:=th I e ((Array.range (c.toNat*j.size)).map (fun i=>j.zero.cells[i%j.zero.cells.size]!)) j.size (by omega) (jT (oh j.zero).cells l.toNat) (fun q u hu=>by obtain⟨V,e1,e2,e3⟩:=yE B _ q u hu;refine⟨V,?_,e2⟩;rw[X] at e3;have ZJ:l.toNat*j.size<=c.toNat*j.size:=QQk _ (by omega);have:=Fk (Z:=j.zero.cells) (m:=c.toNat*j.size) (j:=q) (by omega);rw[e1] at this;exact this)
     refine⟨.slice (some ⟨w.heap.size,0,none⟩) l.toNat c.toNat,_,_,?_,?_,h1,h2⟩
     .have hb:¬(281474976710656<(f.bytes:Int)*c):=by rw[U];omega
      have ZV:¬((f.bytes:Int)*c>2 ^ 48):=by rw[U];omega
      have O:¬c<0:=by omega
      have N:¬l<0:=by omega
      have M:¬l>c:=by omega
      simp only[Instr.makeSlice,Sem.run_bind,run_underlying F,asInt,asIntOf,Sem.run_pure,Result.andThen_ok,hf,w1,w2];have Zv:((decide (c<0)||decide ((f.bytes:Int)*c>2 ^ 48))||decide (l<0)||decide (l>c))=false:=by simp[O,N,M,hb]
      simp only[Zv,Bool.false_eq_true,if_false];have K:∀n,(askRoom n).run P w=.ok () w:=by intro n;unfold askRoom;split<;>simp[mark,Sem.run]
      simp only[Sem.run_bind,K,Result.andThen_ok,dK hT S];by_cases G:c.toNat*j.size=0
      .rw[if_pos G]
       rw[G];simp only[Sem.run_bind,Sem.run_pure,Result.andThen_ok,Array.range_zero',Array.map_empty,newRow,run_newObj];rfl
      .rw[if_neg G]
       simp only[Sem.run_bind,Sem.run_pure,Result.andThen_ok,fZ hT S,newRow,run_newObj];rfl
     .simp only[afn,fL,rO,Qs,List.length_singleton]
      refine⟨by omega,?_⟩;simp only[QXQ,Array.size_map,Array.size_range,QQj g6,Nat.mul_div_cancel _ Y]
    .cases h
  .cases h
def pZ(T:TypeId->Option TyI)(mem:Mem)(H:Nat)(t2:TypeId):AV->Option (Nat×List AV)
 |.qF=>some (0,[])
 |.slice b o m _=>match mem[b]? with
  |some (.cells _ _ cs)=>if o+m*H<=cs.length then some (m,(cs.drop o).take (m*H)) else none
  |_=>if m=0 then some (0,[]) else none
 |.str s=>match T t2 with
  |some i=>match i.desc with
   |.string=>if H=1 then some (s.length,s.map fun c=>.int .u8 c.toNat) else none
   |_=>none
  |none=>none
 |_=>none
def Mv(i:TyI):Bool:=match i.desc with
 |.slice _=>true
 |.string=>true
 |_=>false
def Dc(j:TyI)(e:TypeId):Nat:=match j.desc with
 |.int .u8=>j.size+1000*(e+1)
 |_=>j.size
def pr(T:TypeId->Option TyI)(mem:Mem)(t t2:TypeId)(s x:AV):Option (AV×Mem):=
 match T t with
 |none=>none
 |some i=>
  match i.desc with
  |.slice e=>
   match T e,T t2 with
   |some j,some i2=>
    if j.size=0\/1000<=j.size\/Mv i2=false then none else
    match pZ T mem j.size t2 x with
    |none=>none
    |some (m,news)=>
     if news.all AV.afp=true then
      match s with
      |.qF=>
       if m=0 then some (.qF,mem)
       else if m*j.bytes<=140737488355328/\m<=140737488355328 then some (.slice mem.length 0 m none,mem++[.cells true (Dc j e) news])
       else none
      |.slice b 0 n none=>
       match mem[b]? with
       |some (.cells true es cs)=>
        if (es=j.size\/es=Dc j e)/\n*j.size<=cs.length/\(n+m)*j.bytes<=140737488355328/\n+m<=140737488355328 then
         some (.slice mem.length 0 (n+m) none,mem.set b .qK++[.cells true es (cs.take (n*j.size)++news)])
        else none
       |_=>none
      |_=>none
     else none
   |_,_=>none
  |_=>none
theorem Eo(J:afA base μ mem w){H:Nat}{t2:TypeId}{x:AV}{X:Value}{m:Nat}{news:List AV}(I:afn μ mem.length x X)(h:pZ T mem H t2 x=some (m,news)):
  ∃U,afo μ mem.length news U/\news.length=m*H/\(Builtin.lenOf X).run P w=.ok m w/\
   ∀w',(∀a,w'.cell? a=w.cell? a)->(Builtin.firstCells H m X).run P w' =.ok ⟨U⟩ w' :=by
 unfold pZ at h;split at h
 .cases h
  simp only[afn] at I;subst I;exact⟨[],by simp[afo],by simp,by simp[Builtin.lenOf],fun w' _=>by simp[Builtin.firstCells]⟩
 .rename_i b o k c
  split at h
  .rename_i own es C O
   split at h
   .rename_i N
    cases h;obtain⟨V,rfl⟩:=I.slice;obtain⟨S,M,L,h3⟩:=J.cells O N;refine⟨S,M,by simp;omega,by simp[Builtin.lenOf],fun w' R=>?_⟩;exact run_firstCells_some w' H m _ _ _ S L (fun j v Z=>by rw[R];exact h3 j v Z)
   .cases h
  .split at h
   .rename_i K
    cases h;subst K;obtain⟨V,rfl⟩:=I.slice;refine⟨[],by simp[afo],by simp,by simp[Builtin.lenOf],fun w' R=>?_⟩;exact run_firstCells_some w' H 0 _ _ _ [] (by simp) (fun j v Z=>by simp at Z)
   .cases h
 .rename_i s
  split at h
  .split at h
   .split at h
    .rename_i G
     cases h;subst G;rw[I.str];refine⟨s.map fun c=>.int .u8 c.toNat,?_,by simp,by simp[Builtin.lenOf,sS],fun w' _=>?_⟩
     .refine afo.agu (by simp) fun i v Z=>?_
      simp only[QQJ,Y1] at Z |-;obtain⟨c,F,rfl⟩:=Z;exact⟨_,⟨c,F,rfl⟩,by simp[afn]⟩
     .simp only[Builtin.firstCells,Sem.run_pure,Result.ok.injEq,and_true]
      have:(ByteArray.mk s.toArray).extract 0 s.length=⟨s.toArray⟩:=by apply ByteArray.ext;apply Array.ext';simp[List.extract]
      rw[this];simp
    .cases h
   .cases h
  .cases h
 .cases h
end
end Go.Eng
namespace Go.Eng
variable{b:Nat}{j:TyI}
section
variable {P:Program}{T:TypeId->Option TyI}{μ:Nat->Place}{mem:Mem}{base:Nat}{w:World}
section
variable (hT:dQ P T){t t2 ty e:TypeId}(hd:P.underlying t=some (.slice e))(hj:T e=some j)(ht2:(∃e2,P.underlying t2=some (.slice e2))\/P.underlying t2=some .string)(bs:Option Addr)
include hT t t2 ty e hd hj ht2 bs
theorem B8(n c m:Nat)(X:Value)(w:World)(I:(Builtin.lenOf X).run P w=.ok m w)(H:n+m<=c):
  (Builtin.append_ #[t,t2] ty #[.slice bs n c,X]).run P w=
   ((Builtin.firstCells j.size m X).run P w).andThen fun V w' =>match bs with
    |some a=>((storeCells (a.add (n*j.size)) V.toList).run P w').andThen fun _ U =>.ok (.slice bs (n+m) c) U
    |none=>.ok (.slice bs (n+m) c) w' :=by
 rcases ht2 with⟨S,Z⟩ | Z<;>
  simp[Builtin.append_,run_underlying hd,run_underlying Z,dK hT hj,I,H]<;>cases bs<;>simp
theorem B7(n c m:Nat)(X:Value)(w:World)(Os I:List Value)(J:(Builtin.lenOf X).run P w=.ok m w)(H:c<n+m)(Y:(n+m)*j.bytes<=140737488355328)(hm:n+m<=140737488355328)(hO:(Builtin.firstCells j.size n (.slice bs n c)).run P w.drew=.ok ⟨Os⟩ w.drew)(hN:(Builtin.firstCells j.size m X).run P w.drew=.ok ⟨I⟩ w.drew):
  ∃V,n+m<=V/\(Builtin.append_ #[t,t2] ty #[.slice bs n c,X]).run P w=
   .ok (.slice (some ⟨w.heap.size,0,none⟩) (n+m) V) (w.drew.alloc (.cells (⟨Os⟩++(⟨I⟩++Builtin.zeroCells j.zero.cells (V-(n+m)))) e)):=by
 obtain⟨f,K,U,S,R⟩:=(hT e j hj).info;have O:¬(n+m<=c):=by omega
 have N:¬(9223372036854775807<((n:Int)+(m:Int))):=by omega
 have M:¬(281474976710656<Builtin.nextslicecap (n+m) c*f.bytes):=by have:=growslice_fits H (bytes:=f.bytes) (by rw[S];exact Y);omega
 have L:∀n w,(askRoom n).run P w=.ok () w:=by intro n w;unfold askRoom;split<;>simp[mark,Sem.run]
 refine⟨grownCap w (n+m) c e,grownCap_ge w (n+m) c e,?_⟩;rcases ht2 with⟨G,Z⟩ | Z<;>
  simp[Builtin.append_,run_underlying hd,run_underlying Z,sizeOf,typeInfo,zeroValue,K,U,R,J,O,N,M,Question.forced,hO,hN,newRow,grownCap,L]
end
theorem afA.drop{s:afq}(H:afA base μ mem w)(I:mem[b]? =some s):afA base μ (mem.set b .qK) w:=by
 have R:b<mem.length:=gL I;have own:∀x,eG (mem.set b .qK) x->eG mem x/\x≠b:=by
  intro x V;by_cases Z:x=b
  .subst Z
   obtain⟨M,X,O⟩:=V;rw[QQc R] at X;cases X;cases O
  .obtain⟨M,X,O⟩:=V
   rw[QQe (Ne.symm Z)] at X;exact⟨⟨M,X,O⟩,Z⟩
 refine⟨H.afx,fun x t U=>?_,fun x L t V S K N=>?_⟩
 .rw[QQh]
  by_cases Z:x=b
  .subst Z;rw[QQc R] at U;cases U;trivial
  .rw[QQe (Ne.symm Z)] at U;exact H.slot x t U
 .by_cases Z:L =b
  .subst Z;rw[QQc R] at S;cases S;exact absurd rfl K
  .rw[QQe (Ne.symm Z)] at S
   exact H.sep x L t (own x V).1 S K N
theorem Step.drop{m0:Nat}{μ:Nat->Place}{mem:Mem}{w:World}(h:m0<=mem.length):Step m0 μ mem w μ (mem.set b .qK) w:=by
 refine⟨by simpa using h,fun _ _=>rfl,rfl,rfl,rfl,L9 _,fun _ _ _=>rfl,fun x V _=>⟨x,?_,rfl⟩,L9 _⟩;by_cases S:x=b
 .subst S
  by_cases R:x<mem.length
  .obtain⟨U,Z,X⟩:=V
   rw[QQc R] at Z;cases Z;cases X
  .obtain⟨U,Z,X⟩:=V
   have:=gL Z;simp at this;omega
 .obtain⟨U,Z,X⟩:=V
  rw[QQe (Ne.symm S)] at Z;exact⟨U,Z,X⟩
theorem afA.rename{es:Nat}{cs H :List AV}{w' :World}(hH:afA base μ mem w)(hb:mem[b]? =some (.cells true es cs))(I:w'.drawn=w.drawn)(J:w'.os=w.os)(Y:w'.tape=w.tape)(acj:w'.output=w.output)(Z6:w'.heap.size=w.heap.size)(abJ:∀k,k≠(μ b).blk->w'.heap[k]? =w.heap[k]?)(hs:afD μ mem.length base w' (μ b) (.cells true es H)):
  afA base (upd μ mem.length (μ b)) (mem.set b .qK++[.cells true es H]) w' /\
  Step mem.length μ mem w (upd μ mem.length (μ b)) (mem.set b .qK++[.cells true es H]) w' :=by
 have G:b<mem.length:=gL hb;have F:eG mem b:=pR hb;have hw:=hH.write (s' :=.cells true es H) hb F (fun _=>⟨_,QQc G,rfl⟩) I J Y acj Z6 abJ hs;have hμ:∀x,x<mem.length->upd μ mem.length (μ b) x=μ x:=fun x V=>xm V
 have G':(mem.set b .qK).length=mem.length:=by simp
 have own:∀x,eG (mem.set b .qK++[.cells true es H]) x->(x<mem.length/\x≠b/\eG mem x)\/x=mem.length:=by
  intro x V;by_cases U:x<mem.length
  .refine .inl ⟨U,?_⟩
   have C :eG (mem.set b .qK) x:=by obtain⟨M,Z,O⟩:=V;rw[GT (by omega)] at Z;exact⟨M,Z,O⟩
   by_cases S:x=b
   .subst S
    obtain⟨M,Z,O⟩:=C;rw[QQc G] at Z;cases Z;cases O
   .refine⟨S,?_⟩
    obtain⟨M,Z,O⟩:=C;rw[QQe (Ne.symm S)] at Z;exact⟨M,Z,O⟩
  .refine .inr ?_
   obtain⟨M,Z,O⟩:=V;have:=gL Z;simp at this;omega
 constructor
 .refine⟨hw.1.afx,fun x t X=>?_,fun x L t V C o K=>?_⟩
  .rw[Qs,List.length_singleton,G']
   by_cases U:x<mem.length
   .rw[GT (by omega)] at X
    rw[hμ x U];by_cases S:x=b
    .subst S;rw[QQc G] at X;cases X;trivial
    .rw[QQe (Ne.symm S)] at X
     have:=hw.1.slot x t (by rw[QQe (Ne.symm S)];exact X);rw[QQh] at this;exact this.mono (Nat.le_succ _) hμ fun _=>rfl
   .have m:x=mem.length:=by have:=gL X;simp at this;omega
    subst m;rw[V1 (by omega),G'] at X;simp at X;subst X;rw[fL];exact hs.mono (Nat.le_succ _) hμ fun _=>rfl
  .have adQ:∀y s,(mem.set b .qK++[.cells true es H])[y]? =some s->s≠ .qK->(y<mem.length/\y≠b/\mem[y]? =some s)\/y=mem.length:=by
    intro y s N hns;by_cases hyl:y<mem.length
    .rw[GT (by omega)] at N
     by_cases R:y=b
     .subst R;rw[QQc G] at N;cases N;exact absurd rfl hns
     .rw[QQe (Ne.symm R)] at N;exact .inl ⟨hyl,R,N⟩
    .exact .inr (by have:=gL N;simp at this;omega)
   rcases own x V with⟨B,a2,u⟩ | rfl<;>rcases adQ L t C o with⟨b1,b2,b3⟩ | rfl
   .rw[hμ x B,hμ L b1];exact hH.sep x L t u b3 o K
   .rw[hμ x B,fL];exact hH.sep x b _ u hb (by simp) a2
   .rw[hμ L b1,fL];exact hH.sep b L t F b3 o (Ne.symm b2)
   .exact absurd rfl K
 .refine⟨by simp,hμ,J,Y,acj,by omega,fun k hk hf=>abJ k fun he=>hf b F he.symm,fun x V Zt =>?_,Nat.le_of_eq I.symm⟩
  rcases own x V with⟨B,_,u⟩ | rfl
  .exact⟨x,u,by rw[hμ x B]⟩
  .exact⟨b,F,by rw[fL]⟩
end
end Go.Eng
namespace Go.Eng
section
variable {P:Program}{T:TypeId->Option TyI}{μ:Nat->Place}{mem:Mem}{base:Nat}{w:World}
theorem afA.drew(h:afA base μ mem w):afA base μ mem w.drew:=h.ags rfl
theorem afo.agz{n:Nat}{vs:List AV}{Vs:List Value}(h:afo μ n vs Vs)(H:vs.all AV.afp=true):∀u∈Vs,u.oneCell' =true:=by
 intro u V;obtain⟨j,Z⟩:=QXe V;have S:j<vs.length:=by rw[<-h.length];exact(gL Z)
 obtain⟨U,X,R⟩:=h.get j vs[j] (by simp[S]);rw[Z] at X;cases X;exact R.agJ (List.all_eq_true.1 H _ (by simp))
theorem PE{j:TyI}{e:TypeId}(h:j.size<1000):Dc j e%1000=j.size/\(1000<=Dc j e->e+1=Dc j e / 1000):=by
 unfold Dc;split
 .refine⟨by rw[Nat.add_mul_mod_self_left,QQj h],fun _=>by rw[Nat.add_mul_div_left _ _ (by omega),Nat.div_eq_of_lt h,QQb]⟩
 .exact⟨QQj h,fun Z=>by omega⟩
theorem Tl(hH:afA base μ mem w){e:TypeId}{H I J es:Nat}(Y:es%1000=H/\(1000<=es->e+1=es / 1000)){olds news:List AV}{Os Ns:List Value}{z:Array Value}(h0:0<H)(hz:z.size=H)(hO:afo μ mem.length olds Os)(hN:afo μ mem.length news Ns)(hl:olds.length+news.length=I*H)(hnc:I<=J){x:Sem Value}(hx:x.run P w=.ok (.slice (some ⟨w.heap.size,0,none⟩) I J) (w.drew.alloc (.cells (⟨Os⟩++(⟨Ns⟩++Builtin.zeroCells z (J-I))) e))):
  agy P x base μ mem w (.slice mem.length 0 I none) (mem++[.cells true es (olds++news)]):=by
 have X:(⟨Os⟩++(⟨Ns⟩++Builtin.zeroCells z (J-I)):Array Value).size=J*H:=by simp only[Array.size_append,List.size_toArray,size_zeroCells,hz,hO.length,hN.length];rw[<-QXb,hl,<-Nat.add_mul];congr 1;omega
 obtain⟨V,S⟩:=th hH.drew e (⟨Os⟩++(⟨Ns⟩++Builtin.zeroCells z (J-I))) es Y.2 (olds++news) (fun j v R=>by obtain⟨U,Z,O⟩:=(hO.append hN).get j v R;refine⟨U,?_,O⟩;have N:j<(Os++Ns).length:=gL Z;rw[<-Array.append_assoc,Array.getElem?_append_left (by simpa using N)];simpa using Z)
 refine⟨_,_,_,hx,?_,V,?_⟩
 .simp only[afn,fL,rO,Qs,List.length_singleton,World.size_drew]
  refine⟨by omega,?_⟩;rw[QXQ,X,Y.1,Nat.mul_div_cancel _ h0]
 .exact(Step.drew (m0:=mem.length) (L9 _)).trans S
theorem GF(hT:dQ P T)(I:afA base μ mem w){t t2 ty:TypeId}{s x v:AV}{S X:Value}{H :Mem}(hs:afn μ mem.length s S)(hx:afn μ mem.length x X)(h:pr T mem t t2 s x=some (v,H)):
  agy P (Builtin.append_ #[t,t2] ty #[S,X]) base μ mem w v H :=by
 unfold pr at h;cases ht:T t with
 |none=>rw[ht] at h;cases h
 |some i=>
  rw[ht] at h;simp only at h;have B:=(hT t i ht).desc;split at h
  .rename_i e IR
   rw[IR] at B;split at h
   .rename_i j i2 Y hi2
    split at h
    .cases h
    .rename_i Zv
     have N:=(hT t2 i2 hi2).desc;have M:(∃J,P.underlying t2=some (.slice J))\/P.underlying t2=some .string:=by
      have ZF:Mv i2=true:=by
       cases h2:Mv i2 with
       |true=>rfl
       |false=>exact absurd (.inr (.inr h2)) Zv
      unfold Mv at ZF;split at ZF
      next J h2=>rw[h2] at N;exact .inl ⟨J,N⟩
      next h2=>rw[h2] at N;exact .inr N
      .cases ZF
     have Z6:0<j.size:=by
      rcases QQK j.size with h0 | h0
      .exact absurd (.inl h0) Zv
      .exact h0
     have G:j.size<1000:=by
      rcases Nat.lt_or_ge j.size 1000 with h0 | h0
      .exact h0
      .exact absurd (.inr (.inl h0)) Zv
     have hzs:=(hT e j Y).ag6;split at h
     .cases h
     .rename_i m Z adR
      split at h
      .rename_i P'
       obtain⟨K,g1,g2,g3,g4⟩:=Eo (P:=P) I hx adR;split at h
       .
        simp only[afn] at hs;subst hs;split at h
        .rename_i hm
         cases h;subst hm;have O:=B8 hT (ty:=ty) B Y M none 0 0 0 X w g3 (L9 _);rw[g4 w (fun _=>rfl)] at O;exact agy.afO I ⟨_,O,by simp[afn]⟩
        .rename_i hm
         split at h
         .rename_i F
          cases h;obtain⟨nc,L,O⟩:=B7 hT (ty:=ty) B Y M none 0 0 m X w [] K g3 (by omega) (by simpa using F.1) (by simpa using F.2) (by simp[Builtin.firstCells]) (g4 w.drew (fun _=>rfl));simp only[QQb] at O L;have:=Tl (P:=P) I (es:=Dc j e) (PE G) (olds:=[]) (news:=Z) Z6 hzs (by simp[afo]) g1 (by simpa using g2) L O;simpa using this
         .cases h
       .rename_i b n
        split at h
        .rename_i es cs F
         split at h
         .rename_i hc
          obtain⟨k1,k2,k3,k4⟩:=hc;cases h;obtain⟨hbn,rfl⟩:=hs.slice;have hsl:=I.slot b _ F;simp only[afD] at hsl;obtain⟨R,el,fr,s1,s2,s3,s4,s5⟩:=hsl;obtain⟨s6,s7,s8,s9⟩:=s5 trivial;subst s7;have hes:es%1000=j.size/\(1000<=es->e+1=es / 1000):=by
           rcases k1 with rfl | rfl
           .exact⟨QQj G,fun h1=>by omega⟩
           .exact PE G
          have s2' :(μ b).es=j.size:=by rw[s2.1];exact hes.1
          have abd:rO (μ b) 0 none=(μ b).tot / j.size:=by simp[rO,s2']
          have adf:(μ b).off+0=0:=by omega
          rw[adf,abd];obtain⟨Os,o1,o2,o3⟩:=I.cells F (o:=0) (k:=n*j.size) (by omega);simp only[List.drop_zero] at o1;rw[adf] at o3;have afb:0<j.size:=Z6;by_cases aav:n+m<=(μ b).tot / j.size
          .have O:=B8 hT (ty:=ty) B Y M (some ⟨(μ b).blk,0,none⟩) n _ m X w g3 aav
           rw[g4 w (fun _=>rfl)] at O;have C:(n+m)*j.size<=(μ b).tot:=by have:=QQk j.size aav;exact QQd this (Nat.div_mul_le_self _ _)
           have hNl:K.length=m*j.size:=by rw[g1.length,g2,]
           have Zy:=run_storeCells_at (P:=P) (μ b).blk (n*j.size) el K 0 R w s1 (by rw[hNl,s8,Nat.add_zero,<-Nat.add_mul];exact C) (g1.agz P');simp only[Result.andThen_ok,Addr.add_lit,QQb,Zy] at O;have G':cs.length<=R.size:=by rw[s8];exact s3
           have hs' :afD μ mem.length base (w.setRow (μ b).blk (R.toList.take (n*j.size+0)++K++R.toList.drop (n*j.size+0+K.length)).toArray) (μ b) (.cells true es (cs.take (n*j.size)++Z)):=by
            simp only[afD];refine⟨_,el,(0,0),setRow_heap w (μ b).blk R _ el (0,0) s1,s2,?_,fun q u hu=>?_,fun _=>⟨s6,rfl,?_,s9⟩⟩
            .simp only[Qs,SP,g2]
             rw[Nat.add_mul] at C;omega
            .rw[s6,QQb]
             have e1:(cs.take (n*j.size)).length=n*j.size:=by simp;omega
             have J:(R.toList.take (n*j.size+0)).length=n*j.size:=by simp;omega
             simp only[List.getElem?_toArray,QQQ];by_cases hq:q<n*j.size
             .rw[GT (by omega),QQa hq] at hu
              rw[GT (by omega),QQa (by omega)];obtain⟨U,hU,O⟩:=s4 q u hu;rw[s6,QQb] at hU;exact⟨U,by simpa using hU,O⟩
             .rw[V1 (by omega),e1] at hu
              rw[V1 (by omega),J];obtain⟨U,hU,O⟩:=g1.get _ u hu;rw[GT (gL hU)];exact⟨U,hU,O⟩
            .simp only[List.size_toArray,Qs,SP,QXX,QXJ,hNl]
             rw[Nat.add_mul] at C;omega
           obtain⟨r1,r2⟩:=I.rename (w' :=w.setRow (μ b).blk (R.toList.take (n*j.size+0)++K++R.toList.drop (n*j.size+0+K.length)).toArray) F rfl rfl rfl rfl (by simp[World.setRow]) (fun k hk=>setRow_other w _ k _ hk) hs';refine⟨_,_,_,O,?_,r1,r2⟩;simp only[afn,fL,rO,Qs,QQh,List.length_singleton];refine⟨by omega,?_⟩;rw[s2',s6];rfl
          .have hO:(Builtin.firstCells j.size n (.slice (some ⟨(μ b).blk,0,none⟩) n ((μ b).tot / j.size))).run P w.drew=.ok ⟨Os⟩ w.drew:=
            run_firstCells_some w.drew j.size n _ _ _ Os (by rw[o2,]) (fun q u hq=>o3 q u hq)
           obtain⟨nc,L,O⟩:=B7 hT (ty:=ty) B Y M (some ⟨(μ b).blk,0,none⟩) n _ m X w Os K g3 (by omega) k3 k4 hO (g4 w.drew (fun _=>rfl));have hH2:=I.drop F;have G':(mem.set b .qK).length=mem.length:=by simp
           have:=Tl (P:=P) hH2 (es:=es) hes (olds:=cs.take (n*j.size)) (news:=Z) Z6 hzs (by rw[G'];exact o1) (by rw[G'];exact g1) (by rw[SP,g2,Nat.add_mul];omega) L O;obtain⟨V,w',μ',q1,q2,q3,q4⟩:=this;rw[] at q2 q3 q4;rw[G'] at q2 q4;exact⟨V,w',μ',q1,q2,q3,(Step.drop (b:=b) (L9 _)).trans q4⟩
         .cases h
        .cases h
       .cases h
      .cases h
   .cases h
  .cases h
end
def TG(T:TypeId->Option TyI)(q:TypeId->AV->Bool)(H:List AV):List Field->Bool
 | []=>true
 |f::fs=>
  match T f.type with
  |none=>false
  |some i=>match jU i H f.offset with
   |some a=>q f.type a&&TG T q H fs
   |none=>false
def LU(q:AV->Bool)(i:TyI)(H:List AV):List Nat->Bool
 | []=>true
 |j::js=>match jU i H (j*i.size) with
  |some a=>q a&&LU q i H js
  |none=>false
def mA(T:TypeId->Option TyI):Nat->TypeId->AV->Bool
 |0,_,_=>false
 |d+1,t,x=>
  match T t with
  |none=>false
  |some i=>
   match i.desc,x with
   |.bool,.bool _=>true
   |.int _,.int _ _=>true
   |.string,.str _=>true
   |.struct fs,.agg xs=>TG T (mA T d) xs fs.toList
   |.array n e,.agg xs=>match T e with
    |some j=>LU (mA T d e) j xs (List.range' 0 n)
    |none=>false
   |_,_=>false
def ke(T:TypeId->Option TyI)(H:TypeId)(k:AV):List (AV×AV)->Nat->Option (Option (Nat×AV))
 | [],_=>some none
 |e::es,i=>match lg T 20 H k e.1 with
  |some true=>some (some (i,e.2))
  |some false=>ke T H k es (i+1)
  |none=>none
def AV.agd:AV->Bool
 |.bool _ | .int _ _ | .str _=>true
 |_=>false
def ky(mem:Mem):AV->Option (List (AV×AV))
 |.afL=>some []
 |.map b=>match mem[b]? with
  |some (.map es)=>some es
  |some (.afX es)=>some es
  |_=>none
 |_=>none
def lP(T:TypeId->Option TyI)(mem:Mem)(t:TypeId)(m k:AV)(ok:Bool):Option AV:=
 match T t with
 |none=>none
 |some i=>
  match i.desc with
  |.map kt et=>
   match T et,ky mem m with
   |some j,some es=>
    if mA T 20 kt k then
     match ke T kt k es 0 with
     |some (some (_,v))=>some (if ok then .tuple [v,.bool true] else v)
     |some none=>some (if ok then .tuple [oh j.zero,.bool false] else oh j.zero)
     |none=>none
    else none
   |_,_=>none
  |_=>none
def fP(T:TypeId->Option TyI)(mem:Mem)(t:TypeId)(m k v:AV):Option Mem:=
 match T t with
 |none=>none
 |some i=>
  match i.desc,m with
  |.map kt _,.map b=>
   match mem[b]? with
   |some (.map es)=>
    if mA T 20 kt k then
     match ke T kt k es 0 with
     |some (some (i,_))=>if k.agd then some (mem.set b (.map (es.set i (k,v)))) else none
     |some none=>some (mem.set b (.map (es++[(k,v)])))
     |none=>none
    else none
   |_=>none
  |_,_=>none
variable{K:Value}{k:AV}
section
variable {P:Program}{T:TypeId->Option TyI}{μ:Nat->Place}{mem:Mem}{base:Nat}{w:World}{n:Nat}
theorem Cw(hT:dQ P T){d:Nat}{q:TypeId->AV->Bool}{em:Bool}
  (I:∀{t:TypeId}{x:AV}{X:Value},q t x=true->afn μ n x X->∀(w:World),(Instr.checkKey em d t X).run P w=.ok () w)
  {J:List AV}{Y:List Value}(hx:afo μ n J Y) (w:World):∀{H:List Field},TG T q J H=true->
  ((forIn H PUnit.unit fun f _=>(do
    if f.name ≠ "_" then
     let a <-part f.type ⟨Y⟩ f.offset
     Instr.checkKey em d f.type a
     pure (ForInStep.yield PUnit.unit)
    else pure (ForInStep.yield PUnit.unit):Sem (ForInStep PUnit))).run P w=.ok PUnit.unit w)
 | [],_=>by simp
 |f::H,h=>by
  rw[TG] at h;split at h
  .cases h
  .rename_i i S
   split at h
   .rename_i a R
    simp only[Es] at h;obtain⟨A,O,V⟩:=jy (P:=P) (μ:=μ) (n:=n) hT S R hx w;have N:=I h.1 V w;have U:=Cw hT I hx w h.2;rw[List.forIn_cons];by_cases Z:f.name = "_"
    .simp only[Z,ne_eq,not_true_eq_false,if_false,pure_bind]
     simp only[ne_eq] at U;exact U
    .simp only[Z,ne_eq,not_false_eq_true,if_true,Sem.run_bind,O,N,Result.andThen_ok,Sem.run_pure]
     exact U
   .cases h
theorem Cv(hT:dQ P T){d:Nat}{e:TypeId}{i:TyI}(H:T e=some i){q:AV->Bool}{em:Bool}
  (J:∀{x:AV}{X:Value},q x=true->afn μ n x X->∀(w:World),(Instr.checkKey em d e X).run P w=.ok () w)
  {Y:List AV}{Xs:List Value}(hx:afo μ n Y Xs) (w:World):∀{I:List Nat},LU q i Y I=true->
  ((forIn I PUnit.unit fun j _=>(do
    let s <-sizeOf e
    let a <-part e ⟨Xs⟩ (j*s)
    Instr.checkKey em d e a
    pure (ForInStep.yield PUnit.unit):Sem (ForInStep PUnit))).run P w=.ok PUnit.unit w)
 | [],_=>by simp
 |j::I,h=>by
  rw[LU] at h;split at h
  .rename_i a V
   simp only[Es] at h;obtain⟨A,U,Z⟩:=jy (P:=P) (μ:=μ) (n:=n) hT H V hx w;have S:=J h.1 Z w;have R:=Cv hT H J hx w h.2;rw[List.forIn_cons];simp only[Sem.run_bind,dK hT H,U,S,Result.andThen_ok,Sem.run_pure];exact R
  .cases h
theorem lW(hT:dQ P T)(em:Bool):∀(d:Nat) {t:TypeId} {x:AV} {X:Value},mA T d t x=true->afn μ n x X->
  ∀(k:Nat) (w:World),(Instr.checkKey em (d+k) t X).run P w=.ok () w
 |0,_,_,_,h,_,_,_=>by simp[mA] at h
 |d+1,t,x,X,h,hx,k,w=>by
  rw[mA] at h;rw[show d+1+k=d+k+1 by omega];cases ht:T t with
  |none=>rw[ht] at h;cases h
  |some i=>
   rw[ht] at h;simp only at h;have Z:=(hT t i ht).desc;split at h
   next V=>rw[V] at Z;rw[hx.bool,Instr.checkKey];simp[run_underlying Z]
   next V=>rw[V] at Z;rw[hx.int,Instr.checkKey];simp[run_underlying Z]
   next V=>rw[V] at Z;rw[hx.str,Instr.checkKey];simp[run_underlying Z]
   .rename_i L O V
    rw[V] at Z;obtain⟨N,rfl,U⟩:=hx.agg;have:=Cw (em:=em) hT (fun S R w=>lW hT em d S R k w) U w h;rw[Instr.checkKey];simp only[Sem.run_bind,run_underlying Z,Result.andThen_ok];rw[<-Array.forIn_toList];rw[this];rfl
   .rename_i m e O V
    rw[V] at Z;split at h
    .rename_i j M
     obtain⟨N,rfl,U⟩:=hx.agg;have:=Cv (em:=em) hT M (fun S R w=>lW hT em d S R k w) U w h;rw[Instr.checkKey];simp only[Sem.run_bind,run_underlying Z,Result.andThen_ok];simp only[Std.Legacy.Range.forIn_eq_forIn_range',Std.Legacy.Range.size,QXQ,Nat.add_sub_cancel,Nat.div_one];rw[this];rfl
    .cases h
   .cases h
def OX(μ:Nat->Place)(n:Nat):Option (Nat×AV)->Option (Nat×Value)->Prop
 |some (a,v),some (b,V)=>a=b/\afn μ n v V
 |none,none=>True
 |_,_=>False
theorem qj(hT:dQ P T){I:TypeId}{k:AV}{K:Value}(J:afn μ n k K)(w:World):∀{es:List (AV×AV)} {H:List MapEntry} {i:Nat} {r:Option (Nat×AV)},
  H.length=es.length->(∀(j:Nat) e,es[j]? =some e->∃E,H[j]? =some E/\PQ μ n e E)->ke T I k es i=some r->
  ∃R,(Instr.findAsking I K H i).run P w=.ok R w/\OX μ n r R
 | [],H,i,r,hl,_,h=>by have:H=[]:=Mp hl;subst this;simp only[ke,Pi] at h;subst h;exact⟨none,by simp[Instr.findAsking],trivial⟩
 |e::es,[],i,r,hl,_,h=>by simp at hl
 |e::es,E::H,i,r,hl,hr,h=>by
  rw[ke] at h;obtain⟨X,S,V⟩:=hr 0 e rfl;simp at S;subst S;have O:∀(j:Nat) Z,es[j]? =some Z ->∃X,H[j]? =some X /\PQ μ n Z X :=fun j Z N=>by simpa using hr (j+1) Z (by simpa using N)
  split at h
  .rename_i U
   cases h;have:=jv hT 20 U J V.1 9980 w;refine⟨some (i,E.val),?_,rfl,V.2⟩;simp only[Instr.findAsking,Sem.run_bind];rw[show Op.equal I K E.key=Op.equalIn (20+9980) I K E.key from rfl,this];simp
  .rename_i U
   have:=jv hT 20 U J V.1 9980 w;obtain⟨R,M,L⟩:=qj hT J w (by simpa using hl) O h;refine⟨R,?_,L⟩;simp only[Instr.findAsking,Sem.run_bind];rw[show Op.equal I K E.key=Op.equalIn (20+9980) I K E.key from rfl,this];simpa using M
  .cases h
theorem tS(hT:dQ P T){H:TypeId}{kd:TypeDesc}(J:P.underlying H=some kd){k:AV}{K:Value}(Y:afn μ n k K)(w:World):
  ∀{es:List (AV×AV)}{I:List MapEntry}{i:Nat}{r:Option (Nat×AV)}{R:Option (Nat×Value)},
  I.length=es.length->(∀(j:Nat) e,es[j]? =some e->∃E,I[j]? =some E/\PQ μ n e E)->ke T H k es i=some r->Instr.findNow kd K I i=some R->
  (Instr.findAsking H K I i).run P w=.ok R w
 | [],I,i,r,R,hl,_,_,h=>by have:I=[]:=Mp hl;subst this;simp only[Instr.findNow,Pi] at h;subst h;simp[Instr.findAsking]
 |e::es,[],i,r,R,hl,_,_,h=>by simp at hl
 |e::es,E::I,i,r,R,hl,hr,hf,h=>by
  obtain⟨M,F,C⟩:=hr 0 e rfl;simp at F;subst F;have u:∀(j:Nat) N,es[j]? =some N ->∃M,I[j]? =some M /\PQ μ n N M :=fun j N Z=>by simpa using hr (j+1) N (by simpa using Z)
  rw[ke] at hf;have V:∀b,lg T 20 H k e.1=some b->∀U,Instr.sameNow kd K E.key=some U ->U =b:=by
   intro b L U X;have Z:=jv hT 20 L Y C.1 9980 w;unfold Instr.sameNow at X;split at X
   .rename_i o a m c B S
    split at X
    .rename_i G
     cases X;rw[S] at Z;subst G;rw[run_equalIn_int w _ H _ _ _ _ J] at Z;cases Z;rfl
    .cases X
   .rename_i a c B S
    cases X;rw[S] at Z;rw[run_equalIn_string w _ H _ _ J] at Z;cases Z;rw[beq_toListBytes]
   .rename_i a c B S
    cases X;rw[S] at Z;rw[run_equalIn_bool' w _ H _ _ J] at Z;cases Z;rfl
   .cases X
  rw[Instr.findNow] at h;have step:∀b,lg T 20 H k e.1=some b->(Instr.findAsking H K (E::I) i).run P w=if b then .ok (some (i,E.val)) w else (Instr.findAsking H K I (i+1)).run P w:=by intro b L;have Z:=jv hT 20 L Y C.1 9980 w;simp only[Instr.findAsking,Sem.run_bind];rw[show Op.equal H K E.key=Op.equalIn (20+9980) H K E.key from rfl,Z];cases b<;>simp
  split at hf
  .rename_i O
   rw[step _ O];cases hs:Instr.sameNow kd K E.key with
   |none=>rw[hs] at h;cases h
   |some U =>
    have:=V _ O _ hs;subst this;rw[hs] at h;simp only[Pi] at h;subst h;simp
  .rename_i O
   rw[step _ O];cases hs:Instr.sameNow kd K E.key with
   |none=>rw[hs] at h;cases h
   |some U =>
    have:=V _ O _ hs;subst this;rw[hs] at h;simp only at h;simpa using tS hT J Y w (by simpa using hl) u hf h
  .cases hf
theorem iA(hT:dQ P T){H:TypeId}{J:TyI}(Y:T H=some J)(hk:afn μ n k K){es:List (AV×AV)}{I:List MapEntry}{r:Option (Nat×AV)}(hl:I.length=es.length)(hr:∀(j:Nat) e,es[j]? =some e->∃E,I[j]? =some E/\PQ μ n e E)(h:ke T H k es 0=some r)(w:World):
  ∃R,(Instr.findKey H K I).run P w=.ok R w/\OX μ n r R:=by
 have Z:=(hT H J Y).desc;obtain⟨R,X,V⟩:=qj hT hk w hl hr h;refine⟨R,?_,V⟩;simp only[Instr.findKey,Sem.run_bind,run_underlying Z,Result.andThen_ok];cases hn:Instr.findNow J.desc K I 0 with
 |none=>simpa using X
 |some R' =>
  have:=tS hT Z hk w hl hr h hn;rw[this] at X;cases X;simp
theorem GG(hT:dQ P T)(hH:afA base μ mem w){t:TypeId}{m k v:AV}{M:Value}{ok:Bool}(H:afn μ mem.length m M)(I:afn μ mem.length k K)(h:lP T mem t m k ok=some v):Val P (Instr.lookup t M K ok) w μ mem.length v:=by
 unfold lP at h;cases ht:T t with
 |none=>rw[ht] at h;cases h
 |some i=>
  rw[ht] at h;simp only at h;have O:=(hT t i ht).desc;split at h
  .rename_i kt et IR
   rw[IR] at O;split at h
   .rename_i j es hj Z
    split at h
    .rename_i C
     have o:∃U:Array MapEntry,(M=.map none/\U= #[]\/∃r c,M=.map (some r)/\(getObj r).run P w=.ok (.map U c) w)/\U.toList.length=es.length/\
       ∀(j:Nat) e,es[j]? =some e->∃E,U.toList[j]? =some E/\PQ μ mem.length e E:=by
      unfold ky at Z;split at Z
      .cases Z
       simp only[afn] at H;subst H;exact⟨#[],.inl ⟨rfl,rfl⟩,rfl,by simp⟩
      .rename_i b
       split at Z
       .rename_i Y J
        cases Z;simp only[afn] at H;obtain⟨_,rfl⟩:=H;have N:=hH.slot b _ J;simp only[afD] at N;obtain⟨H',I',h1,_,h2,h3⟩:=N;refine⟨H',.inr ⟨_,I',rfl,by simp[getObj,Sem.run,h1]⟩,by simpa using h2,fun j e he=>?_⟩;obtain⟨E,hE,hr⟩:=h3 j e he;exact⟨E,by simpa using hE,hr⟩
       .rename_i Y J
        cases Z;simp only[afn] at H;obtain⟨_,rfl⟩:=H;have N:=hH.slot b _ J;simp only[afD] at N;obtain⟨H',I',h1,_,h2,h3⟩:=N;refine⟨H',.inr ⟨_,I',rfl,by simp[getObj,Sem.run,h1]⟩,by simpa using h2,fun j e he=>?_⟩;obtain⟨E,hE,hr⟩:=h3 j e he;exact⟨E,by simpa using hE,hr⟩
       .cases Z
      .cases Z
     obtain⟨U,S,e2,e3⟩:=o;have X:=lW (P:=P) (n:=mem.length) hT U.isEmpty 20 C I 9980 w;have hkt:∃B,T kt=some B:=by
      rw[mA] at C;cases hx:T kt with
      |none=>rw[hx] at C;cases C
      |some B=>exact⟨B,rfl⟩
     obtain⟨B,L⟩:=hkt;split at h
     .rename_i q v' hf
      cases h;obtain⟨R,G,u⟩:=iA hT L I e2 e3 hf w;cases R with
      |none=>exact u.elim
      |some x=>
       obtain⟨_,V⟩:=x;have F:=u.2;refine⟨if ok then .tuple #[V,.bool true] else V,?_,?_⟩
       .rcases S with⟨rfl,rfl⟩ | ⟨r,c,rfl,S⟩
        .simp only[Instr.lookup,Sem.run_bind,run_underlying O,Result.andThen_ok,Sem.run_pure]
         rw[show(10000:Nat)=20+9980 from rfl,X];simp only[Result.andThen_ok,G,Sem.run_pure,Sem.run_bind]
        .simp only[Instr.lookup,Sem.run_bind,run_underlying O,Result.andThen_ok,S,Sem.run_pure]
         rw[show(10000:Nat)=20+9980 from rfl,X];simp only[Result.andThen_ok,G,Sem.run_pure,Sem.run_bind]
       .cases ok
        .exact F
        .simp only[if_true,afn];exact⟨[V,.bool true],rfl,bX.2 ⟨F,bX.2 ⟨by simp[afn],by simp[afo]⟩⟩⟩
     .rename_i hf
      cases h;obtain⟨R,G,u⟩:=iA hT L I e2 e3 hf w;cases R with
      |some x=>exact u.elim
      |none=>
       have F:=xR μ mem.length j.zero;refine⟨if ok then .tuple #[j.zero,.bool false] else j.zero,?_,?_⟩
       .rcases S with⟨rfl,rfl⟩ | ⟨r,c,rfl,S⟩
        .simp only[Instr.lookup,Sem.run_bind,run_underlying O,Result.andThen_ok,Sem.run_pure]
         rw[show(10000:Nat)=20+9980 from rfl,X];simp only[Result.andThen_ok,G,Sem.run_pure,Sem.run_bind,fZ hT hj]
        .simp only[Instr.lookup,Sem.run_bind,run_underlying O,Result.andThen_ok,S,Sem.run_pure]
         rw[show(10000:Nat)=20+9980 from rfl,X];simp only[Result.andThen_ok,G,Sem.run_pure,Sem.run_bind,fZ hT hj]
       .cases ok
        .exact F
        .simp only[if_true,afn];exact⟨[j.zero,.bool false],rfl,bX.2 ⟨F,bX.2 ⟨by simp[afn],by simp[afo]⟩⟩⟩
     .cases h
    .cases h
   .cases h
  .cases h
theorem sE{J :Value}{e:AV}{b:Bool}{Y:TypeId}(hs:k.agd=true)(H:afn μ n k K)(I:afn μ n e J)(h:lg T 20 Y k e=some b)(hb:b=true):
  Instr.sameBits 10000 J K=true:=by
 subst hb;rw[lg] at h;cases ht:T Y with
 |none=>rw[ht] at h;cases h
 |some i=>
  rw[ht] at h;simp only at h;split at h
  .rw[H.bool,I.bool]
   simp only[Pi] at h;simp only[Instr.sameBits];rw[beq_iff_eq] at h |-;exact h.symm
  .split at h
   .rename_i Z
    subst Z;simp only[Pi,GE] at h;rw[H.int,I.int,h];simp[Instr.sameBits]
   .cases h
  .rw[H.str,I.str]
   simp only[Pi,beq_iff_eq] at h;rw[h];simp only[Instr.sameBits];rw[beq_toListBytes];simp
  .cases hs
  .cases hs
  .cases h
theorem nT{H:TypeId}{k:AV}:∀{es:List (AV×AV)} {i q:Nat} {v:AV},ke T H k es i=some (some (q,v))->∃j e,q=i+j/\es[j]? =some e/\lg T 20 H k e.1=some true
 | [],i,q,v,h=>by simp[ke] at h
 |e::es,i,q,v,h=>by
  rw[ke] at h;split at h
  next Z=>cases h;exact⟨0,e,rfl,rfl,Z⟩
  .obtain⟨j,X,U,V,h3⟩:=nT h
   exact⟨j+1,X,by omega,by simpa using V,h3⟩
  .cases h
theorem tx{r:Nat}{o o' :Obj}(h:w.heap[r]? =some o)(H:∀c e f,o≠ .cells c e f):(setObj r o').run P w=.ok () { w with heap:=w.heap.setIfInBounds r o' }:=by simp only[setObj,Sem.run,h];try (split<;>first | (rename_i Z;cases Z;exact absurd rfl (H _ _ _)) | rfl | simp_all)
theorem Au(hT:dQ P T)(hH:afA base μ mem w){t:TypeId}{m k v:AV}{M K V:Value}{mem' :Mem}(hm:afn μ mem.length m M)(H:afn μ mem.length k K)(hv:afn μ mem.length v V)(h:fP T mem t m k v=some mem'):∃w',(Instr.mapUpdate t M K V).run P w=.ok () w' /\afA base μ mem' w' /\Step mem.length μ mem w μ mem' w' :=by
 unfold fP at h;cases ht:T t with
 |none=>rw[ht] at h;cases h
 |some i=>
  rw[ht] at h;simp only at h;have hd:=(hT t i ht).desc;split at h
  .rename_i kt et b IR
   rw[IR] at hd;split at h
   .rename_i es hb
    split at h
    .rename_i J
     simp only[afn] at hm;obtain⟨hbn,rfl⟩:=hm;have hs:=hH.slot b _ hb;simp only[afD] at hs;obtain⟨C,B,h1,X,I,h3⟩:=hs;have hg:(getObj (μ b).blk).run P w=.ok (.map C B) w:=by simp[getObj,Sem.run,h1]
     have u:=lW (P:=P) (n:=mem.length) hT false 20 J H 9980 w;have hkt:∃ki,T kt=some ki:=by
      rw[mA] at J;cases hx:T kt with
      |none=>rw[hx] at J;cases J
      |some ki=>exact⟨ki,rfl⟩
     obtain⟨ki,o⟩:=hkt;have e2:C.toList.length=es.length:=by simpa using I
     have e3:∀(j:Nat) e,es[j]? =some e->∃E,C.toList[j]? =some E/\PQ μ mem.length e E:=fun j e he=>by obtain⟨E,hE,hr⟩:=h3 j e he;exact⟨E,by simpa using hE,hr⟩
     have FS:(μ b).blk<w.heap.size:=(Nm.1 h1).1;have Y:∀(O :Array MapEntry) (N :Nat) (S :List (AV×AV)),Er O N ->O.size=S.length->(∀(j:Nat) e,S[j]? =some e->∃E,O[j]? =some E/\PQ μ mem.length e E)->
       (setObj (μ b).blk (.map O N)).run P w=.ok () { w with heap:=w.heap.setIfInBounds (μ b).blk (.map O N) }/\
       afA base μ (mem.set b (.map S)) { w with heap:=w.heap.setIfInBounds (μ b).blk (.map O N) }/\Step mem.length μ mem w μ (mem.set b (.map S)) { w with heap:=w.heap.setIfInBounds (μ b).blk (.map O N) }:=by
      intro O N S g0 g1 g2;refine⟨tx h1 (by simp),hH.write hb (Mc hb) (fun _=>⟨_,QQc (gL hb),rfl⟩) rfl rfl rfl rfl (by simp) (fun q hq=>?_) ?_⟩
      .simp[QQY (Ne.symm hq)]
      .simp only[afD]
       exact⟨O,N,by simp[FS],⟨X.1,g0⟩,g1,g2⟩
     split at h
     .rename_i q v' hf
      split at h
      .rename_i hsc
       cases h;obtain⟨R,g1,g2⟩:=iA hT o H e2 e3 hf w;cases R with
       |none=>exact g2.elim
       |some x=>
        obtain⟨q',V'⟩:=x;obtain⟨rfl,_⟩:=g2;obtain⟨j,e,hq,he,Zs⟩:=nT hf;have hq' :q=j:=by omega
        subst hq';obtain⟨E,hE,hr⟩:=h3 q e he;have hsb:=sE (μ:=μ) (n:=mem.length) hsc H hr.1 Zs rfl;obtain⟨f1,f2,f3⟩:=Y (C.modify q fun e=>{ e with key:=K,val:=V }) B (es.set q (k,v)) ⟨by simpa using X.2.1,fun j L U =>by
         rw[Array.getElem?_modify] at U;split at U
         .simp only[Y1] at U
          obtain⟨E0,k1,rfl⟩:=U;exact X.2.2 j E0 k1
         .exact X.2.2 j L U⟩ (by simpa using I) (fun j e' Z =>by
         rw[List.getElem?_set] at Z;by_cases G:q=j
         .subst G
          have Zt :q<es.length:=gL he;simp only[if_true,Zt,Pi] at Z;subst Z;exact⟨{ E with key:=K,val:=V },by simp[Array.getElem?_modify,hE],H,hv⟩
         .rw[if_neg G] at Z
          obtain⟨L,U,F⟩:=h3 j e' Z;exact⟨L,by simp[Array.getElem?_modify,G,U],F⟩)
        refine⟨_,?_,f2,f3⟩;simp only[Instr.mapUpdate,Sem.run_bind,run_underlying hd,Result.andThen_ok,hg];rw[show(10000:Nat)=20+9980 from rfl,u];simp only[Result.andThen_ok,g1,Sem.run_bind];have aaI:(Instr.keyThatStays (((C[q]?).map (·.key)).getD K) K).run P w=.ok K w:=by unfold Instr.keyThatStays;rw[hE];simp only[Option.map_some,Option.getD_some,hsb,if_true];rfl
        rw[aaI];simpa using f1
      .cases h
     .rename_i hf
      cases h;obtain⟨R,g1,g2⟩:=iA hT o H e2 e3 hf w;cases R with
      |some x=>exact g2.elim
      |none=>
       obtain⟨f1,f2,f3⟩:=Y (C.push { key:=K,val:=V,born:=B }) (B+1) (es++[(k,v)]) ⟨by simp[X.2.1],fun j L U =>by
        rw[Array.getElem?_push] at U;split at U
        next hj=>cases U;rw[hj];exact X.2.1
        .exact X.2.2 j L U⟩ (by simp[I]) (fun j e' Z =>by
        by_cases hj:j<es.length
        .rw[GT hj] at Z
         obtain⟨L,U,F⟩:=h3 j e' Z;exact⟨L,by rw[Array.getElem?_push,if_neg (by omega)];exact U,F⟩
        .have hje:j=es.length:=by have:=(gL Z);simp at this;omega
         subst hje;simp at Z;subst Z;exact⟨{ key:=K,val:=V,born:=B },by rw[Array.getElem?_push,if_pos I.symm],H,hv⟩)
       refine⟨_,?_,f2,f3⟩;simp only[Instr.mapUpdate,Sem.run_bind,run_underlying hd,Result.andThen_ok,hg];rw[show(10000:Nat)=20+9980 from rfl,u];simp only[Result.andThen_ok,g1];exact f1
     .cases h
    .cases h
   .cases h
  .cases h
theorem G7(H:afA base μ mem w){t:TypeId}:agy P (Instr.makeMap t none) base μ mem w (.map mem.length) (mem++[.map []]):=by
 obtain⟨Z,X⟩:=H.push (.map #[] 0) (.map []) ⟨w.heap.size,0,0,0⟩ rfl (by simp only[afD];exact⟨#[],0,heap_alloc_new w _,⟨H.afx,rfl,by simp⟩,rfl,by simp⟩)
 refine⟨.map (some w.heap.size),_,_,?_,?_,Z,X⟩
 .simp only[Instr.makeMap,Sem.run_bind,Sem.run_pure,run_newObj,Result.andThen_ok]
  rfl
 .simp[afn,fL]
end
end Go.Eng
namespace Go.Eng
def jD:List AV->Option (List UInt8)
 | []=>some []
 |.int .u8 n::l=>if 0<=n/\n<256 then match jD l with
  |some r=>some (UInt8.ofNat n.toNat::r)
  |none=>none
  else none
 |_::_=>none
def sQ(mem:Mem)(x:AV):Option AV:=match x with
 |.slice b o n none=>match mem[b]? with
  |some (.cells _ es cs)=>if 0<n/\0<es%1000/\o+n*(es%1000)<=cs.length then some (.ptr b o) else none
  |_=>none
 |_=>none
def xW(T:TypeId->Option TyI)(mem:Mem)(pt:TypeId)(x l:AV):Option (AV×Mem):=match T pt,x,l with
 |some i,.ptr b 0,.int .i64 n=>match i.desc with
  |.pointer e=>match T e,mem[b]? with
   |some j,some (.cells true es cs)=>
    if j.size=1/\es=1+1000*(e+1)/\0<n/\n<=cs.length/\n<=9223372036854775807 then match jD (cs.take n.toNat) with
     |some s=>some (.str s,mem.set b .qK)
     |none=>none
    else none
   |_,_=>none
  |_=>none
 |_,_,_=>none
theorem XZ(a es:Nat)(h:es=1+1000*(a+1)):1000<=es/\es / 1000=a+1/\es%1000=1:=by omega
theorem ED:∀{l:List AV} {s:List UInt8},jD l=some s->s.length=l.length/\∀(j:Nat) x,s[j]? =some x->l[j]? =some (.int .u8 (x.toNat:Int))
 | [],s,h=>by cases h;exact⟨rfl,fun j x Z=>by simp at Z⟩
 |v::l,s,h=>by
  cases v<;>try (unfold jD at h;cases h;done)
  rename_i k n;cases k<;>try (unfold jD at h;cases h;done)
  unfold jD at h;split at h
  .rename_i S
   split at h
   .rename_i r X
    cases h;obtain⟨V,U⟩:=ED X;refine⟨by simp[V],fun j x Z=>?_⟩;cases j with
    |zero=>
     simp at Z;subst Z;simp only[List.getElem?_cons_zero,Pi,AV.int.injEq,true_and];rw[UInt8.toNat_ofNat'];have:n.toNat%256=n.toNat:=QQj (by omega);show n=((n.toNat%256:Nat):Int)
     rw[this];omega
    |succ j=>simpa using U j x (by simpa using Z)
   .cases h
  .cases h
theorem Oi(w:World)(a:Addr)(n:Nat):(w.freeze a n).heap.size=w.heap.size:=by unfold World.freeze;split<;>simp
theorem LO(w:World)(a:Addr)(n k:Nat)(h:k≠a.block):(w.freeze a n).heap[k]? =w.heap[k]? :=by
 unfold World.freeze;split
 .rfl
 .simp only[Array.getElem?_modify,if_neg (Ne.symm h)]
section
variable {P:Program}{T:TypeId->Option TyI}{μ:Nat->Place}{mem:Mem}{base:Nat}{w:World}
theorem Av(H:afA base μ mem w){x v:AV}{X:Value}(ts:Array TypeId)(ty:TypeId)(I:afn μ mem.length x X)(h:sQ mem x=some v):Val P (Builtin.unsafeSliceData_ ts ty #[X]) w μ mem.length v:=by
 unfold sQ at h;split at h
 .rename_i b o n
  split at h
  .rename_i own es M S
   split at h
   .rename_i R
    cases h;obtain⟨Z,rfl⟩:=I.slice;have U:=H.slot b _ S;simp only[afD] at U;obtain⟨O,el,L,K,N,G,_,_⟩:=U;have V:rO (μ b) o none≠0:=by
     simp only[rO,N.1];have:n<=((μ b).tot-o) / (es%1000):=by rw[Nat.le_div_iff_mul_le R.2.1];omega
     omega
    exact⟨_,Lib.run_unsafeSliceData_row _ _ _ _ _ _ V,by simp[afn,Z]⟩
   .cases h
  .cases h
 .cases h
theorem GJ(hT:dQ P T)(I:afA base μ mem w){pt J ty:TypeId}{x l v:AV}{X L:Value}{H :Mem}(hx:afn μ mem.length x X)(hl:afn μ mem.length l L)(h:xW T mem pt x l=some (v,H)):
  agy P (Builtin.unsafeString_ #[pt,J] ty #[X,L]) base μ mem w v H :=by
 unfold xW at h;split at h
 .rename_i i b n hi
  split at h
  .rename_i e hd
   split at h
   .rename_i j es cs hj O
    split at h
    .rename_i hc
     obtain⟨c1,c2,c3,c4,c5⟩:=hc;split at h
     .rename_i s hs
      cases h;obtain⟨g1,g2⟩:=ED hs;have hX:=hx.ptr;have hL:=hl.int;have Z:=(hT pt i hi).desc;rw[hd] at Z;obtain⟨f,hf,N,_,_⟩:=(hT e j hj).info;have M:P.cellsOf e=1:=by unfold Program.cellsOf;rw[hf];simp[N,c1]
      have U:=I.slot b _ O;simp only[afD] at U;obtain⟨S,el,fr,B,s2,s3,s4,s5⟩:=U;obtain⟨o,rfl,s8,s9⟩:=s5 trivial;have K:el=e:=by obtain⟨q1,q2,_⟩:=XZ e es c2;have:=s2.2 q1;rw[q2] at this;exact Nat.succ.inj this
      subst K;have G:s.length=n.toNat:=by rw[g1,SP];omega
      have hn:n=(s.length:Int):=by omega
      rw[hX.2,hL,hn,o];have F:w.shape? (μ b).blk=some (el,S.size):=by simp[World.shape?,B]
      have Zr:=Lib.run_unsafeString_row (P:=P) w pt J ty el Z M (μ b).blk S.size F s (by intro e;rw[e] at G;simp at G;omega) (by rw[s8];omega) (by omega) (fun q u m=>by
       have Y:=g2 q u m;have C:q<n.toNat:=by rw[<-G];exact(gL m)
       rw[QQa C] at Y;obtain⟨V,hV,hr⟩:=s4 q _ Y;rw[hr.int] at hV;rw[o,QQb] at hV;simp only[Addr.add_lit,World.cell?,B,QQb];exact hV)
      have J':¬s.length=0:=by omega
      have R:(w.freeze ⟨(μ b).blk,0,none⟩ s.length).os=w.os/\(w.freeze ⟨(μ b).blk,0,none⟩ s.length).tape=w.tape/\(w.freeze ⟨(μ b).blk,0,none⟩ s.length).output=w.output/\(w.freeze ⟨(μ b).blk,0,none⟩ s.length).drawn=w.drawn:=by unfold World.freeze;rw[if_neg J'];exact⟨rfl,rfl,rfl,rfl⟩
      obtain⟨k1,k2⟩:=I.write (w' :=w.freeze ⟨(μ b).blk,0,none⟩ s.length) (s' :=.qK) O (pR O) (fun h=>absurd rfl h) R.2.2.2 R.1 R.2.1 R.2.2.1 (Oi ..) (fun k hk=>LO _ _ _ _ hk) trivial;refine⟨_,_,μ,Zr,by simp[afn],k1,?_⟩;exact k2
     .cases h
    .cases h
   .cases h
  .cases h
 .cases h
end
section
variable {P:Program}{T:TypeId->Option TyI}{μ:Nat->Place}{mem:Mem}{base:Nat}{w:World}
def nH(T:TypeId->Option TyI)(mem:Mem)(s d:TypeId):AV->Option (AV×Mem)
 |.str l=>match T s,T d with
  |some i,some j=>match i.desc,j.desc with
   |.string,.slice e=>match T e with
    |some k=>match k.desc with
     |.int .u8=>some (.slice mem.length 0 l.length none,mem++[.cells false 1 (l.map fun c=>.int .u8 c.toNat)])
     |_=>none
    |none=>none
   |_,_=>none
  |_,_=>none
 |_=>none
theorem LN(w:World)(H:Array Value)(e:TypeId)(n:Nat):
  (w.alloc (.cells H e)).freeze ⟨w.heap.size,n,none⟩ 1=w.alloc (.cells H e (n,n+1)):=by
 unfold World.freeze;rw[if_neg (by decide)];simp only[World.alloc];congr 1;apply Array.ext
 .simp
 .intro k Z V
  simp only[Array.getElem_modify,Array.getElem_push];by_cases X:k<w.heap.size
  .simp[X];omega
  .simp at Z
   have:k=w.heap.size:=by omega
   subst this;simp
theorem Am(hT:dQ P T)(I:afA base μ mem w){s d:TypeId}{x v:AV}{X:Value}{H :Mem}(J:afn μ mem.length x X)(h:nH T mem s d x=some (v,H)):
  agy P (convert s d X) base μ mem w v H :=by
 unfold nH at h;split at h
 .rename_i l
  split at h
  .rename_i i j o m
   have K:=(hT s i o).desc;have G:=(hT d j m).desc;split at h
   .rename_i e U S
    rw[U] at K;rw[S] at G;split at h
    .rename_i k Y
     have h3:=(hT e k Y).desc;split at h
     .rename_i R
      rw[R] at h3;cases h;rw[J.str];let c:=grownCap w l.length 0 e
      have hc:l.length<=c:=grownCap_ge w l.length 0 e;let Cs:Array Value:=(l.map fun c=>Value.int .u8 c.toNat).toArray++Array.replicate (c-l.length) (.int .u8 0)
      have Z:Cs.size=c:=by simp[Cs];omega
      have O:afA base μ mem w.drew:=I.ags rfl;obtain⟨g1,g2⟩:=O.push (.cells Cs e (Cs.size,Cs.size+1)) (.cells false 1 (l.map fun c=>.int .u8 c.toNat)) ⟨w.heap.size,0,Cs.size,1⟩ rfl (by simp only[afD];refine⟨Cs,e,(Cs.size,Cs.size+1),heap_alloc_new w.drew _,ahm.small rfl (by decide),by simp[Z];exact hc,fun q u F=>?_,fun h=>by cases h⟩;rw[QQJ,Y1] at F;obtain⟨a,C,rfl⟩:=F;have hq:=gL C;refine⟨.int .u8 a.toNat,?_,by simp[afn]⟩;simp only[QQb,Cs];rw[Array.getElem?_append_left (by simpa using hq)];simp[C])
      refine⟨.slice (some ⟨w.heap.size,0,none⟩) l.length c,w.drew.alloc (.cells Cs e (Cs.size,Cs.size+1)),_,?_,?_,g1,?_⟩
      .have hf:(Question.appendCap l.length 0 e).forced=false:=by simp[Question.forced]
       have X':(ByteArray.mk l.toArray).size=l.length:=sS ..;have N :(ByteArray.mk l.toArray).data.map (fun b=>Value.int .u8 b.toNat)++Array.replicate (c-l.length) (.int .u8 0)=Cs:=by simp[Cs]
       have M:(w.drew.alloc (.cells Cs e)).shape? w.heap.size=some (e,Cs.size):=by unfold World.shape?;rw[show(w.drew.alloc (.cells Cs e)).heap[w.heap.size]? =_ from heap_alloc_new w.drew _]
       have V:=LN w.drew Cs e Cs.size;have B:w.drew.heap.size=w.heap.size:=rfl;rw[B] at V;simp only[convert,Sem.run_bind,run_underlying K,run_underlying G,run_underlying h3,Result.andThen_ok,Conv.stringToBytes,choose,Sem.run,hf,Bool.false_eq_true,if_false,X'];change ((newRow e ((ByteArray.mk l.toArray).data.map (fun b=>Value.int .u8 b.toNat)++Array.replicate (c-l.length) (.int .u8 0))).run P w.drew).andThen _=_;rw[N];simp only[newRow,run_newObj,Result.andThen_ok,Sem.run_bind,markStringish,shape,freeze,Sem.run];have L:({ heap:=w.drew.heap.push (Obj.cells Cs e),tape:=w.drew.tape,drawn:=w.drew.drawn,os:=w.drew.os,output:=w.drew.output }:World)=w.drew.alloc (.cells Cs e):=rfl;simp only[Sem.run_pure,Result.andThen_ok,L,B,M,Sem.run,V];rfl
      .simp only[afn,fL,rO,Qs,List.length_singleton]
       refine⟨by omega,?_⟩;simp[Z]
      .exact(Step.drew (m0:=mem.length) (L9 _)).trans g2
     .cases h
    .cases h
   .cases h
  .cases h
 .cases h
end
section
variable {P:Program}{T:TypeId->Option TyI}{μ:Nat->Place}{mem:Mem}{base:Nat}{w:World}
end
section
variable {P:Program}{T:TypeId->Option TyI}{μ:Nat->Place}{mem:Mem}{base:Nat}{w:World}
theorem afA.qK(h:afA base μ mem w)(p:Place):afA base (upd μ mem.length p) (mem++[.qK]) w/\Step mem.length μ mem w (upd μ mem.length p) (mem++[.qK]) w:=by
 have hμ:∀b,b<mem.length->upd μ mem.length p b=μ b:=fun b X=>xm X
 have low:∀{b:Nat}{s:afq},(mem++[afq.qK])[b]? =some s->s≠ .qK->b<mem.length/\mem[b]? =some s:=by
  intro b s Z U;by_cases S:b<mem.length
  .rw[GT S] at Z;exact⟨S,Z⟩
  .exfalso
   have R:b=mem.length:=by have:=gL Z;simp at this;omega
   subst R;simp at Z;exact U Z.symm
 have own:∀{b:Nat},eG (mem++[afq.qK]) b->b<mem.length/\eG mem b:=by rintro b ⟨s,Z,ho⟩;have:=low Z (afq.afY ho);exact⟨this.1,s,this.2,ho⟩
 refine⟨⟨h.afx,fun b s Z=>?_,fun b L K X G U F=>?_⟩,?_⟩
 .by_cases V:s=.qK
  .subst V;trivial
  .obtain⟨S,O⟩:=low Z V
   rw[hμ b S];exact(h.slot b s O).mono (by simp) hμ fun _=>rfl
 .obtain⟨N,M⟩:=own X
  obtain⟨h3,C⟩:=low G U;rw[hμ b N,hμ L h3];exact h.sep b L K M C U F
 .exact⟨by simp,hμ,rfl,rfl,rfl,L9 _,fun _ _ _=>rfl,fun b X _=>by obtain⟨N,M⟩:=own X;exact⟨b,M,(congrArg Place.blk (hμ b N)).symm⟩,L9 _⟩
end
section
variable {P:Program}{T:TypeId->Option TyI}{μ:Nat->Place}{mem:Mem}{base:Nat}{w:World}
end
def rK(T:TypeId->Option TyI)(mem:Mem)(t:TypeId)(m k:AV):Option (AV×Mem):=
 match T t with
 |none=>none
 |some i=>
  match i.desc,m with
  |.map kt et,.map b=>
   match T et,mem[b]? with
   |some j,some (.map es)=>
    if mA T 20 kt k then
     match ke T kt k es 0 with
     |some (some (q,v))=>if k.agd then some (.tuple [v,.int .i64 q],mem.set b (.map (es.set q (k,v)))) else none
     |some none=>some (.tuple [oh j.zero,.int .i64 es.length],mem.set b (.map (es++[(k,oh j.zero)])))
     |none=>none
    else none
   |_,_=>none
  |_,_=>none
def lO(mem:Mem)(m s v:AV):Option Mem:=
 match m,s with
 |.map b,.int _ (.ofNat q)=>match mem[b]? with
  |some (.map es)=>match es[q]? with
   |some e=>some (mem.set b (.map (es.set q (e.1,v))))
   |none=>none
  |_=>none
 |_,_=>none
variable{H':Array MapEntry}
section
variable {P:Program}{T:TypeId->Option TyI}{μ:Nat->Place}{mem:Mem}{base:Nat}{w:World}{n:Nat}
theorem LK{H:TypeId}{k:AV}:∀{es:List (AV×AV)} {i q:Nat} {v:AV},ke T H k es i=some (some (q,v))->(es[q-i]?).map (·.2)=some v
 | [],i,q,v,h=>by simp[ke] at h
 |e::es,i,q,v,h=>by
  have X:=nT h;rw[ke] at h;split at h
  .cases h;simp
  .have:=LK h
   obtain⟨j,V,Z,U,h3⟩:=nT h;subst Z;rw[show i+1+j-(i+1)=j by omega] at this;rw[show i+1+j-i=j+1 by omega];simpa using this
  .cases h
theorem CH(I:afA base μ mem w){b J ZD :Nat}{es es' :List (AV×AV)}{ZG :Array MapEntry}(hb:mem[b]? =some (.map es))(h1:w.heap[(μ b).blk]? =some (.map H' J))(H:base<=(μ b).blk)(Y:Er ZG ZD)(g1:ZG.size=es'.length)(g2:∀(j:Nat) e,es'[j]? =some e->∃E,ZG[j]? =some E/\PQ μ mem.length e E):
  (setObj (μ b).blk (.map ZG ZD)).run P w=.ok () { w with heap:=w.heap.setIfInBounds (μ b).blk (.map ZG ZD) }/\
  afA base μ (mem.set b (.map es')) { w with heap:=w.heap.setIfInBounds (μ b).blk (.map ZG ZD) }/\Step mem.length μ mem w μ (mem.set b (.map es')) { w with heap:=w.heap.setIfInBounds (μ b).blk (.map ZG ZD) }:=by
 have Z:(μ b).blk<w.heap.size:=(Nm.1 h1).1;refine⟨tx h1 (by simp),I.write hb (Mc hb) (fun _=>⟨_,QQc (gL hb),rfl⟩) rfl rfl rfl rfl (by simp) (fun q X=>?_) ?_⟩
 .simp[QQY (Ne.symm X)]
 .simp only[afD]
  exact⟨ZG,ZD,by simp[Z],⟨H,Y⟩,g1,g2⟩
theorem RT{H i:Nat}(h:Er H' H)(I:i<H'.size):H'.findIdx? (fun e=>(e.born:Int)==(i:Int))=some i:=by
 rw[Array.findIdx?_eq_some_iff_getElem];refine⟨I,?_,?_⟩
 .have:=h.2 i H'[i] (by simp)
  simp[this]
 .intro j Z
  have:=h.2 j H'[j] (by simp);simp[this];omega
theorem xV(H:afA base μ mem w){t:TypeId}{m s v:AV}{M S V:Value}{mem' :Mem}(I:afn μ mem.length m M)(hs:afn μ mem.length s S)(J:afn μ mem.length v V)(h:lO mem m s v=some mem'):∃w',(Instr.entryStore t M S V).run P w=.ok () w' /\afA base μ mem' w' /\Step mem.length μ mem w μ mem' w' :=by
 unfold lO at h;split at h
 .rename_i b k q
  split at h
  .rename_i es hb
   split at h
   .rename_i e G
    cases h;simp only[afn] at I;obtain⟨_,rfl⟩:=I;have O:=H.slot b _ hb;simp only[afD] at O;obtain⟨H',F,C,Z,B,h3⟩:=O;have u:(getObj (μ b).blk).run P w=.ok (.map H' F) w:=by simp[getObj,Sem.run,C]
    have o:q<es.length:=gL G;have Y:=RT Z.2 (i:=q) (by omega);obtain⟨f1,f2,f3⟩:=CH (P:=P) H (es' :=es.set q (e.1,v)) (ZG :=H'.modify q fun e=>{ e with val:=V }) (ZD :=F) hb C Z.1 ⟨by simpa using Z.2.1,fun j N U =>by
     rw[Array.getElem?_modify] at U;split at U
     .simp only[Y1] at U
      obtain⟨E0,k1,rfl⟩:=U;exact Z.2.2 j E0 k1
     .exact Z.2.2 j N U⟩ (by simpa using B) (fun j e' X =>by
     rw[List.getElem?_set] at X;by_cases R:q=j
     .subst R
      simp only[if_true,o,Pi] at X;subst X;obtain⟨E,hE,hr⟩:=h3 q e G;exact⟨{ E with val:=V },by simp[Array.getElem?_modify,hE],hr.1,J⟩
     .rw[if_neg R] at X
      obtain⟨N,U,L⟩:=h3 j e' X;exact⟨N,by simp[Array.getElem?_modify,R,U],L⟩)
    refine⟨_,?_,f2,f3⟩;rw[hs.int];have K :H'.findIdx? (fun e=>(e.born:Int)==Int.ofNat q)=some q:=Y;simp only[Instr.entryStore,Sem.run_bind,Result.andThen_ok,u,asInt,asIntOf,Sem.run_pure,K];exact f1
   .cases h
  .cases h
 .cases h
theorem B0(hT:dQ P T)(hH:afA base μ mem w){t:TypeId}{m k v:AV}{M K:Value}{mem' :Mem}(hm:afn μ mem.length m M)(H:afn μ mem.length k K)(h:rK T mem t m k=some (v,mem')):agy P (Instr.mapEntry t M K) base μ mem w v mem' :=by
 unfold rK at h;cases ht:T t with
 |none=>rw[ht] at h;cases h
 |some i=>
  rw[ht] at h;simp only at h;have hd:=(hT t i ht).desc;split at h
  .rename_i kt et b IR
   rw[IR] at hd;split at h
   .rename_i j es hj hb
    split at h
    .rename_i Y
     simp only[afn] at hm;obtain⟨hbn,rfl⟩:=hm;have hs:=hH.slot b _ hb;simp only[afD] at hs;obtain⟨H',U,h1,X,G,h3⟩:=hs;have hg:(getObj (μ b).blk).run P w=.ok (.map H' U) w:=by simp[getObj,Sem.run,h1]
     have F:=lW (P:=P) (n:=mem.length) hT false 20 Y H 9980 w;have hkt:∃J,T kt=some J:=by
      rw[mA] at Y;cases hx:T kt with
      |none=>rw[hx] at Y;cases Y
      |some J=>exact⟨J,rfl⟩
     obtain⟨J,C⟩:=hkt;have e2:H'.toList.length=es.length:=by simpa using G
     have e3:∀(j:Nat) e,es[j]? =some e->∃E,H'.toList[j]? =some E/\PQ μ mem.length e E:=fun j e B=>by obtain⟨E,L,I⟩:=h3 j e B;exact⟨E,by simpa using L,I⟩
     split at h
     .rename_i q v' u
      split at h
      .rename_i hsc
       cases h;obtain⟨R,g1,g2⟩:=iA hT C H e2 e3 u w;cases R with
       |none=>exact g2.elim
       |some x=>
        obtain⟨q',V'⟩:=x;obtain⟨rfl,hv⟩:=g2;obtain⟨o,e,hq,B,Zs⟩:=nT u;have hq' :q=o :=by omega
        subst hq';obtain⟨E,L,I⟩:=h3 q e B;have hsb:=sE (μ:=μ) (n:=mem.length) hsc H I.1 Zs rfl;have Zt :q<es.length:=gL B;have hev:e.2=v' :=by have:=LK u;rw[QXQ] at this;rw[B] at this;simpa using this
        obtain⟨f1,f2,f3⟩:=CH (P:=P) hH (es' :=es.set q (k,v')) (ZG :=H'.modify q fun e=>{ e with key:=K }) (ZD :=U) hb h1 X.1 ⟨by simpa using X.2.1,fun j S V =>by
         rw[Array.getElem?_modify] at V;split at V
         .simp only[Y1] at V
          obtain⟨E0,k1,rfl⟩:=V;exact X.2.2 j E0 k1
         .exact X.2.2 j S V⟩ (by simpa using G) (fun j e' Z =>by
         rw[List.getElem?_set] at Z;by_cases O:q=j
         .subst O
          simp only[if_true,Zt,Pi] at Z;subst Z;exact⟨{ E with key:=K },by simp[Array.getElem?_modify,L],H,by rw[<-hev];exact I.2⟩
         .rw[if_neg O] at Z
          obtain⟨S,V,N⟩:=h3 j e' Z;exact⟨S,by simp[Array.getElem?_modify,O,V],N⟩)
        refine⟨.tuple #[V',goInt q],_,μ,?_,?_,f2,f3⟩
        .simp only[Instr.mapEntry,Sem.run_bind,run_underlying hd,Result.andThen_ok,hg]
         rw[show(10000:Nat)=20+9980 from rfl,F];simp only[Result.andThen_ok,g1,Sem.run_bind];have aaI:(Instr.keyThatStays (((H'[q]?).map (·.key)).getD K) K).run P w=.ok K w:=by unfold Instr.keyThatStays;rw[L];simp only[Option.map_some,Option.getD_some,hsb,if_true];rfl
         rw[aaI];simp only[Result.andThen_ok,f1,Sem.run_pure];rw[L];simp only[Option.map_some,Option.getD_some,X.2.2 q E L]
        .simp only[QQh,afn]
         exact⟨[V',goInt q],rfl,bX.2 ⟨hv,bX.2 ⟨by simp[afn,goInt],by simp[afo]⟩⟩⟩
      .cases h
     .rename_i u
      cases h;obtain⟨R,g1,g2⟩:=iA hT C H e2 e3 u w;cases R with
      |some x=>exact g2.elim
      |none=>
       have hz:=xR μ mem.length j.zero;obtain⟨f1,f2,f3⟩:=CH (P:=P) hH (es' :=es++[(k,oh j.zero)]) (ZG :=H'.push { key:=K,val:=j.zero,born:=U }) (ZD :=U+1) hb h1 X.1 ⟨by simp[X.2.1],fun j S V =>by
        rw[Array.getElem?_push] at V;split at V
        next hj=>cases V;rw[hj];exact X.2.1
        .exact X.2.2 j S V⟩ (by simp[G]) (fun o e' Z =>by
        by_cases hj' :o <es.length
        .rw[GT hj'] at Z
         obtain⟨S,V,N⟩:=h3 o e' Z;exact⟨S,by rw[Array.getElem?_push,if_neg (by omega)];exact V,N⟩
        .have hje:o =es.length:=by have:=(gL Z);simp at this;omega
         subst hje;simp at Z;subst Z;exact⟨{ key:=K,val:=j.zero,born:=U },by rw[Array.getElem?_push,if_pos G.symm],H,hz⟩)
       refine⟨.tuple #[j.zero,goInt U],_,μ,?_,?_,f2,f3⟩
       .simp only[Instr.mapEntry,Sem.run_bind,run_underlying hd,Result.andThen_ok,hg]
        rw[show(10000:Nat)=20+9980 from rfl,F];simp only[Result.andThen_ok,g1,Sem.run_bind,fZ hT hj,f1,Sem.run_pure]
       .simp only[QQh,afn]
        exact⟨[j.zero,goInt U],rfl,bX.2 ⟨hz,bX.2 ⟨by simp[afn,goInt,X.2.1,G],by simp[afo]⟩⟩⟩
     .cases h
    .cases h
   .cases h
  .cases h
end
end Go.Eng
namespace Go.Eng
def aUn(H:UnOp)(x:AV):Option AV:=
 match H,x with
 |.not,.bool b=>some (.bool (!b))
 |.neg,.int k n=>some (.int k (k.wrap (0-n)))
 |_,_=>none
def aOp(T:TypeId->Option TyI)(env:Env)(mem:Mem)(H:Op):Option (AV×Mem):=
 match H with
 |.move x=>some (get env x,mem)
 |.assign x=>some (get env x,mem)
 |.pick c a b=>match get env c with
  |.bool t=>some (if t then get env a else get env b,mem)
  |_=>none
 |.alloc e=>tN T mem e
 |.box _ x=>XE mem (get env x)
 |.build t ps=>match cj T t (ps.toList.map fun p=>(p.1,get env p.2)) with
  |some v=>some (v,mem)
  |none=>none
 |.buildSlice t n ps=>gA T mem t n (ps.toList.map fun p=>(p.1,get env p.2))
 |.load t a=>match Ra T mem t (get env a) with
  |some v=>some (v,mem)
  |none=>none
 |.store t a x=>match tQ T mem t (get env a) (get env x) with
  |some m=>some (.undef,m)
  |none=>none
 |.nilCheck x=>match get env x with
  |.ptr b o=>some (.ptr b o,mem)
  |.func f Z=>some (.func f Z,mem)
  |_=>none
 |.binOp H t x y _=>match YH T H t (rX x) (rX y) (get env x) (get env y) with
  |some v=>some (v,mem)
  |none=>none
 |.unOp H _ x=>match aUn H (get env x) with
  |some v=>some (v,mem)
  |none=>none
 |.convert s d x=>match AH T s d (get env x) with
  |some v=>some (v,mem)
  |none=>nH T mem s d (get env x)
 |.makeFunc (.func f) first abK=>if first.size=0 then some (.func f (XN env abK),mem) else none
 |.makeSlice t l c=>lC T mem t (get env l) (get env c)
 |.slice t x lo hi none=>match O3 T mem t (get env x) (lo.map (get env)) (hi.map (get env)) with
  |some v=>some (v,mem)
  |none=>none
 |.fieldAddr t x f=>match sO T t (get env x) f with
  |some v=>some (v,mem)
  |none=>none
 |.field t x f=>match tP T t (get env x) f with
  |some v=>some (v,mem)
  |none=>none
 |.indexAddr t x i=>match sP T t (get env x) (get env i) with
  |some v=>some (v,mem)
  |none=>none
 |.index t x i=>match O1 T t (get env x) (get env i) with
  |some v=>some (v,mem)
  |none=>none
 |.makeMap _ none=>some (.map mem.length,mem++[.map []])
 |.lookup t m k ok=>match lP T mem t (get env m) (get env k) ok with
  |some v=>some (v,mem)
  |none=>none
 |.mapUpdate t m k x=>match fP T mem t (get env m) (get env k) (get env x) with
  |some m=>some (.undef,m)
  |none=>none
 |.mapEntry t m k=>rK T mem t (get env m) (get env k)
 |.entryStore _ m s x=>match lO mem (get env m) (get env s) (get env x) with
  |some m=>some (.undef,m)
  |none=>none
 |.extract t i=>match get env t with
  |.tuple Z=>match Z[i]? with
   |some v=>some (v,mem)
   |none=>none
  |_=>none
 |.call { callee:=.builtin .len,args:=⟨[x]⟩,argTypes:=⟨[t]⟩ }=>match WS T t mem (get env x) with
  |some v=>some (v,mem)
  |none=>none
 |.call { callee:=.builtin .append,args:=⟨[s,x]⟩,argTypes:=⟨[t,t2]⟩ }=>pr T mem t t2 (get env s) (get env x)
 |.call { callee:=.builtin .unsafeSliceData,args:=⟨[x]⟩,argTypes:=_ }=>match sQ mem (get env x) with
  |some v=>some (v,mem)
  |none=>none
 |.call { callee:=.builtin .unsafeString,args:=⟨[x,y]⟩,argTypes:=⟨[pt,_]⟩ }=>xW T mem pt (get env x) (get env y)
 |.call { callee:=.builtin .min,args:=⟨[x,y]⟩,argTypes:=_ }=>match get env x,get env y with
  |.int k a,.int k' b=>if k=k' then some (.int k (if b<a then b else a),mem) else none
  |.str a,.str b=>some (.str (if Op.bytesLess a b||a==b then a else b),mem)
  |_,_=>none
 |.call { callee:=.builtin .max,args:=⟨[x,y]⟩,argTypes:=_ }=>match get env x,get env y with
  |.int k a,.int k' b=>if k=k' then some (.int k (if a<b then b else a),mem) else none
  |.str a,.str b=>some (.str (if Op.bytesLess a b then b else a),mem)
  |_,_=>none
 |_=>none
variable{a:Act}{s u:List UInt8}{ts:Array TypeId}
section
variable {P:Program}{T:TypeId->Option TyI}{μ:Nat->Place}{mem:Mem}{base:Nat}{w:World}
def Zi(μ:Nat->Place)(n:Nat)(N:Next)(v:AV):Prop:=(∃V,N=.value V/\afn μ n v V)\/(N=.skip/\v=.undef)
def agl(P:Program)(x:Sem Next)(base:Nat) (μ:Nat->Place)(mem:Mem)(w:World)(v:AV) (H :Mem):Prop:=
 ∃N w' μ',x.run P w=.ok N w' /\Zi μ' H.length N v/\afA base μ' H w' /\Step mem.length μ mem w μ' H w'
theorem agl.agp{x:Sem Value}{v:AV}{H :Mem}(h:agy P x base μ mem w v H):agl P (do pure (.value (<-x))) base μ mem w v H :=by obtain⟨V,w',μ',Z,X,h3,U⟩:=h;exact⟨.value V,w',μ',by simp[Z],.inl ⟨V,rfl,X⟩,h3,U⟩
theorem agl.afO{x:Sem Value}{v:AV}(H:afA base μ mem w)(h:Val P x w μ mem.length v):agl P (do pure (.value (<-x))) base μ mem w v mem:=
 .agp (.afO H h)
theorem agl.pure{V:Value}{v:AV}(H:afA base μ mem w)(h:afn μ mem.length v V):agl P (Pure.pure (.value V)) base μ mem w v mem:=
 ⟨.value V,w,μ,rfl,.inl ⟨V,rfl,h⟩,H,.refl (L9 _)⟩
theorem Me{env:Env}{n:Nat}(I:afU μ n env a.tmps)(H:Array (Nat×Operand)):
  (H.toList.map fun p=>(p.1,a.eval p.2)).map (·.1)=(H.toList.map fun p=>(p.1,get env p.2)).map (·.1)/\
  afo μ n ((H.toList.map fun p=>(p.1,get env p.2)).map (·.2)) ((H.toList.map fun p=>(p.1,a.eval p.2)).map (·.2)):=by
 constructor
 .simp[Function.comp_def]
 .have:=AP I (H.toList.map (·.2))
  simpa [Function.comp_def] using this
theorem TY{env:Env}{n:Nat}(H:afU μ n env a.tmps)(x:Option Operand):
  (x.map (get env)=none/\x.map a.eval=none)\/∃l L,x.map (get env)=some l/\x.map a.eval=some L/\afn μ n l L:=by
 cases x with
 |none=>exact .inl ⟨rfl,rfl⟩
 |some x=>exact .inr ⟨_,_,rfl,rfl,bN H x⟩
theorem VW{n:Nat}{ty:TypeId}{X Y:Value}(H:afn μ n (.str s) X)(I:afn μ n (.str u) Y):Val P (Builtin.min_ ts ty #[X,Y]) w μ n (.str (if Op.bytesLess s u||s==u then s else u)):=by rw[H.str,I.str];refine .str ?_;simp[Builtin.min_,Builtin.min2,Op.stringOp,asBool];split<;>rfl
theorem VU{n:Nat}{ty:TypeId}{X Y:Value}(H:afn μ n (.str s) X)(I:afn μ n (.str u) Y):Val P (Builtin.max_ ts ty #[X,Y]) w μ n (.str (if Op.bytesLess s u then u else s)):=by rw[H.str,I.str];refine .str ?_;simp[Builtin.max_,Builtin.max2,Op.stringOp,asBool];cases Op.bytesLess s u<;>simp
theorem SG(hT:dQ P T)(I:afA base μ mem w){env:Env}{o:Oper}{v:AV}{J :Mem}(H:afU μ mem.length env a.tmps)(h:aOp T env mem o.op=some (v,J)):agl P (execOp a.eval o) base μ mem w v J :=by
 unfold aOp at h;split at h
 .rename_i x Z
  cases h;simp only[execOp,Z];exact .pure I (bN H x)
 .rename_i x Z
  cases h;simp only[execOp,Z];exact .pure I (bN H x)
 .rename_i c x y Z
  split at h
  .rename_i t hc
   cases h;have:=bN H c;rw[hc] at this;simp only[execOp,Z,this.bool,asBool,pure_bind];cases t
   .exact .pure I (bN H y)
   .exact .pure I (bN H x)
  .cases h
 .rename_i e Z
  simp only[execOp,Z];exact .agp (KX hT I h)
 .rename_i e x Z
  simp only[execOp,Z];exact .agp (Q7 I (bN H x) h)
 .rename_i t M Z
  split at h
  .rename_i S X
   cases h;obtain⟨C,B⟩:=Me H M;simp only[execOp,Z];refine .afO I ?_;have:=KY (P:=P) hT X C B w;have e:(⟨M.toList.map fun p=>(p.1,a.eval p.2)⟩:Array (Nat×Value))=M.map fun(i,x)=>(i,a.eval x):=by apply Array.ext';simp
   rw[e] at this;exact this
  .cases h
 .rename_i t n M Z
  obtain⟨C,B⟩:=Me H M;simp only[execOp,Z];refine .agp ?_;have:=xT (P:=P) hT I C B h;have e:(⟨M.toList.map fun p=>(p.1,a.eval p.2)⟩:Array (Nat×Value))=M.map fun(i,x)=>(i,a.eval x):=by apply Array.ext';simp
  rw[e] at this;exact this
 .rename_i t x Z
  split at h
  .rename_i S X
   cases h;simp only[execOp,Z];exact .afO I (BY hT I (bN H x) X)
  .cases h
 .rename_i t x y Z
  split at h
  .rename_i m X
   cases h;obtain⟨w',G,N,h3⟩:=Le (P:=P) hT I (bN H x) (bN H y) X;simp only[execOp,Z];exact⟨.skip,w',μ,by simp[G],.inr ⟨rfl,rfl⟩,N,h3⟩
  .cases h
 .rename_i x Z
  split at h
  .rename_i b o U
   cases h;have:=bN H x;rw[U] at this;simp only[execOp,Z,this.ptr.2];refine .pure I ?_;rw[this.ptr.2] at this;exact this
  .rename_i f cs U
   cases h;have:=bN H x;rw[U] at this;have N:=this;simp only[afn] at N;obtain⟨Us,F,_⟩:=N;simp only[execOp,Z,F];refine .pure I ?_;rw[F] at this;exact this
  .cases h
 .rename_i op t x y yt Z
  split at h
  .rename_i S X
   cases h;simp only[execOp,Z];exact .afO I (Q5 hT (bN H x) (bN H y) x y X w)
  .cases h
 .rename_i op t x Z
  split at h
  .rename_i S X
   cases h;simp only[execOp,Z];refine .afO I ?_;have U:=bN H x;unfold aUn at X;split at X
   next Y=>cases X;rw[Y] at U;rw[U.bool];exact .bool rfl
   next Y=>cases X;rw[Y] at U;rw[U.int];exact .int rfl
   .cases X
  .cases h
 .rename_i s d x Z
  split at h
  .rename_i S X
   cases h;simp only[execOp,Z];exact .afO I (Eb hT (bN H x) X w)
  .simp only[execOp,Z];exact .agp (Am hT I (bN H x) h)
 .rename_i f first L Z
  split at h
  .rename_i hf
   cases h;simp only[execOp,Z];refine .afO I ⟨.func (.func f) (first.map a.eval) (L.map a.eval),rfl,?_⟩;simp only[afn];have:first= #[]:=Array.eq_empty_of_size_eq_zero hf
   subst this;refine⟨L.toList.map a.eval,?_,AP H L.toList⟩;simp only[Array.map_empty];congr 1;apply Array.ext';simp
  .cases h
 .rename_i t l c Z
  simp only[execOp,Z];exact .agp (As hT I (bN H l) (bN H c) h)
 .rename_i t x lo hi Z
  split at h
  .rename_i S X
   cases h;simp only[execOp,Z];refine .afO I ?_;simp only[Option.map_none];exact Lc hT I (bN H x) (TY H lo) (TY H hi) X
  .cases h
 .rename_i t x f Z
  split at h
  .rename_i S X
   cases h;simp only[execOp,Z];exact .afO I (Ao hT (bN H x) X w)
  .cases h
 .rename_i t x f Z
  split at h
  .rename_i S X
   cases h;simp only[execOp,Z];exact .afO I (KZ hT (bN H x) X w)
  .cases h
 .rename_i t x i Z
  split at h
  .rename_i S X
   cases h;simp only[execOp,Z];exact .afO I (Ap hT (bN H x) (bN H i) X w)
  .cases h
 .rename_i t x i Z
  split at h
  .rename_i S X
   cases h;simp only[execOp,Z];exact .afO I (La hT (bN H x) (bN H i) X w)
  .cases h
 .rename_i t Z
  cases h;simp only[execOp,Z,Option.map_none];exact .agp (G7 I)
 .rename_i t m k ok Z
  split at h
  .rename_i S X
   cases h;simp only[execOp,Z];exact .afO I (GG hT I (bN H m) (bN H k) X)
  .cases h
 .rename_i t m k x Z
  split at h
  .rename_i m' X
   cases h;obtain⟨w',G,N,h3⟩:=Au (P:=P) hT I (bN H m) (bN H k) (bN H x) X;simp only[execOp,Z];exact⟨.skip,w',μ,by simp[G],.inr ⟨rfl,rfl⟩,N,h3⟩
  .cases h
 .rename_i t m k Z
  simp only[execOp,Z];exact .agp (B0 hT I (bN H m) (bN H k) h)
 .rename_i t m s x Z
  split at h
  .rename_i m' X
   cases h;obtain⟨w',G,N,h3⟩:=xV (P:=P) (t:=t) I (bN H m) (bN H s) (bN H x) X;simp only[execOp,Z];exact⟨.skip,w',μ,by simp[G],.inr ⟨rfl,rfl⟩,N,h3⟩
  .cases h
 .rename_i t i Z
  split at h
  .rename_i cs U
   split at h
   .rename_i S hi
    cases h;have:=bN H t;rw[U] at this;simp only[afn] at this;obtain⟨Us,F,hr⟩:=this;obtain⟨V,hV,hv⟩:=hr.get i _ hi;simp only[execOp,Z,F];exact .afO I ⟨V,by simp[Instr.extract,hV],hv⟩
   .cases h
  .cases h
 .rename_i x t Z
  split at h
  .rename_i S X
   cases h;simp only[execOp,Z,resolve,invoke,builtin,pure_bind];rw[show Array.map a.eval ⟨[x]⟩= #[a.eval x] by simp];exact .afO I (Q9 hT I (bN H x) X)
  .cases h
 .rename_i s x t t2 Z
  simp only[execOp,Z,resolve,invoke,builtin,pure_bind];rw[show Array.map a.eval ⟨[s,x]⟩= #[a.eval s,a.eval x] by simp];exact .agp (GF hT I (bN H s) (bN H x) h)
 .rename_i x ts Z
  split at h
  .rename_i S X
   cases h;simp only[execOp,Z,resolve,invoke,builtin,pure_bind];rw[show Array.map a.eval ⟨[x]⟩= #[a.eval x] by simp];exact .afO I (Av I _ _ (bN H x) X)
  .cases h
 .rename_i x y pt it Z
  simp only[execOp,Z,resolve,invoke,builtin,pure_bind];rw[show Array.map a.eval ⟨[x,y]⟩= #[a.eval x,a.eval y] by simp];exact .agp (GJ hT I (bN H x) (bN H y) h)
 .rename_i x y ts Z
  split at h
  .rename_i k i k' j U K
   split at h
   .rename_i hk
    cases h;subst hk;have R:=bN H x;have O:=bN H y;rw[U] at R;rw[K] at O;simp only[execOp,Z,resolve,invoke,builtin,pure_bind];refine .afO I (.int ?_);simp[Builtin.min_,Builtin.min2,R.int,O.int]
   .cases h
  .rename_i s u U K
   cases h;have R:=bN H x;have O:=bN H y;rw[U] at R;rw[K] at O;simp only[execOp,Z,resolve,invoke,builtin,pure_bind];rw[show Array.map a.eval ⟨[x,y]⟩= #[a.eval x,a.eval y] by simp];exact .afO I (VW R O)
  .cases h
 .rename_i x y ts Z
  split at h
  .rename_i k i k' j U K
   split at h
   .rename_i hk
    cases h;subst hk;have R:=bN H x;have O:=bN H y;rw[U] at R;rw[K] at O;simp only[execOp,Z,resolve,invoke,builtin,pure_bind];refine .afO I (.int ?_);simp[Builtin.max_,Builtin.max2,R.int,O.int]
   .cases h
  .rename_i s u U K
   cases h;have R:=bN H x;have O:=bN H y;rw[U] at R;rw[K] at O;simp only[execOp,Z,resolve,invoke,builtin,pure_bind];rw[show Array.map a.eval ⟨[x,y]⟩= #[a.eval x,a.eval y] by simp];exact .afO I (VU R O)
  .cases h
 .cases h
end
end Go.Eng
namespace Go.Eng
def UJ(P:Program)(f:FuncId):Prop:=∃fn,P.funcs[f]? =some fn/\fn.body.isSome=true/\(fn.name == "runtime.NumGoroutine")=false
abbrev Fr(H:Option Nat):Fence:={ Fence.wide with round:=H }
variable{f:FuncId}{ro:Option Nat}
theorem AK{n:Nat}{P:Program}{args:Array Value}{w:World}{R:Ending->World->Prop}:CallsIn (Fr ro) n P f args w R↔Calls P f args w R:=
 callsIn_wide (n:=n)
def yo:String:=String.ofList ([105,110,116,101,114,110,97,108,47,115,116,114,99,111,110,118,46,117,105,110,116,54,52,112,111,119,49,48].map Char.ofNat)
structure GOk (P:Program)(base:Nat)(w:World):Prop where
 below:P.globals.size<=base
 tab:Lib.TabIs P w yo .u64 Lib.pow10Tab
theorem GOk.ahn{P:Program}{H:Nat}{w:World}(h:GOk P H w){s:String}(hs:yo=s):Lib.TabIs P w s .u64 Lib.pow10Tab:=hs▸h.tab
theorem Py{H:Nat}{μ:Nat->Place}{mem:Mem}{w:World}(I:afA H μ mem w){b:Nat}(J:eG mem b):H<=(μ b).blk:=by
 obtain⟨s,X,Z⟩:=J;have:=I.slot b s X;cases s with
 |qK=>cases Z
 |cells own es cs=>simp only[afq.own] at Z;subst Z;simp only[afD] at this;obtain⟨_,_,_,_,_,_,_,h⟩:=this;exact(h trivial).2.2.2
 |map es=>simp only[afD] at this;obtain⟨_,_,_,h,_⟩:=this;exact h.1
 |afX es=>cases Z
 |loop r=>simp only[afD] at this;obtain⟨_,_,h,_⟩:=this;exact h
variable{name:String}
theorem Eg{P:Program}{g:Nat}(h:P.globalNamed name=some g):g<P.globals.size:=by
 unfold Program.globalNamed at h;split at h
 .rename_i X Z
  cases h;have:g∈(List.range P.globals.size).filter fun g=>(P.globals[g]?).any (·.name==name):=by rw[Z];simp
  simpa using (List.mem_filter.1 this).1
 .cases h
variable{w' :World}
theorem PN{P:Program}{w:World}(h:∀k,k<P.globals.size->w'.heap[k]? =w.heap[k]?):w'.var? P name=w.var? P name:=by
 unfold World.var?;cases hg:P.globalNamed name with
 |none=>rfl
 |some g=>simp only[Option.bind_some];rw[h g (Eg hg)]
variable{m0:Nat}{μ' :Nat->Place}
theorem GOk.step{P:Program}{H:Nat}{μ:Nat->Place}{mem I :Mem}{w:World}(h:GOk P H w)(J:afA H μ mem w)(hS:Step m0 μ mem w μ' I w'):GOk P H w' :=by
 refine⟨h.below,?_⟩;have:=h.tab;unfold Lib.TabIs at this |-;rw[<-this];refine PN fun k X=>hS.frame k ?_ fun b Z=>?_
 .have:=h.below;have:=J.afx;omega
 .have:=Py J Z;have:=h.below;omega
structure MOk (P:Program)(base h0:Nat)(w:World)(ds:List Deferred):Prop where
 agA:GOk P base w
 afx:base<=h0
 le:h0<=w.heap.size
 each:∀d∈ds,∃r,d={ target:=.collected r,args:= #[] }/\h0<=r/\w.heap[r]? =some (.deferred (some []))
 nodup:(ds.map (·.target)).Nodup
variable{h0:Nat}
theorem MOk.nil{P:Program}{H:Nat}(w:World)(hg:GOk P H w)(I:H<=h0)(h:h0<=w.heap.size):MOk P H h0 w []:=⟨hg,I,h,fun _ h=>by(cases h),by simp⟩
theorem qo{H:Nat}{μ:Nat->Place}{mem:Mem}{w:World}(I:afA H μ mem w){r:Nat}{x}(hr:w.heap[r]? =some (.deferred x)){b:Nat}{s:afq}(J:mem[b]? =some s)(hs:s≠ .qK):(μ b).blk≠r:=by
 intro e;have:=I.slot b s J;cases s with
 |qK=>exact hs rfl
 |cells own es cs=>simp only[afD] at this;obtain⟨_,_,_,Z,_⟩:=this;rw[e,hr] at Z;cases Z
 |map es=>simp only[afD] at this;obtain⟨_,_,Z,_⟩:=this;rw[e,hr] at Z;cases Z
 |afX es=>simp only[afD] at this;obtain⟨_,_,Z,_⟩:=this;rw[e,hr] at Z;cases Z
 |loop r=>simp only[afD] at this;obtain⟨_,Z,_⟩:=this;rw[e,hr] at Z;cases Z
theorem MOk.step{P:Program}{H:Nat}{μ:Nat->Place}{mem I :Mem}{w:World}{J:List Deferred}(h:MOk P H h0 w J)(Y:afA H μ mem w)(hS:Step m0 μ mem w μ' I w'):MOk P H h0 w' J:=by refine⟨h.agA.step Y hS,h.afx,QQd h.le hS.size,fun d V=>?_,h.nodup⟩;obtain⟨r,e,U,Z⟩:=h.each d V;refine⟨r,e,U,?_⟩;rw[hS.frame r (Nm.1 Z).1 fun b X=>?_,Z];obtain⟨s,X,S⟩:=X;exact qo Y Z X (afq.afY S)
def afZ(P:Program)(f:FuncId)(args:List AV)(mem:Mem)(R:AV->Mem->Prop):Prop:=
 UJ P f/\∀base μ w Vs,GOk P base w->afA base μ mem w->afo μ mem.length args Vs->
  Calls P f ⟨Vs⟩ w fun e w' =>∃V v mem' μ',e=.returned V/\afn μ' mem'.length v V/\afA base μ' mem' w' /\Step mem.length μ mem w μ' mem' w' /\R v mem'
def kO(P:Program)(f:FuncId)(args:List AV)(mem:Mem)(v:AV) (H :Mem):Prop:=afZ P f args mem fun Z X=>Z=v/\X=H
theorem afZ.mono{P f args mem}{R H :AV->Mem->Prop}(h:afZ P f args mem R)(hr:∀v m,R v m->H v m):afZ P f args mem H :=
 ⟨h.1,fun base μ w Vs h0 h1 h2=>(h.2 base μ w Vs h0 h1 h2).mono fun _ _ ⟨V,v,m,μ',a,b,c,d,r⟩=>⟨V,v,m,μ',a,b,c,d,hr _ _ r⟩⟩
def af9(P:Program)(b:Nat)(args:List AV)(mem:Mem)(R:AV->Mem->Prop):Prop:=
 ∀base μ w Vs,GOk P base w->afA base μ mem w->afo μ mem.length args Vs->b<mem.length->∃f Z assign X,
  (Instr.yield (μ b).blk ⟨Vs⟩).run P w=.ok (.round (μ b).blk f Z assign X) w/\
  RoundIn Fence.wide 0 P (μ b).blk f Z assign X w fun e w' =>∃V v mem' μ',e=.returned V/\afn μ' mem'.length v V/\afA base μ' mem' w' /\Step mem.length μ mem w μ' mem' w' /\R v mem'
def gG(P:Program)(b:Nat)(args:List AV)(mem:Mem)(v:AV) (H :Mem):Prop:=af9 P b args mem fun Z X=>Z=v/\X=H
def A6(env:Env):Op->Option (Nat×List AV)
 |.call { callee:=.value x,args,argTypes:=_ }=>match get env x with
  |.yield b=>some (b,XN env args)
  |_=>none
 |_=>none
def GP(env:Env):Op->Option (FuncId×List AV)
 |.call { callee:=.value x,args,argTypes:=_ }=>match get env x with
  |.func f Z=>some (f,XN env args++Z)
  |_=>none
 |_=>none
def sI(ops:Array Oper)(env:Env)(o:Oper):Option Bool:=
 match o.guard with
 |none=>some true
 |some (j,ack)=>match (ops[j]?).bind (·.dst) with
  |some d=>match ad env d with
   |.bool b=>some (b==ack)
   |.tuple []=>some false
   |_=>none
  |none=>none
def age(env:Env)(H:Option Tmp)(v:AV):Env:=
 match H with
 |some d=>(d,v)::env
 |none=>env
structure St where
 env:Env
 mem:Mem
def Ee(N:Nat)(o:Oper):Bool:=match o.dst with
 |some d=>decide (d<N)
 |none=>true
def xr(P:Program)(T:TypeId->Option TyI)(env:Env)(mem:Mem)(o:Oper)(v:AV) (H :Mem):Prop:=
 aOp T env mem o.op=some (v,H)\/(∃f Z,GP env o.op=some (f,Z)/\kO P f Z mem v H)\/
  ∃b Z,A6 env o.op=some (b,Z)/\gG P b Z mem v H
def mZ(P:Program)(T:TypeId->Option TyI)(N:Nat)(ops:Array Oper):List Oper->St->St->Prop
 | [],st,T' =>T' =st
 |o::os,st,T' =>∃b,sI ops st.env o=some b/\Ee N o=true/\
   (b=false->mZ P T N ops os ⟨age st.env o.dst (.tuple []),st.mem⟩ T')/\
   (b=true->∃v Z,xr P T st.env st.mem o v Z /\mZ P T N ops os ⟨age st.env o.dst v,Z⟩ T')
variable{o:Oper}
section
variable {P:Program}{T:TypeId->Option TyI}{μ:Nat->Place}{mem:Mem}{base:Nat}{w:World}
theorem afU.age{n N:Nat}{env:Env}{a:Act}{v:AV}{V:Value}(h:afU μ n env a.tmps)(H:a.tmps.size=N)(hd:Ee N o=true)(I:afn μ n v V):
  afU μ n (age env o.dst v) (a.put o.dst V).tmps:=by
 unfold Ee at hd;cases ho:o.dst with
 |none=>simpa [Go.Eng.age,Act.put] using h
 |some d=>
  rw[ho] at hd;simp only[GE] at hd;exact h.put (by rw[H];exact hd) I
theorem fX(a:Act)(d:Option Tmp)(V:Value):(a.put d V).tmps.size=a.tmps.size:=by cases d<;>simp[Act.put]
theorem gu(a:Act)(d:Option Tmp)(V:Value):(a.put d V).defers=a.defers:=by cases d<;>rfl
theorem qe{env:Env}{n:Nat}{ops:Array Oper}{a:Act}{b:Bool}(H:afU μ n env a.tmps)(h:sI ops env o=some b):
  Region.wanted o (yielded ops a.tmps)=b:=by
 unfold sI at h;unfold Region.wanted;split at h
 next V=>cases h;simp[V]
 .rename_i j X V
  simp only[V];split at h
  .rename_i d R
   split at h
   .rename_i O U
    cases h;have:=H d;rw[U] at this;have Z:=this.bool;simp only[yielded,R,Option.bind_some];have S:a.tmps[d]? =some (.bool O):=by
     rw[Array.getD_eq_getD_getElem?] at Z;cases hx:a.tmps[d]? with
     |none=>rw[hx] at Z;simp[undef] at Z
     |some y=>rw[hx] at Z;simp at Z;rw[Z]
    rw[S];cases O <;>cases X<;>rfl
   .rename_i U
    cases h;have:=H d;rw[U] at this;simp only[afn,afo] at this;obtain⟨N,Z,rfl⟩:=this;simp only[yielded,R,Option.bind_some];rw[Array.getD_eq_getD_getElem?] at Z;cases hx:a.tmps[d]? with
    |none=>rfl
    |some y=>rw[hx] at Z;simp only[Option.getD_some] at Z;rw[Z];cases X<;>rfl
   .cases h
  .cases h
theorem zi(h:UJ P f)(args:Array Value)(w:World):(callFunc f args).run P w=.ok (.enter f args) w:=by
 obtain⟨fn,X,Z,h3⟩:=h;have V:¬fn.body=none:=by intro e;rw[e] at Z;cases Z
 have U:¬fn.name = "runtime.NumGoroutine" := by simpa using h3
 simp[callFunc,X,U,V]
theorem GH{T:TypeId->Option TyI}{env:Env}{mem:Mem}{H:Op}{r}(h:aOp T env mem H=some r):∀c,H≠ .defer c:=by intro c e;subst e;simp[aOp] at h
theorem sn(hT:dQ P T)(hG:GOk P base w)(hH:afA base μ mem w){N:Nat}{env:Env}{a:Act}{v:AV}{H :Mem}(I:afU μ mem.length env a.tmps)(J:a.tmps.size=N)(hd:Ee N o=true)(h:xr P T env mem o v H){K:Act->World->Prop}{Q:Exit->Act->World->Prop}(Y:∀V w' μ',afn μ' H.length v V->afA base μ' H w' ->afU μ' H.length (age env o.dst v) (a.put o.dst V).tmps->Step mem.length μ mem w μ' H w' ->K (a.put o.dst V) w'):
  o.wpIn (Fr ro) 0 P a w K Q:=by
 refine⟨fun _ _=>trivial,?_⟩;rcases h with h | ⟨f,S,Z,R⟩ | ⟨b,S,Z,hy⟩
 .rw[Oper.semAt_eq _ _ _ (GH h)]
  obtain⟨N',w',μ',u,m,h3,B⟩:=SG hT hH I h;rw[u];have O :afU μ' H.length env a.tmps:=I.mono B.len B.agree;rcases m with⟨V,rfl,M⟩ | ⟨rfl,rfl⟩
  .exact Y V w' μ' M h3 (O.age J hd M) B
  .have M:afn μ' H.length .undef undef:=by simp[afn]
   exact Y undef w' μ' M h3 (O.age J hd M) B
 .unfold GP at Z
  split at Z
  .rename_i x U ts L
   split at Z
   .rename_i f' caps j
    cases Z;have X:=bN I x;rw[j] at X;simp only[afn] at X;obtain⟨Us,hU,hus⟩:=X;have Zr:(execOp a.eval o).run P w=.ok (.enter f ⟨U.toList.map a.eval++Us⟩) w:=by simp only[execOp,L,resolve,hU,Deferred.ofValue,pure_bind,invoke];rw[zi R.1];congr 2;apply Array.ext';simp
    rw[Oper.semAt_eq _ _ _ (by rw[L];intro c e;cases e),Zr];refine⟨fun h=>by simp[Fence.wide] at h,AK.2 ((R.2 base μ w _ hG hH ((AP I U.toList).append hus)).mono ?_)⟩;rintro e w' ⟨V,v',m',μ',rfl,q1,q2,q3,rfl,rfl⟩;exact Y V w' μ' q1 q2 ((I.mono q3.len q3.agree).age J hd q1) q3
   .cases Z
  .cases Z
 .unfold A6 at Z
  split at Z
  .rename_i x U ts L
   split at Z
   .rename_i b' j
    cases Z;have X:=bN I x;rw[j] at X;simp only[afn] at X;obtain⟨hb,hU⟩:=X;obtain⟨f,G,Zx,C,u,m⟩:=hy base μ w _ hG hH (AP I U.toList) hb;have Zr:(execOp a.eval o).run P w=.ok (.round (μ b).blk f G Zx C) w:=by
     rw[<-u];simp only[execOp,L,resolve,hU,Deferred.ofValue,pure_bind,invoke];have e: #[]++U.map a.eval=(⟨U.toList.map a.eval⟩:Array Value):=by apply Array.ext';simp
     rw[e]
    rw[Oper.semAt_eq _ _ _ (by rw[L];intro c e;cases e),Zr];refine⟨fun h=>by simp[Fence.wide] at h,RoundIn.mono (F:=Fr ro) m ?_⟩;rintro e w' ⟨V,v',m',μ',rfl,q1,q2,q3,rfl,rfl⟩;exact Y V w' μ' q1 q2 ((I.mono q3.len q3.agree).age J hd q1) q3
   .cases Z
  .cases Z
theorem xb(hT:dQ P T){N:Nat}{ops:Array Oper}{Q:Exit->Act->World->Prop}:∀{l:List Oper}{H I :St}{μ:Nat->Place} {w:World} {a:Act} {m0:Nat}{μ0:Nat->Place} {mem0:Mem} {w0:World} {h0:Nat} {ro:Option Nat},
  mZ P T N ops l H I ->afA base μ H.mem w->afU μ H.mem.length H.env a.tmps->a.tmps.size=N->MOk P base h0 w a.defers->m0<=H.mem.length->Step m0 μ0 mem0 w0 μ H.mem w->
  (∀a' w' μ',afA base μ' I.mem w' ->afU μ' I.mem.length I.env a'.tmps->a'.tmps.size=N->MOk P base h0 w' a'.defers->m0<=I.mem.length->Step m0 μ0 mem0 w0 μ' I.mem w' ->Q .normal a' w')->
  wpListIn (Fr ro) 0 P ops Q l a w
 | [],H,I,μ,w,a,m0,μ0,mem0,w0,h0,ro,h,hH,hR,hN,hdf,hm,hS,hQ=>by simp only[mZ] at h;subst h;exact wpListIn_nil (hQ a w μ hH hR hN hdf hm hS)
 |o::os,H,I,μ,w,a,m0,μ0,mem0,w0,h0,ro,h,hH,hR,hN,hdf,hm,hS,hQ=>by
  obtain⟨b,R,X,O,M⟩:=h;refine wpListIn_step fun K U=>?_
  rw[qe hR R];cases b with
  |false=>
   simp only[Bool.false_eq_true,if_false];refine⟨fun _ _=>trivial,?_⟩;refine U _ _ (xb hT (O rfl) hH (hR.age hN X (by simp[afn,afo,undef])) (by rw[fX];exact hN) (by rw[gu];exact hdf) hm hS hQ)
  |true=>
   simp only[if_true];obtain⟨v,S,Z,L⟩:=M rfl;refine sn hT hdf.agA hH hR hN X Z fun V w' μ' q1 q2 q3 q4=>U _ _ ?_
   exact xb hT L q2 q3 (by rw[fX];exact hN) (by rw[gu];exact hdf.step hH q4) (QQd hm q4.len) (hS.trans (q4.mono hm)) hQ
end
end Go.Eng
namespace Go.Eng
def AWP(P:Program)(tp:Bool)(N m0:Nat)(c:Code)(H:St)(Q:Exit->St->Prop):Prop:=
 ∀(X:Option Nat) (V:Nat) base μ w a,(tp=true->X=none)->afA base μ H.mem w->afU μ H.mem.length H.env a.tmps->a.tmps.size=N->MOk P base V w a.defers->m0<=H.mem.length->
  c.wpIn (Fr X) 0 P (fun e Z w' =>∃T' μ',afA base μ' T'.mem w' /\afU μ' T'.mem.length T'.env Z.tmps/\Z.tmps.size=N/\MOk P base V w' Z.defers/\m0<=T'.mem.length/\
   Step m0 μ H.mem w μ' T'.mem w' /\Q e T') a w
variable{Q' :Exit->St->Prop}{c:Code}{id:Nat}
section
variable {P:Program}{T:TypeId->Option TyI}{tp:Bool}{N m0:Nat}{Q:Exit->St->Prop}{st:St}
theorem AWP.mono(h:AWP P tp N m0 c st Q)(hq:∀e s,Q e s->Q' e s):AWP P tp N m0 c st Q' :=
 fun ro h0 base μ w a hro h1 h2 h3 h4 h5=>wpIn_mono (h ro h0 base μ w a hro h1 h2 h3 h4 h5) fun _ _ _ ⟨s,μ',a1,a2,a3,a4,a5,a6,a7⟩=>⟨s,μ',a1,a2,a3,a4,a5,a6,hq _ _ a7⟩
theorem VC(h:Q .normal st):AWP P tp N m0 .skip st Q:=
 fun _ _ _ μ _ _ _ h1 h2 h3 h4 h5=>wpIn_skip ⟨st,μ,h1,h2,h3,h4,h5,.refl h5,h⟩
theorem VA(h:Q (.exit id) st):AWP P tp N m0 (.exit id) st Q:=
 fun _ _ _ μ _ _ _ h1 h2 h3 h4 h5=>wpIn_exit ⟨st,μ,h1,h2,h3,h4,h5,.refl h5,h⟩
theorem WV(h:Q .ret st):AWP P tp N m0 .ret st Q:=
 fun _ _ _ μ _ _ _ h1 h2 h3 h4 h5=>wpIn_ret ⟨st,μ,h1,h2,h3,h4,h5,.refl h5,h⟩
def Yy(R:St->Prop)(Q:Exit->St->Prop):Exit->St->Prop
 |.normal,s=>R s
 |e,s=>Q e s
theorem xY{x y:Code}(h:AWP P tp N m0 x st (Yy (fun s=>AWP P tp N m0 y s Q) Q)):AWP P tp N m0 (.seq x y) st Q:=by
 intro ro h0 base μ w a hro h1 h2 h3 h4 h5;refine wpIn_seq (wpIn_mono (h ro h0 base μ w a hro h1 h2 h3 h4 h5) ?_);rintro e a' w' ⟨s,μ',b1,b2,b3,b4,b5,b6,b7⟩;cases e with
 |normal=>
  refine wpIn_mono (b7 ro h0 base μ' w' a' hro b1 b2 b3 b4 b5) ?_;rintro e a2 w2 ⟨s2,μ2,c1,c2,c3,c4,c5,c6,c7⟩;exact⟨s2,μ2,c1,c2,c3,c4,c5,b6.trans c6,c7⟩
 |_=>exact⟨s,μ',b1,b2,b3,b4,b5,b6,b7⟩
theorem O4{c:Operand}{x y:Code}{b:Bool}(hc:get st.env c=.bool b)(H:b=true->AWP P tp N m0 x st Q)(hf:b=false->AWP P tp N m0 y st Q):
  AWP P tp N m0 (.cond c x y) st Q:=by
 intro ro h0 base μ w a hro h1 h2 h3 h4 h5;have Z:=bN h2 c;rw[hc] at Z;exact wpIn_cond_split Z.bool (fun e=>H e ro h0 base μ w a hro h1 h2 h3 h4 h5) (fun e=>hf e ro h0 base μ w a hro h1 h2 h3 h4 h5)
def O6(id:Nat)(Q:Exit->St->Prop):Exit->St->Prop
 |.exit i,s=>if i=id then Q .normal s else Q (.exit i) s
 |e,s=>Q e s
theorem Cb(h:AWP P tp N m0 c st (O6 id Q)):AWP P tp N m0 (.block id c) st Q:=by
 intro ro h0 base μ w a hro h1 h2 h3 h4 h5;refine wpIn_block (wpIn_mono (h ro h0 base μ w a hro h1 h2 h3 h4 h5) ?_);rintro e a' w' ⟨s,μ',b1,b2,b3,b4,b5,b6,b7⟩;cases e with
 |exit i=>
  simp only[Exit.inBlock,O6] at b7 |-;split at b7
  next Z=>rw[if_pos Z];exact⟨s,μ',b1,b2,b3,b4,b5,b6,b7⟩
  next Z=>rw[if_neg Z];exact⟨s,μ',b1,b2,b3,b4,b5,b6,b7⟩
 |_=>exact⟨s,μ',b1,b2,b3,b4,b5,b6,b7⟩
theorem Re(hT:dQ P T){ops:Array Oper}{H :St}(h:mZ P T N ops ops.toList st H)(hq:Q .normal H):
  AWP P tp N m0 (.region id ops false) st Q:=by
 intro ro h0 base μ w a hro h1 h2 h3 h4 h5;exact wpIn_region_list (xb hT h h1 h2 h3 h4 h5 (.refl h5) fun a' w' μ' c1 c2 c3 c4 c5 c6=>⟨H,μ',c1,c2,c3,c4,c5,c6,hq⟩)
theorem zI{F:Fence}{r:Nat}{σ:Type}{Q:Exit->Act->World->Prop}(I:σ->Act->World->Prop)(m:σ->Nat)(H:∀s a w,I s a w->c.wpIn F r P (Exit.then (fun U w' =>∃O,I O U w' /\m O <m s) Q) a w):
  ∀{s a w},I s a w->(Code.loop c).wpIn F r P Q a w:=by
 intro s a w h₀ b k cs hro hb hr;have M:∀n s a w,m s=n->I s a w->
   ∃e U w',Q e U w' /\ArrivesIn (Machine.fenced P F) P (lone (b.atR a (.code c::.inLoop c::k)) cs w) b k cs e U w' :=by
  intro n;induction n using Nat.strongRecOn with
  |_ n ih=>
   intro s a w G C;obtain⟨e,S,R,X,Z⟩:=H s a w C b (.inLoop c::k) cs hro hb hr;cases e with
   |normal=>
    obtain⟨O,L,B⟩:=X;obtain⟨u,o,j,K,V⟩:=ih (m O) (G▸B) O S R rfl L;exact⟨u,o,j,K,.of_steps (StepsIn.trans Z (.one (fenced_calm hb hr rfl) stepR_inLoop)) V⟩
   |exit id=>exact⟨_,S,R,X,.pass (x:=.inLoop c) rfl (fun _ _=>.inl (by simp)) Z⟩
   |goto l=>exact⟨_,S,R,X,.pass (x:=.inLoop c) rfl (fun _ _=>.inl (by simp)) Z⟩
   |ret=>exact⟨_,S,R,X,.pass (x:=.inLoop c) rfl (fun _ _=>.inl (by simp)) Z⟩
   |panic ch=>exact⟨_,S,R,X,.pass (x:=.inLoop c) rfl (fun _ _=>.inl (by simp)) Z⟩
   |outgrown=>exact⟨_,S,R,X,.pass (x:=.inLoop c) rfl (fun _ _=>.inl (by simp)) Z⟩
 obtain⟨e,U,w',X,Z⟩:=M _ s a w rfl h₀;exact⟨e,U,w',X,.of_steps (.one (fenced_calm hb hr rfl) stepR_loop) Z⟩
theorem VB{σ:Type}(I:σ->St->Prop)(m:σ->Nat){s:σ}(J:I s st)(H:∀s st,I s st->AWP P tp N m0 c st (Yy (fun Z =>∃V,I V Z /\m V <m s) Q)):AWP P tp N m0 (.loop c) st Q:=by
 intro ro h0 base μ w a hro h1 h2 h3 h4 h5;refine zI (σ:=σ) (fun s X w' =>∃Z μ',afA base μ' Z.mem w' /\afU μ' Z.mem.length Z.env X.tmps/\X.tmps.size=N/\MOk P base h0 w' X.defers/\m0<=Z.mem.length/\
   Step m0 μ st.mem w μ' Z.mem w' /\I s Z) m ?_ (s:=s) ⟨st,μ,h1,h2,h3,h4,h5,.refl h5,J⟩
 rintro s X w' ⟨Z,μ',b1,b2,b3,b4,b5,b6,b7⟩;refine wpIn_mono (H s Z b7 ro h0 base μ' w' X hro b1 b2 b3 b4 b5) ?_;rintro e a2 w2 ⟨s2,μ2,c1,c2,c3,c4,c5,c6,c7⟩;cases e with
 |normal=>
  obtain⟨V,d1,d2⟩:=c7;exact⟨V,⟨s2,μ2,c1,c2,c3,c4,c5,b6.trans c6,d1⟩,d2⟩
 |_=>exact⟨s2,μ2,c1,c2,c3,c4,c5,b6.trans c6,c7⟩
def agk(m0:Nat)(st st1:St):Prop:=∀base μ w tmps,afA base μ st.mem w->afU μ st.mem.length st.env tmps->m0<=st.mem.length->
 ∃μ1,afA base μ1 st1.mem w/\afU μ1 st1.mem.length st1.env tmps/\m0<=st1.mem.length/\Step m0 μ st.mem w μ1 st1.mem w
theorem VD{st1:St}(H:agk m0 st st1)(h:AWP P tp N m0 c st1 Q):AWP P tp N m0 c st Q:=by intro ro h0 base μ w a hro h1 h2 h3 h4 h5;obtain⟨μ1,Z,X,V,U⟩:=H base μ w a.tmps h1 h2 h5;refine wpIn_mono (h ro h0 base μ1 w a hro Z X h3 h4 V) ?_;rintro e a2 w2 ⟨s2,μ2,c1,c2,c3,c4,c5,c6,c7⟩;exact⟨s2,μ2,c1,c2,c3,c4,c5,U.trans c6,c7⟩
theorem agk.trans{s1 H I:St}(h:agk m0 s1 H)(h' :agk m0 H I):agk m0 s1 I:=by intro base μ w tmps h1 h2 h3;obtain⟨μ1,Z,X,V,U⟩:=h base μ w tmps h1 h2 h3;obtain⟨μ2,S,R,O,M⟩:=h' base μ1 w tmps Z X V;exact⟨μ2,S,R,O,U.trans M⟩
theorem agk.env{env H:Env}{mem:Mem}(h:∀t,ad H t=ad env t\/ad H t=.undef):agk m0 ⟨env,mem⟩ ⟨H,mem⟩:=by
 intro base μ w tmps h1 h2 h3;refine⟨μ,h1,fun t=>?_,h3,.refl h3⟩;rcases h t with e | e
 .rw[e];exact h2 t
 .rw[e];simp[afn]
theorem AWP.ahL(h:AWP P tp N m0 c st Q')(hq:∀e s,Q' e s->∃Z,agk m0 s Z/\Q e Z):AWP P tp N m0 c st Q:=by intro ro h0 base μ w a hro h1 h2 h3 h4 h5;refine wpIn_mono (h ro h0 base μ w a hro h1 h2 h3 h4 h5) ?_;rintro e a2 w2 ⟨s2,μ2,c1,c2,c3,c4,c5,c6,c7⟩;obtain⟨Z,X,hQ⟩:=hq e s2 c7;obtain⟨μ1,V,U,S,R⟩:=X base μ2 w2 a2.tmps c1 c2 c5;exact⟨Z,μ1,V,U,c3,c4,S,c6.trans R,hQ⟩
end
end Go.Eng
namespace Go.Eng
def rho(m0:Nat)(ks:List Nat)(b:Nat):Option Nat:=if b<m0 then some b else (ks.idxOf? b).map (m0+·)
def sB(ρ:Nat->Option Nat)(env:Env):Env:=env.map fun e=>(e.1,e.2.ren ρ)
def afq.ren(ρ:Nat->Option Nat):afq->afq
 |.qK=>.qK
 |.cells own es cs=>.cells own es (AV.afI ρ cs)
 |.map es=>.map (es.map fun e=>(e.1.ren ρ,e.2.ren ρ))
 |.afX es=>.afX (es.map fun e=>(e.1.ren ρ,e.2.ren ρ))
 |.loop r=>.loop { r with env:=sB ρ r.env }
def aga(m0:Nat)(ks:List Nat)(mem:Mem):Mem:=ks.map fun k=>(mem.getD k .qK).ren (rho m0 ks)
def afz(m0:Nat)(ks:List Nat)(mem:Mem):Mem:=(mem.take m0).map (afq.ren (rho m0 ks))++aga m0 ks mem
def Ei(m0 n:Nat)(ks:List Nat):Bool:=decide ks.Nodup&&ks.all fun k=>decide (m0<=k/\k<n)
theorem ji(ρ:Nat->Option Nat):∀(env:Env) (t:Nat),ad (sB ρ env) t=(ad env t).ren ρ
 | [],t=>by simp[sB,ad,AV.ren]
 |(k,v)::r,t=>by
  simp only[sB,List.map_cons,ad];by_cases h:k=t
  .simp[h]
  .simp only[h,if_false];exact ji ρ r t
variable{ks:List Nat}{p:Place}
section
variable {μ:Nat->Place}{mem:Mem}{base:Nat}{w:World}
theorem afD.ren{μ μ' :Nat->Place}{n n' base:Nat}{w:World}{s:afq}{ρ:Nat->Option Nat}(hρ:∀b b',b<n->ρ b=some b' ->b' <n' /\μ' b' =μ b)(h:afD μ n base w p s):afD μ' n' base w p (s.ren ρ):=by
 cases s with
 |qK=>trivial
 |cells own es cs=>
  simp only[afD,afq.ren] at h |-;obtain⟨N,e,fr,Z,X,h3,O,o⟩:=h;refine⟨N,e,fr,Z,X,by rw[jm,QXf];exact h3,fun j v M=>?_,o⟩;rw[jm,QQJ] at M;simp only[Y1] at M;obtain⟨v0,K,rfl⟩:=M;obtain⟨V,hV,m⟩:=O j v0 K;exact⟨V,hV,m.ren hρ⟩
 |map es=>
  simp only[afD,afq.ren] at h |-;obtain⟨G,F,Z,X,h3,O⟩:=h;refine⟨G,F,Z,X,by rw[QXf];exact h3,fun j e U=>?_⟩;rw[QQJ] at U;simp only[Y1] at U;obtain⟨C,S,rfl⟩:=U;obtain⟨E,B,R,u⟩:=O j C S;exact⟨E,B,R.ren hρ,u.ren hρ⟩
 |afX es=>
  simp only[afD,afq.ren] at h |-;obtain⟨G,F,Z,X,h3,O⟩:=h;refine⟨G,F,Z,X,by rw[QXf];exact h3,fun j e U=>?_⟩;rw[QQJ] at U;simp only[Y1] at U;obtain⟨C,S,rfl⟩:=U;obtain⟨E,B,R,u⟩:=O j C S;exact⟨E,B,R.ren hρ,u.ren hρ⟩
 |loop r=>
  simp only[afD,afq.ren] at h |-;obtain⟨L,Z,X,h3⟩:=h;exact⟨L,Z,X,{ h3 with tmps:=fun t=>by rw[ji];exact(h3.tmps t).ren hρ }⟩
theorem afq.agL(ρ:Nat->Option Nat)(s:afq):(s.ren ρ).own=s.own:=by cases s<;>rfl
theorem Cy{m0 n:Nat}(h:Ei m0 n ks=true):ks.Nodup/\∀k∈ks,m0<=k/\k<n:=by simp only[Ei,Es,GE,List.all_eq_true] at h;exact h
theorem gb{m0:Nat}(H:m0<=mem.length):(afz m0 ks mem).length=m0+ks.length:=by simp[afz,aga];omega
def iS(m0:Nat)(ks:List Nat)(b:Nat):Nat:=if b<m0 then b else ks.getD (b-m0) 0
theorem uZ{m0:Nat}(I:m0<=mem.length)(H:Ei m0 mem.length ks=true){b:Nat}{s:afq}(h:(afz m0 ks mem)[b]? =some s):
  ∃Z,mem[iS m0 ks b]? =some Z/\s=Z.ren (rho m0 ks):=by
 obtain⟨_,V⟩:=Cy H;have N:((mem.take m0).map (afq.ren (rho m0 ks))).length=m0:=by simp;omega
 unfold afz at h;by_cases U:b<m0
 .rw[GT (by omega),QQJ,QQa U] at h
  simp only[Y1] at h;obtain⟨Z,X,S⟩:=h;exact⟨Z,by simpa [iS,U] using X,S.symm⟩
 .rw[V1 (by omega),N] at h
  unfold aga at h;rw[QQJ] at h;simp only[Y1] at h;obtain⟨k,X,S⟩:=h;have R:=J1 X;obtain⟨_,O⟩:=V k R;have M:mem[k]? =some mem[k]:=by simp[O]
  refine⟨mem[k],?_,?_⟩
  .simp[iS,U,X,O]
  .rw[<-S];simp[List.getD,M]
theorem Rf{m0:Nat}(H:Ei m0 mem.length ks=true){x y:Nat}(I:x<m0+ks.length)(J:y<m0+ks.length)(h:iS m0 ks x=iS m0 ks y):x=y:=by
 obtain⟨X,V⟩:=Cy H;have Z:∀z,¬z<m0->z<m0+ks.length->m0<=ks.getD (z-m0) 0:=by
  intro z U S;have O:z-m0<ks.length:=by omega
  have:ks.getD (z-m0) 0=ks[z-m0]:=by simp[O]
  rw[this];exact(V _ (by simp)).1
 unfold iS at h;by_cases U:x<m0<;>by_cases S:y<m0<;>simp only[U,S,if_true,if_false] at h
 .exact h
 .have:=Z y S J;omega
 .have:=Z x U I;omega
 .have N :x-m0<ks.length:=by omega
  have R :y-m0<ks.length:=by omega
  have M:ks.getD (x-m0) 0=ks[x-m0]:=by simp[N]
  have L:ks.getD (y-m0) 0=ks[y-m0]:=by simp[R]
  rw[M,L] at h;have:=(List.getElem_inj X).1 h;omega
theorem afA.afz{m0:Nat}(J:afA base μ mem w)(H:m0<=mem.length)(I:Ei m0 mem.length ks=true):
  afA base (fun b=>μ (iS m0 ks b)) (afz m0 ks mem) w/\
  (∀b X,b<mem.length->rho m0 ks b=some X ->X <(Eng.afz m0 ks mem).length/\(fun b=>μ (iS m0 ks b)) X =μ b)/\
  Step m0 μ mem w (fun b=>μ (iS m0 ks b)) (Eng.afz m0 ks mem) w:=by
 obtain⟨u,o⟩:=Cy I;have hρ:∀b X,b<mem.length->rho m0 ks b=some X ->X <(Eng.afz m0 ks mem).length/\(fun b=>μ (iS m0 ks b)) X =μ b:=by
  intro b X O V;rw[gb H];unfold rho at V;by_cases Z:b<m0
  .rw[if_pos Z] at V
   cases V;exact⟨by omega,by simp[iS,Z]⟩
  .rw[if_neg Z] at V
   simp only[Y1] at V;obtain⟨i,m,rfl⟩:=V;have M :=List.idxOf?_eq_some_iff.1 m;obtain⟨N,j,_⟩:=M;refine⟨by omega,?_⟩;simp only[iS];rw[if_neg (by omega)];have:ks.getD (m0+i-m0) 0=b:=by rw[Nat.add_sub_cancel_left];simp[N,j]
   rw[this]
 have U:∀x,eG (Eng.afz m0 ks mem) x->eG mem (iS m0 ks x)/\x<m0+ks.length:=by intro x L;obtain⟨s,C,Y⟩:=L;have N:=gL C;rw[gb H] at N;obtain⟨S,Z,rfl⟩:=uZ H I C;exact⟨⟨S,Z,by rw[<-afq.agL];exact Y⟩,N⟩
 refine⟨⟨J.afx,fun b s hs=>?_,fun x y s L B J' K=>?_⟩,hρ,?_⟩
 .obtain⟨S,Z,rfl⟩:=uZ H I hs
  exact(J.slot _ S Z).ren hρ
 .obtain⟨G,F⟩:=U x L
  have R:=gL B;rw[gb H] at R;obtain⟨S,Z,rfl⟩:=uZ H I B;refine J.sep _ _ S G Z ?_ fun e=>K (Rf I F R e)
  rintro rfl;exact J' rfl
 .refine⟨by rw[gb H];omega,fun b O=>by simp[iS,O],rfl,rfl,rfl,L9 _,fun _ _ _=>rfl,fun b O _=>?_,L9 _⟩
  exact⟨_,(U b O).1,rfl⟩
theorem agk.afz{m0:Nat}{env:Env}{mem:Mem}(ks:List Nat)(H:Ei m0 mem.length ks=true):
  agk m0 ⟨env,mem⟩ ⟨sB (rho m0 ks) env,afz m0 ks mem⟩:=by
 intro base μ w tmps h1 h2 h3;obtain⟨Z,X,V⟩:=h1.afz h3 H;refine⟨_,Z,fun t=>?_,by rw[gb h3];omega,V⟩;rw[ji];exact(h2 t).ren X
end
mutual
theorem afn.lower{μ μ' :Nat->Place}{n n' :Nat}(hμ:∀b,b<n->μ' b=μ b):∀{v V V'},afn μ n v V->afn μ' n' v V' ->afn μ n v V'
 |.undef,_,_,_,_=>by simp[afn]
 |.bool _,_,_,_,h=>by simpa [afn] using h
 |.int _ _,_,_,_,h=>by simpa [afn] using h
 |.str _,_,_,_,h=>by simpa [afn] using h
 |.ptr b o,_,_,h,Z =>by simp only[afn] at h Z |-;exact⟨h.1,by rw[<-hμ b h.1];exact Z.2⟩
 |.afB,_,_,_,h=>by simpa [afn] using h
 |.slice b o l c,_,_,h,Z =>by simp only[afn] at h Z |-;exact⟨h.1,by rw[<-hμ b h.1];exact Z.2⟩
 |.qF,_,_,_,h=>by simpa [afn] using h
 |.map b,_,_,h,Z =>by simp only[afn] at h Z |-;exact⟨h.1,by rw[<-hμ b h.1];exact Z.2⟩
 |.yield b,_,_,h,Z =>by simp only[afn] at h Z |-;exact⟨h.1,by rw[<-hμ b h.1];exact Z.2⟩
 |.afL,_,_,_,h=>by simpa [afn] using h
 |.func f R,_,_,h,Z =>by simp only[afn] at h Z |-;obtain⟨O,e,h⟩:=h;obtain⟨X,S,Z⟩:=Z;exact⟨X,S,afo.lower hμ h Z⟩
 |.nilFunc,_,_,_,h=>by simpa [afn] using h
 |.iface t v,_,_,h,Z =>by simp only[afn] at h Z |-;obtain⟨U,e,h⟩:=h;obtain⟨N,S,Z⟩:=Z;exact⟨N,S,afn.lower hμ h Z⟩
 |.nilIface,_,_,_,h=>by simpa [afn] using h
 |.agg R,_,_,h,Z =>by simp only[afn] at h Z |-;obtain⟨O,e,h⟩:=h;obtain⟨X,S,Z⟩:=Z;exact⟨X,S,afo.lower hμ h Z⟩
 |.tuple R,_,_,h,Z =>by simp only[afn] at h Z |-;obtain⟨O,e,h⟩:=h;obtain⟨X,S,Z⟩:=Z;exact⟨X,S,afo.lower hμ h Z⟩
theorem afo.lower{μ μ' :Nat->Place}{n n' :Nat}(hμ:∀b,b<n->μ' b=μ b):∀{vs Us Us'},afo μ n vs Us->afo μ' n' vs Us' ->afo μ n vs Us'
 | [],_,_,_,h=>by simpa [afo] using h
 |v::vs,_,_,h,h' =>by simp only[afo] at h h' |-;obtain⟨U,M,e,S,R⟩:=h;obtain⟨O,Z,N,X,V⟩:=h';exact⟨O,Z,N,afn.lower hμ S X,afo.lower hμ R V⟩
end
theorem afD.lower{μ μ' :Nat->Place}{n n' base:Nat}{w w' :World}{s:afq}(hμ:∀b,b<n->μ' b=μ b)(h:afD μ n base w p s)(h' :afD μ' n' base w' p s):afD μ n base w' p s:=by
 cases s with
 |qK=>trivial
 |cells own es cs=>
  simp only[afD] at h h' |-;obtain⟨_,_,_,_,_,_,S,_⟩:=h;obtain⟨O,e,fr,g1,g2,g3,g4,o⟩:=h';refine⟨O,e,fr,g1,g2,g3,fun j v u=>?_,o⟩;obtain⟨V,_,m⟩:=S j v u;obtain⟨Y,N,M⟩:=g4 j v u;exact⟨Y,N,m.lower hμ M⟩
 |map es=>
  simp only[afD] at h h' |-;obtain⟨_,_,_,_,_,S⟩:=h;obtain⟨K,G,g1,g2,g3,g4⟩:=h';refine⟨K,G,g1,g2,g3,fun j e R=>?_⟩;obtain⟨E,_,Z,F⟩:=S j e R;obtain⟨C,B,X,U⟩:=g4 j e R;exact⟨C,B,Z.lower hμ X,F.lower hμ U⟩
 |afX es=>
  simp only[afD] at h h' |-;obtain⟨_,_,_,_,_,S⟩:=h;obtain⟨K,G,g1,g2,g3,g4⟩:=h';refine⟨K,G,g1,g2,g3,fun j e R=>?_⟩;obtain⟨E,_,Z,F⟩:=S j e R;obtain⟨C,B,X,U⟩:=g4 j e R;exact⟨C,B,Z.lower hμ X,F.lower hμ U⟩
 |loop r=>
  simp only[afD] at h h' |-;obtain⟨L,_,_,h3⟩:=h;obtain⟨J,g1,g2,g3⟩:=h';exact⟨J,g1,g2,{ g3 with tmps:=fun t=>(h3.tmps t).lower hμ (g3.tmps t) }⟩
theorem afA.swap{H:Nat}{μ:Nat->Place}{I J:Mem}{w:World}(h:afA H μ I w)(Y:J.length=I.length)(hs:∀b X,J[b]? =some X->∃Z,I[b]? =some Z/\Z.own=X.own/\(Z=.qK->X=.qK)/\afD μ I.length H w (μ b) X):afA H μ J w:=by
 refine⟨h.afx,fun b s V=>?_,fun b U S V R O N=>?_⟩
 .obtain⟨Z,_,_,_,M⟩:=hs b s V;rw[Y];exact M
 .obtain⟨s,L,K⟩:=V
  obtain⟨Z,G,F,_,_⟩:=hs b s L;obtain⟨C,B,_,u,_⟩:=hs U S R;exact h.sep b U C ⟨Z,G,by rw[F];exact K⟩ B (fun e=>O (u e)) N
end Go.Eng
namespace Go.Eng
def dN:Nat->List AV->Env
 |_,[]=>[]
 |i,v::vs=>(i,v)::dN (i+1) vs
def YO(T:TypeId->Option TyI)(env:Env)(mem:Mem):ResultVar->Option AV
 |.tmp t=>some (ad env t)
 |.cell a t=>Ra T mem t (ad env a)
def yy(T:TypeId->Option TyI)(env:Env)(mem:Mem):List ResultVar->Option (List AV)
 | []=>some []
 |r::rs=>match YO T env mem r,yy T env mem rs with
  |some v,some vs=>some (v::vs)
  |_,_=>none
def jS(T:TypeId->Option TyI)(H:List ResultVar)(env:Env)(mem:Mem):Option AV:=
 match yy T env mem H with
 |some [v]=>some v
 |some vs=>some (.tuple vs)
 |none=>none
def Fin(mem:Mem)(v:AV) (H :Mem)(R:AV->Mem->Prop):Prop:=
 ∃Z,Ei mem.length H.length Z=true/\
  ((H.take mem.length=mem/\R (v.ren (rho mem.length Z)) (mem++aga mem.length Z H))\/R (v.ren (rho mem.length Z)) (afz mem.length Z H))
variable{fn:Func}{r:Nat}
section
variable {P:Program}{T:TypeId->Option TyI}{μ:Nat->Place}{mem:Mem}{base:Nat}{w:World}
theorem yq{n:Nat}{μ:Nat->Place}:∀{vs:List AV} {Vs:List Value} (i:Nat),afo μ n vs Vs->∀t,afn μ n (ad (dN i vs) t) (if t<i then undef else Vs.getD (t-i) undef)
 | [],Vs,i,h,t=>by simp[dN,ad,afn]
 |v::vs,Vs,i,h,t=>by
  simp only[afo] at h;obtain⟨U,R,rfl,V,S⟩:=h;simp only[dN,ad];by_cases Z:i=t
  .subst Z;simpa using V
  .simp only[Z,if_false]
   have:=yq (i+1) S t;by_cases X:t<i
   .rw[if_pos (by omega)] at this;rw[if_pos X];exact this
   .rw[if_neg (by omega)] at this
    rw[if_neg X];have e:t-i=(t-(i+1))+1:=by omega
    rw[e];simpa using this
def rvS(tmps:Array Value):ResultVar->Sem Value
 |.tmp t=>pure (tmps.getD t undef)
 |.cell a t=>do loadVar t (<-asAddr (tmps.getD a undef))
theorem pS(hT:dQ P T)(J:afA base μ mem w){env:Env}{tmps:Array Value}(H:afU μ mem.length env tmps):
  ∀{I:List ResultVar}{vs:List AV},yy T env mem I=some vs->∃X,afo μ mem.length vs X/\
   (I.mapM (rvS tmps)).run P w=.ok X w
 | [],vs,h=>by simp only[yy,Pi] at h;subst h;exact⟨[],by simp[afo],by simp⟩
 |r::I,vs,h=>by
  simp only[yy] at h;split at h
  .rename_i v K Z G
   cases h;obtain⟨X,N,M⟩:=pS hT J H G;cases r with
   |tmp t=>
    simp only[YO,Pi] at Z;subst Z;exact⟨_::X,bX.2 ⟨H t,N⟩,by rw[List.mapM_cons,rvS,pure_bind,Sem.run_bind,M];rfl⟩
   |cell a t=>
    simp only[YO] at Z;obtain⟨V,S,F⟩:=BY (P:=P) hT J (H a) Z;refine⟨V::X,bX.2 ⟨F,N⟩,?_⟩;have R:∃b o,ad env a=.ptr b o:=by
     unfold Ra at Z;split at Z
     next b o _ O=>exact⟨b,o,O⟩
     .cases Z
    obtain⟨b,o,O⟩:=R;have L:=H a;rw[O] at L;have U:=L.ptr.2;rw[U] at S;simp only[Instr.loadAt,Instr.sureAddr,Sem.run_bind,Sem.run_pure,Result.andThen_ok] at S;rw[List.mapM_cons,rvS,U,Sem.run_bind];simp only[asAddr,pure_bind,S,Result.andThen_ok];rw[Sem.run_bind,M];rfl
  .cases h
theorem tU(hT:dQ P T)(H:afA base μ mem w){env:Env}{tmps:Array Value}(I:afU μ mem.length env tmps){v:AV}(h:jS T fn.results.toList env mem=some v):∃V,(results fn tmps).run P w=.ok V w/\afn μ mem.length v V:=by
 unfold jS at h;have run:∀Z,(fn.results.toList.mapM (rvS tmps)).run P w=.ok Z w->
   (results fn tmps).run P w=.ok (if h:Z.toArray.size=1 then Z.toArray[0] else .tuple Z.toArray) w:=by
  intro Z S;unfold results;rw[Array.mapM_eq_mapM_toList,Sem.run_bind,Sem.run_map];erw [S];rfl
 split at h
 .rename_i L R
  cases h;obtain⟨Z,X,O⟩:=pS hT H I R;simp only[afo] at X;obtain⟨U,K,rfl,g3,rfl⟩:=X;exact⟨U,by rw[run _ O];simp,g3⟩
 .rename_i N M R
  cases h;obtain⟨Z,X,O⟩:=pS hT H I R;refine⟨.tuple Z.toArray,?_,by simp only[afn];exact⟨Z,rfl,X⟩⟩;rw[run _ O];have:¬Z.toArray.size=1:=by
   have:=X.length;intro e;simp at e;rw[e] at this
   match N,this with
   | [x],_=>exact M x rfl
  rw[dif_neg this]
 .cases h
theorem AB{P:Program}{w:World}(h:w.heap[r]? =some (.deferred (some []))):
  (Instr.takeDeferred r).run P w=.ok [] { w with heap:=w.heap.setIfInBounds r (.deferred none) }:=by
 have Z:(getObj r).run P w=.ok (.deferred (some [])) w:=by simp[getObj,Sem.run,h]
 have X:(setObj r (.deferred none)).run P w=.ok () { w with heap:=w.heap.setIfInBounds r (.deferred none) }:=tx h (by intro c e f;simp);simp only[Instr.takeDeferred,Sem.run_bind,Z,Result.andThen_ok];rw[X];rfl
theorem afA.shut{base:Nat}{μ:Nat->Place}{mem:Mem}{w:World}{r:Nat}{x y}(H:afA base μ mem w)(h:w.heap[r]? =some (.deferred x)):
  afA base μ mem { w with heap:=w.heap.setIfInBounds r (.deferred y) }:=by
 refine⟨by simpa using H.afx,fun b s Z=>?_,H.sep⟩;by_cases h0:s=.qK
 .subst h0;trivial
 .refine(H.slot b s Z).mono (L9 _) (fun _ _=>rfl) fun _=>?_
  exact QQY (Ne.symm (qo H h Z h0))
theorem Step.shut{m0:Nat}{μ μ' :Nat->Place}{mem mem' :Mem}{w w' :World}{o:Obj}(h:Step m0 μ mem w μ' mem' w')(hr:w.heap.size<=r):
  Step m0 μ mem w μ' mem' { w' with heap:=w'.heap.setIfInBounds r o }:=by
 refine⟨h.len,h.agree,h.os,h.tape,h.output,by simpa using h.size,fun k Z X=>?_,h.owner,h.drawn⟩;rw[<-h.frame k Z X];exact QQY (by omega)
theorem MOk.shut{P:Program}{base h0 r:Nat}{w:World}{ds:List Deferred}{o:Obj}(h:MOk P base h0 w ({ target:=.collected r,args:= #[] }::ds)):
  MOk P base h0 { w with heap:=w.heap.setIfInBounds r o } ds:=by
 have U:h0<=r:=by obtain⟨q,e,Z,_⟩:=h.each _ (List.mem_cons_self ..);cases e;exact Z
 refine⟨⟨h.agA.below,?_⟩,h.afx,by simpa using h.le,fun d V=>?_,?_⟩
 .have:=h.agA.tab
  unfold Lib.TabIs at this |-;rw[<-this];refine PN fun k O=>QQY ?_
  have:=h.agA.below;have:=h.afx;omega
 .obtain⟨q,e,Z,S⟩:=h.each d (by simp[V])
  refine⟨q,e,Z,?_⟩;have R:r≠q:=by intro X;have:=h.nodup;simp only[List.map_cons,List.nodup_cons,QQm,not_exists] at this;exact this.1 d ⟨V,by rw[e,X]⟩
  show(w.heap.setIfInBounds r o)[q]? =_
  rw[QQY R,S]
 .have:=h.nodup
  simp only[List.map_cons,List.nodup_cons] at this;exact this.2
theorem sc{P:Program}{fn:Func}{tmps:Array Value}{R:Ending->World->Prop}{base m0:Nat}{μ μ0:Nat->Place}{mem mem0:Mem}{w0:World}:
  ∀(H:List Deferred) (w:World),MOk P base w0.heap.size w H->afA base μ mem w->Step m0 μ0 mem0 w0 μ mem w->
   (∀w',afA base μ mem w' ->Step m0 μ0 mem0 w0 μ mem w' ->∃v,(results fn tmps).run P w' =.ok v w' /\R (.returned v) w')->
   LeavesInM (Fr none) 0 P fn tmps R H .returning w
 | [],w,_,hH,hS,hq=>hq w hH hS
 |d::H,w,hM,hH,hS,hq=>by obtain⟨r,rfl,X,Z⟩:=hM.each d (by simp);refine⟨by simp,.inl ⟨r,_,rfl,AB Z,?_⟩⟩;exact sc H _ hM.shut (hH.shut Z) (hS.shut X) hq
theorem afZ.intro(hT:dQ P T){f:FuncId}{c:Code}{args:List AV}{mem:Mem}{R:AV->Mem->Prop}(hf:P.funcs[f]? =some fn)(H:fn.body=some c)(hn:(fn.name == "runtime.NumGoroutine")=false)(hl:args.length<=fn.ntmps)(h:AWP P true fn.ntmps mem.length c ⟨dN 0 args,mem⟩ fun e X =>(e=.normal\/e=.ret)/\∃v,jS T fn.results.toList X.env X.mem=some v/\Fin mem v X.mem R):
  afZ P f args mem R:=by
 refine⟨⟨fn,hf,by simp[H],hn⟩,fun base μ w Vs hG hH hV=>?_⟩;refine AK.1 (callsIn_of_wp_marks (F:=Fr none) (n:=0) hf H trivial (wpIn_mono (h none w.heap.size base μ w _ (fun _=>rfl) hH ?_ ?_ (MOk.nil w hG hH.afx (L9 _)) (L9 _)) ?_) rfl)
 .intro t
  have:=yq 0 hV t;simp only[Nat.not_lt_zero,if_false,QXQ] at this;by_cases ht:t<Vs.length
  .have e:(⟨Vs⟩++Array.replicate (fn.ntmps-(⟨Vs⟩:Array Value).size) undef:Array Value).getD t undef=Vs.getD t undef:=by simp only[Array.getD_eq_getD_getElem?];rw[Array.getElem?_append_left (by simpa using ht)];simp[List.getD]
   show afn μ mem.length (ad (dN 0 args) t) ((⟨Vs⟩++Array.replicate (fn.ntmps-(⟨Vs⟩:Array Value).size) undef:Array Value).getD t undef)
   rw[e];exact this
  .have:ad (dN 0 args) t=.undef:=by
    have B:=hV.length;have:∀(M:List AV) (i:Nat),i+M.length<=t->ad (dN i M) t=.undef:=by
     intro M;induction M with
     |nil=>intro i _;rfl
     |cons v M ih=>
      intro i hi;simp only[List.length_cons] at hi;simp only[dN,ad];rw[if_neg (by omega)];exact ih (i+1) (by omega)
    exact this args 0 (by omega)
   show afn μ mem.length (ad (dN 0 args) t) _
   rw[this];simp[afn]
 .simp only[Array.size_append,List.size_toArray,Array.size_replicate,hV.length];omega
 .rintro e a' w' ⟨X,μ',b1,b2,b3,b4,b5,b6,he,v,hv,ks,hks,hR⟩
  have S:LeavesInM (Fr none) 0 P fn a'.tmps (fun e w' =>∃V v mem' μ',e=.returned V/\afn μ' mem'.length v V/\afA base μ' mem' w' /\Step mem.length μ mem w μ' mem' w' /\R v mem') a'.defers .returning w' :=by
   refine sc a'.defers w' b4 b1 b6 fun w2 j L=>?_
   obtain⟨V,Y,u⟩:=tU (P:=P) (fn:=fn) hT j b2 hv;obtain⟨J,c2,c3⟩:=j.afz b5 hks;refine⟨V,Y,?_⟩;rcases hR with⟨o,hr⟩ | hr
   .have B:(mem++aga mem.length ks X.mem).length=(afz mem.length ks X.mem).length:=by rw[gb b5];simp[aga]
    have K:∀b Z,(mem++aga mem.length ks X.mem)[b]? =some Z->∃G,(afz mem.length ks X.mem)[b]? =some G/\G.own=Z.own/\(G=.qK->Z=.qK)/\
      afD (fun b=>μ' (iS mem.length ks b)) (afz mem.length ks X.mem).length base w2 (μ' (iS mem.length ks b)) Z:=by
     intro b Z H;unfold afz;rw[o];by_cases O:b<mem.length
     .rw[GT O] at H
      refine⟨Z.ren (rho mem.length ks),by rw[GT (by simpa using O),QQJ,H];rfl,afq.agL _ _,?_,?_⟩
      .intro h;cases Z<;>simp[afq.ren] at h |-
      .have I:iS mem.length ks b=b:=by simp[iS,O]
       rw[I];have C:=hH.slot b Z H;have N:=j.slot b Z (by rw[<-H,<-o,QQa O]);rw[L.agree b O] at N |-;have g3:=afD.lower (w' :=w2) (fun b H=>L.agree b H) C N;refine g3.mono ?_ (fun b H=>?_) fun _=>rfl
       .simp[aga]
       .show μ' (iS mem.length ks b)=μ b
        rw[show iS mem.length ks b=b by simp[iS,H],L.agree b H]
     .have m :(afz mem.length ks X.mem)[b]? =some Z:=by unfold afz;rw[o,V1 (by simp;omega)];rw[V1 (by omega)] at H;simpa using H
      have:=J.slot b Z m;unfold afz at m this;rw[o] at m this;exact⟨Z,m,rfl,id,this⟩
    have hsw:=J.swap B K;refine⟨V,_,_,_,rfl,u.ren fun b b' C N=>?_,hsw,?_,hr⟩
    .obtain⟨g3,g4⟩:=c2 b b' C N
     exact⟨by rw[B];exact g3,g4⟩
    .have U:=L.trans c3
     refine⟨by rw[B];exact U.len,U.agree,U.os,U.tape,U.output,U.size,U.frame,fun b H O=>?_,U.drawn⟩;obtain⟨s,C,N⟩:=H;obtain⟨G,Y,u,_,_⟩:=K b s C;exact U.owner b ⟨G,Y,by rw[u];exact N⟩ O
   .exact⟨V,_,_,_,rfl,u.ren c2,J,L.trans c3,hr⟩
  rcases he with rfl | rfl
  .exact S
  .exact S
end
end Go.Eng
