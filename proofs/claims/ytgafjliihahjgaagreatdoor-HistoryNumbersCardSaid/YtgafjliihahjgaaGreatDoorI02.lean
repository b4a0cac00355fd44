/- See I36. -/
import Derived.Test.YtgafjliihahjgaaGreatDoorI01
import Derived.Lib.UnsafeStr
import Derived.RangeFuncLeaves
import Derived.OrdersIn
import Derived.TacticsIn
import Derived.Lib.ItoaNum
import Derived.Lib.LaidTab
set_option linter.all false
namespace Go.Eng
variable{V X:Value}{cs:List AV}{mem' :Mem}{v x:AV}
section
variable {P:Program}{T:TypeId->Option TyI}{μ:Nat->Place}{mem:Mem}{base:Nat}{w:World}
def ahc(P:Program)(x:Sem Value)(base:Nat) (μ:Nat->Place)(mem:Mem)(w:World)(v:AV) (mem' :Mem):Prop:=
 ∃V w' μ',x.run P w=.ok V w' /\af4 μ' mem'.length v V/\agh base μ' mem' w' /\Step mem.length μ mem w μ' mem' w'
theorem ahc.agr{x:Sem Value}(y:agh base μ mem w)(h:Val P x w μ mem.length v):ahc P x base μ mem w v mem:=by obtain⟨V,Z,W⟩:=h;exact⟨V,w,μ,Z,W,y,.refl (L9 _)⟩
theorem uh(I:agh base μ mem w)(e:TypeId)(y:Array Value)(es:Nat)(H:1000<=es->e+1=es / 1000)(cs:List AV)(h:∀(j:Nat) v,cs[j]? =some v->∃V,y[j]? =some V/\af4 μ mem.length v V):
  agh base (upd μ mem.length ⟨w.heap.size,0,y.size,es%1000⟩) (mem++[.cells true es cs]) (w.alloc (.cells y e))/\
  Step mem.length μ mem w (upd μ mem.length ⟨w.heap.size,0,y.size,es%1000⟩) (mem++[.cells true es cs]) (w.alloc (.cells y e)):=by
 refine I.push _ _ _ rfl ?_;simp only[agj];refine⟨y,e,(0,0),heap_alloc_new w _,⟨rfl,H⟩,?_,fun j v W=>?_,fun _=>by simp;exact I.agb⟩
 .rcases QQY cs.length with h0 | h0
  .omega
  .obtain⟨V,Z,_⟩:=h (cs.length-1) cs[cs.length-1] (by simp)
   have:=(Ns.1 Z).1;omega
 .obtain⟨V,Z,S⟩:=h j v W
  exact⟨V,by simpa using Z,S.mono (Nat.le_succ _) fun b O=>yg O⟩
theorem S7{n:Nat}{vs:List AV}{cur Vs:List Value}{o:Nat}(H:o+vs.length<=cs.length)(h:∀(j:Nat) v,cs[j]? =some v->∃V,cur[j]? =some V/\af4 μ n v V)(y:af5 μ n vs Vs):
  ∀(j:Nat) v,(cs.take o++vs++cs.drop (o+vs.length))[j]? =some v->∃V,(cur.take o++Vs++cur.drop (o+Vs.length))[j]? =some V/\af4 μ n v V:=by
 have G:=y.length;have S:cs.length<=cur.length:=by
  rcases QQY cs.length with h0 | h0
  .omega
  .obtain⟨V,O,_⟩:=h (cs.length-1) cs[cs.length-1] (by simp)
   have:=gL O;omega
 have M:(cs.take o).length=o:=by simp;omega
 have K:(cur.take o).length=o:=by simp;omega
 intro j v Z;rw[SP] at Z |-;by_cases W:j<o
 .rw[Hi (by omega),QQQ W] at Z
  rw[Hi (by omega),QQQ W];exact h j v Z
 .rw[Pi (by omega),M] at Z
  rw[Pi (by omega),K];by_cases J:j-o<vs.length
  .rw[Hi J] at Z
   rw[Hi (by omega)];exact y.get _ v Z
  .rw[Pi (by omega),QQc] at Z
   rw[Pi (by omega),QQc];rw[show o+Vs.length+(j-o-Vs.length)=o+vs.length+(j-o-vs.length) by omega];exact h _ v Z
def If(T:TypeId->Option TyI)(e:TypeId)(i:TyI):Bool:=match i.desc with
 |.struct fs=>match fs[0]? with
  |some f=>match T f.type with
   |some k=>match k.desc with
    |.pointer e' =>e' ==e
    |_=>false
   |none=>false
  |none=>false
 |_=>false
def uK(T:TypeId->Option TyI)(mem:Mem)(e:TypeId):Option (AV×Mem):=
 match T e with
 |some i=>some (.ptr mem.length 0,mem++[.cells true (if If T e i then 1000*(e+1) else 0) (pe i.zero).cells])
 |none=>none
theorem zY(H:agh base μ mem w)(e:TypeId)(es:Nat)(y:1000<=es->e+1=es / 1000)(h:af5 μ mem.length cs V.cells.toList):
  ahc P (do pure (.pointer (some (<-newVar e V)))) base μ mem w (.ptr mem.length 0) (mem++[.cells true es cs]):=by
 obtain⟨Z,W⟩:=uh H e V.cells es y cs (fun j v S=>by obtain⟨U,O,M⟩:=h.get j v S;exact⟨U,by simpa using O,M⟩)
 refine⟨.pointer (some ⟨w.heap.size,0,none⟩),_,_,?_,?_,Z,W⟩
 .simp only[newVar,newRow,Sem.run_bind,run_newObj,Result.andThen_ok,Sem.run_pure]
  rfl
 .simp[af4,fT]
theorem LZ(hT:dW P T)(y:agh base μ mem w){e:TypeId}(h:uK T mem e=some (v,mem')):
  ahc P (Instr.alloc e true (.tuple #[])) base μ mem w v mem' :=by
 unfold uK at h;split at h
 .rename_i i Z
  cases h;have:=zY (P:=P) y e (if If T e i then 1000*(e+1) else 0) (by cases If T e i with | false=>simp | true=>simp only[if_true];intro _;rw[Nat.mul_div_cancel_left _ (by omega)]) (V:=i.zero) (qh μ mem.length i.zero);obtain⟨V,w',μ',W,S⟩:=this;refine⟨V,w',μ',?_,S⟩;simp only[Instr.alloc,Sem.run_bind,gj hT Z,Result.andThen_ok];exact W
 .cases h
def Y0(mem:Mem)(x:AV):Option (AV×Mem):=if x.known then some (.ptr mem.length 0,mem++[.cells true 0 x.cells]) else none
theorem R3(y:agh base μ mem w){e:TypeId}(hx:af4 μ mem.length x X)(h:Y0 mem x=some (v,mem')):
  ahc P (Instr.box e X) base μ mem w v mem' :=by
 unfold Y0 at h;split at h
 .rename_i Z
  cases h;exact zY (P:=P) y e 0 (by omega) (hx.cells Z)
 .cases h
theorem Ma(hT:dW P T)(H:agh base μ mem w){t:TypeId}(hx:af4 μ mem.length x X)(y:af4 μ mem.length v V)(h:uL T mem t x v=some mem'):∃w',(Instr.storeAt t X V).run P w=.ok () w' /\agh base μ mem' w' /\Step mem.length μ mem w μ mem' w' :=by
 unfold uL at h;split at h
 .rename_i i b o Q
  split at h
  .rename_i es cs M
   split at h
   .rename_i hc
    cases h;simp only[Es,L0,List.all_eq_true] at hc;obtain⟨⟨⟨G,W⟩,F⟩,D⟩:=hc;obtain⟨I,rfl⟩:=hx.ptr;have z:=H.slot b _ M;simp only[agj] at z;obtain⟨Z,el,fr,m,g2,g3,Y,g5⟩:=z;obtain⟨K,g7,g8,g9⟩:=g5 trivial;subst g7;have S:=y.cells G;have O:V.cells.size=i.size:=by rw[<-QQm,S.length,W]
    have h1:∀u∈V.cells.toList,u.oneCell' =true:=by
     intro u hu;obtain⟨j,R⟩:=QQg hu;have C :j<v.cells.length:=by rw[<-S.length];exact(gL R)
     obtain⟨U,J,B⟩:=S.get j v.cells[j] (by simp[C]);rw[R] at J;cases J;exact B.ahr (D _ (by simp))
    have A:=run_storeCells_at (P:=P) (μ b).blk o el V.cells.toList 0 Z w m (by rw[S.length,W];omega) h1;refine⟨w.setRow (μ b).blk (Z.toList.take (o+0)++V.cells.toList++Z.toList.drop (o+0+V.cells.toList.length)).toArray,?_,H.write M (qi M) (fun _=>⟨_,X1 (gL M),rfl⟩) rfl rfl rfl rfl (by simp[World.setRow]) (fun k G=>setRow_other w _ k _ G) ?_⟩
    .simp only[Instr.storeAt,Instr.sureAddr,Sem.run_bind,Sem.run_pure,Result.andThen_ok,storeVar,dU hT Q,O,ne_eq,not_true_eq_false,if_false,K,QQZ]
     exact A
    .simp only[agj]
     refine⟨_,el,(0,0),setRow_heap w (μ b).blk Z _ el (0,0) m,g2,?_,fun j u hu=>?_,fun _=>⟨K,rfl,?_,g9⟩⟩
     .simp only[Nm,P3,QXZ,W];omega
     .rw[K] at Y
      have:=S7 (cs:=cs) (vs:=v.cells) (Vs:=V.cells.toList) (o:=o) (cur:=Z.toList) (by rw[W];exact F) (fun j v y=>by simpa using Y j v y) S j u (by rw[W];exact hu);obtain⟨U,J,B⟩:=this;refine⟨U,?_,B⟩;rw[K];simpa using J
     .simp only[List.size_toArray,Nm,P3,QXZ,QQm,O];omega
   .cases h
  .cases h
 .cases h
end
end Go.Eng
namespace Go.Eng
section
variable {P:Program}{T:TypeId->Option TyI}{μ:Nat->Place}{mem:Mem}{base:Nat}{w:World}
def lL(z:List AV):Nat->List AV
 |0=>[]
 |k+1=>z++lL z k
theorem qw(z:List AV):∀k,(lL z k).length=k*z.length
 |0=>by simp[lL]
 |k+1=>by simp[lL,qw z k,Nat.add_mul,QXJ]
theorem zq{n:Nat}{z:List AV}{Z:Array Value}(y:af5 μ n z Z.toList):∀(k:Nat) (j:Nat) v,(lL z k)[j]? =some v->
  ∃V,Z[j%Z.size]! =V/\af4 μ n v V/\j<k*Z.size
 |0,j,v,h=>by simp[lL] at h
 |k+1,j,v,h=>by
  have X:Z.size=z.length:=by rw[<-QQm,y.length]
  rw[lL] at h;by_cases O:j<z.length
  .rw[Hi O] at h
   obtain⟨V,W,S⟩:=y.get j v h;refine⟨V,?_,S,by rw[X,Nat.add_mul];omega⟩;rw[QQd (by omega)];have:Z[j]? =some V:=by simpa using W
   simp[getElem!_def,this]
  .rw[Pi (by omega)] at h
   obtain⟨V,W,S,M⟩:=zq y k (j-z.length) v h;refine⟨V,?_,S,by rw[X] at M |-;rw[Nat.add_mul];omega⟩;rw[<-W,X];congr 1;rw[Nat.mod_eq_sub_mod (by omega)]
theorem Gv{Z:Array Value}{m j:Nat}(h:j<m):((Array.range m).map (fun i=>Z[i%Z.size]!))[j]? =some (Z[j%Z.size]!):=by simp[h]
def gJ(T:TypeId->Option TyI)(mem:Mem)(t:TypeId)(y:Nat)(parts:List (Nat×AV)):Option (AV×Mem):=
 match T t with
 |none=>none
 |some i=>
  match i.desc with
  |.slice e=>
   match T e with
   |none=>none
   |some j=>
    if y*j.size<=16777216/\0<j.size/\j.size<1000 then
     match qR (fun k=>some (k*j.size,j.size)) (lL (pe j.zero).cells y) parts with
     |some cs=>some (.slice mem.length 0 y none,mem++[.cells true j.size cs])
     |none=>none
    else none
  |_=>none
theorem yS(hT:dW P T)(hH:agh base μ mem w){t:TypeId}{y:Nat}{parts:List (Nat×AV)}{H:List (Nat×Value)}{v:AV}{I :Mem}(hp:H.map (·.1)=parts.map (·.1))(hv:af5 μ mem.length (parts.map (·.2)) (H.map (·.2)))(h:gJ T mem t y parts=some (v,I)):
  ahc P (Instr.buildSlice t y ⟨H⟩) base μ mem w v I :=by
 unfold gJ at h;cases ht:T t with
 |none=>rw[ht] at h;cases h
 |some i=>
  rw[ht] at h;simp only at h;have A:=(hT t i ht).desc;split at h
  .rename_i e F'
   rw[F'] at A;split at h
   .cases h
   .rename_i j J
    split at h
    .rename_i hc
     split at h
     .rename_i cs z
      cases h;have Y:=qh μ mem.length j.zero;have S:=(hT e j J).ahS;have O:(pe j.zero).cells.length=j.size:=by rw[<-Y.length,QQm,S]
      have G:af5 μ mem.length (lL (pe j.zero).cells y) ((Array.range (y*j.size)).map (fun i=>j.zero.cells[i%j.zero.cells.size]!)).toList:=by
       refine af5.ag5 (by simp[qw,O]) fun q u hu=>?_
       obtain⟨V,F,D,h3⟩:=zq Y y q u hu;refine⟨V,?_,D⟩;have:=Gv (Z:=j.zero.cells) (m:=y*j.size) (j:=q) (by rw[S] at h3;exact h3);rw[F] at this;rw[Array.getElem?_toList];exact this
      obtain⟨R,hF,M⟩:=tX z G hp hv;obtain⟨F,D⟩:=uh hH e ⟨R⟩ j.size (by omega) cs (fun q u hu=>by obtain⟨U,hU,hr⟩:=M.get q u hu;exact⟨U,by simpa using hU,hr⟩)
      have Do:R.length=y*j.size:=by
       rw[M.length];have:∀{pl:Nat->Option (Nat×Nat)}{K:List (Nat×AV)}{a b:List AV},qR pl a K=some b->b.length=a.length:=by
        intro pl K;induction K with
        |nil=>intro a b X;simp only[qR,N3] at X;rw[X]
        |cons p K ih=>
         obtain⟨pi,pv⟩:=p;intro a b X;rw[qR] at X;cases hpl:pl pi with
         |none=>rw[hpl] at X;cases X
         |some os=>
          obtain⟨off,Q⟩:=os;rw[hpl] at X;simp only at X;split at X
          .rename_i C
           simp only[Es,L0] at C;rw[ih X];simp only[Nm,P3,QXZ];omega
          .cases X
       rw[this z,qw,O]
      refine⟨.slice (some ⟨w.heap.size,0,none⟩) y y,_,_,?_,?_,F,D⟩
      .simp only[Instr.buildSlice,Sem.run_bind,run_underlying A,Result.andThen_ok,dU hT J]
       rw[if_neg (by omega)];have W :=hF;rw[show(⟨((Array.range (y*j.size)).map (fun i=>j.zero.cells[i%j.zero.cells.size]!)).toList⟩:Array Value)=(Array.range (y*j.size)).map (fun i=>j.zero.cells[i%j.zero.cells.size]!) from rfl] at W;by_cases B:y*j.size=0
       .rw[if_pos B]
        rw[B] at W |-;simp only[Sem.run_bind,Sem.run_pure,Result.andThen_ok,Array.range_zero',Array.map_empty] at W |-;rw[W];simp only[newRow,Sem.run_bind,run_newObj,Result.andThen_ok,Sem.run_pure];rfl
       .rw[if_neg B]
        simp only[Sem.run_bind,Sem.run_pure,Result.andThen_ok,gj hT J];rw[W];simp only[newRow,Sem.run_bind,run_newObj,Result.andThen_ok,Sem.run_pure];rfl
      .simp only[af4,fT,qQ,Nm,List.length_singleton]
       refine⟨by omega,?_⟩;simp only[QXX,Do,List.size_toArray,QQd hc.2.2,Nat.mul_div_cancel _ hc.2.1]
     .cases h
    .cases h
  .cases h
end
variable{n:Int}
theorem ai(h0: -9223372036854775808<=n:=by omega)(Z:n<=9223372036854775807:=by omega):IntKind.i64.wrap n=n:=by simp only[IntKind.wrap,IntKind.bits,IntKind.signed,Bool.true_and,ge_iff_le,L0,Nat.reduceSub];split<;>omega
theorem cS(h0:0<=n)(h1:n<=18446744073709551615):IntKind.u64.wrap n=n:=by simp only[IntKind.wrap,IntKind.bits,IntKind.signed,Bool.false_and,Bool.false_eq_true,if_false];omega
section
variable {P:Program}{T:TypeId->Option TyI}{μ:Nat->Place}{mem:Mem}{base:Nat}{w:World}
def mg(T:TypeId->Option TyI)(mem:Mem)(t:TypeId)(l c:AV):Option (AV×Mem):=
 match T t with
 |none=>none
 |some i=>
  match i.desc,l,c with
  |.slice e,.int _ l,.int _ c=>
   match T e with
   |none=>none
   |some j=>
    if 0<=l/\l<=c/\(j.bytes:Int)*c<=281474976710656/\c<=281474976710656/\0<j.size/\j.size<1000 then
     some (.slice mem.length 0 l.toNat none,mem++[.cells true j.size (lL (pe j.zero).cells l.toNat)])
    else none
  |_,_,_=>none
theorem A4(hT:dW P T)(H:agh base μ mem w){t:TypeId}{l c v:AV}{L C:Value}{y :Mem}(I:af4 μ mem.length l L)(hc:af4 μ mem.length c C)(h:mg T mem t l c=some (v,y)):
  ahc P (Instr.makeSlice t L C) base μ mem w v y :=by
 unfold mg at h;cases ht:T t with
 |none=>rw[ht] at h;cases h
 |some i=>
  rw[ht] at h;simp only at h;have D:=(hT t i ht).desc;split at h
  .rename_i e k1 l k2 c A
   rw[A] at D;split at h
   .cases h
   .rename_i j S
    split at h
    .rename_i O
     obtain⟨g1,g2,g3,g4,z,Y⟩:=O;cases h;rw[I.int,hc.int];have B:=qh μ mem.length j.zero;have X:=(hT e j S).ahS;have R:(pe j.zero).cells.length=j.size:=by rw[<-B.length,QQm,X]
     obtain⟨f,Q,hfs,W,hfz⟩:=Ac hT S w;have w1:IntKind.i64.wrap l=l:=ai;have w2:IntKind.i64.wrap c=c:=ai;obtain⟨h1,h2⟩:=uh H e ((Array.range (c.toNat*j.size)).map (fun i=>j.zero.cells[i%j.zero.cells.size]!)) j.size (by omega) (lL (pe j.zero).cells l.toNat) (fun q u hu=>by obtain⟨V,e1,e2,e3⟩:=zq B _ q u hu;refine⟨V,?_,e2⟩;rw[X] at e3;have hle:l.toNat*j.size<=c.toNat*j.size:=QQf _ (by omega);have:=Gv (Z:=j.zero.cells) (m:=c.toNat*j.size) (j:=q) (by omega);rw[e1] at this;exact this)
     refine⟨.slice (some ⟨w.heap.size,0,none⟩) l.toNat c.toNat,_,_,?_,?_,h1,h2⟩
     .have hb:¬(281474976710656<(f.bytes:Int)*c):=by rw[W];omega
      have hb2:¬((f.bytes:Int)*c>2 ^ 48):=by rw[W];omega
      have M:¬c<0:=by omega
      have K:¬l<0:=by omega
      have J:¬l>c:=by omega
      simp only[Instr.makeSlice,Sem.run_bind,run_underlying D,asInt,asIntOf,Sem.run_pure,Result.andThen_ok,Q,w1,w2];have UV:((decide (c<0)||decide ((f.bytes:Int)*c>2 ^ 48))||decide (l<0)||decide (l>c))=false:=by simp[M,K,J,hb]
      simp only[UV,Bool.false_eq_true,if_false];have G:∀n,(askRoom n).run P w=.ok () w:=by intro n;unfold askRoom;split<;>simp[mark,Sem.run]
      simp only[Sem.run_bind,G,Result.andThen_ok,dU hT S];by_cases F:c.toNat*j.size=0
      .rw[if_pos F]
       rw[F];simp only[Sem.run_bind,Sem.run_pure,Result.andThen_ok,Array.range_zero',Array.map_empty,newRow,run_newObj];rfl
      .rw[if_neg F]
       simp only[Sem.run_bind,Sem.run_pure,Result.andThen_ok,gj hT S,newRow,run_newObj];rfl
     .simp only[af4,fT,qQ,Nm,List.length_singleton]
      refine⟨by omega,?_⟩;simp only[QXX,Array.size_map,Array.size_range,QQd Y,Nat.mul_div_cancel _ z]
    .cases h
  .cases h
def kh(T:TypeId->Option TyI)(mem:Mem)(y:Nat)(t2:TypeId):AV->Option (Nat×List AV)
 |.y9=>some (0,[])
 |.slice b o m _=>match mem[b]? with
  |some (.cells _ _ cs)=>if o+m*y<=cs.length then some (m,(cs.drop o).take (m*y)) else none
  |_=>if m=0 then some (0,[]) else none
 |.str s=>match T t2 with
  |some i=>match i.desc with
   |.string=>if y=1 then some (s.length,s.map fun c=>.int .u8 c.toNat) else none
   |_=>none
  |none=>none
 |_=>none
def Ih(i:TyI):Bool:=match i.desc with
 |.slice _=>true
 |.string=>true
 |_=>false
def Bf(j:TyI)(e:TypeId):Nat:=match j.desc with
 |.int .u8=>j.size+1000*(e+1)
 |_=>j.size
def kz(T:TypeId->Option TyI)(mem:Mem)(t t2:TypeId)(s x:AV):Option (AV×Mem):=
 match T t with
 |none=>none
 |some i=>
  match i.desc with
  |.slice e=>
   match T e,T t2 with
   |some j,some i2=>
    if j.size=0\/1000<=j.size\/Ih i2=false then none else
    match kh T mem j.size t2 x with
    |none=>none
    |some (m,news)=>
     if news.all AV.af2=true then
      match s with
      |.y9=>
       if m=0 then some (.y9,mem)
       else if m*j.bytes<=140737488355328/\m<=140737488355328 then some (.slice mem.length 0 m none,mem++[.cells true (Bf j e) news])
       else none
      |.slice b 0 n none=>
       match mem[b]? with
       |some (.cells true es cs)=>
        if (es=j.size\/es=Bf j e)/\n*j.size<=cs.length/\(n+m)*j.bytes<=140737488355328/\n+m<=140737488355328 then
         some (.slice mem.length 0 (n+m) none,mem.set b .HS++[.cells true es (cs.take (n*j.size)++news)])
        else none
       |_=>none
      |_=>none
     else none
   |_,_=>none
  |_=>none
theorem Fa(H:agh base μ mem w){y:Nat}{t2:TypeId}{x:AV}{X:Value}{m:Nat}{news:List AV}(hx:af4 μ mem.length x X)(h:kh T mem y t2 x=some (m,news)):
  ∃O,af5 μ mem.length news O/\news.length=m*y/\(Builtin.lenOf X).run P w=.ok m w/\
   ∀w',(∀a,w'.cell? a=w.cell? a)->(Builtin.firstCells y m X).run P w' =.ok ⟨O⟩ w' :=by
 unfold kh at h;split at h
 .cases h
  simp only[af4] at hx;subst hx;exact⟨[],by simp[af5],by simp,by simp[Builtin.lenOf],fun w' _=>by simp[Builtin.firstCells]⟩
 .rename_i b o k c
  split at h
  .rename_i own es C J
   split at h
   .rename_i W
    cases h;obtain⟨V,rfl⟩:=hx.slice;obtain⟨M,G,F,h3⟩:=H.cells J W;refine⟨M,G,by simp;omega,by simp[Builtin.lenOf],fun w' K=>?_⟩;exact run_firstCells_some w' y m _ _ _ M F (fun j v Z=>by rw[K];exact h3 j v Z)
   .cases h
  .split at h
   .rename_i D
    cases h;subst D;obtain⟨V,rfl⟩:=hx.slice;refine⟨[],by simp[af5],by simp,by simp[Builtin.lenOf],fun w' K=>?_⟩;exact run_firstCells_some w' y 0 _ _ _ [] (by simp) (fun j v Z=>by simp at Z)
   .cases h
 .rename_i s
  split at h
  .split at h
   .split at h
    .rename_i S
     cases h;subst S;rw[hx.str];refine⟨s.map fun c=>.int .u8 c.toNat,?_,by simp,by simp[Builtin.lenOf,tP],fun w' _=>?_⟩
     .refine af5.ag5 (by simp) fun i v Z=>?_
      simp only[QQX,Pl] at Z |-;obtain⟨c,hc,rfl⟩:=Z;exact⟨_,⟨c,hc,rfl⟩,by simp[af4]⟩
     .simp only[Builtin.firstCells,Sem.run_pure,Result.ok.injEq,and_true]
      have:(ByteArray.mk s.toArray).extract 0 s.length=⟨s.toArray⟩:=by apply ByteArray.ext;apply Array.ext';simp[List.extract]
      rw[this];simp
    .cases h
   .cases h
  .cases h
 .cases h
end
end Go.Eng
namespace Go.Eng
variable{b:Nat}{j:TyI}
section
variable {P:Program}{T:TypeId->Option TyI}{μ:Nat->Place}{mem:Mem}{base:Nat}{w:World}
section
variable (hT:dW P T){t t2 ty e:TypeId}(hd:P.underlying t=some (.slice e))(hj:T e=some j)(ht2:(∃e2,P.underlying t2=some (.slice e2))\/P.underlying t2=some .string)(bs:Option Addr)
include hT t t2 ty e hd hj ht2 bs
theorem CU(n c m:Nat)(X:Value)(w:World)(H:(Builtin.lenOf X).run P w=.ok m w)(y:n+m<=c):
  (Builtin.append_ #[t,t2] ty #[.slice bs n c,X]).run P w=
   ((Builtin.firstCells j.size m X).run P w).andThen fun W w' =>match bs with
    |some a=>((storeCells (a.add (n*j.size)) W.toList).run P w').andThen fun _ V =>.ok (.slice bs (n+m) c) V
    |none=>.ok (.slice bs (n+m) c) w' :=by
 rcases ht2 with⟨S,Z⟩ | Z<;>
  simp[Builtin.append_,run_underlying hd,run_underlying Z,dU hT hj,H,y]<;>cases bs<;>simp
theorem CT(n c m:Nat)(X:Value)(w:World)(Os H:List Value)(I:(Builtin.lenOf X).run P w=.ok m w)(y:c<n+m)(Q:(n+m)*j.bytes<=140737488355328)(hm:n+m<=140737488355328)(R:(Builtin.firstCells j.size n (.slice bs n c)).run P w.drew=.ok ⟨Os⟩ w.drew)(Y:(Builtin.firstCells j.size m X).run P w.drew=.ok ⟨H⟩ w.drew):
  ∃W,n+m<=W/\(Builtin.append_ #[t,t2] ty #[.slice bs n c,X]).run P w=
   .ok (.slice (some ⟨w.heap.size,0,none⟩) (n+m) W) (w.drew.alloc (.cells (⟨Os⟩++(⟨H⟩++Builtin.zeroCells j.zero.cells (W-(n+m)))) e)):=by
 obtain⟨f,F,V,S,O⟩:=(hT e j hj).info;have M:¬(n+m<=c):=by omega
 have K:¬(9223372036854775807<((n:Int)+(m:Int))):=by omega
 have J:¬(281474976710656<Builtin.nextslicecap (n+m) c*f.bytes):=by have:=growslice_fits y (bytes:=f.bytes) (by rw[S];exact Q);omega
 have G:∀n w,(askRoom n).run P w=.ok () w:=by intro n w;unfold askRoom;split<;>simp[mark,Sem.run]
 refine⟨grownCap w (n+m) c e,grownCap_ge w (n+m) c e,?_⟩;rcases ht2 with⟨D,Z⟩ | Z<;>
  simp[Builtin.append_,run_underlying hd,run_underlying Z,sizeOf,typeInfo,zeroValue,F,V,O,I,M,K,J,Question.forced,R,Y,newRow,grownCap,G]
end
theorem agh.drop{s:af6}(y:agh base μ mem w)(H:mem[b]? =some s):agh base μ (mem.set b .HS) w:=by
 have S:b<mem.length:=gL H;have own:∀x,fJ (mem.set b .HS) x->fJ mem x/\x≠b:=by
  intro x W;by_cases Z:x=b
  .subst Z
   obtain⟨K,hc,O⟩:=W;rw[X1 S] at hc;cases hc;cases O
  .obtain⟨K,hc,O⟩:=W
   rw[X4 (Ne.symm Z)] at hc;exact⟨⟨K,hc,O⟩,Z⟩
 refine⟨y.agb,fun x t V=>?_,fun x J t W X G M=>?_⟩
 .rw[X3]
  by_cases Z:x=b
  .subst Z;rw[X1 S] at V;cases V;trivial
  .rw[X4 (Ne.symm Z)] at V;exact y.slot x t V
 .by_cases Z:J =b
  .subst Z;rw[X1 S] at X;cases X;exact absurd rfl G
  .rw[X4 (Ne.symm Z)] at X
   exact y.sep x J t (own x W).1 X G M
theorem Step.drop{m0:Nat}{μ:Nat->Place}{mem:Mem}{w:World}(h:m0<=mem.length):Step m0 μ mem w μ (mem.set b .HS) w:=by
 refine⟨by simpa using h,fun _ _=>rfl,rfl,rfl,rfl,L9 _,fun _ _ _=>rfl,fun x W _=>⟨x,?_,rfl⟩,L9 _⟩;by_cases Z:x=b
 .subst Z
  by_cases S:x<mem.length
  .obtain⟨V,hc,X⟩:=W
   rw[X1 S] at hc;cases hc;cases X
  .obtain⟨V,hc,X⟩:=W
   have:=gL hc;simp at this;omega
 .obtain⟨V,hc,X⟩:=W
  rw[X4 (Ne.symm Z)] at hc;exact⟨V,hc,X⟩
theorem agh.rename{es:Nat}{cs H :List AV}{w' :World}(hH:agh base μ mem w)(hb:mem[b]? =some (.cells true es cs))(I:w'.drawn=w.drawn)(Q:w'.os=w.os)(R:w'.tape=w.tape)(Y:w'.output=w.output)(hsz:w'.heap.size=w.heap.size)(ach:∀k,k≠(μ b).blk->w'.heap[k]? =w.heap[k]?)(hs:agj μ mem.length base w' (μ b) (.cells true es H)):
  agh base (upd μ mem.length (μ b)) (mem.set b .HS++[.cells true es H]) w' /\
  Step mem.length μ mem w (upd μ mem.length (μ b)) (mem.set b .HS++[.cells true es H]) w' :=by
 have C:b<mem.length:=gL hb;have X:fJ mem b:=qi hb;have hw:=hH.write (s' :=.cells true es H) hb X (fun _=>⟨_,X1 C,rfl⟩) I Q R Y hsz ach hs;have hμ:∀x,x<mem.length->upd μ mem.length (μ b) x=μ x:=fun x S=>yg S
 have Do:(mem.set b .HS).length=mem.length:=by simp
 have own:∀x,fJ (mem.set b .HS++[.cells true es H]) x->(x<mem.length/\x≠b/\fJ mem x)\/x=mem.length:=by
  intro x S;by_cases O:x<mem.length
  .refine .inl ⟨O,?_⟩
   have W :fJ (mem.set b .HS) x:=by obtain⟨G,hc,K⟩:=S;rw[Hi (by omega)] at hc;exact⟨G,hc,K⟩
   by_cases Z:x=b
   .subst Z
    obtain⟨G,hc,K⟩:=W;rw[X1 C] at hc;cases hc;cases K
   .refine⟨Z,?_⟩
    obtain⟨G,hc,K⟩:=W;rw[X4 (Ne.symm Z)] at hc;exact⟨G,hc,K⟩
  .refine .inr ?_
   obtain⟨G,hc,K⟩:=S;have:=gL hc;simp at this;omega
 constructor
 .refine⟨hw.1.agb,fun x t V=>?_,fun x F t S W z D=>?_⟩
  .rw[Nm,List.length_singleton,Do]
   by_cases O:x<mem.length
   .rw[Hi (by omega)] at V
    rw[hμ x O];by_cases Z:x=b
    .subst Z;rw[X1 C] at V;cases V;trivial
    .rw[X4 (Ne.symm Z)] at V
     have:=hw.1.slot x t (by rw[X4 (Ne.symm Z)];exact V);rw[X3] at this;exact this.mono (Nat.le_succ _) hμ fun _=>rfl
   .have u:x=mem.length:=by have:=gL V;simp at this;omega
    subst u;rw[Pi (by omega),Do] at V;simp at V;subst V;rw[fT];exact hs.mono (Nat.le_succ _) hμ fun _=>rfl
  .have m:∀y s,(mem.set b .HS++[.cells true es H])[y]? =some s->s≠ .HS->(y<mem.length/\y≠b/\mem[y]? =some s)\/y=mem.length:=by
    intro y s J hns;by_cases hyl:y<mem.length
    .rw[Hi (by omega)] at J
     by_cases M:y=b
     .subst M;rw[X1 C] at J;cases J;exact absurd rfl hns
     .rw[X4 (Ne.symm M)] at J;exact .inl ⟨hyl,M,J⟩
    .exact .inr (by have:=gL J;simp at this;omega)
   rcases own x S with⟨B,a2,A⟩ | rfl<;>rcases m F t W z with⟨b1,b2,b3⟩ | rfl
   .rw[hμ x B,hμ F b1];exact hH.sep x F t A b3 z D
   .rw[hμ x B,fT];exact hH.sep x b _ A hb (by simp) a2
   .rw[hμ F b1,fT];exact hH.sep b F t X b3 z (Ne.symm b2)
   .exact absurd rfl D
 .refine⟨by simp,hμ,Q,R,Y,by omega,fun k hk hf=>ach k fun he=>hf b X he.symm,fun x S X' =>?_,Nat.le_of_eq I.symm⟩
  rcases own x S with⟨B,_,A⟩ | rfl
  .exact⟨x,A,by rw[hμ x B]⟩
  .exact⟨b,X,by rw[fT]⟩
end
end Go.Eng
namespace Go.Eng
section
variable {P:Program}{T:TypeId->Option TyI}{μ:Nat->Place}{mem:Mem}{base:Nat}{w:World}
theorem agh.drew(h:agh base μ mem w):agh base μ mem w.drew:=h.ag4 rfl
theorem af5.ahd{n:Nat}{vs:List AV}{Vs:List Value}(h:af5 μ n vs Vs)(y:vs.all AV.af2=true):∀u∈Vs,u.oneCell' =true:=by
 intro u hu;obtain⟨j,Z⟩:=QQg hu;have W:j<vs.length:=by rw[<-h.length];exact(gL Z)
 obtain⟨U,X,V⟩:=h.get j vs[j] (by simp[W]);rw[Z] at X;cases X;exact V.ahr (List.all_eq_true.1 y _ (by simp))
theorem Qy{j:TyI}{e:TypeId}(h:j.size<1000):Bf j e%1000=j.size/\(1000<=Bf j e->e+1=Bf j e / 1000):=by
 unfold Bf;split
 .refine⟨by rw[Nat.add_mul_mod_self_left,QQd h],fun _=>by rw[Nat.add_mul_div_left _ _ (by omega),Nat.div_eq_of_lt h,QQZ]⟩
 .exact⟨QQd h,fun Z=>by omega⟩
theorem UM(hH:agh base μ mem w){e:TypeId}{y H I es:Nat}(Q:es%1000=y/\(1000<=es->e+1=es / 1000)){olds news:List AV}{Os R:List Value}{z:Array Value}(h0:0<y)(hz:z.size=y)(Y:af5 μ mem.length olds Os)(hN:af5 μ mem.length news R)(hl:olds.length+news.length=H*y)(hnc:H<=I){x:Sem Value}(hx:x.run P w=.ok (.slice (some ⟨w.heap.size,0,none⟩) H I) (w.drew.alloc (.cells (⟨Os⟩++(⟨R⟩++Builtin.zeroCells z (I-H))) e))):
  ahc P x base μ mem w (.slice mem.length 0 H none) (mem++[.cells true es (olds++news)]):=by
 have Z:(⟨Os⟩++(⟨R⟩++Builtin.zeroCells z (I-H)):Array Value).size=I*y:=by simp only[Array.size_append,List.size_toArray,size_zeroCells,hz,Y.length,hN.length];rw[<-QXY,hl,<-Nat.add_mul];congr 1;omega
 obtain⟨W,V⟩:=uh hH.drew e (⟨Os⟩++(⟨R⟩++Builtin.zeroCells z (I-H))) es Q.2 (olds++news) (fun j v S=>by obtain⟨U,X,O⟩:=(Y.append hN).get j v S;refine⟨U,?_,O⟩;have M:j<(Os++R).length:=gL X;rw[<-Array.append_assoc,Array.getElem?_append_left (by simpa using M)];simpa using X)
 refine⟨_,_,_,hx,?_,W,?_⟩
 .simp only[af4,fT,qQ,Nm,List.length_singleton,World.size_drew]
  refine⟨by omega,?_⟩;rw[QXX,Z,Q.1,Nat.mul_div_cancel _ h0]
 .exact(Step.drew (m0:=mem.length) (L9 _)).trans V
theorem Hz(hT:dW P T)(H:agh base μ mem w){t t2 ty:TypeId}{s x v:AV}{S X:Value}{y :Mem}(hs:af4 μ mem.length s S)(hx:af4 μ mem.length x X)(h:kz T mem t t2 s x=some (v,y)):
  ahc P (Builtin.append_ #[t,t2] ty #[S,X]) base μ mem w v y :=by
 unfold kz at h;cases ht:T t with
 |none=>rw[ht] at h;cases h
 |some i=>
  rw[ht] at h;simp only at h;have z:=(hT t i ht).desc;split at h
  .rename_i e F'
   rw[F'] at z;split at h
   .rename_i j i2 Y hi2
    split at h
    .cases h
    .rename_i UV
     have M:=(hT t2 i2 hi2).desc;have K:(∃R,P.underlying t2=some (.slice R))\/P.underlying t2=some .string:=by
      have F:Ih i2=true:=by
       cases Q:Ih i2 with
       |true=>rfl
       |false=>exact absurd (.inr (.inr Q)) UV
      unfold Ih at F;split at F
      next R Q=>rw[Q] at M;exact .inl ⟨R,M⟩
      next Q=>rw[Q] at M;exact .inr M
      .cases F
     have D:0<j.size:=by
      rcases QQY j.size with h0 | h0
      .exact absurd (.inl h0) UV
      .exact h0
     have C:j.size<1000:=by
      rcases Nat.lt_or_ge j.size 1000 with h0 | h0
      .exact h0
      .exact absurd (.inr (.inl h0)) UV
     have I:=(hT e j Y).ahS;split at h
     .cases h
     .rename_i m Z aex
      split at h
      .rename_i I'
       obtain⟨G,g1,g2,g3,g4⟩:=Fa (P:=P) H hx aex;split at h
       .
        simp only[af4] at hs;subst hs;split at h
        .rename_i hm
         cases h;subst hm;have O:=CU hT (ty:=ty) z Y K none 0 0 0 X w g3 (L9 _);rw[g4 w (fun _=>rfl)] at O;exact ahc.agr H ⟨_,O,by simp[af4]⟩
        .rename_i hm
         split at h
         .rename_i B
          cases h;obtain⟨nc,J,O⟩:=CT hT (ty:=ty) z Y K none 0 0 m X w [] G g3 (by omega) (by simpa using B.1) (by simpa using B.2) (by simp[Builtin.firstCells]) (g4 w.drew (fun _=>rfl));simp only[QQZ] at O J;have:=UM (P:=P) H (es:=Bf j e) (Qy C) (olds:=[]) (news:=Z) D I (by simp[af5]) g1 (by simpa using g2) J O;simpa using this
         .cases h
       .rename_i b n
        split at h
        .rename_i es cs B
         split at h
         .rename_i hc
          obtain⟨k1,k2,k3,k4⟩:=hc;cases h;obtain⟨hbn,rfl⟩:=hs.slice;have hsl:=H.slot b _ B;simp only[agj] at hsl;obtain⟨W,el,fr,s1,s2,s3,s4,s5⟩:=hsl;obtain⟨s6,s7,s8,s9⟩:=s5 trivial;subst s7;have hes:es%1000=j.size/\(1000<=es->e+1=es / 1000):=by
           rcases k1 with rfl | rfl
           .exact⟨QQd C,fun h1=>by omega⟩
           .exact Qy C
          have s2' :(μ b).es=j.size:=by rw[s2.1];exact hes.1
          have abm:qQ (μ b) 0 none=(μ b).tot / j.size:=by simp[qQ,s2']
          have adV:(μ b).off+0=0:=by omega
          rw[adV,abm];obtain⟨Os,o1,o2,o3⟩:=H.cells B (o:=0) (k:=n*j.size) (by omega);simp only[List.drop_zero] at o1;rw[adV] at o3;have afO:0<j.size:=D;by_cases aaQ:n+m<=(μ b).tot / j.size
          .have O:=CU hT (ty:=ty) z Y K (some ⟨(μ b).blk,0,none⟩) n _ m X w g3 aaQ
           rw[g4 w (fun _=>rfl)] at O;have A:(n+m)*j.size<=(μ b).tot:=by have:=QQf j.size aaQ;exact QQJ this (Nat.div_mul_le_self _ _)
           have hNl:G.length=m*j.size:=by rw[g1.length,g2,]
           have hst:=run_storeCells_at (P:=P) (μ b).blk (n*j.size) el G 0 W w s1 (by rw[hNl,s8,Nat.add_zero,<-Nat.add_mul];exact A) (g1.ahd I');simp only[Result.andThen_ok,Addr.add_lit,QQZ,hst] at O;have Do:cs.length<=W.size:=by rw[s8];exact s3
           have hs' :agj μ mem.length base (w.setRow (μ b).blk (W.toList.take (n*j.size+0)++G++W.toList.drop (n*j.size+0+G.length)).toArray) (μ b) (.cells true es (cs.take (n*j.size)++Z)):=by
            simp only[agj];refine⟨_,el,(0,0),setRow_heap w (μ b).blk W _ el (0,0) s1,s2,?_,fun q u hu=>?_,fun _=>⟨s6,rfl,?_,s9⟩⟩
            .simp only[Nm,P3,g2]
             rw[Nat.add_mul] at A;omega
            .rw[s6,QQZ]
             have e1:(cs.take (n*j.size)).length=n*j.size:=by simp;omega
             have R:(W.toList.take (n*j.size+0)).length=n*j.size:=by simp;omega
             simp only[List.getElem?_toArray,SP];by_cases hq:q<n*j.size
             .rw[Hi (by omega),QQQ hq] at hu
              rw[Hi (by omega),QQQ (by omega)];obtain⟨U,hU,O⟩:=s4 q u hu;rw[s6,QQZ] at hU;exact⟨U,by simpa using hU,O⟩
             .rw[Pi (by omega),e1] at hu
              rw[Pi (by omega),R];obtain⟨U,hU,O⟩:=g1.get _ u hu;rw[Hi (gL hU)];exact⟨U,hU,O⟩
            .simp only[List.size_toArray,Nm,P3,QXZ,QQm,hNl]
             rw[Nat.add_mul] at A;omega
           obtain⟨r1,r2⟩:=H.rename (w' :=w.setRow (μ b).blk (W.toList.take (n*j.size+0)++G++W.toList.drop (n*j.size+0+G.length)).toArray) B rfl rfl rfl rfl (by simp[World.setRow]) (fun k hk=>setRow_other w _ k _ hk) hs';refine⟨_,_,_,O,?_,r1,r2⟩;simp only[af4,fT,qQ,Nm,X3,List.length_singleton];refine⟨by omega,?_⟩;rw[s2',s6];rfl
          .have hO:(Builtin.firstCells j.size n (.slice (some ⟨(μ b).blk,0,none⟩) n ((μ b).tot / j.size))).run P w.drew=.ok ⟨Os⟩ w.drew:=
            run_firstCells_some w.drew j.size n _ _ _ Os (by rw[o2,]) (fun q u hq=>o3 q u hq)
           obtain⟨nc,J,O⟩:=CT hT (ty:=ty) z Y K (some ⟨(μ b).blk,0,none⟩) n _ m X w Os G g3 (by omega) k3 k4 hO (g4 w.drew (fun _=>rfl));have hH2:=H.drop B;have Do:(mem.set b .HS).length=mem.length:=by simp
           have:=UM (P:=P) hH2 (es:=es) hes (olds:=cs.take (n*j.size)) (news:=Z) D I (by rw[Do];exact o1) (by rw[Do];exact g1) (by rw[P3,g2,Nat.add_mul];omega) J O;obtain⟨V,w',μ',q1,q2,q3,q4⟩:=this;rw[] at q2 q3 q4;rw[Do] at q2 q4;exact⟨V,w',μ',q1,q2,q3,(Step.drop (b:=b) (L9 _)).trans q4⟩
         .cases h
        .cases h
       .cases h
      .cases h
   .cases h
  .cases h
end
def U4(T:TypeId->Option TyI)(q:TypeId->AV->Bool)(xs:List AV):List Field->Bool
 | []=>true
 |f::fs=>
  match T f.type with
  |none=>false
  |some i=>match kJ i xs f.offset with
   |some a=>q f.type a&&U4 T q xs fs
   |none=>false
def MG(q:AV->Bool)(i:TyI)(xs:List AV):List Nat->Bool
 | []=>true
 |j::js=>match kJ i xs (j*i.size) with
  |some a=>q a&&MG q i xs js
  |none=>false
def na(T:TypeId->Option TyI):Nat->TypeId->AV->Bool
 |0,_,_=>false
 |d+1,t,x=>
  match T t with
  |none=>false
  |some i=>
   match i.desc,x with
   |.bool,.bool _=>true
   |.int _,.int _ _=>true
   |.string,.str _=>true
   |.struct fs,.agg xs=>U4 T (na T d) xs fs.toList
   |.array n e,.agg xs=>match T e with
    |some j=>MG (na T d e) j xs (List.range' 0 n)
    |none=>false
   |_,_=>false
def kB(T:TypeId->Option TyI)(y:TypeId)(k:AV):List (AV×AV)->Nat->Option (Option (Nat×AV))
 | [],_=>some none
 |e::es,i=>match mI T 20 y k e.1 with
  |some true=>some (some (i,e.2))
  |some false=>kB T y k es (i+1)
  |none=>none
def AV.agT:AV->Bool
 |.bool _ | .int _ _ | .str _=>true
 |_=>false
def kP(mem:Mem):AV->Option (List (AV×AV))
 |.agu=>some []
 |.map b=>match mem[b]? with
  |some (.map es)=>some es
  |some (.agC es)=>some es
  |_=>none
 |_=>none
def mD(T:TypeId->Option TyI)(mem:Mem)(t:TypeId)(m k:AV)(ok:Bool):Option AV:=
 match T t with
 |none=>none
 |some i=>
  match i.desc with
  |.map kt et=>
   match T et,kP mem m with
   |some j,some es=>
    if na T 20 kt k then
     match kB T kt k es 0 with
     |some (some (_,v))=>some (if ok then .tuple [v,.bool true] else v)
     |some none=>some (if ok then .tuple [pe j.zero,.bool false] else pe j.zero)
     |none=>none
    else none
   |_,_=>none
  |_=>none
def fY(T:TypeId->Option TyI)(mem:Mem)(t:TypeId)(m k v:AV):Option Mem:=
 match T t with
 |none=>none
 |some i=>
  match i.desc,m with
  |.map kt _,.map b=>
   match mem[b]? with
   |some (.map es)=>
    if na T 20 kt k then
     match kB T kt k es 0 with
     |some (some (i,_))=>if k.agT then some (mem.set b (.map (es.set i (k,v)))) else none
     |some none=>some (mem.set b (.map (es++[(k,v)])))
     |none=>none
    else none
   |_=>none
  |_,_=>none
variable{K:Value}{k:AV}
section
variable {P:Program}{T:TypeId->Option TyI}{μ:Nat->Place}{mem:Mem}{base:Nat}{w:World}{n:Nat}
theorem Dp(hT:dW P T){d:Nat}{q:TypeId->AV->Bool}{em:Bool}
  (H:∀{t:TypeId}{x:AV}{X:Value},q t x=true->af4 μ n x X->∀(w:World),(Instr.checkKey em d t X).run P w=.ok () w)
  {xs:List AV}{I:List Value}(hx:af5 μ n xs I) (w:World):∀{y:List Field},U4 T q xs y=true->
  ((forIn y PUnit.unit fun f _=>(do
    if f.name ≠ "_" then
     let a <-part f.type ⟨I⟩ f.offset
     Instr.checkKey em d f.type a
     pure (ForInStep.yield PUnit.unit)
    else pure (ForInStep.yield PUnit.unit):Sem (ForInStep PUnit))).run P w=.ok PUnit.unit w)
 | [],_=>by simp
 |f::y,h=>by
  rw[U4] at h;split at h
  .cases h
  .rename_i i S
   split at h
   .rename_i a O
    simp only[Es] at h;obtain⟨A,M,W⟩:=jR (P:=P) (μ:=μ) (n:=n) hT S O hx w;have J:=H h.1 W w;have V:=Dp hT H hx w h.2;rw[List.forIn_cons];by_cases Z:f.name = "_"
    .simp only[Z,ne_eq,not_true_eq_false,if_false,pure_bind]
     simp only[ne_eq] at V;exact V
    .simp only[Z,ne_eq,not_false_eq_true,if_true,Sem.run_bind,M,J,Result.andThen_ok,Sem.run_pure]
     exact V
   .cases h
theorem Dm(hT:dW P T){d:Nat}{e:TypeId}{i:TyI}(y:T e=some i){q:AV->Bool}{em:Bool}
  (I:∀{x:AV}{X:Value},q x=true->af4 μ n x X->∀(w:World),(Instr.checkKey em d e X).run P w=.ok () w)
  {xs:List AV}{Q:List Value}(hx:af5 μ n xs Q) (w:World):∀{H:List Nat},MG q i xs H=true->
  ((forIn H PUnit.unit fun j _=>(do
    let s <-sizeOf e
    let a <-part e ⟨Q⟩ (j*s)
    Instr.checkKey em d e a
    pure (ForInStep.yield PUnit.unit):Sem (ForInStep PUnit))).run P w=.ok PUnit.unit w)
 | [],_=>by simp
 |j::H,h=>by
  rw[MG] at h;split at h
  .rename_i a W
   simp only[Es] at h;obtain⟨A,V,Z⟩:=jR (P:=P) (μ:=μ) (n:=n) hT y W hx w;have S:=I h.1 Z w;have O:=Dm hT y I hx w h.2;rw[List.forIn_cons];simp only[Sem.run_bind,dU hT y,V,S,Result.andThen_ok,Sem.run_pure];exact O
  .cases h
theorem mK(hT:dW P T)(em:Bool):∀(d:Nat) {t:TypeId} {x:AV} {X:Value},na T d t x=true->af4 μ n x X->
  ∀(k:Nat) (w:World),(Instr.checkKey em (d+k) t X).run P w=.ok () w
 |0,_,_,_,h,_,_,_=>by simp[na] at h
 |d+1,t,x,X,h,hx,k,w=>by
  rw[na] at h;rw[show d+1+k=d+k+1 by omega];cases ht:T t with
  |none=>rw[ht] at h;cases h
  |some i=>
   rw[ht] at h;simp only at h;have Z:=(hT t i ht).desc;split at h
   next W=>rw[W] at Z;rw[hx.bool,Instr.checkKey];simp[run_underlying Z]
   next W=>rw[W] at Z;rw[hx.int,Instr.checkKey];simp[run_underlying Z]
   next W=>rw[W] at Z;rw[hx.str,Instr.checkKey];simp[run_underlying Z]
   .rename_i F M W
    rw[W] at Z;obtain⟨J,rfl,V⟩:=hx.agg;have:=Dp (em:=em) hT (fun S O w=>mK hT em d S O k w) V w h;rw[Instr.checkKey];simp only[Sem.run_bind,run_underlying Z,Result.andThen_ok];rw[<-Array.forIn_toList];rw[this];rfl
   .rename_i m e M W
    rw[W] at Z;split at h
    .rename_i j G
     obtain⟨J,rfl,V⟩:=hx.agg;have:=Dm (em:=em) hT G (fun S O w=>mK hT em d S O k w) V w h;rw[Instr.checkKey];simp only[Sem.run_bind,run_underlying Z,Result.andThen_ok];simp only[Std.Legacy.Range.forIn_eq_forIn_range',Std.Legacy.Range.size,QXX,Nat.add_sub_cancel,Nat.div_one];rw[this];rfl
    .cases h
   .cases h
def PK(μ:Nat->Place)(n:Nat):Option (Nat×AV)->Option (Nat×Value)->Prop
 |some (a,v),some (b,V)=>a=b/\af4 μ n v V
 |none,none=>True
 |_,_=>False
theorem qI(hT:dW P T){H:TypeId}{k:AV}{K:Value}(hk:af4 μ n k K)(w:World):∀{es:List (AV×AV)} {y:List MapEntry} {i:Nat} {r:Option (Nat×AV)},
  y.length=es.length->(∀(j:Nat) e,es[j]? =some e->∃E,y[j]? =some E/\QJ μ n e E)->kB T H k es i=some r->
  ∃R,(Instr.findAsking H K y i).run P w=.ok R w/\PK μ n r R
 | [],y,i,r,hl,_,h=>by have:y=[]:=M0 hl;subst this;simp only[kB,N3] at h;subst h;exact⟨none,by simp[Instr.findAsking],trivial⟩
 |e::es,[],i,r,hl,_,h=>by simp at hl
 |e::es,E::y,i,r,hl,hr,h=>by
  rw[kB] at h;obtain⟨X,O,W⟩:=hr 0 e rfl;simp at O;subst O;have V:∀(j:Nat) Z,es[j]? =some Z ->∃X,y[j]? =some X /\QJ μ n Z X :=fun j Z he=>by simpa using hr (j+1) Z (by simpa using he)
  split at h
  .rename_i S
   cases h;have:=jP hT 20 S hk W.1 9980 w;refine⟨some (i,E.val),?_,rfl,W.2⟩;simp only[Instr.findAsking,Sem.run_bind];rw[show Op.equal H K E.key=Op.equalIn (20+9980) H K E.key from rfl,this];simp
  .rename_i S
   have:=jP hT 20 S hk W.1 9980 w;obtain⟨R,M,J⟩:=qI hT hk w (by simpa using hl) V h;refine⟨R,?_,J⟩;simp only[Instr.findAsking,Sem.run_bind];rw[show Op.equal H K E.key=Op.equalIn (20+9980) H K E.key from rfl,this];simpa using M
  .cases h
theorem uN(hT:dW P T){y:TypeId}{Q:TypeDesc}(I:P.underlying y=some Q){k:AV}{K:Value}(hk:af4 μ n k K)(w:World):
  ∀{es:List (AV×AV)}{H:List MapEntry}{i:Nat}{r:Option (Nat×AV)}{R:Option (Nat×Value)},
  H.length=es.length->(∀(j:Nat) e,es[j]? =some e->∃E,H[j]? =some E/\QJ μ n e E)->kB T y k es i=some r->Instr.findNow Q K H i=some R->
  (Instr.findAsking y K H i).run P w=.ok R w
 | [],H,i,r,R,hl,_,_,h=>by have:H=[]:=M0 hl;subst this;simp only[Instr.findNow,N3] at h;subst h;simp[Instr.findAsking]
 |e::es,[],i,r,R,hl,_,_,h=>by simp at hl
 |e::es,E::H,i,r,R,hl,hr,hf,h=>by
  obtain⟨M,D,C⟩:=hr 0 e rfl;simp at D;subst D;have J:∀(j:Nat) O,es[j]? =some O ->∃M,H[j]? =some M /\QJ μ n O M :=fun j O he=>by simpa using hr (j+1) O (by simpa using he)
  rw[kB] at hf;have X:∀b,mI T 20 y k e.1=some b->∀W,Instr.sameNow Q K E.key=some W ->W =b:=by
   intro b G W Z;have he:=jP hT 20 G hk C.1 9980 w;unfold Instr.sameNow at Z;split at Z
   .rename_i A a z c B V
    split at Z
    .rename_i F
     cases Z;rw[V] at he;subst F;rw[run_equalIn_int w _ y _ _ _ _ I] at he;cases he;rfl
    .cases Z
   .rename_i a c B V
    cases Z;rw[V] at he;rw[run_equalIn_string w _ y _ _ I] at he;cases he;rw[beq_toListBytes]
   .rename_i a c B V
    cases Z;rw[V] at he;rw[run_equalIn_bool' w _ y _ _ I] at he;cases he;rfl
   .cases Z
  rw[Instr.findNow] at h;have step:∀b,mI T 20 y k e.1=some b->(Instr.findAsking y K (E::H) i).run P w=if b then .ok (some (i,E.val)) w else (Instr.findAsking y K H (i+1)).run P w:=by intro b G;have he:=jP hT 20 G hk C.1 9980 w;simp only[Instr.findAsking,Sem.run_bind];rw[show Op.equal y K E.key=Op.equalIn (20+9980) y K E.key from rfl,he];cases b<;>simp
  split at hf
  .rename_i S
   rw[step _ S];cases hs:Instr.sameNow Q K E.key with
   |none=>rw[hs] at h;cases h
   |some W =>
    have:=X _ S _ hs;subst this;rw[hs] at h;simp only[N3] at h;subst h;simp
  .rename_i S
   rw[step _ S];cases hs:Instr.sameNow Q K E.key with
   |none=>rw[hs] at h;cases h
   |some W =>
    have:=X _ S _ hs;subst this;rw[hs] at h;simp only at h;simpa using uN hT I hk w (by simpa using hl) J hf h
  .cases hf
theorem iO(hT:dW P T){y:TypeId}{I:TyI}(Q:T y=some I)(hk:af4 μ n k K){es:List (AV×AV)}{H:List MapEntry}{r:Option (Nat×AV)}(Y:H.length=es.length)(hr:∀(j:Nat) e,es[j]? =some e->∃E,H[j]? =some E/\QJ μ n e E)(h:kB T y k es 0=some r)(w:World):
  ∃R,(Instr.findKey y K H).run P w=.ok R w/\PK μ n r R:=by
 have Z:=(hT y I Q).desc;obtain⟨R,X,W⟩:=qI hT hk w Y hr h;refine⟨R,?_,W⟩;simp only[Instr.findKey,Sem.run_bind,run_underlying Z,Result.andThen_ok];cases hn:Instr.findNow I.desc K H 0 with
 |none=>simpa using X
 |some R' =>
  have:=uN hT Z hk w Y hr h hn;rw[this] at X;cases X;simp
theorem HA(hT:dW P T)(hH:agh base μ mem w){t:TypeId}{m k v:AV}{M:Value}{ok:Bool}(y:af4 μ mem.length m M)(hk:af4 μ mem.length k K)(h:mD T mem t m k ok=some v):Val P (Instr.lookup t M K ok) w μ mem.length v:=by
 unfold mD at h;cases ht:T t with
 |none=>rw[ht] at h;cases h
 |some i=>
  rw[ht] at h;simp only at h;have J:=(hT t i ht).desc;split at h
  .rename_i kt et F'
   rw[F'] at J;split at h
   .rename_i j es hj Z
    split at h
    .rename_i X
     have z:∃S:Array MapEntry,(M=.map none/\S= #[]\/∃r c,M=.map (some r)/\(getObj r).run P w=.ok (.map S c) w)/\S.toList.length=es.length/\
       ∀(j:Nat) e,es[j]? =some e->∃E,S.toList[j]? =some E/\QJ μ mem.length e E:=by
      unfold kP at Z;split at Z
      .cases Z
       simp only[af4] at y;subst y;exact⟨#[],.inl ⟨rfl,rfl⟩,rfl,by simp⟩
      .rename_i b
       split at Z
       .rename_i u Y
        cases Z;simp only[af4] at y;obtain⟨_,rfl⟩:=y;have G:=hH.slot b _ Y;simp only[agj] at G;obtain⟨Q,I,H,_,h2,h3⟩:=G;refine⟨Q,.inr ⟨_,I,rfl,by simp[getObj,Sem.run,H]⟩,by simpa using h2,fun j e he=>?_⟩;obtain⟨E,hE,hr⟩:=h3 j e he;exact⟨E,by simpa using hE,hr⟩
       .rename_i u Y
        cases Z;simp only[af4] at y;obtain⟨_,rfl⟩:=y;have G:=hH.slot b _ Y;simp only[agj] at G;obtain⟨Q,I,H,_,h2,h3⟩:=G;refine⟨Q,.inr ⟨_,I,rfl,by simp[getObj,Sem.run,H]⟩,by simpa using h2,fun j e he=>?_⟩;obtain⟨E,hE,hr⟩:=h3 j e he;exact⟨E,by simpa using hE,hr⟩
       .cases Z
      .cases Z
     obtain⟨S,O,e2,e3⟩:=z;have W:=mK (P:=P) (n:=mem.length) hT S.isEmpty 20 X hk 9980 w;have hkt:∃B,T kt=some B:=by
      rw[na] at X;cases hx:T kt with
      |none=>rw[hx] at X;cases X
      |some B=>exact⟨B,rfl⟩
     obtain⟨B,F⟩:=hkt;split at h
     .rename_i q v' hf
      cases h;obtain⟨R,D,A⟩:=iO hT F hk e2 e3 hf w;cases R with
      |none=>exact A.elim
      |some x=>
       obtain⟨_,V⟩:=x;have C:=A.2;refine⟨if ok then .tuple #[V,.bool true] else V,?_,?_⟩
       .rcases O with⟨rfl,rfl⟩ | ⟨r,c,rfl,O⟩
        .simp only[Instr.lookup,Sem.run_bind,run_underlying J,Result.andThen_ok,Sem.run_pure]
         rw[show(10000:Nat)=20+9980 from rfl,W];simp only[Result.andThen_ok,D,Sem.run_pure,Sem.run_bind]
        .simp only[Instr.lookup,Sem.run_bind,run_underlying J,Result.andThen_ok,O,Sem.run_pure]
         rw[show(10000:Nat)=20+9980 from rfl,W];simp only[Result.andThen_ok,D,Sem.run_pure,Sem.run_bind]
       .cases ok
        .exact C
        .simp only[if_true,af4];exact⟨[V,.bool true],rfl,br.2 ⟨C,br.2 ⟨by simp[af4],by simp[af5]⟩⟩⟩
     .rename_i hf
      cases h;obtain⟨R,D,A⟩:=iO hT F hk e2 e3 hf w;cases R with
      |some x=>exact A.elim
      |none=>
       have C:=yQ μ mem.length j.zero;refine⟨if ok then .tuple #[j.zero,.bool false] else j.zero,?_,?_⟩
       .rcases O with⟨rfl,rfl⟩ | ⟨r,c,rfl,O⟩
        .simp only[Instr.lookup,Sem.run_bind,run_underlying J,Result.andThen_ok,Sem.run_pure]
         rw[show(10000:Nat)=20+9980 from rfl,W];simp only[Result.andThen_ok,D,Sem.run_pure,Sem.run_bind,gj hT hj]
        .simp only[Instr.lookup,Sem.run_bind,run_underlying J,Result.andThen_ok,O,Sem.run_pure]
         rw[show(10000:Nat)=20+9980 from rfl,W];simp only[Result.andThen_ok,D,Sem.run_pure,Sem.run_bind,gj hT hj]
       .cases ok
        .exact C
        .simp only[if_true,af4];exact⟨[j.zero,.bool false],rfl,br.2 ⟨C,br.2 ⟨by simp[af4],by simp[af5]⟩⟩⟩
     .cases h
    .cases h
   .cases h
  .cases h
theorem tG{y :Value}{e:AV}{b:Bool}{H:TypeId}(hs:k.agT=true)(hk:af4 μ n k K)(he:af4 μ n e y)(h:mI T 20 H k e=some b)(I:b=true):
  Instr.sameBits 10000 y K=true:=by
 subst I;rw[mI] at h;cases ht:T H with
 |none=>rw[ht] at h;cases h
 |some i=>
  rw[ht] at h;simp only at h;split at h
  .rw[hk.bool,he.bool]
   simp only[N3] at h;simp only[Instr.sameBits];rw[beq_iff_eq] at h |-;exact h.symm
  .split at h
   .rename_i Z
    subst Z;simp only[N3,L0] at h;rw[hk.int,he.int,h];simp[Instr.sameBits]
   .cases h
  .rw[hk.str,he.str]
   simp only[N3,beq_iff_eq] at h;rw[h];simp only[Instr.sameBits];rw[beq_toListBytes];simp
  .cases hs
  .cases hs
  .cases h
theorem oZ{y:TypeId}{k:AV}:∀{es:List (AV×AV)} {i q:Nat} {v:AV},kB T y k es i=some (some (q,v))->∃j e,q=i+j/\es[j]? =some e/\mI T 20 y k e.1=some true
 | [],i,q,v,h=>by simp[kB] at h
 |e::es,i,q,v,h=>by
  rw[kB] at h;split at h
  next Z=>cases h;exact⟨0,e,rfl,rfl,Z⟩
  .obtain⟨j,X,V,W,h3⟩:=oZ h
   exact⟨j+1,X,by omega,by simpa using W,h3⟩
  .cases h
theorem ui{r:Nat}{o o' :Obj}(h:w.heap[r]? =some o)(y:∀c e f,o≠ .cells c e f):(setObj r o').run P w=.ok () { w with heap:=w.heap.setIfInBounds r o' }:=by simp only[setObj,Sem.run,h];try (split<;>first | (rename_i Z;cases Z;exact absurd rfl (y _ _ _)) | rfl | simp_all)
theorem A6(hT:dW P T)(hH:agh base μ mem w){t:TypeId}{m k v:AV}{M K V:Value}{mem' :Mem}(hm:af4 μ mem.length m M)(hk:af4 μ mem.length k K)(hv:af4 μ mem.length v V)(h:fY T mem t m k v=some mem'):∃w',(Instr.mapUpdate t M K V).run P w=.ok () w' /\agh base μ mem' w' /\Step mem.length μ mem w μ mem' w' :=by
 unfold fY at h;cases ht:T t with
 |none=>rw[ht] at h;cases h
 |some i=>
  rw[ht] at h;simp only at h;have hd:=(hT t i ht).desc;split at h
  .rename_i kt et b F'
   rw[F'] at hd;split at h
   .rename_i es H
    split at h
    .rename_i G
     simp only[af4] at hm;obtain⟨hbn,rfl⟩:=hm;have hs:=hH.slot b _ H;simp only[agj] at hs;obtain⟨B,z,h1,S,y,h3⟩:=hs;have hg:(getObj (μ b).blk).run P w=.ok (.map B z) w:=by simp[getObj,Sem.run,h1]
     have u:=mK (P:=P) (n:=mem.length) hT false 20 G hk 9980 w;have hkt:∃ki,T kt=some ki:=by
      rw[na] at G;cases hx:T kt with
      |none=>rw[hx] at G;cases G
      |some ki=>exact⟨ki,rfl⟩
     obtain⟨ki,Y⟩:=hkt;have e2:B.toList.length=es.length:=by simpa using y
     have e3:∀(j:Nat) e,es[j]? =some e->∃E,B.toList[j]? =some E/\QJ μ mem.length e E:=fun j e he=>by obtain⟨E,hE,hr⟩:=h3 j e he;exact⟨E,by simpa using hE,hr⟩
     have B':(μ b).blk<w.heap.size:=(Ns.1 h1).1;have Q:∀(W :Array MapEntry) (O :Nat) (J :List (AV×AV)),Fe W O ->W.size=J.length->(∀(j:Nat) e,J[j]? =some e->∃E,W[j]? =some E/\QJ μ mem.length e E)->
       (setObj (μ b).blk (.map W O)).run P w=.ok () { w with heap:=w.heap.setIfInBounds (μ b).blk (.map W O) }/\
       agh base μ (mem.set b (.map J)) { w with heap:=w.heap.setIfInBounds (μ b).blk (.map W O) }/\Step mem.length μ mem w μ (mem.set b (.map J)) { w with heap:=w.heap.setIfInBounds (μ b).blk (.map W O) }:=by
      intro W O J g0 I A;refine⟨ui h1 (by simp),hH.write H (MZ H) (fun _=>⟨_,X1 (gL H),rfl⟩) rfl rfl rfl rfl (by simp) (fun q hq=>?_) ?_⟩
      .simp[X2 (Ne.symm hq)]
      .simp only[agj]
       exact⟨W,O,by simp[B'],⟨S.1,g0⟩,I,A⟩
     split at h
     .rename_i q v' hf
      split at h
      .rename_i hsc
       cases h;obtain⟨R,I,A⟩:=iO hT Y hk e2 e3 hf w;cases R with
       |none=>exact A.elim
       |some x=>
        obtain⟨q',V'⟩:=x;obtain⟨rfl,_⟩:=A;obtain⟨j,e,hq,he,T'⟩:=oZ hf;have hq' :q=j:=by omega
        subst hq';obtain⟨E,hE,hr⟩:=h3 q e he;have hsb:=tG (μ:=μ) (n:=mem.length) hsc hk hr.1 T' rfl;obtain⟨f1,f2,f3⟩:=Q (B.modify q fun e=>{ e with key:=K,val:=V }) z (es.set q (k,v)) ⟨by simpa using S.2.1,fun j F Z =>by
         rw[Array.getElem?_modify] at Z;split at Z
         .simp only[Pl] at Z
          obtain⟨E0,k1,rfl⟩:=Z;exact S.2.2 j E0 k1
         .exact S.2.2 j F Z⟩ (by simpa using y) (fun j e' X =>by
         rw[List.getElem?_set] at X;by_cases D:q=j
         .subst D
          have X' :q<es.length:=gL he;simp only[if_true,X',N3] at X;subst X;exact⟨{ E with key:=K,val:=V },by simp[Array.getElem?_modify,hE],hk,hv⟩
         .rw[if_neg D] at X
          obtain⟨F,Z,C⟩:=h3 j e' X;exact⟨F,by simp[Array.getElem?_modify,D,Z],C⟩)
        refine⟨_,?_,f2,f3⟩;simp only[Instr.mapUpdate,Sem.run_bind,run_underlying hd,Result.andThen_ok,hg];rw[show(10000:Nat)=20+9980 from rfl,u];simp only[Result.andThen_ok,I,Sem.run_bind];have aa':(Instr.keyThatStays (((B[q]?).map (·.key)).getD K) K).run P w=.ok K w:=by unfold Instr.keyThatStays;rw[hE];simp only[Option.map_some,Option.getD_some,hsb,if_true];rfl
        rw[aa'];simpa using f1
      .cases h
     .rename_i hf
      cases h;obtain⟨R,I,A⟩:=iO hT Y hk e2 e3 hf w;cases R with
      |some x=>exact A.elim
      |none=>
       obtain⟨f1,f2,f3⟩:=Q (B.push { key:=K,val:=V,born:=z }) (z+1) (es++[(k,v)]) ⟨by simp[S.2.1],fun j F Z =>by
        rw[Array.getElem?_push] at Z;split at Z
        next hj=>cases Z;rw[hj];exact S.2.1
        .exact S.2.2 j F Z⟩ (by simp[y]) (fun j e' X =>by
        by_cases hj:j<es.length
        .rw[Hi hj] at X
         obtain⟨F,Z,C⟩:=h3 j e' X;exact⟨F,by rw[Array.getElem?_push,if_neg (by omega)];exact Z,C⟩
        .have hje:j=es.length:=by have:=(gL X);simp at this;omega
         subst hje;simp at X;subst X;exact⟨{ key:=K,val:=V,born:=z },by rw[Array.getElem?_push,if_pos y.symm],hk,hv⟩)
       refine⟨_,?_,f2,f3⟩;simp only[Instr.mapUpdate,Sem.run_bind,run_underlying hd,Result.andThen_ok,hg];rw[show(10000:Nat)=20+9980 from rfl,u];simp only[Result.andThen_ok,I];exact f1
     .cases h
    .cases h
   .cases h
  .cases h
theorem H0(y:agh base μ mem w){t:TypeId}:ahc P (Instr.makeMap t none) base μ mem w (.map mem.length) (mem++[.map []]):=by
 obtain⟨Z,X⟩:=y.push (.map #[] 0) (.map []) ⟨w.heap.size,0,0,0⟩ rfl (by simp only[agj];exact⟨#[],0,heap_alloc_new w _,⟨y.agb,rfl,by simp⟩,rfl,by simp⟩)
 refine⟨.map (some w.heap.size),_,_,?_,?_,Z,X⟩
 .simp only[Instr.makeMap,Sem.run_bind,Sem.run_pure,run_newObj,Result.andThen_ok]
  rfl
 .simp[af4,fT]
end
end Go.Eng
namespace Go.Eng
def jV:List AV->Option (List UInt8)
 | []=>some []
 |.int .u8 n::l=>if 0<=n/\n<256 then match jV l with
  |some r=>some (UInt8.ofNat n.toNat::r)
  |none=>none
  else none
 |_::_=>none
def tO(mem:Mem)(x:AV):Option AV:=match x with
 |.slice b o n none=>match mem[b]? with
  |some (.cells _ es cs)=>if 0<n/\0<es%1000/\o+n*(es%1000)<=cs.length then some (.ptr b o) else none
  |_=>none
 |_=>none
def yV(T:TypeId->Option TyI)(mem:Mem)(pt:TypeId)(x l:AV):Option (AV×Mem):=match T pt,x,l with
 |some i,.ptr b 0,.int .i64 n=>match i.desc with
  |.pointer e=>match T e,mem[b]? with
   |some j,some (.cells true es cs)=>
    if j.size=1/\es=1+1000*(e+1)/\0<n/\n<=cs.length/\n<=9223372036854775807 then match jV (cs.take n.toNat) with
     |some s=>some (.str s,mem.set b .HS)
     |none=>none
    else none
   |_,_=>none
  |_=>none
 |_,_,_=>none
theorem Zc(a es:Nat)(h:es=1+1000*(a+1)):1000<=es/\es / 1000=a+1/\es%1000=1:=by omega
theorem FM:∀{l:List AV} {s:List UInt8},jV l=some s->s.length=l.length/\∀(j:Nat) x,s[j]? =some x->l[j]? =some (.int .u8 (x.toNat:Int))
 | [],s,h=>by cases h;exact⟨rfl,fun j x Z=>by simp at Z⟩
 |v::l,s,h=>by
  cases v<;>try (unfold jV at h;cases h;done)
  rename_i k n;cases k<;>try (unfold jV at h;cases h;done)
  unfold jV at h;split at h
  .rename_i S
   split at h
   .rename_i r X
    cases h;obtain⟨W,V⟩:=FM X;refine⟨by simp[W],fun j x Z=>?_⟩;cases j with
    |zero=>
     simp at Z;subst Z;simp only[List.getElem?_cons_zero,N3,AV.int.injEq,true_and];rw[UInt8.toNat_ofNat'];have:n.toNat%256=n.toNat:=QQd (by omega);show n=((n.toNat%256:Nat):Int)
     rw[this];omega
    |succ j=>simpa using V j x (by simpa using Z)
   .cases h
  .cases h
theorem O6(w:World)(a:Addr)(n:Nat):(w.freeze a n).heap.size=w.heap.size:=by unfold World.freeze;split<;>simp
theorem MC(w:World)(a:Addr)(n k:Nat)(h:k≠a.block):(w.freeze a n).heap[k]? =w.heap[k]? :=by
 unfold World.freeze;split
 .rfl
 .simp only[Array.getElem?_modify,if_neg (Ne.symm h)]
section
variable {P:Program}{T:TypeId->Option TyI}{μ:Nat->Place}{mem:Mem}{base:Nat}{w:World}
theorem A7(y:agh base μ mem w){x v:AV}{X:Value}(ts:Array TypeId)(ty:TypeId)(hx:af4 μ mem.length x X)(h:tO mem x=some v):Val P (Builtin.unsafeSliceData_ ts ty #[X]) w μ mem.length v:=by
 unfold tO at h;split at h
 .rename_i b o n
  split at h
  .rename_i own es K S
   split at h
   .rename_i hc
    cases h;obtain⟨Z,rfl⟩:=hx.slice;have V:=y.slot b _ S;simp only[agj] at V;obtain⟨O,el,J,G,M,F,_,_⟩:=V;have W:qQ (μ b) o none≠0:=by
     simp only[qQ,M.1];have:n<=((μ b).tot-o) / (es%1000):=by rw[Nat.le_div_iff_mul_le hc.2.1];omega
     omega
    exact⟨_,Lib.run_unsafeSliceData_row _ _ _ _ _ _ W,by simp[af4,Z]⟩
   .cases h
  .cases h
 .cases h
theorem HD(hT:dW P T)(H:agh base μ mem w){pt I ty:TypeId}{x l v:AV}{X L:Value}{y :Mem}(hx:af4 μ mem.length x X)(Q:af4 μ mem.length l L)(h:yV T mem pt x l=some (v,y)):
  ahc P (Builtin.unsafeString_ #[pt,I] ty #[X,L]) base μ mem w v y :=by
 unfold yV at h;split at h
 .rename_i i b n R
  split at h
  .rename_i e hd
   split at h
   .rename_i j es cs hj M
    split at h
    .rename_i hc
     obtain⟨c1,c2,c3,c4,c5⟩:=hc;split at h
     .rename_i s hs
      cases h;obtain⟨g1,g2⟩:=FM hs;have hX:=hx.ptr;have hL:=Q.int;have Z:=(hT pt i R).desc;rw[hd] at Z;obtain⟨f,hf,K,_,_⟩:=(hT e j hj).info;have J:P.cellsOf e=1:=by unfold Program.cellsOf;rw[hf];simp[K,c1]
      have W:=H.slot b _ M;simp only[agj] at W;obtain⟨S,el,fr,z,s2,s3,s4,s5⟩:=W;obtain⟨m,rfl,s8,s9⟩:=s5 trivial;have G:el=e:=by obtain⟨q1,q2,_⟩:=Zc e es c2;have:=s2.2 q1;rw[q2] at this;exact Nat.succ.inj this
      subst G;have F:s.length=n.toNat:=by rw[g1,P3];omega
      have hn:n=(s.length:Int):=by omega
      rw[hX.2,hL,hn,m];have D:w.shape? (μ b).blk=some (el,S.size):=by simp[World.shape?,z]
      have C:=Lib.run_unsafeString_row (P:=P) w pt I ty el Z J (μ b).blk S.size D s (by intro e;rw[e] at F;simp at F;omega) (by rw[s8];omega) (by omega) (fun q u hq=>by
       have Y:=g2 q u hq;have B:q<n.toNat:=by rw[<-F];exact(gL hq)
       rw[QQQ B] at Y;obtain⟨V,A,hr⟩:=s4 q _ Y;rw[hr.int] at A;rw[m,QQZ] at A;simp only[Addr.add_lit,World.cell?,z,QQZ];exact A)
      have IR:¬s.length=0:=by omega
      have O:(w.freeze ⟨(μ b).blk,0,none⟩ s.length).os=w.os/\(w.freeze ⟨(μ b).blk,0,none⟩ s.length).tape=w.tape/\(w.freeze ⟨(μ b).blk,0,none⟩ s.length).output=w.output/\(w.freeze ⟨(μ b).blk,0,none⟩ s.length).drawn=w.drawn:=by unfold World.freeze;rw[if_neg IR];exact⟨rfl,rfl,rfl,rfl⟩
      obtain⟨k1,k2⟩:=H.write (w' :=w.freeze ⟨(μ b).blk,0,none⟩ s.length) (s' :=.HS) M (qi M) (fun h=>absurd rfl h) O.2.2.2 O.1 O.2.1 O.2.2.1 (O6 ..) (fun k hk=>MC _ _ _ _ hk) trivial;refine⟨_,_,μ,C,by simp[af4],k1,?_⟩;exact k2
     .cases h
    .cases h
   .cases h
  .cases h
 .cases h
end
section
variable {P:Program}{T:TypeId->Option TyI}{μ:Nat->Place}{mem:Mem}{base:Nat}{w:World}
def oP(T:TypeId->Option TyI)(mem:Mem)(s d:TypeId):AV->Option (AV×Mem)
 |.str l=>match T s,T d with
  |some i,some j=>match i.desc,j.desc with
   |.string,.slice e=>match T e with
    |some k=>match k.desc with
     |.int .u8=>some (.slice mem.length 0 l.length none,mem++[.cells false 1 (l.map fun c=>.int .u8 c.toNat)])
     |_=>none
    |none=>none
   |_,_=>none
  |_,_=>none
 |_=>none
theorem MB(w:World)(y:Array Value)(e:TypeId)(n:Nat):
  (w.alloc (.cells y e)).freeze ⟨w.heap.size,n,none⟩ 1=w.alloc (.cells y e (n,n+1)):=by
 unfold World.freeze;rw[if_neg (by decide)];simp only[World.alloc];congr 1;apply Array.ext
 .simp
 .intro k Z W
  simp only[Array.getElem_modify,Array.getElem_push];by_cases X:k<w.heap.size
  .simp[X];omega
  .simp at Z
   have:k=w.heap.size:=by omega
   subst this;simp
theorem AW(hT:dW P T)(H:agh base μ mem w){s d:TypeId}{x v:AV}{X:Value}{y :Mem}(hx:af4 μ mem.length x X)(h:oP T mem s d x=some (v,y)):
  ahc P (convert s d X) base μ mem w v y :=by
 unfold oP at h;split at h
 .rename_i l
  split at h
  .rename_i i j A z
   have F:=(hT s i A).desc;have D:=(hT d j z).desc;split at h
   .rename_i e V S
    rw[V] at F;rw[S] at D;split at h
    .rename_i k m
     have h3:=(hT e k m).desc;split at h
     .rename_i O
      rw[O] at h3;cases h;rw[hx.str];let c:=grownCap w l.length 0 e
      have hc:l.length<=c:=grownCap_ge w l.length 0 e;let Cs:Array Value:=(l.map fun c=>Value.int .u8 c.toNat).toArray++Array.replicate (c-l.length) (.int .u8 0)
      have Z:Cs.size=c:=by simp[Cs];omega
      have M:agh base μ mem w.drew:=H.ag4 rfl;obtain⟨Y,R⟩:=M.push (.cells Cs e (Cs.size,Cs.size+1)) (.cells false 1 (l.map fun c=>.int .u8 c.toNat)) ⟨w.heap.size,0,Cs.size,1⟩ rfl (by simp only[agj];refine⟨Cs,e,(Cs.size,Cs.size+1),heap_alloc_new w.drew _,aih.small rfl (by decide),by simp[Z];exact hc,fun q u hu=>?_,fun h=>by cases h⟩;rw[QQX,Pl] at hu;obtain⟨a,C,rfl⟩:=hu;have hq:=gL C;refine⟨.int .u8 a.toNat,?_,by simp[af4]⟩;simp only[QQZ,Cs];rw[Array.getElem?_append_left (by simpa using hq)];simp[C])
      refine⟨.slice (some ⟨w.heap.size,0,none⟩) l.length c,w.drew.alloc (.cells Cs e (Cs.size,Cs.size+1)),_,?_,?_,Y,?_⟩
      .have Q:(Question.appendCap l.length 0 e).forced=false:=by simp[Question.forced]
       have I:(ByteArray.mk l.toArray).size=l.length:=tP ..;have K :(ByteArray.mk l.toArray).data.map (fun b=>Value.int .u8 b.toNat)++Array.replicate (c-l.length) (.int .u8 0)=Cs:=by simp[Cs]
       have J:(w.drew.alloc (.cells Cs e)).shape? w.heap.size=some (e,Cs.size):=by unfold World.shape?;rw[show(w.drew.alloc (.cells Cs e)).heap[w.heap.size]? =_ from heap_alloc_new w.drew _]
       have W:=MB w.drew Cs e Cs.size;have B:w.drew.heap.size=w.heap.size:=rfl;rw[B] at W;simp only[convert,Sem.run_bind,run_underlying F,run_underlying D,run_underlying h3,Result.andThen_ok,Conv.stringToBytes,choose,Sem.run,Q,Bool.false_eq_true,if_false,I];change ((newRow e ((ByteArray.mk l.toArray).data.map (fun b=>Value.int .u8 b.toNat)++Array.replicate (c-l.length) (.int .u8 0))).run P w.drew).andThen _=_;rw[K];simp only[newRow,run_newObj,Result.andThen_ok,Sem.run_bind,markStringish,shape,freeze,Sem.run];have G:({ heap:=w.drew.heap.push (Obj.cells Cs e),tape:=w.drew.tape,drawn:=w.drew.drawn,os:=w.drew.os,output:=w.drew.output }:World)=w.drew.alloc (.cells Cs e):=rfl;simp only[Sem.run_pure,Result.andThen_ok,G,B,J,Sem.run,W];rfl
      .simp only[af4,fT,qQ,Nm,List.length_singleton]
       refine⟨by omega,?_⟩;simp[Z]
      .exact(Step.drew (m0:=mem.length) (L9 _)).trans R
     .cases h
    .cases h
   .cases h
  .cases h
 .cases h
end
section
variable {P:Program}{T:TypeId->Option TyI}{μ:Nat->Place}{mem:Mem}{base:Nat}{w:World}
end
section
variable {P:Program}{T:TypeId->Option TyI}{μ:Nat->Place}{mem:Mem}{base:Nat}{w:World}
theorem agh.HS(h:agh base μ mem w)(p:Place):agh base (upd μ mem.length p) (mem++[.HS]) w/\Step mem.length μ mem w (upd μ mem.length p) (mem++[.HS]) w:=by
 have hμ:∀b,b<mem.length->upd μ mem.length p b=μ b:=fun b W=>yg W
 have X:∀{b:Nat}{s:af6},(mem++[af6.HS])[b]? =some s->s≠ .HS->b<mem.length/\mem[b]? =some s:=by
  intro b s Z S;by_cases O:b<mem.length
  .rw[Hi O] at Z;exact⟨O,Z⟩
  .exfalso
   have M:b=mem.length:=by have:=gL Z;simp at this;omega
   subst M;simp at Z;exact S Z.symm
 have own:∀{b:Nat},fJ (mem++[af6.HS]) b->b<mem.length/\fJ mem b:=by rintro b ⟨s,Z,ho⟩;have:=X Z (af6.agE ho);exact⟨this.1,s,this.2,ho⟩
 refine⟨⟨h.agb,fun b s Z=>?_,fun b D C W B S K=>?_⟩,?_⟩
 .by_cases V:s=.HS
  .subst V;trivial
  .obtain⟨O,J⟩:=X Z V
   rw[hμ b O];exact(h.slot b s J).mono (by simp) hμ fun _=>rfl
 .obtain⟨G,F⟩:=own W
  obtain⟨h3,A⟩:=X B S;rw[hμ b G,hμ D h3];exact h.sep b D C F A S K
 .exact⟨by simp,hμ,rfl,rfl,rfl,L9 _,fun _ _ _=>rfl,fun b W _=>by obtain⟨G,F⟩:=own W;exact⟨b,F,(congrArg Place.blk (hμ b G)).symm⟩,L9 _⟩
end
section
variable {P:Program}{T:TypeId->Option TyI}{μ:Nat->Place}{mem:Mem}{base:Nat}{w:World}
end
def ss(T:TypeId->Option TyI)(mem:Mem)(t:TypeId)(m k:AV):Option (AV×Mem):=
 match T t with
 |none=>none
 |some i=>
  match i.desc,m with
  |.map kt et,.map b=>
   match T et,mem[b]? with
   |some j,some (.map es)=>
    if na T 20 kt k then
     match kB T kt k es 0 with
     |some (some (q,v))=>if k.agT then some (.tuple [v,.int .i64 q],mem.set b (.map (es.set q (k,v)))) else none
     |some none=>some (.tuple [pe j.zero,.int .i64 es.length],mem.set b (.map (es++[(k,pe j.zero)])))
     |none=>none
    else none
   |_,_=>none
  |_,_=>none
def mC(mem:Mem)(m s v:AV):Option Mem:=
 match m,s with
 |.map b,.int _ (.ofNat q)=>match mem[b]? with
  |some (.map es)=>match es[q]? with
   |some e=>some (mem.set b (.map (es.set q (e.1,v))))
   |none=>none
  |_=>none
 |_,_=>none
variable{FS:Array MapEntry}
section
variable {P:Program}{T:TypeId->Option TyI}{μ:Nat->Place}{mem:Mem}{base:Nat}{w:World}{n:Nat}
theorem Mv{y:TypeId}{k:AV}:∀{es:List (AV×AV)} {i q:Nat} {v:AV},kB T y k es i=some (some (q,v))->(es[q-i]?).map (·.2)=some v
 | [],i,q,v,h=>by simp[kB] at h
 |e::es,i,q,v,h=>by
  have X:=oZ h;rw[kB] at h;split at h
  .cases h;simp
  .have:=Mv h
   obtain⟨j,W,Z,V,h3⟩:=oZ h;subst Z;rw[show i+1+j-(i+1)=j by omega] at this;rw[show i+1+j-i=j+1 by omega];simpa using this
  .cases h
theorem DA(I:agh base μ mem w){b Q aaq :Nat}{es es' :List (AV×AV)}{aas :Array MapEntry}(y:mem[b]? =some (.map es))(h1:w.heap[(μ b).blk]? =some (.map FS Q))(H:base<=(μ b).blk)(R:Fe aas aaq)(Y:aas.size=es'.length)(g2:∀(j:Nat) e,es'[j]? =some e->∃E,aas[j]? =some E/\QJ μ mem.length e E):
  (setObj (μ b).blk (.map aas aaq)).run P w=.ok () { w with heap:=w.heap.setIfInBounds (μ b).blk (.map aas aaq) }/\
  agh base μ (mem.set b (.map es')) { w with heap:=w.heap.setIfInBounds (μ b).blk (.map aas aaq) }/\Step mem.length μ mem w μ (mem.set b (.map es')) { w with heap:=w.heap.setIfInBounds (μ b).blk (.map aas aaq) }:=by
 have Z:(μ b).blk<w.heap.size:=(Ns.1 h1).1;refine⟨ui h1 (by simp),I.write y (MZ y) (fun _=>⟨_,X1 (gL y),rfl⟩) rfl rfl rfl rfl (by simp) (fun q hq=>?_) ?_⟩
 .simp[X2 (Ne.symm hq)]
 .simp only[agj]
  exact⟨aas,aaq,by simp[Z],⟨H,R⟩,Y,g2⟩
theorem Ta{y i:Nat}(h:Fe FS y)(H:i<FS.size):FS.findIdx? (fun e=>(e.born:Int)==(i:Int))=some i:=by
 rw[Array.findIdx?_eq_some_iff_getElem];refine⟨H,?_,?_⟩
 .have:=h.2 i FS[i] (by simp)
  simp[this]
 .intro j Z
  have:=h.2 j FS[j] (by simp);simp[this];omega
theorem yU(y:agh base μ mem w){t:TypeId}{m s v:AV}{M S V:Value}{mem' :Mem}(H:af4 μ mem.length m M)(hs:af4 μ mem.length s S)(I:af4 μ mem.length v V)(h:mC mem m s v=some mem'):∃w',(Instr.entryStore t M S V).run P w=.ok () w' /\agh base μ mem' w' /\Step mem.length μ mem w μ mem' w' :=by
 unfold mC at h;split at h
 .rename_i b k q
  split at h
  .rename_i es D
   split at h
   .rename_i e he
    cases h;simp only[af4] at H;obtain⟨_,rfl⟩:=H;have K:=y.slot b _ D;simp only[agj] at K;obtain⟨FS,C,B,X,A,h3⟩:=K;have z:(getObj (μ b).blk).run P w=.ok (.map FS C) w:=by simp[getObj,Sem.run,B]
    have hq:q<es.length:=gL he;have u:=Ta X.2 (i:=q) (by omega);obtain⟨f1,f2,f3⟩:=DA (P:=P) y (es' :=es.set q (e.1,v)) (aas :=FS.modify q fun e=>{ e with val:=V }) (aaq :=C) D B X.1 ⟨by simpa using X.2.1,fun j J Z =>by
     rw[Array.getElem?_modify] at Z;split at Z
     .simp only[Pl] at Z
      obtain⟨Y,R,rfl⟩:=Z;exact X.2.2 j Y R
     .exact X.2.2 j J Z⟩ (by simpa using A) (fun j Q W =>by
     rw[List.getElem?_set] at W;by_cases O:q=j
     .subst O
      simp only[if_true,hq,N3] at W;subst W;obtain⟨E,hE,hr⟩:=h3 q e he;exact⟨{ E with val:=V },by simp[Array.getElem?_modify,hE],hr.1,I⟩
     .rw[if_neg O] at W
      obtain⟨J,Z,G⟩:=h3 j Q W;exact⟨J,by simp[Array.getElem?_modify,O,Z],G⟩)
    refine⟨_,?_,f2,f3⟩;rw[hs.int];have F :FS.findIdx? (fun e=>(e.born:Int)==Int.ofNat q)=some q:=u;simp only[Instr.entryStore,Sem.run_bind,Result.andThen_ok,z,asInt,asIntOf,Sem.run_pure,F];exact f1
   .cases h
  .cases h
 .cases h
theorem CR(hT:dW P T)(y:agh base μ mem w){t:TypeId}{m k v:AV}{M K:Value}{mem' :Mem}(hm:af4 μ mem.length m M)(hk:af4 μ mem.length k K)(h:ss T mem t m k=some (v,mem')):ahc P (Instr.mapEntry t M K) base μ mem w v mem' :=by
 unfold ss at h;cases ht:T t with
 |none=>rw[ht] at h;cases h
 |some i=>
  rw[ht] at h;simp only at h;have I:=(hT t i ht).desc;split at h
  .rename_i kt et b F'
   rw[F'] at I;split at h
   .rename_i j es H hb
    split at h
    .rename_i V
     simp only[af4] at hm;obtain⟨hbn,rfl⟩:=hm;have hs:=y.slot b _ hb;simp only[agj] at hs;obtain⟨FS,S,h1,W,D,h3⟩:=hs;have hg:(getObj (μ b).blk).run P w=.ok (.map FS S) w:=by simp[getObj,Sem.run,h1]
     have C:=mK (P:=P) (n:=mem.length) hT false 20 V hk 9980 w;have hkt:∃u,T kt=some u:=by
      rw[na] at V;cases hx:T kt with
      |none=>rw[hx] at V;cases V
      |some u=>exact⟨u,rfl⟩
     obtain⟨u,B⟩:=hkt;have e2:FS.toList.length=es.length:=by simpa using D
     have e3:∀(j:Nat) e,es[j]? =some e->∃E,FS.toList[j]? =some E/\QJ μ mem.length e E:=fun j e he=>by obtain⟨E,F,Y⟩:=h3 j e he;exact⟨E,by simpa using F,Y⟩
     split at h
     .rename_i q v' A
      split at h
      .rename_i hsc
       cases h;obtain⟨R,g1,Q⟩:=iO hT B hk e2 e3 A w;cases R with
       |none=>exact Q.elim
       |some x=>
        obtain⟨q',V'⟩:=x;obtain⟨rfl,hv⟩:=Q;obtain⟨z,e,hq,he,T'⟩:=oZ A;have hq' :q=z :=by omega
        subst hq';obtain⟨E,F,Y⟩:=h3 q e he;have hsb:=tG (μ:=μ) (n:=mem.length) hsc hk Y.1 T' rfl;have X' :q<es.length:=gL he;have hev:e.2=v' :=by have:=Mv A;rw[QXX] at this;rw[he] at this;simpa using this
        obtain⟨f1,f2,f3⟩:=DA (P:=P) y (es' :=es.set q (k,v')) (aas :=FS.modify q fun e=>{ e with key:=K }) (aaq :=S) hb h1 W.1 ⟨by simpa using W.2.1,fun j O Z =>by
         rw[Array.getElem?_modify] at Z;split at Z
         .simp only[Pl] at Z
          obtain⟨E0,k1,rfl⟩:=Z;exact W.2.2 j E0 k1
         .exact W.2.2 j O Z⟩ (by simpa using D) (fun j e' X =>by
         rw[List.getElem?_set] at X;by_cases J:q=j
         .subst J
          simp only[if_true,X',N3] at X;subst X;exact⟨{ E with key:=K },by simp[Array.getElem?_modify,F],hk,by rw[<-hev];exact Y.2⟩
         .rw[if_neg J] at X
          obtain⟨O,Z,G⟩:=h3 j e' X;exact⟨O,by simp[Array.getElem?_modify,J,Z],G⟩)
        refine⟨.tuple #[V',goInt q],_,μ,?_,?_,f2,f3⟩
        .simp only[Instr.mapEntry,Sem.run_bind,run_underlying I,Result.andThen_ok,hg]
         rw[show(10000:Nat)=20+9980 from rfl,C];simp only[Result.andThen_ok,g1,Sem.run_bind];have aa':(Instr.keyThatStays (((FS[q]?).map (·.key)).getD K) K).run P w=.ok K w:=by unfold Instr.keyThatStays;rw[F];simp only[Option.map_some,Option.getD_some,hsb,if_true];rfl
         rw[aa'];simp only[Result.andThen_ok,f1,Sem.run_pure];rw[F];simp only[Option.map_some,Option.getD_some,W.2.2 q E F]
        .simp only[X3,af4]
         exact⟨[V',goInt q],rfl,br.2 ⟨hv,br.2 ⟨by simp[af4,goInt],by simp[af5]⟩⟩⟩
      .cases h
     .rename_i A
      cases h;obtain⟨R,g1,Q⟩:=iO hT B hk e2 e3 A w;cases R with
      |some x=>exact Q.elim
      |none=>
       have hz:=yQ μ mem.length j.zero;obtain⟨f1,f2,f3⟩:=DA (P:=P) y (es' :=es++[(k,pe j.zero)]) (aas :=FS.push { key:=K,val:=j.zero,born:=S }) (aaq :=S+1) hb h1 W.1 ⟨by simp[W.2.1],fun j O Z =>by
        rw[Array.getElem?_push] at Z;split at Z
        next H=>cases Z;rw[H];exact W.2.1
        .exact W.2.2 j O Z⟩ (by simp[D]) (fun z e' X =>by
        by_cases hj' :z <es.length
        .rw[Hi hj'] at X
         obtain⟨O,Z,G⟩:=h3 z e' X;exact⟨O,by rw[Array.getElem?_push,if_neg (by omega)];exact Z,G⟩
        .have hje:z =es.length:=by have:=(gL X);simp at this;omega
         subst hje;simp at X;subst X;exact⟨{ key:=K,val:=j.zero,born:=S },by rw[Array.getElem?_push,if_pos D.symm],hk,hz⟩)
       refine⟨.tuple #[j.zero,goInt S],_,μ,?_,?_,f2,f3⟩
       .simp only[Instr.mapEntry,Sem.run_bind,run_underlying I,Result.andThen_ok,hg]
        rw[show(10000:Nat)=20+9980 from rfl,C];simp only[Result.andThen_ok,g1,Sem.run_bind,gj hT H,f1,Sem.run_pure]
       .simp only[X3,af4]
        exact⟨[j.zero,goInt S],rfl,br.2 ⟨hz,br.2 ⟨by simp[af4,goInt,W.2.1,D],by simp[af5]⟩⟩⟩
     .cases h
    .cases h
   .cases h
  .cases h
end
end Go.Eng
namespace Go.Eng
def aUn(y:UnOp)(x:AV):Option AV:=
 match y,x with
 |.not,.bool b=>some (.bool (!b))
 |.neg,.int k n=>some (.int k (k.wrap (0-n)))
 |_,_=>none
def aOp(T:TypeId->Option TyI)(env:Env)(mem:Mem)(H:Op):Option (AV×Mem):=
 match H with
 |.move x=>some (get env x,mem)
 |.assign x=>some (get env x,mem)
 |.pick c a b=>match get env c with
  |.bool t=>some (if t then get env a else get env b,mem)
  |_=>none
 |.alloc e=>uK T mem e
 |.box _ x=>Y0 mem (get env x)
 |.build t ps=>match bZ T t (ps.toList.map fun p=>(p.1,get env p.2)) with
  |some v=>some (v,mem)
  |none=>none
 |.buildSlice t n ps=>gJ T mem t n (ps.toList.map fun p=>(p.1,get env p.2))
 |.load t a=>match R6 T mem t (get env a) with
  |some v=>some (v,mem)
  |none=>none
 |.store t a x=>match uL T mem t (get env a) (get env x) with
  |some m=>some (.undef,m)
  |none=>none
 |.nilCheck x=>match get env x with
  |.ptr b o=>some (.ptr b o,mem)
  |.func f Z=>some (.func f Z,mem)
  |_=>none
 |.binOp H t x y _=>match ZN T H t (sP x) (sP y) (get env x) (get env y) with
  |some v=>some (v,mem)
  |none=>none
 |.unOp H _ x=>match aUn H (get env x) with
  |some v=>some (v,mem)
  |none=>none
 |.convert s d x=>match Bk T s d (get env x) with
  |some v=>some (v,mem)
  |none=>oP T mem s d (get env x)
 |.makeFunc (.func f) first aci=>if first.size=0 then some (.func f (Y3 env aci),mem) else none
 |.makeSlice t l c=>mg T mem t (get env l) (get env c)
 |.slice t x lo hi none=>match PT T mem t (get env x) (lo.map (get env)) (hi.map (get env)) with
  |some v=>some (v,mem)
  |none=>none
 |.fieldAddr t x f=>match tM T t (get env x) f with
  |some v=>some (v,mem)
  |none=>none
 |.field t x f=>match oQ T t (get env x) f with
  |some v=>some (v,mem)
  |none=>none
 |.indexAddr t x i=>match tN T t (get env x) (get env i) with
  |some v=>some (v,mem)
  |none=>none
 |.index t x i=>match PR T t (get env x) (get env i) with
  |some v=>some (v,mem)
  |none=>none
 |.makeMap _ none=>some (.map mem.length,mem++[.map []])
 |.lookup t m k ok=>match mD T mem t (get env m) (get env k) ok with
  |some v=>some (v,mem)
  |none=>none
 |.mapUpdate t m k x=>match fY T mem t (get env m) (get env k) (get env x) with
  |some m=>some (.undef,m)
  |none=>none
 |.mapEntry t m k=>ss T mem t (get env m) (get env k)
 |.entryStore _ m s x=>match mC mem (get env m) (get env s) (get env x) with
  |some m=>some (.undef,m)
  |none=>none
 |.extract t i=>match get env t with
  |.tuple Z=>match Z[i]? with
   |some v=>some (v,mem)
   |none=>none
  |_=>none
 |.call { callee:=.builtin .len,args:=⟨[x]⟩,argTypes:=⟨[t]⟩ }=>match CO T t mem (get env x) with
  |some v=>some (v,mem)
  |none=>none
 |.call { callee:=.builtin .append,args:=⟨[s,x]⟩,argTypes:=⟨[t,t2]⟩ }=>kz T mem t t2 (get env s) (get env x)
 |.call { callee:=.builtin .unsafeSliceData,args:=⟨[x]⟩,argTypes:=_ }=>match tO mem (get env x) with
  |some v=>some (v,mem)
  |none=>none
 |.call { callee:=.builtin .unsafeString,args:=⟨[x,y]⟩,argTypes:=⟨[pt,_]⟩ }=>yV T mem pt (get env x) (get env y)
 |.call { callee:=.builtin .min,args:=⟨[x,y]⟩,argTypes:=_ }=>match get env x,get env y with
  |.int k a,.int k' b=>if k=k' then some (.int k (if b<a then b else a),mem) else none
  |.str a,.str b=>some (.str (if Op.bytesLess a b||a==b then a else b),mem)
  |_,_=>none
 |.call { callee:=.builtin .max,args:=⟨[x,y]⟩,argTypes:=_ }=>match get env x,get env y with
  |.int k a,.int k' b=>if k=k' then some (.int k (if a<b then b else a),mem) else none
  |.str a,.str b=>some (.str (if Op.bytesLess a b then b else a),mem)
  |_,_=>none
 |.call { callee:=.builtin .max,args:=⟨[x,y,z]⟩,argTypes:=_ }=>match get env x,get env y,get env z with
  |.int .i64 a,.int .i64 b,.int .i64 c=>some (.int .i64 (if (if a<b then b else a)<c then c else (if a<b then b else a)),mem)
  |_,_,_=>none
 |_=>none
variable{a:Act}{s u:List UInt8}{ts:Array TypeId}
section
variable {P:Program}{T:TypeId->Option TyI}{μ:Nat->Place}{mem:Mem}{base:Nat}{w:World}
def aaj(μ:Nat->Place)(n:Nat)(N:Next)(v:AV):Prop:=(∃V,N=.value V/\af4 μ n v V)\/(N=.skip/\v=.undef)
def agZ(P:Program)(x:Sem Next)(base:Nat) (μ:Nat->Place)(mem:Mem)(w:World)(v:AV) (y :Mem):Prop:=
 ∃N w' μ',x.run P w=.ok N w' /\aaj μ' y.length N v/\agh base μ' y w' /\Step mem.length μ mem w μ' y w'
theorem agZ.ag2{x:Sem Value}{v:AV}{y :Mem}(h:ahc P x base μ mem w v y):agZ P (do pure (.value (<-x))) base μ mem w v y :=by obtain⟨V,w',μ',Z,X,h3,W⟩:=h;exact⟨.value V,w',μ',by simp[Z],.inl ⟨V,rfl,X⟩,h3,W⟩
theorem agZ.agr{x:Sem Value}{v:AV}(y:agh base μ mem w)(h:Val P x w μ mem.length v):agZ P (do pure (.value (<-x))) base μ mem w v mem:=
 .ag2 (.agr y h)
theorem agZ.pure{V:Value}{v:AV}(y:agh base μ mem w)(h:af4 μ mem.length v V):agZ P (Pure.pure (.value V)) base μ mem w v mem:=
 ⟨.value V,w,μ,rfl,.inl ⟨V,rfl,h⟩,y,.refl (L9 _)⟩
theorem M2{env:Env}{n:Nat}(H:agy μ n env a.tmps)(y:Array (Nat×Operand)):
  (y.toList.map fun p=>(p.1,a.eval p.2)).map (·.1)=(y.toList.map fun p=>(p.1,get env p.2)).map (·.1)/\
  af5 μ n ((y.toList.map fun p=>(p.1,get env p.2)).map (·.2)) ((y.toList.map fun p=>(p.1,a.eval p.2)).map (·.2)):=by
 constructor
 .simp[Function.comp_def]
 .have:=Bs H (y.toList.map (·.2))
  simpa [Function.comp_def] using this
theorem Vu{env:Env}{n:Nat}(y:agy μ n env a.tmps)(x:Option Operand):
  (x.map (get env)=none/\x.map a.eval=none)\/∃l L,x.map (get env)=some l/\x.map a.eval=some L/\af4 μ n l L:=by
 cases x with
 |none=>exact .inl ⟨rfl,rfl⟩
 |some x=>exact .inr ⟨_,_,rfl,rfl,bk y x⟩
theorem Xe{n:Nat}{ty:TypeId}{X Y:Value}(y:af4 μ n (.str s) X)(H:af4 μ n (.str u) Y):Val P (Builtin.min_ ts ty #[X,Y]) w μ n (.str (if Op.bytesLess s u||s==u then s else u)):=by rw[y.str,H.str];refine .str ?_;simp[Builtin.min_,Builtin.min2,Op.stringOp,asBool];split<;>rfl
theorem Xb{n:Nat}{ty:TypeId}{X Y:Value}(y:af4 μ n (.str s) X)(H:af4 μ n (.str u) Y):Val P (Builtin.max_ ts ty #[X,Y]) w μ n (.str (if Op.bytesLess s u then u else s)):=by rw[y.str,H.str];refine .str ?_;simp[Builtin.max_,Builtin.max2,Op.stringOp,asBool];cases Op.bytesLess s u<;>simp
theorem Ui(hT:dW P T)(I:agh base μ mem w){env:Env}{o:Oper}{v:AV}{Q :Mem}(H:agy μ mem.length env a.tmps)(h:aOp T env mem o.op=some (v,Q)):agZ P (execOp a.eval o) base μ mem w v Q :=by
 unfold aOp at h;split at h
 .rename_i x Z
  cases h;simp only[execOp,Z];exact .pure I (bk H x)
 .rename_i x Z
  cases h;simp only[execOp,Z];exact .pure I (bk H x)
 .rename_i c x y Z
  split at h
  .rename_i t hc
   cases h;have:=bk H c;rw[hc] at this;simp only[execOp,Z,this.bool,asBool,pure_bind];cases t
   .exact .pure I (bk H y)
   .exact .pure I (bk H x)
  .cases h
 .rename_i e Z
  simp only[execOp,Z];exact .ag2 (LZ hT I h)
 .rename_i e x Z
  simp only[execOp,Z];exact .ag2 (R3 I (bk H x) h)
 .rename_i t G Z
  split at h
  .rename_i M X
   cases h;obtain⟨A,Y⟩:=M2 H G;simp only[execOp,Z];refine .agr I ?_;have:=L3 (P:=P) hT X A Y w;have e:(⟨G.toList.map fun p=>(p.1,a.eval p.2)⟩:Array (Nat×Value))=G.map fun(i,x)=>(i,a.eval x):=by apply Array.ext';simp
   rw[e] at this;exact this
  .cases h
 .rename_i t n G Z
  obtain⟨A,Y⟩:=M2 H G;simp only[execOp,Z];refine .ag2 ?_;have:=yS (P:=P) hT I A Y h;have e:(⟨G.toList.map fun p=>(p.1,a.eval p.2)⟩:Array (Nat×Value))=G.map fun(i,x)=>(i,a.eval x):=by apply Array.ext';simp
  rw[e] at this;exact this
 .rename_i t x Z
  split at h
  .rename_i M X
   cases h;simp only[execOp,Z];exact .agr I (CP hT I (bk H x) X)
  .cases h
 .rename_i t x y Z
  split at h
  .rename_i m X
   cases h;obtain⟨w',F,J,h3⟩:=Ma (P:=P) hT I (bk H x) (bk H y) X;simp only[execOp,Z];exact⟨.skip,w',μ,by simp[F],.inr ⟨rfl,rfl⟩,J,h3⟩
  .cases h
 .rename_i x Z
  split at h
  .rename_i b o W
   cases h;have:=bk H x;rw[W] at this;simp only[execOp,Z,this.ptr.2];refine .pure I ?_;rw[this.ptr.2] at this;exact this
  .rename_i f cs W
   cases h;have:=bk H x;rw[W] at this;have J:=this;simp only[af4] at J;obtain⟨Us,B,_⟩:=J;simp only[execOp,Z,B];refine .pure I ?_;rw[B] at this;exact this
  .cases h
 .rename_i op t x y yt Z
  split at h
  .rename_i M X
   cases h;simp only[execOp,Z];exact .agr I (R1 hT (bk H x) (bk H y) x y X w)
  .cases h
 .rename_i op t x Z
  split at h
  .rename_i M X
   cases h;simp only[execOp,Z];refine .agr I ?_;have W:=bk H x;unfold aUn at X;split at X
   next D=>cases X;rw[D] at W;rw[W.bool];exact .bool rfl
   next D=>cases X;rw[D] at W;rw[W.int];exact .int rfl
   .cases X
  .cases h
 .rename_i s d x Z
  split at h
  .rename_i M X
   cases h;simp only[execOp,Z];exact .agr I (EW hT (bk H x) X w)
  .simp only[execOp,Z];exact .ag2 (AW hT I (bk H x) h)
 .rename_i f first C Z
  split at h
  .rename_i hf
   cases h;simp only[execOp,Z];refine .agr I ⟨.func (.func f) (first.map a.eval) (C.map a.eval),rfl,?_⟩;simp only[af4];have:first= #[]:=Array.eq_empty_of_size_eq_zero hf
   subst this;refine⟨C.toList.map a.eval,?_,Bs H C.toList⟩;simp only[Array.map_empty];congr 1;apply Array.ext';simp
  .cases h
 .rename_i t l c Z
  simp only[execOp,Z];exact .ag2 (A4 hT I (bk H l) (bk H c) h)
 .rename_i t x lo R Z
  split at h
  .rename_i M X
   cases h;simp only[execOp,Z];refine .agr I ?_;simp only[Option.map_none];exact L7 hT I (bk H x) (Vu H lo) (Vu H R) X
  .cases h
 .rename_i t x f Z
  split at h
  .rename_i M X
   cases h;simp only[execOp,Z];exact .agr I (AX hT (bk H x) X w)
  .cases h
 .rename_i t x f Z
  split at h
  .rename_i M X
   cases h;simp only[execOp,Z];exact .agr I (L4 hT (bk H x) X w)
  .cases h
 .rename_i t x i Z
  split at h
  .rename_i M X
   cases h;simp only[execOp,Z];exact .agr I (AY hT (bk H x) (bk H i) X w)
  .cases h
 .rename_i t x i Z
  split at h
  .rename_i M X
   cases h;simp only[execOp,Z];exact .agr I (L5 hT (bk H x) (bk H i) X w)
  .cases h
 .rename_i t Z
  cases h;simp only[execOp,Z,Option.map_none];exact .ag2 (H0 I)
 .rename_i t m k ok Z
  split at h
  .rename_i M X
   cases h;simp only[execOp,Z];exact .agr I (HA hT I (bk H m) (bk H k) X)
  .cases h
 .rename_i t m k x Z
  split at h
  .rename_i m' X
   cases h;obtain⟨w',F,J,h3⟩:=A6 (P:=P) hT I (bk H m) (bk H k) (bk H x) X;simp only[execOp,Z];exact⟨.skip,w',μ,by simp[F],.inr ⟨rfl,rfl⟩,J,h3⟩
  .cases h
 .rename_i t m k Z
  simp only[execOp,Z];exact .ag2 (CR hT I (bk H m) (bk H k) h)
 .rename_i t m s x Z
  split at h
  .rename_i m' X
   cases h;obtain⟨w',F,J,h3⟩:=yU (P:=P) (t:=t) I (bk H m) (bk H s) (bk H x) X;simp only[execOp,Z];exact⟨.skip,w',μ,by simp[F],.inr ⟨rfl,rfl⟩,J,h3⟩
  .cases h
 .rename_i t i Z
  split at h
  .rename_i cs W
   split at h
   .rename_i M R
    cases h;have:=bk H t;rw[W] at this;simp only[af4] at this;obtain⟨Us,B,hr⟩:=this;obtain⟨V,hV,hv⟩:=hr.get i _ R;simp only[execOp,Z,B];exact .agr I ⟨V,by simp[Instr.extract,hV],hv⟩
   .cases h
  .cases h
 .rename_i x t Z
  split at h
  .rename_i M X
   cases h;simp only[execOp,Z,resolve,invoke,builtin,pure_bind];rw[show Array.map a.eval ⟨[x]⟩= #[a.eval x] by simp];exact .agr I (R5 hT I (bk H x) X)
  .cases h
 .rename_i s x t t2 Z
  simp only[execOp,Z,resolve,invoke,builtin,pure_bind];rw[show Array.map a.eval ⟨[s,x]⟩= #[a.eval s,a.eval x] by simp];exact .ag2 (Hz hT I (bk H s) (bk H x) h)
 .rename_i x ts Z
  split at h
  .rename_i M X
   cases h;simp only[execOp,Z,resolve,invoke,builtin,pure_bind];rw[show Array.map a.eval ⟨[x]⟩= #[a.eval x] by simp];exact .agr I (A7 I _ _ (bk H x) X)
  .cases h
 .rename_i x y pt it Z
  simp only[execOp,Z,resolve,invoke,builtin,pure_bind];rw[show Array.map a.eval ⟨[x,y]⟩= #[a.eval x,a.eval y] by simp];exact .ag2 (HD hT I (bk H x) (bk H y) h)
 .rename_i x y ts Z
  split at h
  .rename_i k i k' j W K
   split at h
   .rename_i hk
    cases h;subst hk;have S:=bk H x;have O:=bk H y;rw[W] at S;rw[K] at O;simp only[execOp,Z,resolve,invoke,builtin,pure_bind];refine .agr I (.int ?_);simp[Builtin.min_,Builtin.min2,S.int,O.int]
   .cases h
  .rename_i s u W K
   cases h;have S:=bk H x;have O:=bk H y;rw[W] at S;rw[K] at O;simp only[execOp,Z,resolve,invoke,builtin,pure_bind];rw[show Array.map a.eval ⟨[x,y]⟩= #[a.eval x,a.eval y] by simp];exact .agr I (Xe S O)
  .cases h
 .rename_i x y ts Z
  split at h
  .rename_i k i k' j W K
   split at h
   .rename_i hk
    cases h;subst hk;have S:=bk H x;have O:=bk H y;rw[W] at S;rw[K] at O;simp only[execOp,Z,resolve,invoke,builtin,pure_bind];refine .agr I (.int ?_);simp[Builtin.max_,Builtin.max2,S.int,O.int]
   .cases h
  .rename_i s u W K
   cases h;have S:=bk H x;have O:=bk H y;rw[W] at S;rw[K] at O;simp only[execOp,Z,resolve,invoke,builtin,pure_bind];rw[show Array.map a.eval ⟨[x,y]⟩= #[a.eval x,a.eval y] by simp];exact .agr I (Xb S O)
  .cases h
 .rename_i x y z ts Z
  split at h
  .rename_i i j k W K hz
   cases h;have S:=bk H x;have O:=bk H y;have e3:=bk H z;rw[W] at S;rw[K] at O;rw[hz] at e3;simp only[execOp,Z,resolve,invoke,builtin,pure_bind];refine .agr I (.int ?_);by_cases F:i<j<;>simp[Builtin.max_,Builtin.max2,S.int,O.int,e3.int,F]
  .cases h
 .cases h
end
end Go.Eng
namespace Go.Eng
def V2(P:Program)(f:FuncId):Prop:=∃fn,P.funcs[f]? =some fn/\fn.body.isSome=true/\(fn.name == "runtime.NumGoroutine")=false
abbrev Fr(y:Option Nat):Fence:={ Fence.wide with round:=y }
variable{f:FuncId}{ro:Option Nat}
theorem Bn{n:Nat}{P:Program}{args:Array Value}{w:World}{R:Ending->World->Prop}:CallsIn (Fr ro) n P f args w R↔Calls P f args w R:=
 callsIn_wide (n:=n)
def ze:String:=String.ofList ([105,110,116,101,114,110,97,108,47,115,116,114,99,111,110,118,46,117,105,110,116,54,52,112,111,119,49,48].map Char.ofNat)
structure GOk (P:Program)(base:Nat)(w:World):Prop where
 below:P.globals.size<=base
 tab:Lib.TabIs P w ze .u64 Lib.pow10Tab
theorem GOk.aii{P:Program}{y:Nat}{w:World}(h:GOk P y w){s:String}(hs:ze=s):Lib.TabIs P w s .u64 Lib.pow10Tab:=hs▸h.tab
theorem Qq{y:Nat}{μ:Nat->Place}{mem:Mem}{w:World}(H:agh y μ mem w){b:Nat}(I:fJ mem b):y<=(μ b).blk:=by
 obtain⟨s,X,Z⟩:=I;have:=H.slot b s X;cases s with
 |HS=>cases Z
 |cells own es cs=>simp only[af6.own] at Z;subst Z;simp only[agj] at this;obtain⟨_,_,_,_,_,_,_,h⟩:=this;exact(h trivial).2.2.2
 |map es=>simp only[agj] at this;obtain⟨_,_,_,h,_⟩:=this;exact h.1
 |agC es=>cases Z
 |loop r=>simp only[agj] at this;obtain⟨_,_,h,_⟩:=this;exact h
variable{name:String}
theorem E3{P:Program}{g:Nat}(h:P.globalNamed name=some g):g<P.globals.size:=by
 unfold Program.globalNamed at h;split at h
 .rename_i X Z
  cases h;have:g∈(List.range P.globals.size).filter fun g=>(P.globals[g]?).any (·.name==name):=by rw[Z];simp
  simpa using (List.mem_filter.1 this).1
 .cases h
variable{w' :World}
theorem QH{P:Program}{w:World}(h:∀k,k<P.globals.size->w'.heap[k]? =w.heap[k]?):w'.var? P name=w.var? P name:=by
 unfold World.var?;cases hg:P.globalNamed name with
 |none=>rfl
 |some g=>simp only[Option.bind_some];rw[h g (E3 hg)]
variable{m0:Nat}{μ' :Nat->Place}
theorem GOk.step{P:Program}{y:Nat}{μ:Nat->Place}{mem H :Mem}{w:World}(h:GOk P y w)(I:agh y μ mem w)(Q:Step m0 μ mem w μ' H w'):GOk P y w' :=by
 refine⟨h.below,?_⟩;have:=h.tab;unfold Lib.TabIs at this |-;rw[<-this];refine QH fun k X=>Q.frame k ?_ fun b Z=>?_
 .have:=h.below;have:=I.agb;omega
 .have:=Qq I Z;have:=h.below;omega
structure MOk (P:Program)(base h0:Nat)(w:World)(ds:List Deferred):Prop where
 ahe:GOk P base w
 agb:base<=h0
 le:h0<=w.heap.size
 each:∀d∈ds,∃r,d={ target:=.collected r,args:= #[] }/\h0<=r/\w.heap[r]? =some (.deferred (some []))
 nodup:(ds.map (·.target)).Nodup
variable{h0:Nat}
theorem MOk.nil{P:Program}{y:Nat}(w:World)(hg:GOk P y w)(H:y<=h0)(h:h0<=w.heap.size):MOk P y h0 w []:=⟨hg,H,h,fun _ h=>by(cases h),by simp⟩
theorem qK{y:Nat}{μ:Nat->Place}{mem:Mem}{w:World}(H:agh y μ mem w){r:Nat}{x}(hr:w.heap[r]? =some (.deferred x)){b:Nat}{s:af6}(I:mem[b]? =some s)(hs:s≠ .HS):(μ b).blk≠r:=by
 intro e;have:=H.slot b s I;cases s with
 |HS=>exact hs rfl
 |cells own es cs=>simp only[agj] at this;obtain⟨_,_,_,Z,_⟩:=this;rw[e,hr] at Z;cases Z
 |map es=>simp only[agj] at this;obtain⟨_,_,Z,_⟩:=this;rw[e,hr] at Z;cases Z
 |agC es=>simp only[agj] at this;obtain⟨_,_,Z,_⟩:=this;rw[e,hr] at Z;cases Z
 |loop r=>simp only[agj] at this;obtain⟨_,Z,_⟩:=this;rw[e,hr] at Z;cases Z
theorem MOk.step{P:Program}{y:Nat}{μ:Nat->Place}{mem H :Mem}{w:World}{ds:List Deferred}(h:MOk P y h0 w ds)(Q:agh y μ mem w)(I:Step m0 μ mem w μ' H w'):MOk P y h0 w' ds:=by refine⟨h.ahe.step Q I,h.agb,QQJ h.le I.size,fun d W=>?_,h.nodup⟩;obtain⟨r,e,V,Z⟩:=h.each d W;refine⟨r,e,V,?_⟩;rw[I.frame r (Ns.1 Z).1 fun b X=>?_,Z];obtain⟨s,X,S⟩:=X;exact qK Q Z X (af6.agE S)
def agF(P:Program)(f:FuncId)(args:List AV)(mem:Mem)(R:AV->Mem->Prop):Prop:=
 V2 P f/\∀base μ w Vs,GOk P base w->agh base μ mem w->af5 μ mem.length args Vs->
  Calls P f ⟨Vs⟩ w fun e w' =>∃V v mem' μ',e=.returned V/\af4 μ' mem'.length v V/\agh base μ' mem' w' /\Step mem.length μ mem w μ' mem' w' /\R v mem'
def kO(P:Program)(f:FuncId)(args:List AV)(mem:Mem)(v:AV) (y :Mem):Prop:=agF P f args mem fun Z X=>Z=v/\X=y
theorem agF.mono{P f args mem}{R y :AV->Mem->Prop}(h:agF P f args mem R)(hr:∀v m,R v m->y v m):agF P f args mem y :=
 ⟨h.1,fun base μ w Vs h0 h1 h2=>(h.2 base μ w Vs h0 h1 h2).mono fun _ _ ⟨V,v,m,μ',a,b,c,d,r⟩=>⟨V,v,m,μ',a,b,c,d,hr _ _ r⟩⟩
def agQ(P:Program)(b:Nat)(args:List AV)(mem:Mem)(R:AV->Mem->Prop):Prop:=
 ∀base μ w Vs,GOk P base w->agh base μ mem w->af5 μ mem.length args Vs->b<mem.length->∃f Z assign X,
  (Instr.yield (μ b).blk ⟨Vs⟩).run P w=.ok (.round (μ b).blk f Z assign X) w/\
  RoundIn Fence.wide 0 P (μ b).blk f Z assign X w fun e w' =>∃V v mem' μ',e=.returned V/\af4 μ' mem'.length v V/\agh base μ' mem' w' /\Step mem.length μ mem w μ' mem' w' /\R v mem'
def gV(P:Program)(b:Nat)(args:List AV)(mem:Mem)(v:AV) (y :Mem):Prop:=agQ P b args mem fun Z X=>Z=v/\X=y
def Bz(env:Env):Op->Option (Nat×List AV)
 |.call { callee:=.value x,args,argTypes:=_ }=>match get env x with
  |.yield b=>some (b,Y3 env args)
  |_=>none
 |_=>none
def HJ(env:Env):Op->Option (FuncId×List AV)
 |.call { callee:=.value x,args,argTypes:=_ }=>match get env x with
  |.func f Z=>some (f,Y3 env args++Z)
  |_=>none
 |_=>none
def tJ(ops:Array Oper)(env:Env)(o:Oper):Option Bool:=
 match o.guard with
 |none=>some true
 |some (j,acR)=>match (ops[j]?).bind (·.dst) with
  |some d=>match ad env d with
   |.bool b=>some (b==acR)
   |.tuple []=>some false
   |_=>none
  |none=>none
def agW(env:Env)(y:Option Tmp)(v:AV):Env:=
 match y with
 |some d=>(d,v)::env
 |none=>env
structure St where
 env:Env
 mem:Mem
def E2(N:Nat)(o:Oper):Bool:=match o.dst with
 |some d=>decide (d<N)
 |none=>true
def yl(P:Program)(T:TypeId->Option TyI)(env:Env)(mem:Mem)(o:Oper)(v:AV) (y :Mem):Prop:=
 aOp T env mem o.op=some (v,y)\/(∃f Z,HJ env o.op=some (f,Z)/\kO P f Z mem v y)\/
  ∃b Z,Bz env o.op=some (b,Z)/\gV P b Z mem v y
def nY(P:Program)(T:TypeId->Option TyI)(N:Nat)(ops:Array Oper):List Oper->St->St->Prop
 | [],st,P' =>P' =st
 |o::os,st,P' =>∃b,tJ ops st.env o=some b/\E2 N o=true/\
   (b=false->nY P T N ops os ⟨agW st.env o.dst (.tuple []),st.mem⟩ P')/\
   (b=true->∃v Z,yl P T st.env st.mem o v Z /\nY P T N ops os ⟨agW st.env o.dst v,Z⟩ P')
variable{o:Oper}
section
variable {P:Program}{T:TypeId->Option TyI}{μ:Nat->Place}{mem:Mem}{base:Nat}{w:World}
theorem agy.agW{n N:Nat}{env:Env}{a:Act}{v:AV}{V:Value}(h:agy μ n env a.tmps)(y:a.tmps.size=N)(hd:E2 N o=true)(H:af4 μ n v V):
  agy μ n (agW env o.dst v) (a.put o.dst V).tmps:=by
 unfold E2 at hd;cases ho:o.dst with
 |none=>simpa [Go.Eng.agW,Act.put] using h
 |some d=>
  rw[ho] at hd;simp only[L0] at hd;exact h.put (by rw[y];exact hd) H
theorem gh(a:Act)(d:Option Tmp)(V:Value):(a.put d V).tmps.size=a.tmps.size:=by cases d<;>simp[Act.put]
theorem gy(a:Act)(d:Option Tmp)(V:Value):(a.put d V).defers=a.defers:=by cases d<;>rfl
theorem qu{env:Env}{n:Nat}{ops:Array Oper}{a:Act}{b:Bool}(H:agy μ n env a.tmps)(h:tJ ops env o=some b):
  Region.wanted o (yielded ops a.tmps)=b:=by
 unfold tJ at h;unfold Region.wanted;split at h
 next W=>cases h;simp[W]
 .rename_i j X W
  simp only[W];split at h
  .rename_i d O
   split at h
   .rename_i M V
    cases h;have:=H d;rw[V] at this;have Z:=this.bool;simp only[yielded,O,Option.bind_some];have S:a.tmps[d]? =some (.bool M):=by
     rw[Array.getD_eq_getD_getElem?] at Z;cases hx:a.tmps[d]? with
     |none=>rw[hx] at Z;simp[undef] at Z
     |some y=>rw[hx] at Z;simp at Z;rw[Z]
    rw[S];cases M <;>cases X<;>rfl
   .rename_i V
    cases h;have:=H d;rw[V] at this;simp only[af4,af5] at this;obtain⟨K,Z,rfl⟩:=this;simp only[yielded,O,Option.bind_some];rw[Array.getD_eq_getD_getElem?] at Z;cases hx:a.tmps[d]? with
    |none=>rfl
    |some y=>rw[hx] at Z;simp only[Option.getD_some] at Z;rw[Z];cases X<;>rfl
   .cases h
  .cases h
theorem zF(h:V2 P f)(args:Array Value)(w:World):(callFunc f args).run P w=.ok (.enter f args) w:=by
 obtain⟨fn,X,Z,h3⟩:=h;have W:¬fn.body=none:=by intro e;rw[e] at Z;cases Z
 have V:¬fn.name = "runtime.NumGoroutine" := by simpa using h3
 simp[callFunc,X,V,W]
theorem HB{T:TypeId->Option TyI}{env:Env}{mem:Mem}{y:Op}{r}(h:aOp T env mem y=some r):∀c,y≠ .defer c:=by intro c e;subst e;simp[aOp] at h
theorem sZ(hT:dW P T)(hG:GOk P base w)(Y:agh base μ mem w){N:Nat}{env:Env}{a:Act}{v:AV}{y :Mem}(H:agy μ mem.length env a.tmps)(I:a.tmps.size=N)(hd:E2 N o=true)(h:yl P T env mem o v y){K:Act->World->Prop}{Q:Exit->Act->World->Prop}(R:∀V w' μ',af4 μ' y.length v V->agh base μ' y w' ->agy μ' y.length (agW env o.dst v) (a.put o.dst V).tmps->Step mem.length μ mem w μ' y w' ->K (a.put o.dst V) w'):
  o.wpIn (Fr ro) 0 P a w K Q:=by
 refine⟨fun _ _=>trivial,?_⟩;rcases h with h | ⟨f,S,hc,O⟩ | ⟨b,S,hc,hy⟩
 .rw[Oper.semAt_eq _ _ _ (HB h)]
  obtain⟨N',w',μ',A,z,h3,B⟩:=Ui hT Y H h;rw[A];have M :agy μ' y.length env a.tmps:=H.mono B.len B.agree;rcases z with⟨V,rfl,J⟩ | ⟨rfl,rfl⟩
  .exact R V w' μ' J h3 (M.agW I hd J) B
  .have J:af4 μ' y.length .undef undef:=by simp[af4]
   exact R undef w' μ' J h3 (M.agW I hd J) B
 .unfold HJ at hc
  split at hc
  .rename_i x W ts G
   split at hc
   .rename_i f' caps u
    cases hc;have Z:=bk H x;rw[u] at Z;simp only[af4] at Z;obtain⟨Us,m,j⟩:=Z;have X:(execOp a.eval o).run P w=.ok (.enter f ⟨W.toList.map a.eval++Us⟩) w:=by simp only[execOp,G,resolve,m,Deferred.ofValue,pure_bind,invoke];rw[zF O.1];congr 2;apply Array.ext';simp
    rw[Oper.semAt_eq _ _ _ (by rw[G];intro c e;cases e),X];refine⟨fun h=>by simp[Fence.wide] at h,Bn.2 ((O.2 base μ w _ hG Y ((Bs H W.toList).append j)).mono ?_)⟩;rintro e w' ⟨V,v',m',μ',rfl,q1,q2,q3,rfl,rfl⟩;exact R V w' μ' q1 q2 ((H.mono q3.len q3.agree).agW I hd q1) q3
   .cases hc
  .cases hc
 .unfold Bz at hc
  split at hc
  .rename_i x W ts G
   split at hc
   .rename_i b' u
    cases hc;have Z:=bk H x;rw[u] at Z;simp only[af4] at Z;obtain⟨hb,m⟩:=Z;obtain⟨f,D,J',C,A,z⟩:=hy base μ w _ hG Y (Bs H W.toList) hb;have X:(execOp a.eval o).run P w=.ok (.round (μ b).blk f D J' C) w:=by
     rw[<-A];simp only[execOp,G,resolve,m,Deferred.ofValue,pure_bind,invoke];have e: #[]++W.map a.eval=(⟨W.toList.map a.eval⟩:Array Value):=by apply Array.ext';simp
     rw[e]
    rw[Oper.semAt_eq _ _ _ (by rw[G];intro c e;cases e),X];refine⟨fun h=>by simp[Fence.wide] at h,RoundIn.mono (F:=Fr ro) z ?_⟩;rintro e w' ⟨V,v',m',μ',rfl,q1,q2,q3,rfl,rfl⟩;exact R V w' μ' q1 q2 ((H.mono q3.len q3.agree).agW I hd q1) q3
   .cases hc
  .cases hc
theorem xW(hT:dW P T){N:Nat}{ops:Array Oper}{Q:Exit->Act->World->Prop}:∀{l:List Oper}{y H :St}{μ:Nat->Place} {w:World} {a:Act} {m0:Nat}{μ0:Nat->Place} {mem0:Mem} {w0:World} {h0:Nat} {ro:Option Nat},
  nY P T N ops l y H ->agh base μ y.mem w->agy μ y.mem.length y.env a.tmps->a.tmps.size=N->MOk P base h0 w a.defers->m0<=y.mem.length->Step m0 μ0 mem0 w0 μ y.mem w->
  (∀a' w' μ',agh base μ' H.mem w' ->agy μ' H.mem.length H.env a'.tmps->a'.tmps.size=N->MOk P base h0 w' a'.defers->m0<=H.mem.length->Step m0 μ0 mem0 w0 μ' H.mem w' ->Q .normal a' w')->
  wpListIn (Fr ro) 0 P ops Q l a w
 | [],y,H,μ,w,a,m0,μ0,mem0,w0,h0,ro,h,hH,hR,hN,hdf,hm,hS,hQ=>by simp only[nY] at h;subst h;exact wpListIn_nil (hQ a w μ hH hR hN hdf hm hS)
 |o::os,y,H,μ,w,a,m0,μ0,mem0,w0,h0,ro,h,hH,hR,hN,hdf,hm,hS,hQ=>by
  obtain⟨b,M,W,J,G⟩:=h;refine wpListIn_step fun K S=>?_
  rw[qu hR M];cases b with
  |false=>
   simp only[Bool.false_eq_true,if_false];refine⟨fun _ _=>trivial,?_⟩;refine S _ _ (xW hT (J rfl) hH (hR.agW hN W (by simp[af4,af5,undef])) (by rw[gh];exact hN) (by rw[gy];exact hdf) hm hS hQ)
  |true=>
   simp only[if_true];obtain⟨v,O,Z,X⟩:=G rfl;refine sZ hT hdf.ahe hH hR hN W Z fun V w' μ' q1 q2 q3 q4=>S _ _ ?_
   exact xW hT X q2 q3 (by rw[gh];exact hN) (by rw[gy];exact hdf.step hH q4) (QQJ hm q4.len) (hS.trans (q4.mono hm)) hQ
end
end Go.Eng
namespace Go.Eng
def AWP(P:Program)(tp:Bool)(N m0:Nat)(c:Code)(y:St)(Q:Exit->St->Prop):Prop:=
 ∀(X:Option Nat) (W:Nat) base μ w a,(tp=true->X=none)->agh base μ y.mem w->agy μ y.mem.length y.env a.tmps->a.tmps.size=N->MOk P base W w a.defers->m0<=y.mem.length->
  c.wpIn (Fr X) 0 P (fun e Z w' =>∃P' μ',agh base μ' P'.mem w' /\agy μ' P'.mem.length P'.env Z.tmps/\Z.tmps.size=N/\MOk P base W w' Z.defers/\m0<=P'.mem.length/\
   Step m0 μ y.mem w μ' P'.mem w' /\Q e P') a w
variable{Q' :Exit->St->Prop}{c:Code}{id:Nat}
section
variable {P:Program}{T:TypeId->Option TyI}{tp:Bool}{N m0:Nat}{Q:Exit->St->Prop}{st:St}
theorem AWP.mono(h:AWP P tp N m0 c st Q)(hq:∀e s,Q e s->Q' e s):AWP P tp N m0 c st Q' :=
 fun ro h0 base μ w a hro h1 h2 h3 h4 h5=>wpIn_mono (h ro h0 base μ w a hro h1 h2 h3 h4 h5) fun _ _ _ ⟨s,μ',a1,a2,a3,a4,a5,a6,a7⟩=>⟨s,μ',a1,a2,a3,a4,a5,a6,hq _ _ a7⟩
theorem WO(h:Q .normal st):AWP P tp N m0 .skip st Q:=
 fun _ _ _ μ _ _ _ h1 h2 h3 h4 h5=>wpIn_skip ⟨st,μ,h1,h2,h3,h4,h5,.refl h5,h⟩
theorem WM(h:Q (.exit id) st):AWP P tp N m0 (.exit id) st Q:=
 fun _ _ _ μ _ _ _ h1 h2 h3 h4 h5=>wpIn_exit ⟨st,μ,h1,h2,h3,h4,h5,.refl h5,h⟩
theorem Yd(h:Q .ret st):AWP P tp N m0 .ret st Q:=
 fun _ _ _ μ _ _ _ h1 h2 h3 h4 h5=>wpIn_ret ⟨st,μ,h1,h2,h3,h4,h5,.refl h5,h⟩
def ZG(R:St->Prop)(Q:Exit->St->Prop):Exit->St->Prop
 |.normal,s=>R s
 |e,s=>Q e s
theorem yW{x y:Code}(h:AWP P tp N m0 x st (ZG (fun s=>AWP P tp N m0 y s Q) Q)):AWP P tp N m0 (.seq x y) st Q:=by
 intro ro h0 base μ w a hro h1 h2 h3 h4 h5;refine wpIn_seq (wpIn_mono (h ro h0 base μ w a hro h1 h2 h3 h4 h5) ?_);rintro e a' w' ⟨s,μ',b1,b2,b3,b4,b5,b6,b7⟩;cases e with
 |normal=>
  refine wpIn_mono (b7 ro h0 base μ' w' a' hro b1 b2 b3 b4 b5) ?_;rintro e a2 w2 ⟨s2,μ2,c1,c2,c3,c4,c5,c6,c7⟩;exact⟨s2,μ2,c1,c2,c3,c4,c5,b6.trans c6,c7⟩
 |_=>exact⟨s,μ',b1,b2,b3,b4,b5,b6,b7⟩
theorem PW{c:Operand}{x y:Code}{b:Bool}(hc:get st.env c=.bool b)(H:b=true->AWP P tp N m0 x st Q)(hf:b=false->AWP P tp N m0 y st Q):
  AWP P tp N m0 (.cond c x y) st Q:=by
 intro ro h0 base μ w a hro h1 h2 h3 h4 h5;have Z:=bk h2 c;rw[hc] at Z;exact wpIn_cond_split Z.bool (fun e=>H e ro h0 base μ w a hro h1 h2 h3 h4 h5) (fun e=>hf e ro h0 base μ w a hro h1 h2 h3 h4 h5)
def PY(id:Nat)(Q:Exit->St->Prop):Exit->St->Prop
 |.exit i,s=>if i=id then Q .normal s else Q (.exit i) s
 |e,s=>Q e s
theorem CV(h:AWP P tp N m0 c st (PY id Q)):AWP P tp N m0 (.block id c) st Q:=by
 intro ro h0 base μ w a hro h1 h2 h3 h4 h5;refine wpIn_block (wpIn_mono (h ro h0 base μ w a hro h1 h2 h3 h4 h5) ?_);rintro e a' w' ⟨s,μ',b1,b2,b3,b4,b5,b6,b7⟩;cases e with
 |exit i=>
  simp only[Exit.inBlock,PY] at b7 |-;split at b7
  next Z=>rw[if_pos Z];exact⟨s,μ',b1,b2,b3,b4,b5,b6,b7⟩
  next Z=>rw[if_neg Z];exact⟨s,μ',b1,b2,b3,b4,b5,b6,b7⟩
 |_=>exact⟨s,μ',b1,b2,b3,b4,b5,b6,b7⟩
theorem Sc(hT:dW P T){ops:Array Oper}{y :St}(h:nY P T N ops ops.toList st y)(hq:Q .normal y):
  AWP P tp N m0 (.region id ops false) st Q:=by
 intro ro h0 base μ w a hro h1 h2 h3 h4 h5;exact wpIn_region_list (xW hT h h1 h2 h3 h4 h5 (.refl h5) fun a' w' μ' c1 c2 c3 c4 c5 c6=>⟨y,μ',c1,c2,c3,c4,c5,c6,hq⟩)
theorem Ag{F:Fence}{r:Nat}{σ:Type}{Q:Exit->Act->World->Prop}(I:σ->Act->World->Prop)(m:σ->Nat)(y:∀s a w,I s a w->c.wpIn F r P (Exit.then (fun W w' =>∃O,I O W w' /\m O <m s) Q) a w):
  ∀{s a w},I s a w->(Code.loop c).wpIn F r P Q a w:=by
 intro s a w h₀ b k cs hro hb hr;have M:∀n s a w,m s=n->I s a w->
   ∃e W w',Q e W w' /\ArrivesIn (Machine.fenced P F) P (lone (b.atR a (.code c::.inLoop c::k)) cs w) b k cs e W w' :=by
  intro n;induction n using Nat.strongRecOn with
  |_ n ih=>
   intro s a w G D;obtain⟨e,V,S,hq,Z⟩:=y s a w D b (.inLoop c::k) cs hro hb hr;cases e with
   |normal=>
    obtain⟨O,K,C⟩:=hq;obtain⟨B,A,z,J,X⟩:=ih (m O) (G▸C) O V S rfl K;exact⟨B,A,z,J,.of_steps (StepsIn.trans Z (.one (fenced_calm hb hr rfl) stepR_inLoop)) X⟩
   |exit id=>exact⟨_,V,S,hq,.pass (x:=.inLoop c) rfl (fun _ _=>.inl (by simp)) Z⟩
   |goto l=>exact⟨_,V,S,hq,.pass (x:=.inLoop c) rfl (fun _ _=>.inl (by simp)) Z⟩
   |ret=>exact⟨_,V,S,hq,.pass (x:=.inLoop c) rfl (fun _ _=>.inl (by simp)) Z⟩
   |panic ch=>exact⟨_,V,S,hq,.pass (x:=.inLoop c) rfl (fun _ _=>.inl (by simp)) Z⟩
   |outgrown=>exact⟨_,V,S,hq,.pass (x:=.inLoop c) rfl (fun _ _=>.inl (by simp)) Z⟩
 obtain⟨e,W,w',hq,Z⟩:=M _ s a w rfl h₀;exact⟨e,W,w',hq,.of_steps (.one (fenced_calm hb hr rfl) stepR_loop) Z⟩
theorem WN{σ:Type}(I:σ->St->Prop)(m:σ->Nat){s:σ}(H:I s st)(y:∀s st,I s st->AWP P tp N m0 c st (ZG (fun Z =>∃W,I W Z /\m W <m s) Q)):AWP P tp N m0 (.loop c) st Q:=by
 intro ro h0 base μ w a hro h1 h2 h3 h4 h5;refine Ag (σ:=σ) (fun s X w' =>∃Z μ',agh base μ' Z.mem w' /\agy μ' Z.mem.length Z.env X.tmps/\X.tmps.size=N/\MOk P base h0 w' X.defers/\m0<=Z.mem.length/\
   Step m0 μ st.mem w μ' Z.mem w' /\I s Z) m ?_ (s:=s) ⟨st,μ,h1,h2,h3,h4,h5,.refl h5,H⟩
 rintro s X w' ⟨Z,μ',b1,b2,b3,b4,b5,b6,b7⟩;refine wpIn_mono (y s Z b7 ro h0 base μ' w' X hro b1 b2 b3 b4 b5) ?_;rintro e a2 w2 ⟨s2,μ2,c1,c2,c3,c4,c5,c6,c7⟩;cases e with
 |normal=>
  obtain⟨W,d1,d2⟩:=c7;exact⟨W,⟨s2,μ2,c1,c2,c3,c4,c5,b6.trans c6,d1⟩,d2⟩
 |_=>exact⟨s2,μ2,c1,c2,c3,c4,c5,b6.trans c6,c7⟩
def agY(m0:Nat)(st st1:St):Prop:=∀base μ w tmps,agh base μ st.mem w->agy μ st.mem.length st.env tmps->m0<=st.mem.length->
 ∃μ1,agh base μ1 st1.mem w/\agy μ1 st1.mem.length st1.env tmps/\m0<=st1.mem.length/\Step m0 μ st.mem w μ1 st1.mem w
theorem WQ{st1:St}(y:agY m0 st st1)(h:AWP P tp N m0 c st1 Q):AWP P tp N m0 c st Q:=by intro ro h0 base μ w a hro h1 h2 h3 h4 h5;obtain⟨μ1,Z,X,W,V⟩:=y base μ w a.tmps h1 h2 h5;refine wpIn_mono (h ro h0 base μ1 w a hro Z X h3 h4 W) ?_;rintro e a2 w2 ⟨s2,μ2,c1,c2,c3,c4,c5,c6,c7⟩;exact⟨s2,μ2,c1,c2,c3,c4,c5,V.trans c6,c7⟩
theorem agY.trans{s1 y H:St}(h:agY m0 s1 y)(h' :agY m0 y H):agY m0 s1 H:=by intro base μ w tmps h1 h2 h3;obtain⟨μ1,Z,X,W,V⟩:=h base μ w tmps h1 h2 h3;obtain⟨μ2,S,O,M,K⟩:=h' base μ1 w tmps Z X W;exact⟨μ2,S,O,M,V.trans K⟩
theorem agY.env{env y:Env}{mem:Mem}(h:∀t,ad y t=ad env t\/ad y t=.undef):agY m0 ⟨env,mem⟩ ⟨y,mem⟩:=by
 intro base μ w tmps h1 h2 h3;refine⟨μ,h1,fun t=>?_,h3,.refl h3⟩;rcases h t with e | e
 .rw[e];exact h2 t
 .rw[e];simp[af4]
theorem AWP.aiy(h:AWP P tp N m0 c st Q')(hq:∀e s,Q' e s->∃Z,agY m0 s Z/\Q e Z):AWP P tp N m0 c st Q:=by intro ro h0 base μ w a hro h1 h2 h3 h4 h5;refine wpIn_mono (h ro h0 base μ w a hro h1 h2 h3 h4 h5) ?_;rintro e a2 w2 ⟨s2,μ2,c1,c2,c3,c4,c5,c6,c7⟩;obtain⟨Z,X,hQ⟩:=hq e s2 c7;obtain⟨μ1,W,V,S,O⟩:=X base μ2 w2 a2.tmps c1 c2 c5;exact⟨Z,μ1,W,V,c3,c4,S,c6.trans O,hQ⟩
end
end Go.Eng
namespace Go.Eng
def rho(m0:Nat)(ks:List Nat)(b:Nat):Option Nat:=if b<m0 then some b else (ks.idxOf? b).map (m0+·)
def tD(ρ:Nat->Option Nat)(env:Env):Env:=env.map fun e=>(e.1,e.2.ren ρ)
def af6.ren(ρ:Nat->Option Nat):af6->af6
 |.HS=>.HS
 |.cells own es cs=>.cells own es (AV.agd ρ cs)
 |.map es=>.map (es.map fun e=>(e.1.ren ρ,e.2.ren ρ))
 |.agC es=>.agC (es.map fun e=>(e.1.ren ρ,e.2.ren ρ))
 |.loop r=>.loop { r with env:=tD ρ r.env }
def agR(m0:Nat)(ks:List Nat)(mem:Mem):Mem:=ks.map fun k=>(mem.getD k .HS).ren (rho m0 ks)
def age(m0:Nat)(ks:List Nat)(mem:Mem):Mem:=(mem.take m0).map (af6.ren (rho m0 ks))++agR m0 ks mem
def E5(m0 n:Nat)(ks:List Nat):Bool:=decide ks.Nodup&&ks.all fun k=>decide (m0<=k/\k<n)
theorem jH(ρ:Nat->Option Nat):∀(env:Env) (t:Nat),ad (tD ρ env) t=(ad env t).ren ρ
 | [],t=>by simp[tD,ad,AV.ren]
 |(k,v)::r,t=>by
  simp only[tD,List.map_cons,ad];by_cases h:k=t
  .simp[h]
  .simp only[h,if_false];exact jH ρ r t
variable{ks:List Nat}{p:Place}
section
variable {μ:Nat->Place}{mem:Mem}{base:Nat}{w:World}
theorem agj.ren{μ μ' :Nat->Place}{n y base:Nat}{w:World}{s:af6}{ρ:Nat->Option Nat}(hρ:∀b b',b<n->ρ b=some b' ->b' <y /\μ' b' =μ b)(h:agj μ n base w p s):agj μ' y base w p (s.ren ρ):=by
 cases s with
 |HS=>trivial
 |cells own es cs=>
  simp only[agj,af6.ren] at h |-;obtain⟨K,e,A,Z,X,h3,M,z⟩:=h;refine⟨K,e,A,Z,X,by rw[gT,QQi];exact h3,fun j v J=>?_,z⟩;rw[gT,QQX] at J;simp only[Pl] at J;obtain⟨u,G,rfl⟩:=J;obtain⟨V,m,Y⟩:=M j u G;exact⟨V,m,Y.ren hρ⟩
 |map es=>
  simp only[agj,af6.ren] at h |-;obtain⟨F,D,Z,X,h3,M⟩:=h;refine⟨F,D,Z,X,by rw[QQi];exact h3,fun j e he=>?_⟩;rw[QQX] at he;simp only[Pl] at he;obtain⟨C,W,rfl⟩:=he;obtain⟨E,B,S,O⟩:=M j C W;exact⟨E,B,S.ren hρ,O.ren hρ⟩
 |agC es=>
  simp only[agj,af6.ren] at h |-;obtain⟨F,D,Z,X,h3,M⟩:=h;refine⟨F,D,Z,X,by rw[QQi];exact h3,fun j e he=>?_⟩;rw[QQX] at he;simp only[Pl] at he;obtain⟨C,W,rfl⟩:=he;obtain⟨E,B,S,O⟩:=M j C W;exact⟨E,B,S.ren hρ,O.ren hρ⟩
 |loop r=>
  simp only[agj,af6.ren] at h |-;obtain⟨L,Z,X,h3⟩:=h;exact⟨L,Z,X,{ h3 with tmps:=fun t=>by rw[jH];exact(h3.tmps t).ren hρ }⟩
theorem af6.aht(ρ:Nat->Option Nat)(s:af6):(s.ren ρ).own=s.own:=by cases s<;>rfl
theorem Dr{m0 n:Nat}(h:E5 m0 n ks=true):ks.Nodup/\∀k∈ks,m0<=k/\k<n:=by simp only[E5,Es,L0,List.all_eq_true] at h;exact h
theorem gk{m0:Nat}(y:m0<=mem.length):(age m0 ks mem).length=m0+ks.length:=by simp[age,agR];omega
def jh(m0:Nat)(ks:List Nat)(b:Nat):Nat:=if b<m0 then b else ks.getD (b-m0) 0
theorem vU{m0:Nat}(y:m0<=mem.length)(hk:E5 m0 mem.length ks=true){b:Nat}{s:af6}(h:(age m0 ks mem)[b]? =some s):
  ∃Z,mem[jh m0 ks b]? =some Z/\s=Z.ren (rho m0 ks):=by
 obtain⟨_,W⟩:=Dr hk;have J:((mem.take m0).map (af6.ren (rho m0 ks))).length=m0:=by simp;omega
 unfold age at h;by_cases V:b<m0
 .rw[Hi (by omega),QQX,QQQ V] at h
  simp only[Pl] at h;obtain⟨Z,X,S⟩:=h;exact⟨Z,by simpa [jh,V] using X,S.symm⟩
 .rw[Pi (by omega),J] at h
  unfold agR at h;rw[QQX] at h;simp only[Pl] at h;obtain⟨k,X,S⟩:=h;have O:=Lo X;obtain⟨_,K⟩:=W k O;have M:mem[k]? =some mem[k]:=by simp[K]
  refine⟨mem[k],?_,?_⟩
  .simp[jh,V,X,K]
  .rw[<-S];simp[List.getD,M]
theorem Se{m0:Nat}(hk:E5 m0 mem.length ks=true){x y:Nat}(hx:x<m0+ks.length)(H:y<m0+ks.length)(h:jh m0 ks x=jh m0 ks y):x=y:=by
 obtain⟨X,W⟩:=Dr hk;have Z:∀z,¬z<m0->z<m0+ks.length->m0<=ks.getD (z-m0) 0:=by
  intro z V S;have K:z-m0<ks.length:=by omega
  have:ks.getD (z-m0) 0=ks[z-m0]:=by simp[K]
  rw[this];exact(W _ (by simp)).1
 unfold jh at h;by_cases V:x<m0<;>by_cases S:y<m0<;>simp only[V,S,if_true,if_false] at h
 .exact h
 .have:=Z y S H;omega
 .have:=Z x V hx;omega
 .have O :x-m0<ks.length:=by omega
  have M :y-m0<ks.length:=by omega
  have J:ks.getD (x-m0) 0=ks[x-m0]:=by simp[O]
  have G:ks.getD (y-m0) 0=ks[y-m0]:=by simp[M]
  rw[J,G] at h;have:=(List.getElem_inj X).1 h;omega
theorem agh.age{m0:Nat}(I:agh base μ mem w)(H:m0<=mem.length)(hk:E5 m0 mem.length ks=true):
  agh base (fun b=>μ (jh m0 ks b)) (age m0 ks mem) w/\
  (∀b X,b<mem.length->rho m0 ks b=some X ->X <(Eng.age m0 ks mem).length/\(fun b=>μ (jh m0 ks b)) X =μ b)/\
  Step m0 μ mem w (fun b=>μ (jh m0 ks b)) (Eng.age m0 ks mem) w:=by
 obtain⟨z,u⟩:=Dr hk;have hρ:∀b X,b<mem.length->rho m0 ks b=some X ->X <(Eng.age m0 ks mem).length/\(fun b=>μ (jh m0 ks b)) X =μ b:=by
  intro b X M W;rw[gk H];unfold rho at W;by_cases Z:b<m0
  .rw[if_pos Z] at W
   cases W;exact⟨by omega,by simp[jh,Z]⟩
  .rw[if_neg Z] at W
   simp only[Pl] at W;obtain⟨i,m,rfl⟩:=W;have J :=List.idxOf?_eq_some_iff.1 m;obtain⟨K,G,_⟩:=J;refine⟨by omega,?_⟩;simp only[jh];rw[if_neg (by omega)];have:ks.getD (m0+i-m0) 0=b:=by rw[Nat.add_sub_cancel_left];simp[K,G]
   rw[this]
 have V:∀x,fJ (Eng.age m0 ks mem) x->fJ mem (jh m0 ks x)/\x<m0+ks.length:=by intro x F;obtain⟨s,hc,j⟩:=F;have K:=gL hc;rw[gk H] at K;obtain⟨S,Z,rfl⟩:=vU H hk hc;exact⟨⟨S,Z,by rw[<-af6.aht];exact j⟩,K⟩
 refine⟨⟨I.agb,fun b s Y=>?_,fun x y s F A R D=>?_⟩,hρ,?_⟩
 .obtain⟨S,Z,rfl⟩:=vU H hk Y
  exact(I.slot _ S Z).ren hρ
 .obtain⟨C,B⟩:=V x F
  have O:=gL A;rw[gk H] at O;obtain⟨S,Z,rfl⟩:=vU H hk A;refine I.sep _ _ S C Z ?_ fun e=>D (Se hk B O e)
  rintro rfl;exact R rfl
 .refine⟨by rw[gk H];omega,fun b M=>by simp[jh,M],rfl,rfl,rfl,L9 _,fun _ _ _=>rfl,fun b M _=>?_,L9 _⟩
  exact⟨_,(V b M).1,rfl⟩
theorem agY.age{m0:Nat}{env:Env}{mem:Mem}(ks:List Nat)(hk:E5 m0 mem.length ks=true):
  agY m0 ⟨env,mem⟩ ⟨tD (rho m0 ks) env,age m0 ks mem⟩:=by
 intro base μ w tmps h1 h2 h3;obtain⟨Z,X,W⟩:=h1.age h3 hk;refine⟨_,Z,fun t=>?_,by rw[gk h3];omega,W⟩;rw[jH];exact(h2 t).ren X
end
mutual
theorem af4.lower{μ μ' :Nat->Place}{n y :Nat}(hμ:∀b,b<n->μ' b=μ b):∀{v V V'},af4 μ n v V->af4 μ' y v V' ->af4 μ n v V'
 |.undef,_,_,_,_=>by simp[af4]
 |.bool _,_,_,_,h=>by simpa [af4] using h
 |.int _ _,_,_,_,h=>by simpa [af4] using h
 |.str _,_,_,_,h=>by simpa [af4] using h
 |.ptr b o,_,_,h,Z =>by simp only[af4] at h Z |-;exact⟨h.1,by rw[<-hμ b h.1];exact Z.2⟩
 |.agk,_,_,_,h=>by simpa [af4] using h
 |.slice b o l c,_,_,h,Z =>by simp only[af4] at h Z |-;exact⟨h.1,by rw[<-hμ b h.1];exact Z.2⟩
 |.y9,_,_,_,h=>by simpa [af4] using h
 |.map b,_,_,h,Z =>by simp only[af4] at h Z |-;exact⟨h.1,by rw[<-hμ b h.1];exact Z.2⟩
 |.yield b,_,_,h,Z =>by simp only[af4] at h Z |-;exact⟨h.1,by rw[<-hμ b h.1];exact Z.2⟩
 |.agu,_,_,_,h=>by simpa [af4] using h
 |.func f S,_,_,h,Z =>by simp only[af4] at h Z |-;obtain⟨O,e,h⟩:=h;obtain⟨X,W,Z⟩:=Z;exact⟨X,W,af5.lower hμ h Z⟩
 |.nilFunc,_,_,_,h=>by simpa [af4] using h
 |.iface t v,_,_,h,Z =>by simp only[af4] at h Z |-;obtain⟨U,e,h⟩:=h;obtain⟨M,W,Z⟩:=Z;exact⟨M,W,af4.lower hμ h Z⟩
 |.nilIface,_,_,_,h=>by simpa [af4] using h
 |.agg S,_,_,h,Z =>by simp only[af4] at h Z |-;obtain⟨O,e,h⟩:=h;obtain⟨X,W,Z⟩:=Z;exact⟨X,W,af5.lower hμ h Z⟩
 |.tuple S,_,_,h,Z =>by simp only[af4] at h Z |-;obtain⟨O,e,h⟩:=h;obtain⟨X,W,Z⟩:=Z;exact⟨X,W,af5.lower hμ h Z⟩
theorem af5.lower{μ μ' :Nat->Place}{n y :Nat}(hμ:∀b,b<n->μ' b=μ b):∀{vs Us Us'},af5 μ n vs Us->af5 μ' y vs Us' ->af5 μ n vs Us'
 | [],_,_,_,h=>by simpa [af5] using h
 |v::vs,_,_,h,h' =>by simp only[af5] at h h' |-;obtain⟨U,K,e,V,S⟩:=h;obtain⟨O,Z,M,X,W⟩:=h';exact⟨O,Z,M,af4.lower hμ V X,af5.lower hμ S W⟩
end
theorem agj.lower{μ μ' :Nat->Place}{n y base:Nat}{w w' :World}{s:af6}(hμ:∀b,b<n->μ' b=μ b)(h:agj μ n base w p s)(h' :agj μ' y base w' p s):agj μ n base w' p s:=by
 cases s with
 |HS=>trivial
 |cells own es cs=>
  simp only[agj] at h h' |-;obtain⟨_,_,_,_,_,_,J,_⟩:=h;obtain⟨F,e,m,Z,X,g3,G,Y⟩:=h';refine⟨F,e,m,Z,X,g3,fun j v u=>?_,Y⟩;obtain⟨V,_,R⟩:=J j v u;obtain⟨Q,D,C⟩:=G j v u;exact⟨Q,D,R.lower hμ C⟩
 |map es=>
  simp only[agj] at h h' |-;obtain⟨_,_,_,_,_,J⟩:=h;obtain⟨B,A,Z,X,g3,G⟩:=h';refine⟨B,A,Z,X,g3,fun j e he=>?_⟩;obtain⟨E,_,W,S⟩:=J j e he;obtain⟨z,O,M,K⟩:=G j e he;exact⟨z,O,W.lower hμ M,S.lower hμ K⟩
 |agC es=>
  simp only[agj] at h h' |-;obtain⟨_,_,_,_,_,J⟩:=h;obtain⟨B,A,Z,X,g3,G⟩:=h';refine⟨B,A,Z,X,g3,fun j e he=>?_⟩;obtain⟨E,_,W,S⟩:=J j e he;obtain⟨z,O,M,K⟩:=G j e he;exact⟨z,O,W.lower hμ M,S.lower hμ K⟩
 |loop r=>
  simp only[agj] at h h' |-;obtain⟨L,_,_,h3⟩:=h;obtain⟨I,Z,X,g3⟩:=h';exact⟨I,Z,X,{ g3 with tmps:=fun t=>(h3.tmps t).lower hμ (g3.tmps t) }⟩
theorem agh.swap{y:Nat}{μ:Nat->Place}{H I:Mem}{w:World}(h:agh y μ H w)(Q:I.length=H.length)(hs:∀b X,I[b]? =some X->∃Z,H[b]? =some Z/\Z.own=X.own/\(Z=.HS->X=.HS)/\agj μ H.length y w (μ b) X):agh y μ I w:=by
 refine⟨h.agb,fun b s W=>?_,fun b S O W M K V=>?_⟩
 .obtain⟨Z,_,_,_,J⟩:=hs b s W;rw[Q];exact J
 .obtain⟨s,G,F⟩:=W
  obtain⟨Z,D,C,_,_⟩:=hs b s G;obtain⟨B,A,_,z,_⟩:=hs S O M;exact h.sep b S B ⟨Z,D,by rw[C];exact F⟩ A (fun e=>K (z e)) V
end Go.Eng
namespace Go.Eng
def dV:Nat->List AV->Env
 |_,[]=>[]
 |i,v::vs=>(i,v)::dV (i+1) vs
def ZS(T:TypeId->Option TyI)(env:Env)(mem:Mem):ResultVar->Option AV
 |.tmp t=>some (ad env t)
 |.cell a t=>R6 T mem t (ad env a)
def zm(T:TypeId->Option TyI)(env:Env)(mem:Mem):List ResultVar->Option (List AV)
 | []=>some []
 |r::rs=>match ZS T env mem r,zm T env mem rs with
  |some v,some vs=>some (v::vs)
  |_,_=>none
def kf(T:TypeId->Option TyI)(y:List ResultVar)(env:Env)(mem:Mem):Option AV:=
 match zm T env mem y with
 |some [v]=>some v
 |some vs=>some (.tuple vs)
 |none=>none
def Fin(mem:Mem)(v:AV) (y :Mem)(R:AV->Mem->Prop):Prop:=
 ∃Z,E5 mem.length y.length Z=true/\
  ((y.take mem.length=mem/\R (v.ren (rho mem.length Z)) (mem++agR mem.length Z y))\/R (v.ren (rho mem.length Z)) (age mem.length Z y))
variable{fn:Func}{r:Nat}
section
variable {P:Program}{T:TypeId->Option TyI}{μ:Nat->Place}{mem:Mem}{base:Nat}{w:World}
theorem zg{n:Nat}{μ:Nat->Place}:∀{vs:List AV} {Vs:List Value} (i:Nat),af5 μ n vs Vs->∀t,af4 μ n (ad (dV i vs) t) (if t<i then undef else Vs.getD (t-i) undef)
 | [],Vs,i,h,t=>by simp[dV,ad,af4]
 |v::vs,Vs,i,h,t=>by
  simp only[af5] at h;obtain⟨U,S,rfl,W,V⟩:=h;simp only[dV,ad];by_cases Z:i=t
  .subst Z;simpa using W
  .simp only[Z,if_false]
   have:=zg (i+1) V t;by_cases X:t<i
   .rw[if_pos (by omega)] at this;rw[if_pos X];exact this
   .rw[if_neg (by omega)] at this
    rw[if_neg X];have e:t-i=(t-(i+1))+1:=by omega
    rw[e];simpa using this
def rvS(tmps:Array Value):ResultVar->Sem Value
 |.tmp t=>pure (tmps.getD t undef)
 |.cell a t=>do loadVar t (<-asAddr (tmps.getD a undef))
theorem ql(hT:dW P T)(I:agh base μ mem w){env:Env}{tmps:Array Value}(y:agy μ mem.length env tmps):
  ∀{H:List ResultVar}{vs:List AV},zm T env mem H=some vs->∃X,af5 μ mem.length vs X/\
   (H.mapM (rvS tmps)).run P w=.ok X w
 | [],vs,h=>by simp only[zm,N3] at h;subst h;exact⟨[],by simp[af5],by simp⟩
 |r::H,vs,h=>by
  simp only[zm] at h;split at h
  .rename_i v F Z D
   cases h;obtain⟨X,K,J⟩:=ql hT I y D;cases r with
   |tmp t=>
    simp only[ZS,N3] at Z;subst Z;exact⟨_::X,br.2 ⟨y t,K⟩,by rw[List.mapM_cons,rvS,pure_bind,Sem.run_bind,J];rfl⟩
   |cell a t=>
    simp only[ZS] at Z;obtain⟨V,S,C⟩:=CP (P:=P) hT I (y a) Z;refine⟨V::X,br.2 ⟨C,K⟩,?_⟩;have O:∃b o,ad env a=.ptr b o:=by
     unfold R6 at Z;split at Z
     next b o _ M=>exact⟨b,o,M⟩
     .cases Z
    obtain⟨b,o,M⟩:=O;have G:=y a;rw[M] at G;have W:=G.ptr.2;rw[W] at S;simp only[Instr.loadAt,Instr.sureAddr,Sem.run_bind,Sem.run_pure,Result.andThen_ok] at S;rw[List.mapM_cons,rvS,W,Sem.run_bind];simp only[asAddr,pure_bind,S,Result.andThen_ok];rw[Sem.run_bind,J];rfl
  .cases h
theorem uP(hT:dW P T)(y:agh base μ mem w){env:Env}{tmps:Array Value}(H:agy μ mem.length env tmps){v:AV}(h:kf T fn.results.toList env mem=some v):∃V,(results fn tmps).run P w=.ok V w/\af4 μ mem.length v V:=by
 unfold kf at h;have run:∀Z,(fn.results.toList.mapM (rvS tmps)).run P w=.ok Z w->
   (results fn tmps).run P w=.ok (if h:Z.toArray.size=1 then Z.toArray[0] else .tuple Z.toArray) w:=by
  intro Z W;unfold results;rw[Array.mapM_eq_mapM_toList,Sem.run_bind,Sem.run_map];erw [W];rfl
 split at h
 .rename_i J S
  cases h;obtain⟨Z,X,O⟩:=ql hT y H S;simp only[af5] at X;obtain⟨U,G,rfl,g3,rfl⟩:=X;exact⟨U,by rw[run _ O];simp,g3⟩
 .rename_i M K S
  cases h;obtain⟨Z,X,O⟩:=ql hT y H S;refine⟨.tuple Z.toArray,?_,by simp only[af4];exact⟨Z,rfl,X⟩⟩;rw[run _ O];have:¬Z.toArray.size=1:=by
   have:=X.length;intro e;simp at e;rw[e] at this
   match M,this with
   | [x],_=>exact K x rfl
  rw[dif_neg this]
 .cases h
theorem Bg{P:Program}{w:World}(h:w.heap[r]? =some (.deferred (some []))):
  (Instr.takeDeferred r).run P w=.ok [] { w with heap:=w.heap.setIfInBounds r (.deferred none) }:=by
 have Z:(getObj r).run P w=.ok (.deferred (some [])) w:=by simp[getObj,Sem.run,h]
 have X:(setObj r (.deferred none)).run P w=.ok () { w with heap:=w.heap.setIfInBounds r (.deferred none) }:=ui h (by intro c e f;simp);simp only[Instr.takeDeferred,Sem.run_bind,Z,Result.andThen_ok];rw[X];rfl
theorem agh.shut{base:Nat}{μ:Nat->Place}{mem:Mem}{w:World}{r:Nat}{x y}(H:agh base μ mem w)(h:w.heap[r]? =some (.deferred x)):
  agh base μ mem { w with heap:=w.heap.setIfInBounds r (.deferred y) }:=by
 refine⟨by simpa using H.agb,fun b s Z=>?_,H.sep⟩;by_cases h0:s=.HS
 .subst h0;trivial
 .refine(H.slot b s Z).mono (L9 _) (fun _ _=>rfl) fun _=>?_
  exact X2 (Ne.symm (qK H h Z h0))
theorem Step.shut{m0:Nat}{μ μ' :Nat->Place}{mem mem' :Mem}{w w' :World}{o:Obj}(h:Step m0 μ mem w μ' mem' w')(hr:w.heap.size<=r):
  Step m0 μ mem w μ' mem' { w' with heap:=w'.heap.setIfInBounds r o }:=by
 refine⟨h.len,h.agree,h.os,h.tape,h.output,by simpa using h.size,fun k Z X=>?_,h.owner,h.drawn⟩;rw[<-h.frame k Z X];exact X2 (by omega)
theorem MOk.shut{P:Program}{base h0 r:Nat}{w:World}{ds:List Deferred}{o:Obj}(h:MOk P base h0 w ({ target:=.collected r,args:= #[] }::ds)):
  MOk P base h0 { w with heap:=w.heap.setIfInBounds r o } ds:=by
 have V:h0<=r:=by obtain⟨q,e,Z,_⟩:=h.each _ (List.mem_cons_self ..);cases e;exact Z
 refine⟨⟨h.ahe.below,?_⟩,h.agb,by simpa using h.le,fun d W=>?_,?_⟩
 .have:=h.ahe.tab
  unfold Lib.TabIs at this |-;rw[<-this];refine QH fun k M=>X2 ?_
  have:=h.ahe.below;have:=h.agb;omega
 .obtain⟨q,e,Z,S⟩:=h.each d (by simp[W])
  refine⟨q,e,Z,?_⟩;have O:r≠q:=by intro X;have:=h.nodup;simp only[List.map_cons,List.nodup_cons,QQj,not_exists] at this;exact this.1 d ⟨W,by rw[e,X]⟩
  show(w.heap.setIfInBounds r o)[q]? =_
  rw[X2 O,S]
 .have:=h.nodup
  simp only[List.map_cons,List.nodup_cons] at this;exact this.2
theorem sQ{P:Program}{fn:Func}{tmps:Array Value}{R:Ending->World->Prop}{base m0:Nat}{μ μ0:Nat->Place}{mem mem0:Mem}{w0:World}:
  ∀(ds:List Deferred) (w:World),MOk P base w0.heap.size w ds->agh base μ mem w->Step m0 μ0 mem0 w0 μ mem w->
   (∀w',agh base μ mem w' ->Step m0 μ0 mem0 w0 μ mem w' ->∃v,(results fn tmps).run P w' =.ok v w' /\R (.returned v) w')->
   LeavesInM (Fr none) 0 P fn tmps R ds .returning w
 | [],w,_,hH,hS,hq=>hq w hH hS
 |d::ds,w,hM,hH,hS,hq=>by obtain⟨r,rfl,X,Z⟩:=hM.each d (by simp);refine⟨by simp,.inl ⟨r,_,rfl,Bg Z,?_⟩⟩;exact sQ ds _ hM.shut (hH.shut Z) (hS.shut X) hq
theorem agF.intro(hT:dW P T){f:FuncId}{c:Code}{args:List AV}{mem:Mem}{R:AV->Mem->Prop}(hf:P.funcs[f]? =some fn)(y:fn.body=some c)(hn:(fn.name == "runtime.NumGoroutine")=false)(hl:args.length<=fn.ntmps)(h:AWP P true fn.ntmps mem.length c ⟨dV 0 args,mem⟩ fun e X =>(e=.normal\/e=.ret)/\∃v,kf T fn.results.toList X.env X.mem=some v/\Fin mem v X.mem R):
  agF P f args mem R:=by
 refine⟨⟨fn,hf,by simp[y],hn⟩,fun base μ w Vs hG hH hV=>?_⟩;refine Bn.1 (callsIn_of_wp_marks (F:=Fr none) (n:=0) hf y trivial (wpIn_mono (h none w.heap.size base μ w _ (fun _=>rfl) hH ?_ ?_ (MOk.nil w hG hH.agb (L9 _)) (L9 _)) ?_) rfl)
 .intro t
  have:=zg 0 hV t;simp only[Nat.not_lt_zero,if_false,QXX] at this;by_cases ht:t<Vs.length
  .have e:(⟨Vs⟩++Array.replicate (fn.ntmps-(⟨Vs⟩:Array Value).size) undef:Array Value).getD t undef=Vs.getD t undef:=by simp only[Array.getD_eq_getD_getElem?];rw[Array.getElem?_append_left (by simpa using ht)];simp[List.getD]
   show af4 μ mem.length (ad (dV 0 args) t) ((⟨Vs⟩++Array.replicate (fn.ntmps-(⟨Vs⟩:Array Value).size) undef:Array Value).getD t undef)
   rw[e];exact this
  .have:ad (dV 0 args) t=.undef:=by
    have A:=hV.length;have:∀(J:List AV) (i:Nat),i+J.length<=t->ad (dV i J) t=.undef:=by
     intro J;induction J with
     |nil=>intro i _;rfl
     |cons v J ih=>
      intro i hi;simp only[List.length_cons] at hi;simp only[dV,ad];rw[if_neg (by omega)];exact ih (i+1) (by omega)
    exact this args 0 (by omega)
   show af4 μ mem.length (ad (dV 0 args) t) _
   rw[this];simp[af4]
 .simp only[Array.size_append,List.size_toArray,Array.size_replicate,hV.length];omega
 .rintro e a' w' ⟨X,μ',b1,b2,b3,b4,b5,b6,he,v,hv,ks,hks,hR⟩
  have O:LeavesInM (Fr none) 0 P fn a'.tmps (fun e w' =>∃V v mem' μ',e=.returned V/\af4 μ' mem'.length v V/\agh base μ' mem' w' /\Step mem.length μ mem w μ' mem' w' /\R v mem') a'.defers .returning w' :=by
   refine sQ a'.defers w' b4 b1 b6 fun w2 m G=>?_
   obtain⟨V,j,z⟩:=uP (P:=P) (fn:=fn) hT m b2 hv;obtain⟨Y,H,c3⟩:=m.age b5 hks;refine⟨V,j,?_⟩;rcases hR with⟨W,hr⟩ | hr
   .have A:(mem++agR mem.length ks X.mem).length=(age mem.length ks X.mem).length:=by rw[gk b5];simp[agR]
    have D:∀b Z,(mem++agR mem.length ks X.mem)[b]? =some Z->∃C,(age mem.length ks X.mem)[b]? =some C/\C.own=Z.own/\(C=.HS->Z=.HS)/\
      agj (fun b=>μ' (jh mem.length ks b)) (age mem.length ks X.mem).length base w2 (μ' (jh mem.length ks b)) Z:=by
     intro b Z y;unfold age;rw[W];by_cases M:b<mem.length
     .rw[Hi M] at y
      refine⟨Z.ren (rho mem.length ks),by rw[Hi (by simpa using M),QQX,y];rfl,af6.aht _ _,?_,?_⟩
      .intro h;cases Z<;>simp[af6.ren] at h |-
      .have Q:jh mem.length ks b=b:=by simp[jh,M]
       rw[Q];have B:=hH.slot b Z y;have K:=m.slot b Z (by rw[<-y,<-W,QQQ M]);rw[G.agree b M] at K |-;have g3:=agj.lower (w' :=w2) (fun b y=>G.agree b y) B K;refine g3.mono ?_ (fun b y=>?_) fun _=>rfl
       .simp[agR]
       .show μ' (jh mem.length ks b)=μ b
        rw[show jh mem.length ks b=b by simp[jh,y],G.agree b y]
     .have u :(age mem.length ks X.mem)[b]? =some Z:=by unfold age;rw[W,Pi (by simp;omega)];rw[Pi (by omega)] at y;simpa using y
      have:=Y.slot b Z u;unfold age at u this;rw[W] at u this;exact⟨Z,u,rfl,id,this⟩
    have I:=Y.swap A D;refine⟨V,_,_,_,rfl,z.ren fun b b' B K=>?_,I,?_,hr⟩
    .obtain⟨g3,g4⟩:=H b b' B K
     exact⟨by rw[A];exact g3,g4⟩
    .have S:=G.trans c3
     refine⟨by rw[A];exact S.len,S.agree,S.os,S.tape,S.output,S.size,S.frame,fun b y M=>?_,S.drawn⟩;obtain⟨s,B,K⟩:=y;obtain⟨C,j,z,_,_⟩:=D b s B;exact S.owner b ⟨C,j,by rw[z];exact K⟩ M
   .exact⟨V,_,_,_,rfl,z.ren H,Y,G.trans c3,hr⟩
  rcases he with rfl | rfl
  .exact O
  .exact O
end
end Go.Eng
