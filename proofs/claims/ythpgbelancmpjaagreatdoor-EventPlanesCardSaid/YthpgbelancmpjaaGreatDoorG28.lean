/- See G38. -/
import Derived.Test.YthpgbelancmpjaaGreatDoorG27
set_option linter.all false
set_option maxRecDepth 100000
set_option maxHeartbeats 40000000
namespace Go.Proofs
open Go.Eng
open Tryz
abbrev I4:=Int×Int×Int×Int
def tA(t:I4):AV:=.agg [.int .i64 t.1,.int .i64 t.2.1,.int .i64 t.2.2.1,.int .i64 t.2.2.2]
abbrev M3:=V3×V3×V3
def vL(v:V3):List AV:=[.str (aq v.1),.str (aq v.2.1),.str (aq v.2.2)]
def YM(r:M3)(v:V3):V3:=(iK r.1 v,iK r.2.1 v,iK r.2.2 v)
def Zq(a b:V3):V3:=(a.1-b.1,a.2.1-b.2.1,a.2.2-b.2.2)
def mOk(r:M3)(v:V3):Prop:=GZ r.1 v/\GZ r.2.1 v/\GZ r.2.2 v
structure ahW (r:M3)(c:V3):Prop where
 ck:vC c
 m:mOk r c
 f:vF c/\vF (YM r c)
 s:vC (Zq c (YM r c))
theorem Sg(d:Nat)(x y:Int):lg (aX prog) (d+1) 3 (.int .i64 x) (.int .i64 y)=some (decide (x=y)):=by rw[lg];simp
theorem IA(d:Nat)(t u v w a b c e:Int):lg (aX prog) (d+2) 64 (.agg [.int .i64 t,.int .i64 u,.int .i64 v,.int .i64 w]) (.agg [.int .i64 a,.int .i64 b,.int .i64 c,.int .i64 e])=some (decide (t=a)&&(decide (u=b)&&(decide (v=c)&&decide (w=e)))):=by have r:List.range' 0 4=[0,1,2,3]:=rfl;have i:=Sg d;rw[lg];simp only[GD,GC,r,Wq];simp[jU,TyI.isAgg,i]
open Classical in
noncomputable def AF(f:FuncId)(args:List AV):Option AV:=
 match f,args with
 |88,[.int .i64 n,.int .i64 d]=>if 0<d/\n.natAbs<=1000000/\d.natAbs<=1000000 then some (.tuple [.str (aq (mkRat n d.toNat)),.int .i64 0]) else none
 |121,[.int .i64 n]=>if n.natAbs<=1000000 then some (.bool false) else none
 |_,_=>none
theorem Pf{n:Int}(h:n.natAbs<=1000000):dY n=true:=by unfold dY;simp only[Es,GE];omega
theorem M2(n:Int)(h:n.natAbs<=1000000)(M:Mem):kO prog 121 [.int .i64 n] M (.bool false) M:=by
 have Z:aZ prog 121=some f121:=by kernel_rfl
 refine aA (az _) ?_ M;have X:¬1000000<n:=by omega
 have V:¬n< -1000000:=by omega
 have w:IntKind.i64.wrap (-1000000)= -1000000:=rfl;simp[ae,Z,f121,X,V]
theorem NU:qS prog (ah AF):=bM fun f X v h mem=>by
 unfold AF at h;split at h
 .rename_i n d
  split at h
  .rename_i Z
   cases h;have:=HR n d.toNat (by omega) (Pf Z.2.1) (Pf (by omega)) mem;rw[QQi (by omega)] at this;exact this
  .cases h
 .split at h
  next Z=>cases h;exact M2 _ Z mem
  .cases h
 .cases h
def tLe(n:Nat)(t:I4):Prop:=t.1.natAbs<=n/\t.2.1.natAbs<=n/\t.2.2.1.natAbs<=n/\t.2.2.2.natAbs<=n
def YF(t:I4):Prop:=t.1=0/\t.2.1=0/\t.2.2.1=0/\t.2.2.2=0
theorem FC{t:I4}(H:tLe 20 t)(hz:¬YF t)(M:Mem):kO prog 69 [tA t] M (.int .i64 0) M:=by
 obtain⟨w,x,y,z⟩:=t;obtain⟨S,R,h3,O⟩:=H;simp only at S R h3 O;have N:w.natAbs<=1000000:=by omega
 have L:x.natAbs<=1000000:=by omega
 have g3:y.natAbs<=1000000:=by omega
 have K:z.natAbs<=1000000:=by omega
 have C:IntKind.i64.wrap (-1)= -1:=rfl;have G:kO prog 202 [.slice 0 0 4 (some 4),.func 121 []] [.cells true 0 [.int .i64 w,.int .i64 x,.int .i64 y,.int .i64 z]] (.int .i64 (-1)) [.cells true 0 [.int .i64 w,.int .i64 x,.int .i64 y,.int .i64 z]]:=by
  have Z:aZ prog 202=some f202:=by kernel_rfl
  have h:ae (aX prog) (fun _=>[8]) (aZ prog) (ah AF) 6 202 [.slice 0 0 4 (some 4),.func 121 []] [.cells true 0 [.int .i64 w,.int .i64 x,.int .i64 y,.int .i64 z]]=some ⟨.int .i64 (-1),none,[]⟩:=by simp[ae,Z,f202,aM,fj,ah,AF,N,L,g3,K,w1,w2,w3,w4]
  have:=(aB aj (aI _) NU (aQ _) h).1;simpa [afl.mem] using this
 have F:kO prog 120 [.slice 0 0 4 (some 4),.func 121 []] [.cells true 0 [.int .i64 w,.int .i64 x,.int .i64 y,.int .i64 z]] (.bool false) [.cells true 0 [.int .i64 w,.int .i64 x,.int .i64 y,.int .i64 z]]:=by
  have Z:aZ prog 120=some f120:=by kernel_rfl
  have V:qS prog (wN [(202,[.slice 0 0 4 (some 4),.func 121 []],[.cells true 0 [.int .i64 w,.int .i64 x,.int .i64 y,.int .i64 z]],⟨.int .i64 (-1),none,[]⟩)]):=AO fun e X=>by rw[List.mem_singleton] at X;subst X;exact⟨by simpa [afl.mem] using G,by simp⟩
  have h:ae (aX prog) (fun _=>[]) (aZ prog) (wN [(202,[.slice 0 0 4 (some 4),.func 121 []],[.cells true 0 [.int .i64 w,.int .i64 x,.int .i64 y,.int .i64 z]],⟨.int .i64 (-1),none,[]⟩)]) 1 120 [.slice 0 0 4 (some 4),.func 121 []] [.cells true 0 [.int .i64 w,.int .i64 x,.int .i64 y,.int .i64 z]]=some ⟨.bool false,none,[]⟩:=by simp[ae,Z,f120,wN]
  have:=(aB aj (aI _) V (aQ _) h).1;simpa [afl.mem] using this
 have Z:aZ prog 69=some f69:=by kernel_rfl
 have V:qS prog (wN [(120,[.slice 0 0 4 (some 4),.func 121 []],[.cells true 0 [.int .i64 w,.int .i64 x,.int .i64 y,.int .i64 z]],⟨.bool false,none,[]⟩)]):=AO fun e X=>by rw[List.mem_singleton] at X;subst X;exact⟨by simpa [afl.mem] using F,by simp⟩
 have e:=fun d=>IA d w x y z 0 0 0 0
 have U:(decide (w=0)&&(decide (x=0)&&(decide (y=0)&&decide (z=0))))=false:=by
  cases hb:(decide (w=0)&&(decide (x=0)&&(decide (y=0)&&decide (z=0))))
  .rfl
  .simp only[Es,GE] at hb
   exact absurd hb hz
 simp only[U] at e;refine aA V ?_ M;simp[ae,Z,f69,wN,tA,e,cj]
def RV(t:I4):I4:=if t=(0,0,0,0) then (1,0,0,0) else t
def Dk(x:adM):I4:=RV ((x.t 0).tmod 21,(x.t 1).tmod 21,(x.t 2).tmod 21,(x.t 3).tmod 21)
theorem PL(n:Int):(n.tmod 21).natAbs<=20:=by have:=AD n 21 (by decide);simp only[Int.cast_ofNat_Int] at this;omega
theorem Wk(x:adM):tLe 20 (Dk x):=by
 unfold Dk RV;split
 .exact⟨by decide,by decide,by decide,by decide⟩
 .exact⟨PL _,PL _,PL _,PL _⟩
theorem Wl(x:adM):¬YF (Dk x):=by
 unfold Dk RV;split
 .rintro ⟨h,_⟩;exact absurd h (by decide)
 .rename_i h
  rintro ⟨Z,X,h3,V⟩;exact h (Prod.ext Z (Prod.ext X (Prod.ext h3 V)))
theorem Nd(a b c d:Int)(I:AQ a)(H:AQ b)(hc:AQ c)(hd:AQ d)(M:Mem):kO prog 42 [.agg [.int .i8 a,.int .i8 b,.int .i8 c,.int .i8 d]] M (tA (RV (a.tmod 21,b.tmod 21,c.tmod 21,d.tmod 21))) M:=by
 have R:aZ prog 42=some f42:=by kernel_rfl
 have W:∀z,AQ z->IntKind.i64.wrap z=z:=fun z Z=>k9 (by have:=Z.1;have:=Z.2;omega) (by have:=Z.1;have:=Z.2;omega)
 have O:=W a I;have N:=W b H;have L:=W c hc;have G:=W d hd;obtain⟨p,X⟩:=xE (a.tmod 21);obtain⟨q,V⟩:=xE (b.tmod 21);obtain⟨r,U⟩:=xE (c.tmod 21);obtain⟨s,S⟩:=xE (d.tmod 21);rw[<-X,<-V,<-U,<-S];have F:∀t u v w a b c e:Int,lg (aX prog) 20 64 (.agg [.int .i64 t,.int .i64 u,.int .i64 v,.int .i64 w]) (.agg [.int .i64 a,.int .i64 b,.int .i64 c,.int .i64 e])=some (decide (t=a)&&(decide (u=b)&&(decide (v=c)&&decide (w=e)))):=IA 18
 refine dc (az _) (lv:=fun _=>[4]) (K:=5) rfl rfl ?_ M;by_cases h:p=0/\q=0/\r=0/\s=0
 .obtain⟨C,B,h3,o⟩:=h
  subst C B h3 o;simp[ae,R,f42,aM,fj,O,N,L,G,<-X,<-V,<-U,<-S,w1,w2,w3,w4,tA,RV,F,cj]
 .have e:(decide (p=0)&&(decide (q=0)&&(decide (r=0)&&decide (s=0))))=false:=by
   cases hh:(decide (p=0)&&(decide (q=0)&&(decide (r=0)&&decide (s=0)))) with
   |false=>rfl
   |true=>
    simp only[Es,GE] at hh;exact absurd hh h
  have H:RV (p,q,r,s)=(p,q,r,s):=if_neg fun e=>h (by simpa using e)
  rw[H];simp[ae,R,f42,aM,fj,O,N,L,G,<-X,<-V,<-U,<-S,w1,w2,w3,w4,tA,F,e,-Bool.and_eq_false_imp,cj]
def ctN(x:adM):Nat:=(ct3 (x.n 0)).toNat
theorem fR(x:adM):ctN x=1\/ctN x=2\/ctN x=3:=by have:=O9 (x.n 0);unfold ctN;omega
variable{x:adM}
theorem SZ{c:Nat}(h:ctN x=c):ct3 (x.n 0)=c:=by have:=O9 (x.n 0);unfold ctN at h;omega
def dqS(m n:Nat):Nat->AV
 |1=>.qF
 |2=>.slice (m+2) 0 1 none
 |_=>.slice (m+2) 0 2 none
def dqN(m:Nat)(x:adM)(n:Nat):Nat->Mem
 |1=>[.cells true 1 (qC (qH (x.base.l n))),.cells true 1 (stC (uNm 1))]
 |2=>[.cells true 1 (qC (qH (x.base.l n))),.cells true 1 (stC (uNm 2)),.cells true 1 [.slice (m+3) 0 n none],.cells true 1 (qC (qH (upL x.s0 (x.base.l n) n)))]
 |_=>[.cells true 1 (qC (qH (x.base.l n))),.cells true 1 (stC (uNm 3)),.cells true 1 [.slice (m+3) 0 n none,.slice (m+4) 0 n none],.cells true 1 (qC (qH (upL x.s0 (x.base.l n) n))),.cells true 1 (qC (qH (upL x.s1 (upL x.s0 (x.base.l n) n) n)))]
theorem Na(x:adM)(H:x.Ok)(n k:Nat)(I:0<n)(J:n<=1000)(M:Mem)(p t:Nat)(Y:p<M.length)(ht:t<M.length):
  kO prog 35 [.agg [.slice p 0 n none,.slice t 0 k none],.agg x.cells,.str [110]] M (.agg [.slice M.length 0 n none,.slice (M.length+1) 0 (ctN x) none,dqS M.length n (ctN x)]) (M++dqN M.length x n (ctN x)):=by
 have U:=fun f=>aT (ρ:=f) x.closed
 have X:kO prog 35 [.agg [.slice 0 0 n none,.slice 1 0 k none],.agg x.cells,.str [110]] [.qK,.qK] (.agg [.slice 2 0 n none,.slice 3 0 (ctN x) none,dqS 2 n (ctN x)]) ([.qK,.qK]++dqN 2 x n (ctN x)):=by
  rcases fR x with h | h | h
  .rw[h];exact Ih x H n k I J (SZ h)
  .rw[h];exact Ii x H n k I J (SZ h)
  .rw[h];exact Ij x H n k I J (SZ h)
 have h3:=fR x;obtain⟨c,S⟩:=xE (ctN x);rw[<-S] at X h3 |-;have:=kO.frame (M:=M) (new:=dqN 2 x n c) [p,t] (m:=[.qK,.qK]) rfl (by
  intro k V;simp only[lM] at V;rcases V with rfl | rfl
  .exact Y
  .exact ht) (by simp[AV.afu,AV.under,bl x.closed]) (fun i s Z=>by
  match i with
  |0=>simp at Z;subst Z;trivial
  |1=>simp at Z;subst Z;trivial
  |i+2=>simp at Z) (by rcases h3 with rfl | rfl | rfl<;>rfl) X
 rcases h3 with rfl | rfl | rfl<;>simpa [AV.afI,AV.ren,fA,afq.ren,dqS,dqN,kW,uNm,nmE,stC,U] using this
theorem XB(x:adM)(H:x.Ok)(M:Mem):kO prog 42 [.agg (i8C x.T)] M (tA (Dk x)) M:=by
 have X:=H.tl;have Z:=H.tk;unfold Dk adM.t;obtain⟨T,hT⟩:=xE x.T;rw[<-hT] at X Z |-
 match T,X with
 | [a,b,c,d],_=>exact Nd a b c d (Z _ (by simp)) (Z _ (by simp)) (Z _ (by simp)) (Z _ (by simp)) M
open Classical in
noncomputable def fQ(x:adM)(f:FuncId)(args:List AV):Option AV:=
 match f,args with
 |40,[.agg cs]=>if cs=x.cells then some (zA (Aw x)) else none
 |39,[.agg a,.str s]=>if .agg a=zA (Aw x)/\s=[49,47,50] then some (vA (hV (Aw x))) else none
 |42,[.agg cs]=>if cs=i8C x.T then some (tA (Dk x)) else none
 |f,args=>iQ x f args
theorem ka(H:x.Ok):qS prog (ah (fQ x)):=bM fun f X v h mem=>by
 unfold fQ at h;split at h
 .split at h
  next Z=>cases h;rw[Z];exact FK x H mem
  .cases h
 .split at h
  next Z=>cases h;rw[Z.1,Z.2];exact Nb _ (N5 x) mem
  .cases h
 .split at h
  next Z=>cases h;rw[Z];exact XB x H mem
  .cases h
 .have:=(BS H).fn _ _ mem ⟨v,none,[]⟩ (by unfold ah;simp only;rw[h])
  simpa [afl.mem] using this
end Go.Proofs
namespace Go.Proofs
open Go.Eng
open Tryz
open Classical in
noncomputable def fD:List (FuncId×List AV×(Mem->Prop)×afl)->y9
 | [],_,_,_=>none
 |x::L,c,args,M=>if c=.fn x.1/\args=x.2.1/\x.2.2.1 M then some x.2.2.2 else fD L c args M
variable{L:List (FuncId×List AV×(Mem->Prop)×afl)}
theorem pH{P:Program}(h:∀x∈L,∀M,x.2.2.1 M->qz P (.fn x.1) x.2.1 M x.2.2.2):qS P (fD L):=cw fun c a M r Z=>by
 induction L with
 |nil=>simp[fD] at Z
 |cons x L ih=>
  rw[fD] at Z;split at Z
  .rename_i X
   obtain⟨rfl,rfl,V⟩:=X;cases Z;exact h x (by simp) M V
  .exact ih (fun y U=>h y (by simp[U])) Z
variable{a:List AV}{p:Mem->Prop}{r:afl}
theorem iz{f:FuncId}{m:Mem}(h:p m):fD ((f,a,p,r)::L) (.fn f) a m=some r:=by rw[fD,if_pos ⟨rfl,rfl,h⟩]
theorem dX{f g:FuncId}{b:List AV}{m:Mem}(h:f≠g\/¬p m):fD ((f,a,p,r)::L) (.fn g) b m=fD L (.fn g) b m:=by rw[fD,if_neg (fun e=>h.elim (fun h=>h (by have:=e.1;cases this;rfl)) fun h=>h e.2.2)]
def ma(s:afq):Bool:=s.own||match s with | .qK=>true | _=>false
theorem CI(k:Nat)(M:Mem)(H n:Nat)(h:k<H):(((bP (fun b=>decide (b=k)) 0 M).drop H).take n).all qt=true:=
 E2 _ M H n fun b Z _=>by simp;omega
theorem Rw(a b:Nat):(!decide (a<=b)|| !decide (b<a))=true:=by
 rcases Nat.lt_or_ge b a with h | h
 .simp[Nat.not_le.2 h]
 .simp[Nat.not_lt.2 h]
theorem dZ(H:List Nat)(j:Nat)(acc:List (Nat×Rec))(r:Rec)(rest:List Rec):gD H j acc (r::rest)=(r.v.afm (fun b=>decide (b<r.nx.length))&&(dR r||(fT H j r (j+1) rest&&(r.wr.isEmpty||(jB H j r acc&&r.wr.all (fun b=>fJ r.tm b&&(match r.nx[b]? with | some s=>s.afm (fun b=>decide (b<r.nx.length)) | none=>true))))&&
   (r.nx.drop r.mem.length).all fun s=>ma s&&s.afm (fun b=>decide (b<r.nx.length))))&&gD H (j+1) ((j,r)::acc) rest):=rfl
theorem Oh(H:List Nat)(j:Nat)(acc:List (Nat×Rec)):gD H j acc []=true:=rfl
theorem L5(f:Nat->Bool)(s:afq)(new:Mem)(M:Mem)(k:Nat):bw [k] 0 M ((bP f 0 M).set k s++new)=M.set k s++new:=by
 have Z:∀(i:Nat) (M:Mem) (k:Nat),bw [i+k] i M ((bP f i M).set k s++new)=M.set k s++new:=by
  intro i M;induction M generalizing i with
  |nil=>intro k;rfl
  |cons x M ih=>
   intro k;cases k with
   |zero=>
    have h:∀(j:Nat) (M:Mem),i<j->bw [i] j M (bP f j M++new)=M++new:=by
     intro j M X;induction M generalizing j with
     |nil=>rfl
     |cons y M ih=>simp[bP,bw,ih (j+1) (by omega),show¬j=i by omega]
    simp[bP,bw,h (i+1) M (by omega)]
   |succ k=>
    have:=ih (i+1) k;rw[show i+1+k=i+(k+1) by omega] at this;simp[bP,bw,this,show¬i=i+(k+1) by omega]
 have:=Z 0 M k
 rwa [QQb] at this
theorem vS:((∀a,(AV.str a).known=true)/\(∀k i,(AV.int k i).known=true)/\(∀b o n c,(AV.slice b o n c).known=true)/\AV.qF.known=true/\(∀b o,(AV.ptr b o).known=true)/\(∀Z,(AV.agg Z).known=true))/\
  ((∀a,(AV.str a).cells=[.str a])/\(∀k i,(AV.int k i).cells=[.int k i])/\(∀b o n c,(AV.slice b o n c).cells=[.slice b o n c])/\AV.qF.cells=[.qF]/\(∀b o,(AV.ptr b o).cells=[.ptr b o])/\∀Z,(AV.agg Z).cells=Z)/\
  ((∀b o n c,(AV.slice b o n c).afp=true)/\(∀a,(AV.str a).afp=true)/\(∀k i,(AV.int k i).afp=true)/\(∀b,(AV.bool b).afp=true)/\AV.qF.afp=true/\∀b o,(AV.ptr b o).afp=true):=
 ⟨⟨fun _=>rfl,fun _ _=>rfl,fun _ _ _ _=>rfl,rfl,fun _ _=>rfl,fun _=>rfl⟩,⟨fun _=>rfl,fun _ _=>rfl,fun _ _ _ _=>rfl,rfl,fun _ _=>rfl,fun _=>rfl⟩,⟨fun _ _ _ _=>rfl,fun _=>rfl,fun _ _=>rfl,fun _=>rfl,rfl,fun _ _=>rfl⟩⟩
theorem rS(f:Nat->Bool):AV.qF.afm f=true/\(∀b o n c,(AV.slice b o n c).afm f=f b)/\(∀b o,(AV.ptr b o).afm f=f b)/\(∀a,(AV.str a).afm f=true)/\(∀k i,(AV.int k i).afm f=true)/\(∀b,(AV.bool b).afm f=true)/\(∀Z,(AV.agg Z).afm f=AV.afs f Z)/\(∀Z,(AV.tuple Z).afm f=AV.afs f Z)/\AV.undef.afm f=true/\
  afq.afm f .qK=true/\(∀o es Z,afq.afm f (.cells o es Z)=AV.afs f Z):=⟨rfl,fun _ _ _ _=>rfl,fun _ _=>rfl,fun _=>rfl,fun _ _=>rfl,fun _=>rfl,fun _=>rfl,fun _=>rfl,rfl,rfl,fun _ _ _=>rfl⟩
theorem mS:((∀(M X:Mem) k,(M++X)[M.length+k]? =X[k]?)/\(∀M X:Mem,(M++X)[M.length]? =X[0]?)/\(∀(M X:Mem) k s,(M++X).set (M.length+k) s=M++X.set k s)/\(∀(M X:Mem) s,(M++X).set M.length s=M++X.set 0 s)/\(∀(M X:Mem) k,(M++X).drop (M.length+k)=X.drop k)/\(∀M X:Mem,(M++X).drop M.length=X))/\
  ((∀(α:Type) (s:α) l,(s::l)[0]? =some s)/\(∀(α:Type) (s:α) l (i:Nat),(s::l)[i+1]? =l[i]?))/\((∀es U,ma (.cells true es U)=true)/\ma .qK=true)/\
  ((∀f i M,bw [] i M (bP f i M)=M)/\(∀i M,bw [] i M M=M)/\(∀f Z i M,bw [] i M (bP f i M++Z)=M++Z)/\(∀Z i M,bw [] i M (M++Z)=M++Z)/\(∀f s M k,bw [k] 0 M ((bP f 0 M).set k s)=M.set k s)/\(∀f s Z M k,bw [k] 0 M ((bP f 0 M).set k s++Z)=M.set k s++Z)/\(∀wr i M,bw wr i [] M=M)/\(∀i s s' r V,bw [] i (s::r) (s' ::V)=s::bw [] (i+1) r V)/\(∀i N X Y,bw [] i (N++X) (N++Y)=N++bw [] (i+N.length) X Y))/\
  ((∀f i M b,(bP f i M)[b]? =(M[b]?).map fun s=>if f (i+b) then s else .qK)/\(∀i M,bP (fun _=>true) i M=M)/\(∀f i M,(bP f i M).length=M.length)/\(∀M S n,(((bP (fun _=>false) 0 M).drop S).take n).all qt=true)/\(∀a b:Nat,(a<=b/\b<a)=False)/\(∀a b:Nat,(!decide (a<=b)|| !decide (b<a))=true))/\
  ((∀b o n c,cN (.slice b o n c)=[b])/\cN .qF=[])/\(∀R j acc,gD R j acc []=true):=
 ⟨⟨wU,yr,G8,VV,W2,VK⟩,⟨fun _ _ _=>rfl,fun _ _ _ _=>rfl⟩,⟨fun _ _=>rfl,rfl⟩,⟨wW,zv,CK,zu,L4,L5,fun _ _ _=>rfl,wV,CL⟩,⟨vl,E3,E4,Ov,Ot,Rw⟩,⟨fun _ _ _ _=>rfl,rfl⟩,fun _ _ _=>rfl⟩
noncomputable def OY:Field:=bq 125 0
noncomputable def UN:Field:=bq 125 1
noncomputable def UO:Field:=bq 125 2
noncomputable def UP:Field:=bq 125 3
noncomputable def UQ:Field:=bq 125 4
theorem Sj:OY.type=123:=by kernel_rfl
theorem Vy:aX prog 123=some ⟨.func #[68,154] #[] false,1,8,.nilFunc,true⟩:=by kernel_rfl
theorem Q4:aX prog 125=some ⟨.struct #[OY,UN,UO,UP,UQ],5,40,.agg #[.nilFunc,.nilFunc,.nilFunc,.nilFunc,.nilFunc],true⟩:=by kernel_rfl
theorem N4:aX prog 179=some ⟨.array 5 125,25,200,.agg #[.nilFunc,.nilFunc,.nilFunc,.nilFunc,.nilFunc,.nilFunc,.nilFunc,.nilFunc,.nilFunc,.nilFunc,.nilFunc,.nilFunc,.nilFunc,.nilFunc,.nilFunc,.nilFunc,.nilFunc,.nilFunc,.nilFunc,.nilFunc,.nilFunc,.nilFunc,.nilFunc,.nilFunc,.nilFunc],true⟩:=by kernel_rfl
theorem QO:xI=[.func 154 [],.func 155 [],.func 156 [],.func 157 [],.func 158 [],.func 159 [],.func 160 [],.func 161 [],.func 111 [],.func 162 [],.func 163 [],.func 164 [],.func 165 [],.func 166 [],.func 167 [],.func 168 [],.func 169 [],.func 170 [],.func 171 [],.func 172 [],.func 173 [],.func 174 [],.func 175 [],.func 176 [],.func 177 []]:=by kernel_rfl
theorem A5{v:AV}(h:v.under 8=true):v.under 11=true:=yB (by omega) h
theorem fnS:(∀f,(AV.func f []).afp=true)/\(∀f,(AV.func f []).known=true)/\(∀f,(AV.func f []).cells=[.func f []])/\(∀g f,(AV.func f []).afm g=true):=⟨fun _=>rfl,fun _=>rfl,fun _=>rfl,fun _ _=>rfl⟩
def Evc.ahA(c:Evc):Evc:={ k:=1,nm:=c.nm,B:=c.B,U:=c.U,S:=c.S }
def Evc.ahB(c:Evc):Evc:={ k:=2,nm:=c.nm,x5:=c.x5,x6:=c.x6,x7:=c.x7,x8:=c.x8,x9:=c.x9,x10:=c.x10,x11:=c.x11 }
def Evc.ahC(c:Evc):Evc:={ k:=3,nm:=c.nm,x12:=c.x12,x13:=c.x13,x14:=c.x14,K:=c.K,x16:=c.x16,x17:=c.x17,x18:=c.x18 }
def Evc.ahD(c:Evc):Evc:={ k:=4,nm:=c.nm,x19:=c.x19,x20:=c.x20,x21:=c.x21,x22:=c.x22,x23:=c.x23,x24:=c.x24 }
def Evc.ahE(c:Evc):Evc:={ k:=5,nm:=c.nm,t1:=c.t1,t2:=c.t2,t3:=c.t3,t4:=c.t4,x29:=c.x29,x30:=c.x30,x31:=c.x31 }
def Evc.kd(c:Evc)(k:Int):Evc:={ c with k:=k }
def qw(x:Bool)(b:AV):AV:=bif x then b else .qF
structure Tryz.agq (K:Int)(g g1 g2 g3 g4:FuncId)(onl:Evc->Evc)(x y:Bool):Prop where
 ne:46≠g/\71≠g/\44≠g/\26≠g
 rng:¬K<1/\¬5<K
 of:∀{N:Mem}{nm:List UInt8}{R:List AV},R.length=30->R.all AV.afp=true->∃new,cI (aX prog) (fun _=>[]) (aZ prog) Gk 1 44 [.agg (.int .i64 K::.str nm::R)] N=some (.agg [.func g [],.func g1 [],.func g2 [],.func g3 [],.func g4 []],N++new)
 al:∀{N:Mem}{X0 X1:afq}{c:Evc}{b u s kn:AV}(hb:b.afp=true/\u.afp=true/\s.afp=true/\kn.afp=true) (kb:(b.known=true/\b.cells=[b])/\(u.known=true/\u.cells=[u])/\(s.known=true/\s.cells=[s])/\(kn.known=true/\kn.cells=[kn])),cI (aX prog) (fun _=>[]) (aZ prog) cO 1 g [.agg ((c.kd K).cells b u s kn),.ptr (N.length+2) 0] (N++[X0,X1,.cells true 0 (({ k:=K,nm:=c.nm }:Evc).cells .qF .qF .qF .qF)])=some (.tuple [],N++[X0,X1,.cells true 0 ((onl c).cells (qw x b) (qw x u) (qw x s) (qw y kn)),.cells true 0 ((c.kd K).cells b u s kn)])
theorem gO:agq 1 154 155 156 157 158 Evc.ahA true false/\agq 2 159 160 161 111 162 Evc.ahB false false/\agq 3 163 164 165 166 167 Evc.ahC false true/\agq 4 168 169 170 171 172 Evc.ahD false false/\agq 5 173 174 175 176 177 Evc.ahE false false:=by
 have G:aZ prog 44=some f44:=by kernel_rfl
 obtain⟨Z,X⟩:∃Z,aJ f44=Z :=⟨_,rfl⟩
 have K :=cG X (ls:=[[0,0,2,6,15,31]]) (by kernel_rfl);simp only[aJ,cB,f44,List.nil_append,List.append_nil] at X;subst X;simp only[lB] at K;have w0:∀n:Int,n=0\/n=1\/n=2\/n=3\/n=4->IntKind.i64.wrap n=n:=fun n h=>af
 have V:=w0 0 (by simp);have U:=w0 1 (by simp);have S:=w0 2 (by simp);have O:=w0 3 (by simp);have M:=w0 4 (by simp);have F:aZ prog 154=some f154:=by kernel_rfl
 have C:aZ prog 159=some f159:=by kernel_rfl
 have B:aZ prog 163=some f163:=by kernel_rfl
 have h3:aZ prog 168=some f168:=by kernel_rfl
 have o:aZ prog 173=some f173:=by kernel_rfl
 refine⟨?_,?_,?_,?_,?_⟩<;>(
  refine⟨by decide,by decide,fun {N H R} hl hc=>?_,fun {N X0 X1 c b u s kn} hb kb=>?_⟩
  .have m:(∀y:AV,y∈R->y.afp=true)=True:=eq_true (List.all_eq_true.1 hc)
   simp[-getElem?_pos,-AV.afp,-AV.known,-AV.cells,-cN,-bP,-bw,-aR,-AV.afm,-afq.afm,-List.all_eq_true,vS,rS,mS,bW K,dq,dZ,fT,dD,dR,jB,bef,Nat.testBit,cI,G,f44,Gk,QO,ah,fnS,Q4,N4,Sj,Vy,V,U,S,O,M]
  .obtain⟨j,Y,J,I⟩:=hb
   obtain⟨⟨k1,m1⟩,⟨k2,m2⟩,⟨k3,m3⟩,⟨k4,m4⟩⟩:=kb;simp[-getElem?_pos,-AV.afp,-AV.known,-AV.cells,-List.all_eq_true,vS,mS,cI,F,C,B,h3,o,f154,f159,f163,f168,f173,Evc.cells,Evc.kd,Evc.ahA,Evc.ahB,Evc.ahC,Evc.ahD,Evc.ahE,qw,j,Y,J,I])
section
variable {K:Int}{g g1 g2 g3 g4:FuncId}{onl:Evc->Evc}{x y:Bool}{N:Mem}{c:Evc}{b u s kn:AV}
section
variable (h:agq K g g1 g2 g3 g4 onl x y)
include h
theorem O0{nm:List UInt8}{R:List AV}(H:R.length=30)(hc:R.all AV.afp=true):kO prog 44 [.agg (.int .i64 K::.str nm::R)] N (.agg [.func g [],.func g1 [],.func g2 [],.func g3 [],.func g4 []]) N:=by obtain⟨Z,h⟩:=h.of (N:=N) (nm:=nm) H hc;exact(cf aj (aI _) NC (aQ _) h).forget rfl
theorem Ng{X0 X1:afq}(H:b.afp=true/\u.afp=true/\s.afp=true/\kn.afp=true)(I:(b.known=true/\b.cells=[b])/\(u.known=true/\u.cells=[u])/\(s.known=true/\s.cells=[s])/\(kn.known=true/\kn.cells=[kn]))(J:AV.under (N.length+3) b=true/\AV.under (N.length+3) u=true/\AV.under (N.length+3) s=true/\AV.under (N.length+3) kn=true):
  kO prog g [.agg ((c.kd K).cells b u s kn),.ptr (N.length+2) 0] (N++[X0,X1,.cells true 0 (({ k:=K,nm:=c.nm }:Evc).cells .qF .qF .qF .qF)]) (.tuple []) (N++[X0,X1,.cells true 0 ((onl c).cells (qw x b) (qw x u) (qw x s) (qw y kn))]):=by
 have X:=cf aj (aI _) (az _) (aQ _) (h.al (N:=N) (X0:=X0) (X1:=X1) (c:=c) H I);have e:∀A B C D:afq,N++[A,B,C,D]=(N++[A,B,C])++[D]:=fun A B C D=>by simp
 rw[e] at X;refine X.ahe rfl (by simp) fun i x Z=>?_
 by_cases V:i<N.length
 .left;rw[GT V] at Z |-;exact Z
 .obtain⟨j,rfl⟩:∃j,i=N.length+j:=⟨i-N.length,by omega⟩
  rw[wU] at Z |-
  match j,Z with
  |0,Z=>left;exact Z
  |1,Z=>left;exact Z
  |2,Z=>
   right;refine⟨true,0,_,(QQX Z).symm,?_⟩;have U:∀(z:Bool) (v:AV),AV.under (N.length+3) v=true->AV.under (N.length+3) (qw z v)=true:=fun z v h=>by cases z;rfl;exact h
   simp[Evc.cells,AV.afu,U,J]
  |j+3,Z=>simp at Z
end
theorem QI(H:agq K g g1 g2 g3 g4 onl x y){n0 n1 n2 n3 n4 n5 n6 n7:Nat}{C0 C1 C2 C3 C4 C5 C6 C7:List AV}{pv tv:AV}(hN:N=[.cells false n0 C0,.cells false n1 C1,.cells false n2 C2,.cells false n3 C3,.cells false n4 C4,.cells false n5 C5,.cells false n6 C6,.cells false n7 C7])(hU:AV.afu 8 C0=true/\AV.afu 8 C1=true/\AV.afu 8 C2=true/\AV.afu 8 C3=true/\AV.afu 8 C4=true/\AV.afu 8 C5=true/\AV.afu 8 C6=true/\AV.afu 8 C7=true)(c1:pv.afp=true)(c2:tv.afp=true)(hb:b.afp=true/\u.afp=true/\s.afp=true/\kn.afp=true)(I:(b.known=true/\b.cells=[b])/\(u.known=true/\u.cells=[u])/\(s.known=true/\s.cells=[s])/\(kn.known=true/\kn.cells=[kn]))(J:(pv.under 8=true/\tv.under 8=true)/\b.under 8=true/\u.under 8=true/\s.under 8=true/\kn.under 8=true)(hC:∀Z,kO prog 46 [.agg [pv,tv]] (N++Z) (.int .i64 0) (N++Z))(hn:c.nm∈lf)(hE:∀Z,kO prog 26 [.agg ((onl c).cells (qw x b) (qw x u) (qw x s) (qw y kn)),.agg ((c.kd K).cells b u s kn)] (N++Z) (.bool true) (N++Z))(Y:46≠g1/\71≠g1/\44≠g1/\26≠g1/\g≠g1){e:Int}(hK:∀Z,kO prog g1 [.agg [pv,tv],.agg ((c.kd K).cells b u s kn)] (N++Z) (.int .i64 e) (N++Z)):
  kO prog 25 [.agg [pv,tv],.agg ((c.kd K).cells b u s kn)] N (.int .i64 e) N:=by
 have hG:aZ prog 25=some f25:=by kernel_rfl
 have G:N.length=8:=by rw[hN];rfl
 obtain⟨L,V⟩:=xE (α:=List (FuncId×List AV×(Mem->Prop)×afl)) [(46,[.agg [pv,tv]],fun M=>∃Z,M=N++Z,⟨.int .i64 0,none,[]⟩),(71,[.str c.nm],fun _=>True,⟨.int .i64 0,none,[]⟩),(44,[.agg ((c.kd K).cells b u s kn)],fun _=>True,⟨.agg [.func g [],.func g1 [],.func g2 [],.func g3 [],.func g4 []],none,[]⟩),(26,[.agg ((onl c).cells (qw x b) (qw x u) (qw x s) (qw y kn)),.agg ((c.kd K).cells b u s kn)],fun M=>∃Z,M=N++Z,⟨.bool true,none,[]⟩),(g,[.agg ((c.kd K).cells b u s kn),.ptr 10 0],fun M=>M=N++[.cells true 0 [pv,tv],.cells true 0 ((c.kd K).cells b u s kn),.cells true 0 (({ k:=K,nm:=c.nm }:Evc).cells .qF .qF .qF .qF)],⟨.tuple [],some (N++[.cells true 0 [pv,tv],.cells true 0 ((c.kd K).cells b u s kn),.cells true 0 ((onl c).cells (qw x b) (qw x u) (qw x s) (qw y kn))]),[]⟩),(g1,[.agg [pv,tv],.agg ((c.kd K).cells b u s kn)],fun M=>∃Z,M=N++Z,⟨.int .i64 e,none,[]⟩)];have hO:qS prog (fD L):=pH fun z hz M F=>by
  rw[V] at hz;simp only[lM] at hz;rcases hz with rfl | rfl | rfl | rfl | rfl | rfl
  .obtain⟨Z,rfl⟩:=F
   exact bz (hC Z)
  .exact bz (ib _ hn M)
  .refine au ?_
   rw[List.append_nil];exact O0 H (R:=((c.kd K).cells b u s kn).drop 2) rfl (by simp[Evc.cells,hb,vS,-AV.afp])
  .obtain⟨Z,rfl⟩:=F
   exact bz (hE Z)
  .refine⟨?_,fun q hq=>by cases hq;rw[show M=_ from F];simp⟩
   have:=Ng H (N:=N) (X0:=.cells true 0 [pv,tv]) (X1:=.cells true 0 ((c.kd K).cells b u s kn)) (c:=c) hb I (by rw[G];exact⟨A5 J.2.1,A5 J.2.2.1,A5 J.2.2.2.1,A5 J.2.2.2.2⟩);rw[G] at this;rw[show M=_ from F];simpa [afl.mem] using this
  .obtain⟨Z,rfl⟩:=F
   exact bz (hK Z)
 have j:∀Z,fD L (.fn 46) [.agg [pv,tv]] (N++Z)=some ⟨.int .i64 0,none,[]⟩:=fun Z=>by rw[V];exact iz ⟨Z,rfl⟩
 have e2:∀M,fD L (.fn 71) [.str c.nm] (M)=some ⟨.int .i64 0,none,[]⟩:=fun M=>by rw[V,dX (.inl (by decide))];exact iz trivial
 have e3:∀M,fD L (.fn 44) [.agg ((c.kd K).cells b u s kn)] (M)=some ⟨.agg [.func g [],.func g1 [],.func g2 [],.func g3 [],.func g4 []],none,[]⟩:=fun M=>by rw[V,dX (.inl (by decide)),dX (.inl (by decide))];exact iz trivial
 have C:∀Z,fD L (.fn 26) [.agg ((onl c).cells (qw x b) (qw x u) (qw x s) (qw y kn)),.agg ((c.kd K).cells b u s kn)] (N++Z)=some ⟨.bool true,none,[]⟩:=fun Z=>by rw[V,dX (.inl (by decide)),dX (.inl (by decide)),dX (.inl (by decide))];exact iz ⟨Z,rfl⟩
 have B:fD L (.fn g) [.agg ((c.kd K).cells b u s kn),.ptr 10 0] (N++[.cells true 0 [pv,tv],.cells true 0 ((c.kd K).cells b u s kn),.cells true 0 (({ k:=K,nm:=c.nm }:Evc).cells .qF .qF .qF .qF)])=some ⟨.tuple [],some (N++[.cells true 0 [pv,tv],.cells true 0 ((c.kd K).cells b u s kn),.cells true 0 ((onl c).cells (qw x b) (qw x u) (qw x s) (qw y kn))]),[]⟩:=by rw[V,dX (.inl H.ne.1),dX (.inl H.ne.2.1),dX (.inl H.ne.2.2.1),dX (.inl H.ne.2.2.2)];exact iz rfl
 have e6:∀Z,fD L (.fn g1) [.agg [pv,tv],.agg ((c.kd K).cells b u s kn)] (N++Z)=some ⟨.int .i64 e,none,[]⟩:=fun Z=>by rw[V,dX (.inl Y.1),dX (.inl Y.2.1),dX (.inl Y.2.2.1),dX (.inl Y.2.2.2.1),dX (.inl Y.2.2.2.2)];exact iz ⟨Z,rfl⟩
 obtain⟨O,U⟩:=xE (fD L);rw[<-U] at hO B;simp only[<-U] at j e2 e3 C e6;clear U V;have X:∀(z:Bool) (v:AV),v.afp=true->(v.known=true/\v.cells=[v])->v.under 8=true->∃S,qw z v=S /\S.afp=true/\(S.known=true/\S.cells=[S])/\S.under 8=true:=fun z v h1 h2 h3=>by
  cases z
  .exact⟨_,rfl,rfl,⟨rfl,rfl⟩,rfl⟩
  .exact⟨_,rfl,h1,h2,h3⟩
 obtain⟨b1,b2,b3,b4⟩:=hb;obtain⟨⟨q5,q6⟩,q1,q2,q3,q4⟩:=J;obtain⟨z1,s1,t1,⟨v1,x1⟩,y1⟩:=X x b b1 I.1 q1;obtain⟨z2,s2,t2,⟨v2,x2⟩,y2⟩:=X x u b2 I.2.1 q2;obtain⟨z3,s3,t3,⟨v3,x3⟩,y3⟩:=X x s b3 I.2.2.1 q3;obtain⟨z4,s4,t4,⟨v4,x4⟩,y4⟩:=X y kn b4 I.2.2.2 q4;rw[s1,s2,s3,s4] at B;simp only[s1,s2,s3,s4] at C;obtain⟨⟨k1,m1⟩,⟨k2,m2⟩,⟨k3,m3⟩,⟨k4,m4⟩⟩:=I;subst hN;simp only[List.cons_append,List.nil_append] at j e2 e3 C B e6;obtain⟨o,F'⟩:∃o,aJ f25=o :=⟨_,rfl⟩
 have ZH :=cG F' (ls:=[[0,1,3,0,15],[0,1,3,0,0,31,63]]) (by kernel_rfl);simp only[aJ,cB,f25,lA] at F';subst F';simp only[lB] at ZH;obtain⟨UV,hb1⟩:=ZH;obtain⟨u0,u1,u2,u3,u4,u5,u6,u7⟩:=hU;have f0:=(gy u0).2;have f1:=(gy u1).2;have f2:=(gy u2).2;have f3:=(gy u3).2;have f4:=(gy u4).2;have f5:=(gy u5).2;have f6:=(gy u6).2;have f7:=(gy u7).2;have r1:=(gf q1).2;have r2:=(gf q2).2;have r3:=(gf q3).2;have r4:=(gf q4).2;have r5:=(gf q5).2;have r6:=(gf q6).2;have p1:=(gf y1).2;have p2:=(gf y2).2;have p3:=(gf y3).2;have p4:=(gf y4).2;have a0:fu [0,1,3,0,15] 4=true:=by decide
 have a1:fu [0,1,3,0,0,31,63] 6=true:=by decide
 have h:∃m,cI (aX prog) (fun _=>[]) (aZ prog) O 1 25 [.agg [pv,tv],.agg ((c.kd K).cells b u s kn)] [.cells false n0 C0,.cells false n1 C1,.cells false n2 C2,.cells false n3 C3,.cells false n4 C4,.cells false n5 C5,.cells false n6 C6,.cells false n7 C7]=some (.int .i64 e,[.cells false n0 C0,.cells false n1 C1,.cells false n2 C2,.cells false n3 C3,.cells false n4 C4,.cells false n5 C5,.cells false n6 C6,.cells false n7 C7]++m):=by obtain⟨kr1,kr2⟩:=H.rng;clear hO hE hC hK H;simp only[Evc.cells,Evc.kd] at j e2 e3 C B e6 |-;simp[eV,-AV.afp,-AV.known,-AV.cells,-aR,-AV.afm,-List.all_eq_true,vS,rS,fnS,aC UV,aC hb1,bV,bK,bQ,a0,a1,Nat.testBit,-tP,Kh,Kj,cj,aH,cI,hG,f25,j,e2,e3,C,B,e6,kr1,kr2,f0,f1,f2,f3,f4,f5,f6,f7,r1,r2,r3,r4,r5,r6,p1,p2,p3,p4]
 obtain⟨m,h⟩:=h;exact(cf aj (aI _) hO (aQ _) h).forget rfl
end
end Go.Proofs
namespace Go.Proofs
open Go.Eng
open Tryz
variable{C:List AV}{N:Mem}{es n:Nat}{v:AV}
theorem afw.af0(h:afw N v es n C)(H:n=0):v=.qF:=by
 rcases h with⟨h,_,_⟩ | ⟨_,_,_,h,_⟩
 .exact h
 .omega
theorem afw.pos(h:afw N v es n C)(H:0<n):∃b o,v=.slice b 0 n none/\N[b]? =some (.cells o es C):=by
 rcases h with⟨_,h,_⟩ | ⟨b,o,Z,_,X⟩
 .omega
 .exact⟨b,o,Z,X⟩
variable{S:List (List (List UInt8))}
theorem agI.af0(h:agI N v S)(hS:S=[]):v=.qF:=by obtain⟨Z,_,h,_⟩:=h;exact h.af0 (by rw[hS];rfl)
theorem afw.ck(h:afw N v es n C):v.afp=true:=by rcases h with⟨rfl,_⟩ | ⟨b,o,rfl,_⟩<;>rfl
variable{c:Evc}{e:List AV}
theorem agc.flat(h:agc N e c)(h1:c.B.length=0)(h2:c.U.length=0)(h3:c.S=[])(h4:c.K.length=0):e=c.cells .qF .qF .qF .qF:=by obtain⟨b,u,O,M,rfl,Z,X,V,R⟩:=h;obtain rfl:=Z.af0 h1;obtain rfl:=X.af0 h2;obtain rfl:=V.af0 h3;obtain rfl:=R.af0 h4;rfl
theorem agc.l32(h:agc N e c):e.length=32:=by obtain⟨b,u,s,Z,rfl,_⟩:=h;rfl
theorem agc.cok(h:agc N e c):∀x∈e,x.afp=true:=by obtain⟨b,u,s,R,rfl,X,V,⟨_,_,h3,_⟩,U⟩:=h;intro x Z;simp only[Evc.cells,lM] at Z;rcases Z with rfl | rfl | rfl | rfl | rfl | rfl | rfl | rfl | rfl | rfl | rfl | rfl | rfl | rfl | rfl | rfl | rfl | rfl | rfl | rfl | rfl | rfl | rfl | rfl | rfl | rfl | rfl | rfl | rfl | rfl | rfl | rfl<;>first | rfl | exact X.ck | exact V.ck | exact h3.ck | exact U.ck
def sl8(j n:Nat):AV:=if n=0 then .qF else .slice j 0 n none
theorem zC(j n:Nat):(sl8 j n).afp=true/\((sl8 j n).known=true/\(sl8 j n).cells=[sl8 j n]):=by unfold sl8;split<;>exact⟨rfl,rfl,rfl⟩
variable{j:Nat}
theorem k8(H:j<8):(sl8 j n).under 8=true:=by
 unfold sl8;split
 .rfl
 .simp only[AV.under,GE];exact H
variable{D0:List AV}{M:Mem}{e0:Nat}{o:Bool}
theorem tw{x:AV}(h:afw M x es n C)(H:AV.afr C=true){p:Nat}(I:M[p]? =some (.cells o e0 D0))(h0:AV.afr D0=true):
  ∃k e D,(∃o,M[k]? =some (.cells o e D))/\AV.afr D=true/\((x=.qF/\n=0/\C=[])\/(x=.slice k 0 n none/\0<n/\e=es/\D=C)):=by
 rcases h with⟨Z,X,h3⟩ | ⟨b,V,Z,X,h3⟩
 .exact⟨p,e0,D0,⟨o,I⟩,h0,.inl ⟨Z,X,h3⟩⟩
 .exact⟨b,es,C,⟨V,h3⟩,H,.inr ⟨Z,X,rfl,rfl⟩⟩
variable{D:List AV}{k:Nat}
theorem ot{m:Mem}{x:AV}{e:Nat}(h:(x=.qF/\n=0/\C=[])\/(x=.slice k 0 n none/\0<n/\e=es/\D=C))(H:m[j]? =some (.cells false e D)):afw m (sl8 j n) es n C:=by
 rcases h with⟨_,Z,h3⟩ | ⟨_,Z,rfl,rfl⟩
 .subst Z;exact .inl ⟨rfl,rfl,h3⟩
 .exact .inr ⟨j,false,by unfold sl8;rw[if_neg (by omega)],Z,H⟩
theorem yz{x:AV}{e:Nat}{ks:List Nat}{L:Nat}(h:(x=.qF/\n=0/\C=[])\/(x=.slice k 0 n none/\0<n/\e=es/\D=C))(H:j<ks.length)(I:ks.getD j 0=k):(sl8 j n).ren (fA ks L)=x:=by
 rcases h with⟨Z,X,_⟩ | ⟨Z,X,_⟩
 .subst X;rw[Z];rfl
 .unfold sl8;rw[if_neg (by omega),Z];simp only[AV.ren,fA,H,if_true,I]
theorem Xo(h:agI M v S)(hS:S.length<=2){p:Nat}(H:M[p]? =some (.cells o e0 D0))(h0:AV.afr D0=true):
  ∃K e5 D5 u G F U k7 e7 Y,(∃o,M[K]? =some (.cells o e5 u))/\((∃o,M[G]? =some (.cells o F U))/\AV.afr U=true)/\((∃o,M[k7]? =some (.cells o e7 Y))/\AV.afr Y=true)/\AV.afu 8 D5=true/\
   (∀(ks:List Nat) L,ks.length=8->ks.getD 6 0=G->ks.getD 7 0=k7->∀(j:Nat) w,D5[j]? =some w->u[j]? =some (w.ren (fA ks L)))/\
   (∀(ks:List Nat) L,ks.length=8->ks.getD 5 0=K->(sl8 5 S.length).ren (fA ks L)=v)/\
   ∀m:Mem,m[5]? =some (.cells false e5 D5)->m[6]? =some (.cells false F U)->m[7]? =some (.cells false e7 Y)->agI m (sl8 5 S.length) S:=by
 obtain⟨vs,B,hv,hr⟩:=h
 match S,hS,B with
 | [],_,B=>
  have hvn:=hv.af0 rfl;refine⟨p,e0,D0,D0,p,e0,D0,p,e0,D0,⟨o,H⟩,⟨⟨o,H⟩,h0⟩,⟨⟨o,H⟩,h0⟩,bl h0,fun ks L _ _ _ j w Z=>?_,fun ks L _ _=>hvn.symm,fun m _ _ _=>⟨[],rfl,.inl ⟨rfl,rfl,rfl⟩,fun i x L h=>by simp at h⟩⟩;have:=aT (ρ:=fA ks L) h0;rw[jm] at this;have h2:(D0.map (AV.ren (fA ks L)))[j]? =D0[j]? :=by rw[this]
  rw[QQJ,Z] at h2;rw[Z];exact h2.symm
 | [L1],_,B=>
  match vs,B with
  | [x1],_=>
   obtain⟨K,o5,rfl,h5⟩:=hv.pos (by simp);obtain⟨G,F,U,h6,c6,J⟩:=tw (hr 0 x1 L1 rfl rfl) (eF L1) H h0;refine⟨K,1,[sl8 6 L1.length],[x1],G,F,U,p,e0,D0,⟨o5,h5⟩,⟨h6,c6⟩,⟨⟨o,H⟩,h0⟩,by simp only[AV.afu,k8 (show 6<8 by omega),Bool.and_self],fun ks L I R _ j w Z=>?_,fun ks L I O =>?_,fun m m5 m6 m7=>⟨[sl8 6 L1.length],rfl,.inr ⟨5,false,rfl,by simp,m5⟩,fun i x L X V=>?_⟩⟩
   .match j,Z with
    |0,Z=>cases Z;rw[yz J (by omega) R];rfl
    |j+1,Z=>simp at Z
   .show(AV.slice 5 0 1 none).ren (fA ks L)=_
    simp only[AV.ren,fA,I,O];rfl
   .match i,X,V with
    |0,X,V=>cases X;cases V;exact ot J m6
    |i+1,X,_=>simp at X
 | [L1,L2],_,B=>
  match vs,B with
  | [x1,x2],_=>
   obtain⟨K,o5,rfl,h5⟩:=hv.pos (by simp);obtain⟨G,F,U,h6,c6,J⟩:=tw (hr 0 x1 L1 rfl rfl) (eF L1) H h0;obtain⟨k7,e7,Y,h7,c7,g7⟩:=tw (hr 1 x2 L2 rfl rfl) (eF L2) H h0;refine⟨K,1,[sl8 6 L1.length,sl8 7 L2.length],[x1,x2],G,F,U,k7,e7,Y,⟨o5,h5⟩,⟨h6,c6⟩,⟨h7,c7⟩,by simp only[AV.afu,k8 (show 6<8 by omega),k8 (show 7<8 by omega),Bool.and_self],fun ks L I R h7' j w Z=>?_,fun ks L I O =>?_,fun m m5 m6 m7=>⟨[sl8 6 L1.length,sl8 7 L2.length],rfl,.inr ⟨5,false,rfl,by simp,m5⟩,fun i x L X V=>?_⟩⟩
   .match j,Z with
    |0,Z=>cases Z;rw[yz J (by omega) R];rfl
    |1,Z=>cases Z;rw[yz g7 (by omega) h7'];rfl
    |j+2,Z=>simp at Z
   .show(AV.slice 5 0 2 none).ren (fA ks L)=_
    simp only[AV.ren,fA,I,O];rfl
   .match i,X,V with
    |0,X,V=>cases X;cases V;exact ot J m6
    |1,X,V=>cases X;cases V;exact ot g7 m7
    |i+2,X,_=>simp at X
theorem QL{s:afv}{p t:Nat}{d:Evc}{b u sv kn:AV}{e:Int}(H:∃o,M[p]? =some (.cells o 2 (pC s.P)))(I:∃o,M[t]? =some (.cells o 3 (tC s.T)))(ZF:c.Ok)(hE:agc M (c.cells b u sv kn) c)(hS:∀(n2 n3 n4 n5 n6 n7:Nat)(C2 C3 C4 C5 C6 C7:List AV)(m:Mem),m=[.cells false 2 (pC s.P),.cells false 3 (tC s.T),.cells false n2 C2,.cells false n3 C3,.cells false n4 C4,.cells false n5 C5,.cells false n6 C6,.cells false n7 C7]->(AV.afu 8 (pC s.P)=true/\AV.afu 8 (tC s.T)=true/\AV.afu 8 C2=true/\AV.afu 8 C3=true/\AV.afu 8 C4=true/\AV.afu 8 C5=true/\AV.afu 8 C6=true/\AV.afu 8 C7=true)->
   agc m (c.cells (sl8 2 c.B.length) (sl8 3 c.U.length) (sl8 5 c.S.length) (sl8 4 c.K.length)) c->kO prog 25 [.agg [.slice 0 0 s.P.length none,.slice 1 0 s.T.length none],.agg (d.cells (sl8 2 c.B.length) (sl8 3 c.U.length) (sl8 5 c.S.length) (sl8 4 c.K.length))] m (.int .i64 e) m):
  kO prog 25 [.agg [.slice p 0 s.P.length none,.slice t 0 s.T.length none],.agg (d.cells b u sv kn)] M (.int .i64 e) M:=by
 obtain⟨o,H⟩:=H;obtain⟨o',I⟩:=I;obtain⟨b',u',s',kn',eq,h1,h2,h3,h4⟩:=hE;simp only[Evc.cells,List.cons.injEq,true_and,and_true] at eq;obtain⟨rfl,rfl,rfl,rfl⟩:=eq;obtain⟨V,e2,D2,⟨o2,m2⟩,c2,g2⟩:=tw h1 (eF _) H (ea _);obtain⟨R,e3,D3,⟨o3,m3⟩,c3,g3⟩:=tw h2 (eF _) H (ea _);obtain⟨O,e4,D4,⟨o4,m4⟩,c4,g4⟩:=tw h4 (kR _) H (ea _);obtain⟨G,e5,D5,J,F,e6,D6,Y,e7,D7,⟨o5,m5⟩,⟨⟨o6,m6⟩,c6⟩,⟨⟨o7,m7⟩,c7⟩,u5,r5,rv,f5⟩:=Xo h3 ZF.S H (ea _);obtain⟨m,X⟩:=xE (α:=Mem) [.cells false 2 (pC s.P),.cells false 3 (tC s.T),.cells false e2 D2,.cells false e3 D3,.cells false e4 D4,.cells false e5 D5,.cells false e6 D6,.cells false e7 D7];have hev:agc m (c.cells (sl8 2 c.B.length) (sl8 3 c.U.length) (sl8 5 c.S.length) (sl8 4 c.K.length)) c:=
  ⟨_,_,_,_,rfl,ot g2 (by rw[X];rfl),ot g3 (by rw[X];rfl),f5 m (by rw[X];rfl) (by rw[X];rfl) (by rw[X];rfl),ot g4 (by rw[X];rfl)⟩
 have h:=hS e2 e3 e4 e5 e6 e7 D2 D3 D4 D5 D6 D7 m X ⟨bl (ea _),bl (fY _),bl c2,bl c3,bl c4,u5,bl c6,bl c7⟩ hev;have:=kO.frame (M:=M) (new:=[]) (args:=[.agg [.slice 0 0 s.P.length none,.slice 1 0 s.T.length none],.agg (d.cells (sl8 2 c.B.length) (sl8 3 c.U.length) (sl8 5 c.S.length) (sl8 4 c.K.length))]) [p,t,V,R,O,G,F,Y] (m:=m) (by rw[X];rfl) (by
  intro k hk;simp only[lM] at hk;rcases hk with rfl | rfl | rfl | rfl | rfl | rfl | rfl | rfl
  .exact gp H
  .exact gp I
  .exact gp m2
  .exact gp m3
  .exact gp m4
  .exact gp m5
  .exact gp m6
  .exact gp m7) (by simp[AV.afu,AV.under,Evc.cells,k8]) (fun i x Z=>by
  subst X
  match i,Z with
  |0,Z=>cases Z;exact cH (ea _) H P1
  |1,Z=>cases Z;exact cH (fY _) I P1
  |2,Z=>cases Z;exact cH c2 m2 P1
  |3,Z=>cases Z;exact cH c3 m3 P1
  |4,Z=>cases Z;exact cH c4 m4 P1
  |5,Z=>cases Z;exact⟨u5,o5,J,m5,r5 _ _ rfl rfl rfl⟩
  |6,Z=>cases Z;exact cH c6 m6 P1
  |7,Z=>cases Z;exact cH c7 m7 P1
  |i+8,Z=>simp at Z) rfl (by simpa using h)
 have q2:=yz (j:=2) (ks:=[p,t,V,R,O,G,F,Y]) (L:=M.length) g2 (by simp) rfl;have q3:=yz (j:=3) (ks:=[p,t,V,R,O,G,F,Y]) (L:=M.length) g3 (by simp) rfl;have q4:=yz (j:=4) (ks:=[p,t,V,R,O,G,F,Y]) (L:=M.length) g4 (by simp) rfl;have q5:=rv [p,t,V,R,O,G,F,Y] M.length rfl rfl;simp only[AV.afI,AV.ren,Evc.cells,q2,q3,q4,q5,List.map_nil,List.append_nil] at this;simpa [fA,Evc.cells] using this
end Go.Proofs
