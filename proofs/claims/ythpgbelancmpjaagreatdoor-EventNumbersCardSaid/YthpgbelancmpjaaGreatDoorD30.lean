/- See D38. -/
import Derived.Test.YthpgbelancmpjaaGreatDoorD29
set_option linter.all false
set_option maxRecDepth 100000
set_option maxHeartbeats 40000000
namespace Go.Proofs
open Go.Eng
open Tryz
abbrev I4:=Int×Int×Int×Int
def tA(t:I4):AV:=.agg [.int .i64 t.1,.int .i64 t.2.1,.int .i64 t.2.2.1,.int .i64 t.2.2.2]
abbrev M3:=V3×V3×V3
def vL(v:V3):List AV:=[.str (ao v.1),.str (ao v.2.1),.str (ao v.2.2)]
def Yr(r:M3)(v:V3):V3:=(gw r.1 v,gw r.2.1 v,gw r.2.2 v)
def Y4(a b:V3):V3:=(a.1-b.1,a.2.1-b.2.1,a.2.2-b.2.2)
def mOk(r:M3)(v:V3):Prop:=nA r.1 v/\nA r.2.1 v/\nA r.2.2 v
structure ahT (r:M3)(c:V3):Prop where
 ck:vC c
 m:mOk r c
 f:vF c/\vF (Yr r c)
 s:vC (Y4 c (Yr r c))
theorem R2(d:Nat)(x y:Int):k9 (bd prog) (d+1) 3 (.int .i64 x) (.int .i64 y)=some (decide (x=y)):=by rw[k9];simp
theorem It(d:Nat)(t u v w a b c e:Int):k9 (bd prog) (d+2) 64 (.agg [.int .i64 t,.int .i64 u,.int .i64 v,.int .i64 w]) (.agg [.int .i64 a,.int .i64 b,.int .i64 c,.int .i64 e])=some (decide (t=a)&&(decide (u=b)&&(decide (v=c)&&decide (w=e)))):=by have r:List.range' 0 4=[0,1,2,3]:=rfl;have i:=R2 d;rw[k9];simp only[Gn,Gm,r,Wi];simp[jV,TyI.isAgg,i]
open Classical in
noncomputable def As(f:FuncId)(args:List AV):Option AV:=
 match f,args with
 |88,[.int .i64 n,.int .i64 d]=>if 0<d/\n.natAbs<=1000000/\d.natAbs<=1000000 then some (.tuple [.str (ao (mkRat n d.toNat)),.int .i64 0]) else none
 |121,[.int .i64 n]=>if n.natAbs<=1000000 then some (.bool false) else none
 |_,_=>none
theorem O4{n:Int}(h:n.natAbs<=1000000):dV n=true:=by unfold dV;simp only[C0,Es];omega
theorem MV(n:Int)(h:n.natAbs<=1000000)(M:Mem):kO prog 121 [.int .i64 n] M (.bool false) M:=by
 have Z:aX prog 121=some f121:=by kernel_rfl
 refine aA (az _) ?_ M;have X:¬1000000<n:=by omega
 have V:¬n< -1000000:=by omega
 have w:IntKind.i64.wrap (-1000000)= -1000000:=rfl;simp[aa,Z,f121,X,V]
theorem NN:qS prog (ag As):=bP fun f X v h mem=>by
 unfold As at h;split at h
 .rename_i n d
  split at h
  .rename_i Z
   cases h;have:=HF n d.toNat (by omega) (O4 Z.2.1) (O4 (by omega)) mem;rw[QQd (by omega)] at this;exact this
  .cases h
 .split at h
  next Z=>cases h;exact MV _ Z mem
  .cases h
 .cases h
def tLe(n:Nat)(t:I4):Prop:=t.1.natAbs<=n/\t.2.1.natAbs<=n/\t.2.2.1.natAbs<=n/\t.2.2.2.natAbs<=n
def Yg(t:I4):Prop:=t.1=0/\t.2.1=0/\t.2.2.1=0/\t.2.2.2=0
theorem Fq{t:I4}(H:tLe 20 t)(hz:¬Yg t)(M:Mem):kO prog 69 [tA t] M (.int .i64 0) M:=by
 obtain⟨w,x,y,z⟩:=t;obtain⟨S,R,h3,O⟩:=H;simp only at S R h3 O;have N:w.natAbs<=1000000:=by omega
 have L:x.natAbs<=1000000:=by omega
 have g3:y.natAbs<=1000000:=by omega
 have K:z.natAbs<=1000000:=by omega
 have D:IntKind.i64.wrap (-1)= -1:=rfl;have G:kO prog 202 [.slice 0 0 4 (some 4),.func 121 []] [.cells true 0 [.int .i64 w,.int .i64 x,.int .i64 y,.int .i64 z]] (.int .i64 (-1)) [.cells true 0 [.int .i64 w,.int .i64 x,.int .i64 y,.int .i64 z]]:=by
  have Z:aX prog 202=some f202:=by kernel_rfl
  have h:aa (bd prog) (fun _=>[8]) (aX prog) (ag As) 6 202 [.slice 0 0 4 (some 4),.func 121 []] [.cells true 0 [.int .i64 w,.int .i64 x,.int .i64 y,.int .i64 z]]=some ⟨.int .i64 (-1),none,[]⟩:=by simp[aa,Z,f202,ba,ga,ag,As,N,L,g3,K,w1,w2,w3,w4]
  have:=(ar aj (aJ _) NN (aM _) h).1;simpa [afh.mem] using this
 have F:kO prog 120 [.slice 0 0 4 (some 4),.func 121 []] [.cells true 0 [.int .i64 w,.int .i64 x,.int .i64 y,.int .i64 z]] (.bool false) [.cells true 0 [.int .i64 w,.int .i64 x,.int .i64 y,.int .i64 z]]:=by
  have Z:aX prog 120=some f120:=by kernel_rfl
  have V:qS prog (wE [(202,[.slice 0 0 4 (some 4),.func 121 []],[.cells true 0 [.int .i64 w,.int .i64 x,.int .i64 y,.int .i64 z]],⟨.int .i64 (-1),none,[]⟩)]):=AA fun e X=>by rw[List.mem_singleton] at X;subst X;exact⟨by simpa [afh.mem] using G,by simp⟩
  have h:aa (bd prog) (fun _=>[]) (aX prog) (wE [(202,[.slice 0 0 4 (some 4),.func 121 []],[.cells true 0 [.int .i64 w,.int .i64 x,.int .i64 y,.int .i64 z]],⟨.int .i64 (-1),none,[]⟩)]) 1 120 [.slice 0 0 4 (some 4),.func 121 []] [.cells true 0 [.int .i64 w,.int .i64 x,.int .i64 y,.int .i64 z]]=some ⟨.bool false,none,[]⟩:=by simp[aa,Z,f120,wE]
  have:=(ar aj (aJ _) V (aM _) h).1;simpa [afh.mem] using this
 have Z:aX prog 69=some f69:=by kernel_rfl
 have V:qS prog (wE [(120,[.slice 0 0 4 (some 4),.func 121 []],[.cells true 0 [.int .i64 w,.int .i64 x,.int .i64 y,.int .i64 z]],⟨.bool false,none,[]⟩)]):=AA fun e X=>by rw[List.mem_singleton] at X;subst X;exact⟨by simpa [afh.mem] using F,by simp⟩
 have e:=fun d=>It d w x y z 0 0 0 0
 have U:(decide (w=0)&&(decide (x=0)&&(decide (y=0)&&decide (z=0))))=false:=by
  cases hb:(decide (w=0)&&(decide (x=0)&&(decide (y=0)&&decide (z=0))))
  .rfl
  .simp only[C0,Es] at hb
   exact absurd hb hz
 simp only[U] at e;refine aA V ?_ M;simp[aa,Z,f69,wE,tA,e,cv]
def RL(t:I4):I4:=if t=(0,0,0,0) then (1,0,0,0) else t
def Ap(x:afg):I4:=RL ((x.t 0).tmod 21,(x.t 1).tmod 21,(x.t 2).tmod 21,(x.t 3).tmod 21)
theorem Pz(n:Int):(n.tmod 21).natAbs<=20:=by have:=Ao n 21 (by decide);simp only[Int.cast_ofNat_Int] at this;omega
theorem Wa(x:afg):tLe 20 (Ap x):=by
 unfold Ap RL;split
 .exact⟨by decide,by decide,by decide,by decide⟩
 .exact⟨Pz _,Pz _,Pz _,Pz _⟩
theorem Wb(x:afg):¬Yg (Ap x):=by
 unfold Ap RL;split
 .rintro ⟨h,_⟩;exact absurd h (by decide)
 .rename_i h
  rintro ⟨Z,X,h3,V⟩;exact h (Prod.ext Z (Prod.ext X (Prod.ext h3 V)))
theorem M7(a b c d:Int)(I:AD a)(H:AD b)(hc:AD c)(hd:AD d)(M:Mem):kO prog 42 [.agg [.int .i8 a,.int .i8 b,.int .i8 c,.int .i8 d]] M (tA (RL (a.tmod 21,b.tmod 21,c.tmod 21,d.tmod 21))) M:=by
 have R:aX prog 42=some f42:=by kernel_rfl
 have W:∀z,AD z->IntKind.i64.wrap z=z:=fun z Z=>kY (by have:=Z.1;have:=Z.2;omega) (by have:=Z.1;have:=Z.2;omega)
 have O:=W a I;have N:=W b H;have L:=W c hc;have G:=W d hd;obtain⟨p,X⟩:=xE (a.tmod 21);obtain⟨q,V⟩:=xE (b.tmod 21);obtain⟨r,U⟩:=xE (c.tmod 21);obtain⟨s,S⟩:=xE (d.tmod 21);rw[<-X,<-V,<-U,<-S];have F:∀t u v w a b c e:Int,k9 (bd prog) 20 64 (.agg [.int .i64 t,.int .i64 u,.int .i64 v,.int .i64 w]) (.agg [.int .i64 a,.int .i64 b,.int .i64 c,.int .i64 e])=some (decide (t=a)&&(decide (u=b)&&(decide (v=c)&&decide (w=e)))):=It 18
 refine de (az _) (lv:=fun _=>[4]) (K:=5) rfl rfl ?_ M;by_cases h:p=0/\q=0/\r=0/\s=0
 .obtain⟨D,C,h3,B⟩:=h
  subst D C h3 B;simp[aa,R,f42,ba,ga,O,N,L,G,<-X,<-V,<-U,<-S,w1,w2,w3,w4,tA,RL,F,cv]
 .have e:(decide (p=0)&&(decide (q=0)&&(decide (r=0)&&decide (s=0))))=false:=by
   cases hh:(decide (p=0)&&(decide (q=0)&&(decide (r=0)&&decide (s=0)))) with
   |false=>rfl
   |true=>
    simp only[C0,Es] at hh;exact absurd hh h
  have H:RL (p,q,r,s)=(p,q,r,s):=if_neg fun e=>h (by simpa using e)
  rw[H];simp[aa,R,f42,ba,ga,O,N,L,G,<-X,<-V,<-U,<-S,w1,w2,w3,w4,tA,F,e,-Bool.and_eq_false_imp,cv]
def ctN(x:afg):Nat:=(ct3 (x.n 0)).toNat
theorem ir(x:afg):ctN x=1\/ctN x=2\/ctN x=3:=by have:=OZ (x.n 0);unfold ctN;omega
variable{x:afg}
theorem SK{c:Nat}(h:ctN x=c):ct3 (x.n 0)=c:=by have:=OZ (x.n 0);unfold ctN at h;omega
def dqS(m n:Nat):Nat->AV
 |1=>.qF
 |2=>.slice (m+2) 0 1 none
 |_=>.slice (m+2) 0 2 none
def dqN(m:Nat)(x:afg)(n:Nat):Nat->Mem
 |1=>[.cells true 1 (qC (qH (x.base.l n))),.cells true 1 (stC (uNm 1))]
 |2=>[.cells true 1 (qC (qH (x.base.l n))),.cells true 1 (stC (uNm 2)),.cells true 1 [.slice (m+3) 0 n none],.cells true 1 (qC (qH (upL x.s0 (x.base.l n) n)))]
 |_=>[.cells true 1 (qC (qH (x.base.l n))),.cells true 1 (stC (uNm 3)),.cells true 1 [.slice (m+3) 0 n none,.slice (m+4) 0 n none],.cells true 1 (qC (qH (upL x.s0 (x.base.l n) n))),.cells true 1 (qC (qH (upL x.s1 (upL x.s0 (x.base.l n) n) n)))]
theorem M4(x:afg)(H:x.Ok)(n k:Nat)(I:0<n)(J:n<=1000)(M:Mem)(p t:Nat)(W:p<M.length)(Y:t<M.length):
  kO prog 35 [.agg [.slice p 0 n none,.slice t 0 k none],.agg x.cells,.str [110]] M (.agg [.slice M.length 0 n none,.slice (M.length+1) 0 (ctN x) none,dqS M.length n (ctN x)]) (M++dqN M.length x n (ctN x)):=by
 have U:=fun f=>aL (ρ:=f) x.closed
 have X:kO prog 35 [.agg [.slice 0 0 n none,.slice 1 0 k none],.agg x.cells,.str [110]] [.qK,.qK] (.agg [.slice 2 0 n none,.slice 3 0 (ctN x) none,dqS 2 n (ctN x)]) ([.qK,.qK]++dqN 2 x n (ctN x)):=by
  rcases ir x with h | h | h
  .rw[h];exact HZ x H n k I J (SK h)
  .rw[h];exact H3 x H n k I J (SK h)
  .rw[h];exact H4 x H n k I J (SK h)
 have h3:=ir x;obtain⟨c,S⟩:=xE (ctN x);rw[<-S] at X h3 |-;have:=kO.frame (M:=M) (new:=dqN 2 x n c) [p,t] (m:=[.qK,.qK]) rfl (by
  intro k V;simp only[lM] at V;rcases V with rfl | rfl
  .exact W
  .exact Y) (by simp[AV.afp,AV.under,bj x.closed]) (fun i s Z=>by
  match i with
  |0=>simp at Z;subst Z;trivial
  |1=>simp at Z;subst Z;trivial
  |i+2=>simp at Z) (by rcases h3 with rfl | rfl | rfl<;>rfl) X
 rcases h3 with rfl | rfl | rfl<;>simpa [AV.afz,AV.ren,fa,afl.ren,dqS,dqN,kS,uNm,nmE,stC,U] using this
theorem Xk(x:afg)(H:x.Ok)(M:Mem):kO prog 42 [.agg (i8C x.T)] M (tA (Ap x)) M:=by
 have X:=H.tl;have Z:=H.tk;unfold Ap afg.t;obtain⟨T,hT⟩:=xE x.T;rw[<-hT] at X Z |-
 match T,X with
 | [a,b,c,d],_=>exact M7 a b c d (Z _ (by simp)) (Z _ (by simp)) (Z _ (by simp)) (Z _ (by simp)) M
open Classical in
noncomputable def fQ(x:afg)(f:FuncId)(args:List AV):Option AV:=
 match f,args with
 |40,[.agg cs]=>if cs=x.cells then some (zA (Ae x)) else none
 |39,[.agg a,.str s]=>if .agg a=zA (Ae x)/\s=[49,47,50] then some (vA (hV (Ae x))) else none
 |42,[.agg cs]=>if cs=i8C x.T then some (tA (Ap x)) else none
 |f,args=>iU x f args
theorem j9(H:x.Ok):qS prog (ag (fQ x)):=bP fun f X v h mem=>by
 unfold fQ at h;split at h
 .split at h
  next Z=>cases h;rw[Z];exact Fy x H mem
  .cases h
 .split at h
  next Z=>cases h;rw[Z.1,Z.2];exact M5 _ (NW x) mem
  .cases h
 .split at h
  next Z=>cases h;rw[Z];exact Xk x H mem
  .cases h
 .have:=(BH H).fn _ _ mem ⟨v,none,[]⟩ (by unfold ag;simp only;rw[h])
  simpa [afh.mem] using this
end Go.Proofs
namespace Go.Proofs
open Go.Eng
open Tryz
open Classical in
noncomputable def eG:List (FuncId×List AV×(Mem->Prop)×afh)->y9
 | [],_,_,_=>none
 |x::L,c,args,M=>if c=.fn x.1/\args=x.2.1/\x.2.2.1 M then some x.2.2.2 else eG L c args M
variable{L:List (FuncId×List AV×(Mem->Prop)×afh)}
theorem mM{P:Program}(h:∀x∈L,∀M,x.2.2.1 M->qw P (.fn x.1) x.2.1 M x.2.2.2):qS P (eG L):=cB fun c a M r Z=>by
 induction L with
 |nil=>simp[eG] at Z
 |cons x L ih=>
  rw[eG] at Z;split at Z
  .rename_i X
   obtain⟨rfl,rfl,V⟩:=X;cases Z;exact h x (by simp) M V
  .exact ih (fun y U=>h y (by simp[U])) Z
variable{a:List AV}{p:Mem->Prop}{r:afh}
theorem dU{f:FuncId}{m:Mem}(h:p m):eG ((f,a,p,r)::L) (.fn f) a m=some r:=by rw[eG,if_pos ⟨rfl,rfl,h⟩]
theorem bN{f g:FuncId}{b:List AV}{m:Mem}(h:f≠g\/¬p m):eG ((f,a,p,r)::L) (.fn g) b m=eG L (.fn g) b m:=by rw[eG,if_neg (fun e=>h.elim (fun h=>h (by have:=e.1;cases this;rfl)) fun h=>h e.2.2)]
def mh(s:afl):Bool:=s.own||match s with | .qK=>true | _=>false
theorem Cv(k:Nat)(M:Mem)(H n:Nat)(h:k<H):(((bF (fun b=>decide (b=k)) 0 M).drop H).take n).all qp=true:=
 EN _ M H n fun b Z _=>by simp;omega
theorem Rk(a b:Nat):(!decide (a<=b)|| !decide (b<a))=true:=by
 rcases Nat.lt_or_ge b a with h | h
 .simp[Nat.not_le.2 h]
 .simp[Nat.not_lt.2 h]
theorem cc(H:List Nat)(j:Nat)(acc:List (Nat×Rec))(r:Rec)(rest:List Rec):gE H j acc (r::rest)=(r.v.adM (fun b=>decide (b<r.nx.length))&&(cS r||(dW H j r (j+1) rest&&(r.wr.isEmpty||(gB H j r acc&&r.wr.all (fun b=>fI r.tm b&&(match r.nx[b]? with | some s=>s.adM (fun b=>decide (b<r.nx.length)) | none=>true))))&&
   (r.nx.drop r.mem.length).all fun s=>mh s&&s.adM (fun b=>decide (b<r.nx.length))))&&gE H (j+1) ((j,r)::acc) rest):=rfl
theorem ke(H:List Nat)(j:Nat)(acc:List (Nat×Rec)):gE H j acc []=true:=rfl
theorem LJ(f:Nat->Bool)(s:afl)(new:Mem)(M:Mem)(k:Nat):bn [k] 0 M ((bF f 0 M).set k s++new)=M.set k s++new:=by
 have Z:∀(i:Nat) (M:Mem) (k:Nat),bn [i+k] i M ((bF f i M).set k s++new)=M.set k s++new:=by
  intro i M;induction M generalizing i with
  |nil=>intro k;rfl
  |cons x M ih=>
   intro k;cases k with
   |zero=>
    have h:∀(j:Nat) (M:Mem),i<j->bn [i] j M (bF f j M++new)=M++new:=by
     intro j M X;induction M generalizing j with
     |nil=>rfl
     |cons y M ih=>simp[bF,bn,ih (j+1) (by omega),show¬j=i by omega]
    simp[bF,bn,h (i+1) M (by omega)]
   |succ k=>
    have:=ih (i+1) k;rw[show i+1+k=i+(k+1) by omega] at this;simp[bF,bn,this,show¬i=i+(k+1) by omega]
 have:=Z 0 M k
 rwa [QQZ] at this
theorem vS:((∀a,(AV.str a).known=true)/\(∀k i,(AV.int k i).known=true)/\(∀b o n c,(AV.slice b o n c).known=true)/\AV.qF.known=true/\(∀b o,(AV.ptr b o).known=true)/\(∀Z,(AV.agg Z).known=true))/\
  ((∀a,(AV.str a).cells=[.str a])/\(∀k i,(AV.int k i).cells=[.int k i])/\(∀b o n c,(AV.slice b o n c).cells=[.slice b o n c])/\AV.qF.cells=[.qF]/\(∀b o,(AV.ptr b o).cells=[.ptr b o])/\∀Z,(AV.agg Z).cells=Z)/\
  ((∀b o n c,(AV.slice b o n c).afi=true)/\(∀a,(AV.str a).afi=true)/\(∀k i,(AV.int k i).afi=true)/\(∀b,(AV.bool b).afi=true)/\AV.qF.afi=true/\∀b o,(AV.ptr b o).afi=true):=
 ⟨⟨fun _=>rfl,fun _ _=>rfl,fun _ _ _ _=>rfl,rfl,fun _ _=>rfl,fun _=>rfl⟩,⟨fun _=>rfl,fun _ _=>rfl,fun _ _ _ _=>rfl,rfl,fun _ _=>rfl,fun _=>rfl⟩,⟨fun _ _ _ _=>rfl,fun _=>rfl,fun _ _=>rfl,fun _=>rfl,rfl,fun _ _=>rfl⟩⟩
theorem rS(f:Nat->Bool):AV.qF.adM f=true/\(∀b o n c,(AV.slice b o n c).adM f=f b)/\(∀b o,(AV.ptr b o).adM f=f b)/\(∀a,(AV.str a).adM f=true)/\(∀k i,(AV.int k i).adM f=true)/\(∀b,(AV.bool b).adM f=true)/\(∀Z,(AV.agg Z).adM f=AV.afn f Z)/\(∀Z,(AV.tuple Z).adM f=AV.afn f Z)/\AV.undef.adM f=true/\
  afl.adM f .qK=true/\(∀o es Z,afl.adM f (.cells o es Z)=AV.afn f Z):=⟨rfl,fun _ _ _ _=>rfl,fun _ _=>rfl,fun _=>rfl,fun _ _=>rfl,fun _=>rfl,fun _=>rfl,fun _=>rfl,rfl,rfl,fun _ _ _=>rfl⟩
theorem mS:((∀(M X:Mem) k,(M++X)[M.length+k]? =X[k]?)/\(∀M X:Mem,(M++X)[M.length]? =X[0]?)/\(∀(M X:Mem) k s,(M++X).set (M.length+k) s=M++X.set k s)/\(∀(M X:Mem) s,(M++X).set M.length s=M++X.set 0 s)/\(∀(M X:Mem) k,(M++X).drop (M.length+k)=X.drop k)/\(∀M X:Mem,(M++X).drop M.length=X))/\
  ((∀(α:Type) (s:α) l,(s::l)[0]? =some s)/\(∀(α:Type) (s:α) l (i:Nat),(s::l)[i+1]? =l[i]?))/\((∀es U,mh (.cells true es U)=true)/\mh .qK=true)/\
  ((∀f i M,bn [] i M (bF f i M)=M)/\(∀i M,bn [] i M M=M)/\(∀f Z i M,bn [] i M (bF f i M++Z)=M++Z)/\(∀Z i M,bn [] i M (M++Z)=M++Z)/\(∀f s M k,bn [k] 0 M ((bF f 0 M).set k s)=M.set k s)/\(∀f s Z M k,bn [k] 0 M ((bF f 0 M).set k s++Z)=M.set k s++Z)/\(∀wr i M,bn wr i [] M=M)/\(∀i s s' r V,bn [] i (s::r) (s' ::V)=s::bn [] (i+1) r V)/\(∀i N X Y,bn [] i (N++X) (N++Y)=N++bn [] (i+N.length) X Y))/\
  ((∀f i M b,(bF f i M)[b]? =(M[b]?).map fun s=>if f (i+b) then s else .qK)/\(∀i M,bF (fun _=>true) i M=M)/\(∀f i M,(bF f i M).length=M.length)/\(∀M S n,(((bF (fun _=>false) 0 M).drop S).take n).all qp=true)/\(∀a b:Nat,(a<=b/\b<a)=False)/\(∀a b:Nat,(!decide (a<=b)|| !decide (b<a))=true))/\
  ((∀b o n c,cO (.slice b o n c)=[b])/\cO .qF=[])/\(∀R j acc,gE R j acc []=true):=
 ⟨⟨Cx,xZ,GS,VK,WT,Vx⟩,⟨fun _ _ _=>rfl,fun _ _ _ _=>rfl⟩,⟨fun _ _=>rfl,rfl⟩,⟨wL,zb,Cy,za,LI,LJ,fun _ _ _=>rfl,wK,Cz⟩,⟨uZ,EO,EP,Oj,Oh,Rk⟩,⟨fun _ _ _ _=>rfl,rfl⟩,fun _ _ _=>rfl⟩
noncomputable def OR:Field:=br 125 0
noncomputable def UA:Field:=br 125 1
noncomputable def UB:Field:=br 125 2
noncomputable def UC:Field:=br 125 3
noncomputable def UD:Field:=br 125 4
theorem R5:OR.type=123:=by kernel_rfl
theorem Vk:bd prog 123=some ⟨.func #[68,154] #[] false,1,8,.nilFunc,true⟩:=by kernel_rfl
theorem QU:bd prog 125=some ⟨.struct #[OR,UA,UB,UC,UD],5,40,.agg #[.nilFunc,.nilFunc,.nilFunc,.nilFunc,.nilFunc],true⟩:=by kernel_rfl
theorem NV:bd prog 179=some ⟨.array 5 125,25,200,.agg #[.nilFunc,.nilFunc,.nilFunc,.nilFunc,.nilFunc,.nilFunc,.nilFunc,.nilFunc,.nilFunc,.nilFunc,.nilFunc,.nilFunc,.nilFunc,.nilFunc,.nilFunc,.nilFunc,.nilFunc,.nilFunc,.nilFunc,.nilFunc,.nilFunc,.nilFunc,.nilFunc,.nilFunc,.nilFunc],true⟩:=by kernel_rfl
theorem QA:xv=[.func 154 [],.func 155 [],.func 156 [],.func 157 [],.func 158 [],.func 159 [],.func 160 [],.func 161 [],.func 111 [],.func 162 [],.func 163 [],.func 164 [],.func 165 [],.func 166 [],.func 167 [],.func 168 [],.func 169 [],.func 170 [],.func 171 [],.func 172 [],.func 173 [],.func 174 [],.func 175 [],.func 176 [],.func 177 []]:=by kernel_rfl
theorem AN{v:AV}(h:v.under 8=true):v.under 11=true:=yi (by omega) h
theorem fnS:(∀f,(AV.func f []).afi=true)/\(∀f,(AV.func f []).known=true)/\(∀f,(AV.func f []).cells=[.func f []])/\(∀g f,(AV.func f []).adM g=true):=⟨fun _=>rfl,fun _=>rfl,fun _=>rfl,fun _ _=>rfl⟩
def Evc.ahw(c:Evc):Evc:={ k:=1,nm:=c.nm,B:=c.B,U:=c.U,S:=c.S }
def Evc.ahx(c:Evc):Evc:={ k:=2,nm:=c.nm,x5:=c.x5,x6:=c.x6,x7:=c.x7,x8:=c.x8,x9:=c.x9,x10:=c.x10,x11:=c.x11 }
def Evc.ahy(c:Evc):Evc:={ k:=3,nm:=c.nm,x12:=c.x12,x13:=c.x13,x14:=c.x14,K:=c.K,x16:=c.x16,x17:=c.x17,x18:=c.x18 }
def Evc.ahz(c:Evc):Evc:={ k:=4,nm:=c.nm,x19:=c.x19,x20:=c.x20,x21:=c.x21,x22:=c.x22,x23:=c.x23,x24:=c.x24 }
def Evc.ahA(c:Evc):Evc:={ k:=5,nm:=c.nm,t1:=c.t1,t2:=c.t2,t3:=c.t3,t4:=c.t4,x29:=c.x29,x30:=c.x30,x31:=c.x31 }
def Evc.kd(c:Evc)(k:Int):Evc:={ c with k:=k }
def qv(x:Bool)(b:AV):AV:=bif x then b else .qF
structure Tryz.agm (K:Int)(g g1 g2 g3 g4:FuncId)(onl:Evc->Evc)(x y:Bool):Prop where
 ne:46≠g/\71≠g/\44≠g/\26≠g
 rng:¬K<1/\¬5<K
 of:∀{N:Mem}{nm:List UInt8}{R:List AV},R.length=30->R.all AV.afi=true->∃new,cE (bd prog) (fun _=>[]) (aX prog) F8 1 44 [.agg (.int .i64 K::.str nm::R)] N=some (.agg [.func g [],.func g1 [],.func g2 [],.func g3 [],.func g4 []],N++new)
 al:∀{N:Mem}{X0 X1:afl}{c:Evc}{b u s kn:AV}(hb:b.afi=true/\u.afi=true/\s.afi=true/\kn.afi=true) (kb:(b.known=true/\b.cells=[b])/\(u.known=true/\u.cells=[u])/\(s.known=true/\s.cells=[s])/\(kn.known=true/\kn.cells=[kn])),cE (bd prog) (fun _=>[]) (aX prog) cP 1 g [.agg ((c.kd K).cells b u s kn),.ptr (N.length+2) 0] (N++[X0,X1,.cells true 0 (({ k:=K,nm:=c.nm }:Evc).cells .qF .qF .qF .qF)])=some (.tuple [],N++[X0,X1,.cells true 0 ((onl c).cells (qv x b) (qv x u) (qv x s) (qv y kn)),.cells true 0 ((c.kd K).cells b u s kn)])
theorem er:agm 1 154 155 156 157 158 Evc.ahw true false/\agm 2 159 160 161 111 162 Evc.ahx false false/\agm 3 163 164 165 166 167 Evc.ahy false true/\agm 4 168 169 170 171 172 Evc.ahz false false/\agm 5 173 174 175 176 177 Evc.ahA false false:=by
 have G:aX prog 44=some f44:=by kernel_rfl
 obtain⟨Z,X⟩:∃Z,aI f44=Z :=⟨_,rfl⟩
 have K :=cG X (ls:=[[0,0,2,6,15,31]]) (by kernel_rfl);simp only[aI,ca,f44,List.nil_append,List.append_nil] at X;subst X;simp only[lB] at K;have w0:∀n:Int,n=0\/n=1\/n=2\/n=3\/n=4->IntKind.i64.wrap n=n:=fun n h=>af
 have V:=w0 0 (by simp);have U:=w0 1 (by simp);have S:=w0 2 (by simp);have O:=w0 3 (by simp);have M:=w0 4 (by simp);have F:aX prog 154=some f154:=by kernel_rfl
 have D:aX prog 159=some f159:=by kernel_rfl
 have C:aX prog 163=some f163:=by kernel_rfl
 have h3:aX prog 168=some f168:=by kernel_rfl
 have B:aX prog 173=some f173:=by kernel_rfl
 refine⟨?_,?_,?_,?_,?_⟩<;>(
  refine⟨by decide,by decide,fun {N J R} hl hc=>?_,fun {N I H c b u s kn} hb kb=>?_⟩
  .have o:(∀y:AV,y∈R->y.afi=true)=True:=eq_true (List.all_eq_true.1 hc)
   simp[-getElem?_pos,-AV.afi,-AV.known,-AV.cells,-cO,-bF,-bn,-aG,-AV.adM,-afl.adM,-List.all_eq_true,vS,rS,mS,aY K,cq,cc,dW,cK,cS,gB,bef,Nat.testBit,cE,G,f44,F8,QA,ag,fnS,QU,NV,R5,Vk,V,U,S,O,M]
  .obtain⟨m,j,Y,W⟩:=hb
   obtain⟨⟨k1,m1⟩,⟨k2,m2⟩,⟨k3,m3⟩,⟨k4,m4⟩⟩:=kb;simp[-getElem?_pos,-AV.afi,-AV.known,-AV.cells,-List.all_eq_true,vS,mS,cE,F,D,C,h3,B,f154,f159,f163,f168,f173,Evc.cells,Evc.kd,Evc.ahw,Evc.ahx,Evc.ahy,Evc.ahz,Evc.ahA,qv,m,j,Y,W])
section
variable {K:Int}{g g1 g2 g3 g4:FuncId}{onl:Evc->Evc}{x y:Bool}{N:Mem}{c:Evc}{b u s kn:AV}
section
variable (h:agm K g g1 g2 g3 g4 onl x y)
include h
theorem Ge{nm:List UInt8}{R:List AV}(H:R.length=30)(hc:R.all AV.afi=true):kO prog 44 [.agg (.int .i64 K::.str nm::R)] N (.agg [.func g [],.func g1 [],.func g2 [],.func g3 [],.func g4 []]) N:=by obtain⟨Z,h⟩:=h.of (N:=N) (nm:=nm) H hc;exact(cL aj (aJ _) Nv (aM _) h).forget rfl
theorem M9{X0 X1:afl}(H:b.afi=true/\u.afi=true/\s.afi=true/\kn.afi=true)(I:(b.known=true/\b.cells=[b])/\(u.known=true/\u.cells=[u])/\(s.known=true/\s.cells=[s])/\(kn.known=true/\kn.cells=[kn]))(J:AV.under (N.length+3) b=true/\AV.under (N.length+3) u=true/\AV.under (N.length+3) s=true/\AV.under (N.length+3) kn=true):
  kO prog g [.agg ((c.kd K).cells b u s kn),.ptr (N.length+2) 0] (N++[X0,X1,.cells true 0 (({ k:=K,nm:=c.nm }:Evc).cells .qF .qF .qF .qF)]) (.tuple []) (N++[X0,X1,.cells true 0 ((onl c).cells (qv x b) (qv x u) (qv x s) (qv y kn))]):=by
 have X:=cL aj (aJ _) (az _) (aM _) (h.al (N:=N) (X0:=X0) (X1:=X1) (c:=c) H I);have e:∀A B C D:afl,N++[A,B,C,D]=(N++[A,B,C])++[D]:=fun A B C D=>by simp
 rw[e] at X;refine X.aha rfl (by simp) fun i x Z=>?_
 by_cases V:i<N.length
 .left;rw[GE V] at Z |-;exact Z
 .obtain⟨j,rfl⟩:∃j,i=N.length+j:=⟨i-N.length,by omega⟩
  rw[Cx] at Z |-
  match j,Z with
  |0,Z=>left;exact Z
  |1,Z=>left;exact Z
  |2,Z=>
   right;refine⟨true,0,_,(ZQ Z).symm,?_⟩;have U:∀(z:Bool) (v:AV),AV.under (N.length+3) v=true->AV.under (N.length+3) (qv z v)=true:=fun z v h=>by cases z;rfl;exact h
   simp[Evc.cells,AV.afp,U,J]
  |j+3,Z=>simp at Z
end
theorem Qu(H:agm K g g1 g2 g3 g4 onl x y){n0 n1 n2 n3 n4 n5 n6 n7:Nat}{Y C1 C2 C3 C4 C5 C6 C7:List AV}{pv tv:AV}(hN:N=[.cells false n0 Y,.cells false n1 C1,.cells false n2 C2,.cells false n3 C3,.cells false n4 C4,.cells false n5 C5,.cells false n6 C6,.cells false n7 C7])(hU:AV.afp 8 Y=true/\AV.afp 8 C1=true/\AV.afp 8 C2=true/\AV.afp 8 C3=true/\AV.afp 8 C4=true/\AV.afp 8 C5=true/\AV.afp 8 C6=true/\AV.afp 8 C7=true)(c1:pv.afi=true)(c2:tv.afi=true)(hb:b.afi=true/\u.afi=true/\s.afi=true/\kn.afi=true)(I:(b.known=true/\b.cells=[b])/\(u.known=true/\u.cells=[u])/\(s.known=true/\s.cells=[s])/\(kn.known=true/\kn.cells=[kn]))(J:(pv.under 8=true/\tv.under 8=true)/\b.under 8=true/\u.under 8=true/\s.under 8=true/\kn.under 8=true)(hC:∀Z,kO prog 46 [.agg [pv,tv]] (N++Z) (.int .i64 0) (N++Z))(hn:c.nm∈k8)(hE:∀Z,kO prog 26 [.agg ((onl c).cells (qv x b) (qv x u) (qv x s) (qv y kn)),.agg ((c.kd K).cells b u s kn)] (N++Z) (.bool true) (N++Z))(W:46≠g1/\71≠g1/\44≠g1/\26≠g1/\g≠g1){e:Int}(hK:∀Z,kO prog g1 [.agg [pv,tv],.agg ((c.kd K).cells b u s kn)] (N++Z) (.int .i64 e) (N++Z)):
  kO prog 25 [.agg [pv,tv],.agg ((c.kd K).cells b u s kn)] N (.int .i64 e) N:=by
 have hG:aX prog 25=some f25:=by kernel_rfl
 have G:N.length=8:=by rw[hN];rfl
 obtain⟨L,V⟩:=xE (α:=List (FuncId×List AV×(Mem->Prop)×afh)) [(46,[.agg [pv,tv]],fun M=>∃Z,M=N++Z,⟨.int .i64 0,none,[]⟩),(71,[.str c.nm],fun _=>True,⟨.int .i64 0,none,[]⟩),(44,[.agg ((c.kd K).cells b u s kn)],fun _=>True,⟨.agg [.func g [],.func g1 [],.func g2 [],.func g3 [],.func g4 []],none,[]⟩),(26,[.agg ((onl c).cells (qv x b) (qv x u) (qv x s) (qv y kn)),.agg ((c.kd K).cells b u s kn)],fun M=>∃Z,M=N++Z,⟨.bool true,none,[]⟩),(g,[.agg ((c.kd K).cells b u s kn),.ptr 10 0],fun M=>M=N++[.cells true 0 [pv,tv],.cells true 0 ((c.kd K).cells b u s kn),.cells true 0 (({ k:=K,nm:=c.nm }:Evc).cells .qF .qF .qF .qF)],⟨.tuple [],some (N++[.cells true 0 [pv,tv],.cells true 0 ((c.kd K).cells b u s kn),.cells true 0 ((onl c).cells (qv x b) (qv x u) (qv x s) (qv y kn))]),[]⟩),(g1,[.agg [pv,tv],.agg ((c.kd K).cells b u s kn)],fun M=>∃Z,M=N++Z,⟨.int .i64 e,none,[]⟩)];have hO:qS prog (eG L):=mM fun z hz M F=>by
  rw[V] at hz;simp only[lM] at hz;rcases hz with rfl | rfl | rfl | rfl | rfl | rfl
  .obtain⟨Z,rfl⟩:=F
   exact bH (hC Z)
  .exact bH (ig _ hn M)
  .refine aC ?_
   rw[List.append_nil];exact Ge H (R:=((c.kd K).cells b u s kn).drop 2) rfl (by simp[Evc.cells,hb,vS,-AV.afi])
  .obtain⟨Z,rfl⟩:=F
   exact bH (hE Z)
  .refine⟨?_,fun q hq=>by cases hq;rw[show M=_ from F];simp⟩
   have:=M9 H (N:=N) (X0:=.cells true 0 [pv,tv]) (X1:=.cells true 0 ((c.kd K).cells b u s kn)) (c:=c) hb I (by rw[G];exact⟨AN J.2.1,AN J.2.2.1,AN J.2.2.2.1,AN J.2.2.2.2⟩);rw[G] at this;rw[show M=_ from F];simpa [afh.mem] using this
  .obtain⟨Z,rfl⟩:=F
   exact bH (hK Z)
 have m:∀Z,eG L (.fn 46) [.agg [pv,tv]] (N++Z)=some ⟨.int .i64 0,none,[]⟩:=fun Z=>by rw[V];exact dU ⟨Z,rfl⟩
 have j:∀M,eG L (.fn 71) [.str c.nm] (M)=some ⟨.int .i64 0,none,[]⟩:=fun M=>by rw[V,bN (.inl (by decide))];exact dU trivial
 have e3:∀M,eG L (.fn 44) [.agg ((c.kd K).cells b u s kn)] (M)=some ⟨.agg [.func g [],.func g1 [],.func g2 [],.func g3 [],.func g4 []],none,[]⟩:=fun M=>by rw[V,bN (.inl (by decide)),bN (.inl (by decide))];exact dU trivial
 have D:∀Z,eG L (.fn 26) [.agg ((onl c).cells (qv x b) (qv x u) (qv x s) (qv y kn)),.agg ((c.kd K).cells b u s kn)] (N++Z)=some ⟨.bool true,none,[]⟩:=fun Z=>by rw[V,bN (.inl (by decide)),bN (.inl (by decide)),bN (.inl (by decide))];exact dU ⟨Z,rfl⟩
 have C:eG L (.fn g) [.agg ((c.kd K).cells b u s kn),.ptr 10 0] (N++[.cells true 0 [pv,tv],.cells true 0 ((c.kd K).cells b u s kn),.cells true 0 (({ k:=K,nm:=c.nm }:Evc).cells .qF .qF .qF .qF)])=some ⟨.tuple [],some (N++[.cells true 0 [pv,tv],.cells true 0 ((c.kd K).cells b u s kn),.cells true 0 ((onl c).cells (qv x b) (qv x u) (qv x s) (qv y kn))]),[]⟩:=by rw[V,bN (.inl H.ne.1),bN (.inl H.ne.2.1),bN (.inl H.ne.2.2.1),bN (.inl H.ne.2.2.2)];exact dU rfl
 have e6:∀Z,eG L (.fn g1) [.agg [pv,tv],.agg ((c.kd K).cells b u s kn)] (N++Z)=some ⟨.int .i64 e,none,[]⟩:=fun Z=>by rw[V,bN (.inl W.1),bN (.inl W.2.1),bN (.inl W.2.2.1),bN (.inl W.2.2.2.1),bN (.inl W.2.2.2.2)];exact dU ⟨Z,rfl⟩
 obtain⟨O,U⟩:=xE (eG L);rw[<-U] at hO C;simp only[<-U] at m j e3 D e6;clear U V;have X:∀(z:Bool) (v:AV),v.afi=true->(v.known=true/\v.cells=[v])->v.under 8=true->∃S,qv z v=S /\S.afi=true/\(S.known=true/\S.cells=[S])/\S.under 8=true:=fun z v h1 h2 h3=>by
  cases z
  .exact⟨_,rfl,rfl,⟨rfl,rfl⟩,rfl⟩
  .exact⟨_,rfl,h1,h2,h3⟩
 obtain⟨b1,b2,b3,b4⟩:=hb;obtain⟨⟨q5,q6⟩,q1,q2,q3,q4⟩:=J;obtain⟨z1,s1,t1,⟨v1,x1⟩,y1⟩:=X x b b1 I.1 q1;obtain⟨z2,s2,t2,⟨v2,x2⟩,y2⟩:=X x u b2 I.2.1 q2;obtain⟨z3,s3,t3,⟨v3,x3⟩,y3⟩:=X x s b3 I.2.2.1 q3;obtain⟨z4,s4,t4,⟨v4,x4⟩,y4⟩:=X y kn b4 I.2.2.2 q4;rw[s1,s2,s3,s4] at C;simp only[s1,s2,s3,s4] at D;obtain⟨⟨k1,m1⟩,⟨k2,m2⟩,⟨k3,m3⟩,⟨k4,m4⟩⟩:=I;subst hN;simp only[List.cons_append,List.nil_append] at m j e3 D C e6;obtain⟨B,D'⟩:∃B,aI f25=B :=⟨_,rfl⟩
 have Ze :=cG D' (ls:=[[0,1,3,0,15],[0,1,3,0,0,31,63]]) (by kernel_rfl);simp only[aI,ca,f25,lA] at D';subst D';simp only[lB] at Ze;obtain⟨P',hb1⟩:=Ze;obtain⟨u0,u1,u2,u3,u4,u5,u6,u7⟩:=hU;have f0:=(gy u0).2;have f1:=(gy u1).2;have f2:=(gy u2).2;have f3:=(gy u3).2;have f4:=(gy u4).2;have f5:=(gy u5).2;have f6:=(gy u6).2;have f7:=(gy u7).2;have r1:=(gf q1).2;have r2:=(gf q2).2;have r3:=(gf q3).2;have r4:=(gf q4).2;have r5:=(gf q5).2;have r6:=(gf q6).2;have p1:=(gf y1).2;have p2:=(gf y2).2;have p3:=(gf y3).2;have p4:=(gf y4).2;have a0:fv [0,1,3,0,15] 4=true:=by decide
 have a1:fv [0,1,3,0,0,31,63] 6=true:=by decide
 have h:∃o,cE (bd prog) (fun _=>[]) (aX prog) O 1 25 [.agg [pv,tv],.agg ((c.kd K).cells b u s kn)] [.cells false n0 Y,.cells false n1 C1,.cells false n2 C2,.cells false n3 C3,.cells false n4 C4,.cells false n5 C5,.cells false n6 C6,.cells false n7 C7]=some (.int .i64 e,[.cells false n0 Y,.cells false n1 C1,.cells false n2 C2,.cells false n3 C3,.cells false n4 C4,.cells false n5 C5,.cells false n6 C6,.cells false n7 C7]++o):=by obtain⟨kr1,kr2⟩:=H.rng;clear hO hE hC hK H;simp only[Evc.cells,Evc.kd] at m j e3 D C e6 |-;simp[eZ,-AV.afi,-AV.known,-AV.cells,-aG,-AV.adM,-List.all_eq_true,vS,rS,fnS,an P',an hb1,bD,bt,bB,a0,a1,Nat.testBit,-kZ,Ka,Kb,cv,aH,cE,hG,f25,m,j,e3,D,C,e6,kr1,kr2,f0,f1,f2,f3,f4,f5,f6,f7,r1,r2,r3,r4,r5,r6,p1,p2,p3,p4]
 obtain⟨o,h⟩:=h;exact(cL aj (aJ _) hO (aM _) h).forget rfl
end
end Go.Proofs
namespace Go.Proofs
open Go.Eng
open Tryz
variable{C:List AV}{N:Mem}{es n:Nat}{v:AV}
theorem aft.af6(h:aft N v es n C)(H:n=0):v=.qF:=by
 rcases h with⟨h,_,_⟩ | ⟨_,_,_,h,_⟩
 .exact h
 .omega
theorem aft.pos(h:aft N v es n C)(H:0<n):∃b o,v=.slice b 0 n none/\N[b]? =some (.cells o es C):=by
 rcases h with⟨_,h,_⟩ | ⟨b,o,Z,_,X⟩
 .omega
 .exact⟨b,o,Z,X⟩
variable{S:List (List (List UInt8))}
theorem agF.af6(h:agF N v S)(hS:S=[]):v=.qF:=by obtain⟨Z,_,h,_⟩:=h;exact h.af6 (by rw[hS];rfl)
theorem aft.ck(h:aft N v es n C):v.afi=true:=by rcases h with⟨rfl,_⟩ | ⟨b,o,rfl,_⟩<;>rfl
variable{c:Evc}{e:List AV}
theorem af8.flat(h:af8 N e c)(h1:c.B.length=0)(h2:c.U.length=0)(h3:c.S=[])(h4:c.K.length=0):e=c.cells .qF .qF .qF .qF:=by obtain⟨b,u,O,M,rfl,Z,X,V,R⟩:=h;obtain rfl:=Z.af6 h1;obtain rfl:=X.af6 h2;obtain rfl:=V.af6 h3;obtain rfl:=R.af6 h4;rfl
theorem af8.l32(h:af8 N e c):e.length=32:=by obtain⟨b,u,s,Z,rfl,_⟩:=h;rfl
theorem af8.cok(h:af8 N e c):∀x∈e,x.afi=true:=by obtain⟨b,u,s,R,rfl,X,V,⟨_,_,h3,_⟩,U⟩:=h;intro x Z;simp only[Evc.cells,lM] at Z;rcases Z with rfl | rfl | rfl | rfl | rfl | rfl | rfl | rfl | rfl | rfl | rfl | rfl | rfl | rfl | rfl | rfl | rfl | rfl | rfl | rfl | rfl | rfl | rfl | rfl | rfl | rfl | rfl | rfl | rfl | rfl | rfl | rfl<;>first | rfl | exact X.ck | exact V.ck | exact h3.ck | exact U.ck
def sl8(j n:Nat):AV:=if n=0 then .qF else .slice j 0 n none
theorem zh(j n:Nat):(sl8 j n).afi=true/\((sl8 j n).known=true/\(sl8 j n).cells=[sl8 j n]):=by unfold sl8;split<;>exact⟨rfl,rfl,rfl⟩
variable{j:Nat}
theorem kX(H:j<8):(sl8 j n).under 8=true:=by
 unfold sl8;split
 .rfl
 .simp only[AV.under,Es];exact H
variable{D0:List AV}{M:Mem}{e0:Nat}{o:Bool}
theorem tf{x:AV}(h:aft M x es n C)(H:AV.afm C=true){p:Nat}(I:M[p]? =some (.cells o e0 D0))(h0:AV.afm D0=true):
  ∃k e D,(∃o,M[k]? =some (.cells o e D))/\AV.afm D=true/\((x=.qF/\n=0/\C=[])\/(x=.slice k 0 n none/\0<n/\e=es/\D=C)):=by
 rcases h with⟨Z,X,h3⟩ | ⟨b,V,Z,X,h3⟩
 .exact⟨p,e0,D0,⟨o,I⟩,h0,.inl ⟨Z,X,h3⟩⟩
 .exact⟨b,es,C,⟨V,h3⟩,H,.inr ⟨Z,X,rfl,rfl⟩⟩
variable{D:List AV}{k:Nat}
theorem oC{m:Mem}{x:AV}{e:Nat}(h:(x=.qF/\n=0/\C=[])\/(x=.slice k 0 n none/\0<n/\e=es/\D=C))(H:m[j]? =some (.cells false e D)):aft m (sl8 j n) es n C:=by
 rcases h with⟨_,Z,h3⟩ | ⟨_,Z,rfl,rfl⟩
 .subst Z;exact .inl ⟨rfl,rfl,h3⟩
 .exact .inr ⟨j,false,by unfold sl8;rw[if_neg (by omega)],Z,H⟩
theorem yg{x:AV}{e:Nat}{ks:List Nat}{L:Nat}(h:(x=.qF/\n=0/\C=[])\/(x=.slice k 0 n none/\0<n/\e=es/\D=C))(H:j<ks.length)(I:ks.getD j 0=k):(sl8 j n).ren (fa ks L)=x:=by
 rcases h with⟨Z,X,_⟩ | ⟨Z,X,_⟩
 .subst X;rw[Z];rfl
 .unfold sl8;rw[if_neg (by omega),Z];simp only[AV.ren,fa,H,if_true,I]
theorem W8(h:agF M v S)(hS:S.length<=2){p:Nat}(H:M[p]? =some (.cells o e0 D0))(h0:AV.afm D0=true):
  ∃K e5 D5 u G F U I e7 Y,(∃o,M[K]? =some (.cells o e5 u))/\((∃o,M[G]? =some (.cells o F U))/\AV.afm U=true)/\((∃o,M[I]? =some (.cells o e7 Y))/\AV.afm Y=true)/\AV.afp 8 D5=true/\
   (∀(ks:List Nat) L,ks.length=8->ks.getD 6 0=G->ks.getD 7 0=I->∀(j:Nat) w,D5[j]? =some w->u[j]? =some (w.ren (fa ks L)))/\
   (∀(ks:List Nat) L,ks.length=8->ks.getD 5 0=K->(sl8 5 S.length).ren (fa ks L)=v)/\
   ∀m:Mem,m[5]? =some (.cells false e5 D5)->m[6]? =some (.cells false F U)->m[7]? =some (.cells false e7 Y)->agF m (sl8 5 S.length) S:=by
 obtain⟨vs,B,hv,hr⟩:=h
 match S,hS,B with
 | [],_,B=>
  have hvn:=hv.af6 rfl;refine⟨p,e0,D0,D0,p,e0,D0,p,e0,D0,⟨o,H⟩,⟨⟨o,H⟩,h0⟩,⟨⟨o,H⟩,h0⟩,bj h0,fun ks L _ _ _ j w Z=>?_,fun ks L _ _=>hvn.symm,fun m _ _ _=>⟨[],rfl,.inl ⟨rfl,rfl,rfl⟩,fun i x L h=>by simp at h⟩⟩;have:=aL (ρ:=fa ks L) h0;rw[ix] at this;have h2:(D0.map (AV.ren (fa ks L)))[j]? =D0[j]? :=by rw[this]
  rw[Zo,Z] at h2;rw[Z];exact h2.symm
 | [L1],_,B=>
  match vs,B with
  | [x1],_=>
   obtain⟨K,o5,rfl,h5⟩:=hv.pos (by simp);obtain⟨G,F,U,h6,c6,W⟩:=tf (hr 0 x1 L1 rfl rfl) (ea L1) H h0;refine⟨K,1,[sl8 6 L1.length],[x1],G,F,U,p,e0,D0,⟨o5,h5⟩,⟨h6,c6⟩,⟨⟨o,H⟩,h0⟩,by simp only[AV.afp,kX (show 6<8 by omega),Bool.and_self],fun ks L J R _ j w Z=>?_,fun ks L J O =>?_,fun m m5 m6 m7=>⟨[sl8 6 L1.length],rfl,.inr ⟨5,false,rfl,by simp,m5⟩,fun i x L X V=>?_⟩⟩
   .match j,Z with
    |0,Z=>cases Z;rw[yg W (by omega) R];rfl
    |j+1,Z=>simp at Z
   .show(AV.slice 5 0 1 none).ren (fa ks L)=_
    simp only[AV.ren,fa,J,O];rfl
   .match i,X,V with
    |0,X,V=>cases X;cases V;exact oC W m6
    |i+1,X,_=>simp at X
 | [L1,L2],_,B=>
  match vs,B with
  | [x1,x2],_=>
   obtain⟨K,o5,rfl,h5⟩:=hv.pos (by simp);obtain⟨G,F,U,h6,c6,W⟩:=tf (hr 0 x1 L1 rfl rfl) (ea L1) H h0;obtain⟨I,e7,Y,h7,c7,g7⟩:=tf (hr 1 x2 L2 rfl rfl) (ea L2) H h0;refine⟨K,1,[sl8 6 L1.length,sl8 7 L2.length],[x1,x2],G,F,U,I,e7,Y,⟨o5,h5⟩,⟨h6,c6⟩,⟨h7,c7⟩,by simp only[AV.afp,kX (show 6<8 by omega),kX (show 7<8 by omega),Bool.and_self],fun ks L J R h7' j w Z=>?_,fun ks L J O =>?_,fun m m5 m6 m7=>⟨[sl8 6 L1.length,sl8 7 L2.length],rfl,.inr ⟨5,false,rfl,by simp,m5⟩,fun i x L X V=>?_⟩⟩
   .match j,Z with
    |0,Z=>cases Z;rw[yg W (by omega) R];rfl
    |1,Z=>cases Z;rw[yg g7 (by omega) h7'];rfl
    |j+2,Z=>simp at Z
   .show(AV.slice 5 0 2 none).ren (fa ks L)=_
    simp only[AV.ren,fa,J,O];rfl
   .match i,X,V with
    |0,X,V=>cases X;cases V;exact oC W m6
    |1,X,V=>cases X;cases V;exact oC g7 m7
    |i+2,X,_=>simp at X
theorem Qx{s:afq}{p t:Nat}{d:Evc}{b u sv kn:AV}{e:Int}(H:∃o,M[p]? =some (.cells o 2 (pC s.P)))(I:∃o,M[t]? =some (.cells o 3 (tC s.T)))(Zj:c.Ok)(hE:af8 M (c.cells b u sv kn) c)(hS:∀(n2 n3 n4 n5 n6 n7:Nat)(C2 C3 C4 C5 C6 C7:List AV)(m:Mem),m=[.cells false 2 (pC s.P),.cells false 3 (tC s.T),.cells false n2 C2,.cells false n3 C3,.cells false n4 C4,.cells false n5 C5,.cells false n6 C6,.cells false n7 C7]->(AV.afp 8 (pC s.P)=true/\AV.afp 8 (tC s.T)=true/\AV.afp 8 C2=true/\AV.afp 8 C3=true/\AV.afp 8 C4=true/\AV.afp 8 C5=true/\AV.afp 8 C6=true/\AV.afp 8 C7=true)->
   af8 m (c.cells (sl8 2 c.B.length) (sl8 3 c.U.length) (sl8 5 c.S.length) (sl8 4 c.K.length)) c->kO prog 25 [.agg [.slice 0 0 s.P.length none,.slice 1 0 s.T.length none],.agg (d.cells (sl8 2 c.B.length) (sl8 3 c.U.length) (sl8 5 c.S.length) (sl8 4 c.K.length))] m (.int .i64 e) m):
  kO prog 25 [.agg [.slice p 0 s.P.length none,.slice t 0 s.T.length none],.agg (d.cells b u sv kn)] M (.int .i64 e) M:=by
 obtain⟨o,H⟩:=H;obtain⟨o',I⟩:=I;obtain⟨b',u',s',kn',eq,h1,h2,h3,h4⟩:=hE;simp only[Evc.cells,List.cons.injEq,true_and,and_true] at eq;obtain⟨rfl,rfl,rfl,rfl⟩:=eq;obtain⟨V,e2,D2,⟨o2,m2⟩,c2,g2⟩:=tf h1 (ea _) H (dX _);obtain⟨R,e3,D3,⟨o3,m3⟩,c3,g3⟩:=tf h2 (ea _) H (dX _);obtain⟨O,e4,D4,⟨o4,m4⟩,c4,g4⟩:=tf h4 (jI _) H (dX _);obtain⟨G,e5,D5,W,F,e6,D6,Y,e7,D7,⟨o5,m5⟩,⟨⟨o6,m6⟩,c6⟩,⟨⟨o7,m7⟩,c7⟩,u5,r5,rv,f5⟩:=W8 h3 Zj.S H (dX _);obtain⟨m,X⟩:=xE (α:=Mem) [.cells false 2 (pC s.P),.cells false 3 (tC s.T),.cells false e2 D2,.cells false e3 D3,.cells false e4 D4,.cells false e5 D5,.cells false e6 D6,.cells false e7 D7];have J:af8 m (c.cells (sl8 2 c.B.length) (sl8 3 c.U.length) (sl8 5 c.S.length) (sl8 4 c.K.length)) c:=
  ⟨_,_,_,_,rfl,oC g2 (by rw[X];rfl),oC g3 (by rw[X];rfl),f5 m (by rw[X];rfl) (by rw[X];rfl) (by rw[X];rfl),oC g4 (by rw[X];rfl)⟩
 have h:=hS e2 e3 e4 e5 e6 e7 D2 D3 D4 D5 D6 D7 m X ⟨bj (dX _),bj (fW _),bj c2,bj c3,bj c4,u5,bj c6,bj c7⟩ J;have:=kO.frame (M:=M) (new:=[]) (args:=[.agg [.slice 0 0 s.P.length none,.slice 1 0 s.T.length none],.agg (d.cells (sl8 2 c.B.length) (sl8 3 c.U.length) (sl8 5 c.S.length) (sl8 4 c.K.length))]) [p,t,V,R,O,G,F,Y] (m:=m) (by rw[X];rfl) (by
  intro k hk;simp only[lM] at hk;rcases hk with rfl | rfl | rfl | rfl | rfl | rfl | rfl | rfl
  .exact gn H
  .exact gn I
  .exact gn m2
  .exact gn m3
  .exact gn m4
  .exact gn m5
  .exact gn m6
  .exact gn m7) (by simp[AV.afp,AV.under,Evc.cells,kX]) (fun i x Z=>by
  subst X
  match i,Z with
  |0,Z=>cases Z;exact cw (dX _) H P1
  |1,Z=>cases Z;exact cw (fW _) I P1
  |2,Z=>cases Z;exact cw c2 m2 P1
  |3,Z=>cases Z;exact cw c3 m3 P1
  |4,Z=>cases Z;exact cw c4 m4 P1
  |5,Z=>cases Z;exact⟨u5,o5,W,m5,r5 _ _ rfl rfl rfl⟩
  |6,Z=>cases Z;exact cw c6 m6 P1
  |7,Z=>cases Z;exact cw c7 m7 P1
  |i+8,Z=>simp at Z) rfl (by simpa using h)
 have q2:=yg (j:=2) (ks:=[p,t,V,R,O,G,F,Y]) (L:=M.length) g2 (by simp) rfl;have q3:=yg (j:=3) (ks:=[p,t,V,R,O,G,F,Y]) (L:=M.length) g3 (by simp) rfl;have q4:=yg (j:=4) (ks:=[p,t,V,R,O,G,F,Y]) (L:=M.length) g4 (by simp) rfl;have q5:=rv [p,t,V,R,O,G,F,Y] M.length rfl rfl;simp only[AV.afz,AV.ren,Evc.cells,q2,q3,q4,q5,List.map_nil,List.append_nil] at this;simpa [fa,Evc.cells] using this
end Go.Proofs
