/- See H38. -/
import Derived.Test.YthpgbelancmpjaaGreatDoorH22
import Derived.Test.YthpgbelancmpjaaGreatDoorH24
set_option linter.all false
set_option maxRecDepth 100000
set_option maxHeartbeats 40000000
namespace Go.Proofs
open Go.Eng
open Tryz
section
variable (d:Nat)
theorem BI(x y:List UInt8):kS (aL prog) (d+1) 9 (.str x) (.str y)=some (x==y):=by rw[kS];simp
theorem BH(x y:Int):kS (aL prog) (d+1) 3 (.int .i64 x) (.int .i64 y)=some (decide (x=y)):=by rw[kS];simp
end
def xX:List AV:=[154,155,156,157,158,159,160,161,111,162,163,164,165,166,167,168,169,170,171,172,173,174,175,176,177].map fun i=>.func i []
theorem HQ(M:Mem):bz prog 96 [] M (.agg xX) M:=by refine dE (ar _) (lv:=ae) (K:=6) rfl rfl ?_ M;as_aux_lemma=>kernel_rfl
theorem ql{T:TypeId->Option TyI}{O:afu}{N m0:Nat}{ops:Array Oper}:∀(a b:List Oper) (s:XS),cr T O N m0 ops (a++b) s=(cr T O N m0 ops a s).bind (cr T O N m0 ops b)
 | [],b,s=>rfl
 |o::a,b,s=>by
  rw[List.cons_append,cr,cr];split
  .split
   .split
    .exact ql a b _
    .rfl
   .exact ql a b _
   .rfl
  .rfl
theorem cg{T:TypeId->Option TyI}{O:afu}{N m0:Nat}{ops:Array Oper}{a b:List Oper}{s s1:XS}{r:Option XS}(h:cr T O N m0 ops a s=some s1)(h2:cr T O N m0 ops b s1=r):cr T O N m0 ops (a++b) s=r:=by rw[ql,h];exact h2
noncomputable def aG:Array Oper:=match f26.body with
 |some (.seq _ (.seq (.region _ ops _) _))=>ops
 |_=> #[]
noncomputable def mK:List Oper:=(aG.toList.drop 0).take 6
noncomputable def kh:List Oper:=(aG.toList.drop 6).take 7
noncomputable def kj:List Oper:=(aG.toList.drop 13).take 9
noncomputable def km:List Oper:=(aG.toList.drop 22).take 9
noncomputable def ko:List Oper:=(aG.toList.drop 31).take 9
noncomputable def kq:List Oper:=(aG.toList.drop 40).take 7
noncomputable def kz:List Oper:=(aG.toList.drop 47).take 9
noncomputable def kA:List Oper:=(aG.toList.drop 56).take 9
noncomputable def kB:List Oper:=(aG.toList.drop 65).take 9
noncomputable def kD:List Oper:=(aG.toList.drop 74).take 7
noncomputable def jm:List Oper:=(aG.toList.drop 81).take 7
theorem II:aG.toList=mK++(kh++(kj++(km++(ko++(kq++(kz++(kA++(kB++(kD++(jm)))))))))):=by kernel_rfl
structure Evc where
 k:Int
 nm:List UInt8
 B:List (List UInt8):=[]
 U:List (List UInt8):=[]
 S:List (List (List UInt8)):=[]
 K:List (List UInt8×List UInt8):=[]
 (t1 t2 t3 t4:Int:=0)
 (x5 x6 x7 x8 x9 x10 x11 x12 x13 x14 x16 x17 x18 x19 x20 x21 x22 x23 x24 x29 x30 x31:List UInt8:=[])
def Evc.cells(c:Evc)(b u s kn:AV):List AV:=[.int .i64 c.k,.str c.nm,b,u,s,.str c.x5,.str c.x6,.str c.x7,.str c.x8,.str c.x9,.str c.x10,.str c.x11,.str c.x12,.str c.x13,.str c.x14,kn,.str c.x16,.str c.x17,.str c.x18,.str c.x19,.str c.x20,.str c.x21,.str c.x22,.str c.x23,.str c.x24,.int .i64 c.t1,.int .i64 c.t2,.int .i64 c.t3,.int .i64 c.t4,.str c.x29,.str c.x30,.str c.x31]
noncomputable def BG:Array Oper:=match f26.body with
 |some (.seq (.region _ ops _) _)=>ops
 |_=> #[]
end Go.Proofs
namespace Go.Proofs
open Go.Eng
end Go.Proofs
namespace Go.Proofs
open Go.Eng
open Tryz
def GC:afu:=ai fun f Z=>match f,Z with
 |96,[]=>some (.agg xX)
 |_,_=>none
theorem Nk:afs prog GC:=bT fun f Z v h mem=>by
 split at h
 .cases h;exact HQ mem
 .cases h
open Classical in
noncomputable def mc:List (FuncId×List AV×AV)->FuncId->List AV->Option AV
 | [],_,_=>none
 |x::L,f,args=>if f=x.1/\args=x.2.1 then some x.2.2 else mc L f args
variable{P:Program}
theorem sT{L:List (FuncId×List AV×AV)}(h:∀x∈L,∀M,bz P x.1 x.2.1 M x.2.2 M):afs P (ai (mc L)):=bT fun f X v Z mem=>by
 induction L with
 |nil=>simp[mc] at Z
 |cons x L ih=>
  rw[mc] at Z;split at Z
  .rename_i V
   cases Z;rw[V.1,V.2];exact h x (by simp) mem
  .exact ih (fun y U=>h y (by simp[U])) Z
theorem YK{w:Int}(h:0<w):0<hQ w:=by
 rw[mX];have:(0:Rat)<(w:Rat):=by exact_mod_cast h
 grind
theorem vT(s:afI)(M:Mem)(b c:Nat)(o I :Bool)(H:M[b]? =some (.cells o 2 (pC s.P)))(hc:M[c]? =some (.cells I 3 (tC s.T))):
  bz prog 46 [.agg [.slice b 0 s.P.length none,.slice c 0 s.T.length none]] M (.int .i64 0) M:=by
 have V:=gL H;have X :=gL hc;have:=bz.frame (M:=M) (new:=[]) [b,c] rfl (by simp[V,X]) (by rfl) (fun i t Z=>by
  match i with
  |0=>simp at Z;subst Z;exact gm (gW _) H V1
  |1=>simp at Z;subst Z;exact gm (mz _) hc V1
  |i+2=>simp at Z) rfl (FW s)
 simpa [AV.afR,AV.ren,back] using this
open Classical in
noncomputable def nD:List (FuncId×List AV×Mem×afw)->afu
 | [],_,_,_=>none
 |x::L,c,args,M=>if c=.fn x.1/\args=x.2.1/\M=x.2.2.1 then some x.2.2.2 else nD L c args M
theorem wT{L:List (FuncId×List AV×Mem×afw)}(h:∀x∈L,bz P x.1 x.2.1 x.2.2.1 x.2.2.2.v (x.2.2.2.mem x.2.2.1)/\∀p,x.2.2.2.pre=some p->p.length=x.2.2.1.length):afs P (nD L):=by
 have k:∀c Z M r,nD L c Z M=some r->∃x∈L,c=.fn x.1/\Z=x.2.1/\M=x.2.2.1/\r=x.2.2.2:=by
  clear h;intro c Z M r X;induction L with
  |nil=>simp[nD] at X
  |cons x L ih=>
   rw[nD] at X;split at X
   .rename_i S
    cases X;exact⟨x,by simp,S.1,S.2.1,S.2.2,rfl⟩
   .obtain⟨y,R,V⟩:=ih X
    exact⟨y,by simp[R],V⟩
 refine⟨fun f Z M r X=>?_,fun b Z M r X=>?_,fun c Z M r p X Q=>?_⟩
 .obtain⟨x,U,V,rfl,rfl,rfl⟩:=k _ _ _ _ X
  cases V;exact(h x U).1
 .obtain⟨x,U,V,_⟩:=k _ _ _ _ X
  cases V
 .obtain⟨x,U,V,rfl,rfl,rfl⟩:=k _ _ _ _ X
  exact(h x U).2 p Q
def shA(s:afI):AV:=.agg [.slice 0 0 s.P.length none,.slice 1 0 s.T.length none]
theorem afs.or'{O H :afu}(h:afs P O)(h' :afs P H):afs P (afu.or O H):=by
 have k:∀c Z mem r,afu.or O H c Z mem=some r->O c Z mem=some r\/H c Z mem=some r:=fun c Z mem r X=>by
  unfold afu.or at X;split at X
  .rename_i q U
   cases X;exact .inl U
  .exact .inr X
 refine⟨fun f Z mem r X=>?_,fun f Z mem r X=>?_,fun c Z mem r p X V=>?_⟩
 .rcases k _ _ _ _ X with h1 | h1
  .exact h.fn _ _ _ _ h1
  .exact h'.fn _ _ _ _ h1
 .rcases k _ _ _ _ X with h1 | h1
  .exact h.yld _ _ _ _ h1
  .exact h'.yld _ _ _ _ h1
 .rcases k _ _ _ _ X with h1 | h1
  .exact h.pre _ _ _ _ _ h1 V
  .exact h'.pre _ _ _ _ _ h1 V
theorem Kv(a b c d e:AV):Cr (aL prog) 125 (.agg [a,b,c,d,e]) 0=some a:=by kernel_rfl
theorem Kw(a b c d e:AV):Cr (aL prog) 125 (.agg [a,b,c,d,e]) 1=some b:=by kernel_rfl
end Go.Proofs
namespace Go.Proofs
open Go.Eng
end Go.Proofs
namespace Go.Proofs
open Go.Eng
open Tryz
def kC:List (List UInt8×List UInt8)->List AV
 | []=>[]
 |k::l=>.str k.1::.str k.2::kC l
theorem fU:∀l:List (List UInt8×List UInt8),(kC l).length=2*l.length
 | []=>rfl
 |_::l=>by simp only[kC,List.length_cons,fU l];omega
theorem Ux:∀(l:List (List UInt8×List UInt8)) (i:Nat),(kC l).drop (i*2)=kC (l.drop i)
 |l,0=>by simp
 | [],i+1=>by simp[kC]
 |k::l,i+1=>by
  have:(i+1)*2=i*2+1+1:=by omega
  rw[this];simp only[kC,List.drop_succ_cons];exact Ux l i
theorem Ly{l:List (List UInt8×List UInt8)}{i:Nat}{k:List UInt8×List UInt8}(h:l[i]? =some k):
  ((kC l).drop (i*2)).take 2=[.str k.1,.str k.2]/\(kC l)[i*2]? =some (.str k.1)/\(kC l)[i*2+1]? =some (.str k.2):=by
 have Z:l.drop i=k::l.drop (i+1):=by rw[Hi] at h;obtain⟨X,V⟩:=h;rw[<-V];exact LU X
 have e:=Ux l i;rw[Z] at e;refine⟨by rw[e];rfl,?_,?_⟩
 .have:(kC l)[i*2]? =((kC l).drop (i*2))[0]? :=by rw[QQJ];rfl
  rw[this,e];rfl
 .have:(kC l)[i*2+1]? =((kC l).drop (i*2))[1]? :=by rw[QQJ]
  rw[this,e];rfl
theorem NU(n:Nat):∀l:List (List UInt8×List UInt8),AV.afN n (kC l)=[]
 | []=>by simp[kC,AV.afN]
 |k::l=>by simp[kC,AV.afN,AV.refs,NU n l]
def kT(Q:List (Rat×Rat)):List (List UInt8×List UInt8):=Q.map fun q=>(aJ q.1,aJ q.2)
theorem UA(Q:List (Rat×Rat)):(kT Q).length=Q.length:=by simp[kT]
theorem Xl(f:Nat->Option Nat):∀l:List (List UInt8×List UInt8),AV.afR f (kC l)=kC l
 | []=>by simp[kC,AV.afR]
 |k::l=>by simp[kC,AV.afR,AV.ren,Xl f l]
noncomputable def jc(f:FuncId)(args:List AV):Option AV:=
 match f,args with
 |51,[.str s]=>if s.length<=1000000000 then some (.bool (iz s==0)) else none
 |56,[.str s,.str t]=>match dZ s,dZ t with
  |some a,some b=>if (aj a.num.natAbs).length<=2000/\(aj a.den).length<=2000/\(aj b.num.natAbs).length<=2000/\(aj b.den).length<=2000 then some (.int .i64 (kU (a-b))) else none
  |_,_=>none
 |f,args=>nX f args
theorem KF:afs prog (ai jc):=bT fun f X v h mem=>by
 unfold jc at h;split at h
 .split at h
  next Z=>cases h;exact qS _ Z mem
  .cases h
 .split at h
  .rename_i m n V U
   split at h
   next Z=>cases h;rw[aF V,aF U];exact tM m n ⟨Z.1,Z.2.1⟩ ⟨Z.2.2.1,Z.2.2.2⟩ mem
   .cases h
  .cases h
 .have:=rI.fn _ _ mem ⟨v,none,[]⟩ (by unfold ai;simp only;rw[h])
  simpa [afw.mem] using this
def zF(p:Option Rat)(q:Rat):Bool:=match p with
 |some r=>decide (r<q)
 |none=>true
def ckE(p:Option Rat):List (List UInt8×List UInt8)->Int
 | []=>0
 |k::l=>if iz k.1=0/\iz k.2=0 then (if zF p ((dZ k.1).getD 0) then ckE (dZ k.1) l else 6) else 2
def E9(L:List (List UInt8×List UInt8))(n:Nat)(p:Option Rat):Prop:=
 (n=0/\p=none)\/(∃m q k,n=m+1/\p=some q/\L[m]? =some k/\k.1=aJ q/\(aj q.num.natAbs).length<=200/\(aj q.den).length<=200)
theorem qW{K:Nat}(L:List (List UInt8×List UInt8))(hL:∀k∈L,k.1.length<=1000000000/\k.2.length<=1000000000)(hl:L.length<=1000000000)(hK:L.length<K){b:Code}(hb:ah f85=[b]):
  ∃F:Env->Bool->Env×Mem×(List UInt8×List UInt8),∀Z d,(aa Z 0=.slice 0 0 L.length none/\aa Z 8=.slice 0 0 L.length none/\aa Z 9=.int .i64 L.length/\aa Z 10=.int .i64 0)->
   aO (aL prog) (fun _=>[10]) (ai cq) K 40 1 true (.loop b) ⟨Z,[.cells false 2 (kC L)],d⟩=some (if ckE none L=0 then .exit 0 else .ret,⟨(F Z d).1,(F Z d).2.1,d⟩)/\
    ((ckE none L=0->(F Z d).2.1=[.cells false 2 (kC L)])/\(ckE none L≠0->(F Z d).2.1=[.cells false 2 (kC L),.cells true 0 [.str (F Z d).2.2.1,.str (F Z d).2.2.2]]/\aa (F Z d).1 2=.int .i64 (ckE none L))):=by
 refine vo (β:=List UInt8×List UInt8) rfl (fun Z=>(aa Z 0=.slice 0 0 L.length none/\aa Z 8=.slice 0 0 L.length none/\aa Z 9=.int .i64 L.length/\aa Z 10=.int .i64 0)) (fun _ J X x=>(ckE none L=0->X =[.cells false 2 (kC L)])/\(ckE none L≠0->X =[.cells false 2 (kC L),.cells true 0 [.str x.1,.str x.2]]/\aa J 2=.int .i64 (ckE none L))) ?_;rintro Z d ⟨h0,h8,h9,h10⟩;simp[ah,aw,f85] at hb;have o:au [10] (ae b) Z ((10,.int .i64 ((0:Nat):Int))::Z)=au [10] (ae b) Z Z:=by simp[au,h10]
 rw[<-o];have kl:(kC L).length=2*L.length:=fU L;refine sW (α:=Nat) (fun n=>⟨au [10] (ae b) Z ((10,.int .i64 (n:Int))::Z),[.cells false 2 (kC L)],d⟩) (fun n=>L.length-n) (fun n=>n<=L.length/\∃p,E9 L n p/\ckE none L=ckE p (L.drop n)) (if ckE none L=0 then .exit 0 else .ret) d (fun J X =>∃x:List UInt8×List UInt8,(ckE none L=0->X =[.cells false 2 (kC L)])/\(ckE none L≠0->X =[.cells false 2 (kC L),.cells true 0 [.str x.1,.str x.2]]/\aa J 2=.int .i64 (ckE none L))) (by split<;>simp) ?_ K 0 ⟨by omega,none,.inl ⟨rfl,rfl⟩,by rw[List.drop_zero]⟩ (by omega);rintro n ⟨hn1,p,hp,he⟩;clear o;subst hb;by_cases V:n<L.length
 .obtain⟨k,R⟩:∃k,L[n]? =some k:=⟨L[n],LB V⟩
  obtain⟨S,k2,k3⟩:=Ly R;obtain⟨N,Y⟩:=hL k (Lo R);have hd:L.drop n=k::L.drop (n+1):=by rw[Hi] at R;obtain⟨h1,h2⟩:=R;rw[<-h2];exact LU h1
  rw[hd,ckE] at he;have w1:IntKind.i64.wrap ((n:Int)+1)=((n+1:Nat):Int):=by rw[af];omega
  have Q:n*2+2<=(kC L).length:=by omega
  by_cases U:iz k.1=0
  .by_cases M:iz k.2=0
   .rw[if_pos ⟨U,M⟩] at he
    obtain⟨q,hq,O,q1,q2⟩:=mT U;rw[hq] at he;have G :(aj q.num.natAbs).length<=40000:=by omega
    have D :(aj q.den).length<=40000:=by omega
    simp only[Option.getD_some] at he;rcases hp with⟨rfl,rfl⟩ | ⟨m,r,j,rfl,rfl,hj,I,r1,r2⟩
    .rw[if_pos (by rfl)] at he
     left;refine⟨1,?_⟩;have hz:(0:Int)<L.length:=by omega
     have W:E9 L 1 (some q):=.inr ⟨0,q,k,rfl,rfl,R,O,q1,q2⟩;have w3:IntKind.i64.wrap 1=1:=rfl;simp at S Q V;simp[h0,h8,h9,V,ai,cq,N,Y,U,M,S,Q,w3,NU,Nat.testBit];exact⟨⟨by omega,_,W,by simpa using he⟩,by omega⟩
    .obtain⟨j1,H,j3⟩:=Ly hj
     have w2:IntKind.i64.wrap (((m+1:Nat):Int)-1)=(m:Int):=by rw[af];omega
     have C :(aj r.num.natAbs).length<=40000:=by omega
     have B :(aj r.den).length<=40000:=by omega
     obtain⟨n,o⟩:=xE (m+1);rw[<-o] at R S k2 k3 Q w1 w2 V hn1 he hd |-;have n0:(0:Int)<n:=by omega
     have y :0<n:=by omega
     have hm:m<L.length:=by omega
     rw[O] at N U S;rw[I] at H;have W:E9 L (n+1) (some q):=.inr ⟨n,q,k,rfl,rfl,R,O,q1,q2⟩;obtain⟨v,hv⟩:=xE (n+1);rw[<-hv] at w1 W he;by_cases u:r<q
     .have c:¬vf q r<=0:=fun h=>by have:=Hb.1 h;grind
      rw[if_pos (by simp[zF,u])] at he;left;refine⟨v,?_⟩;simp[h0,h8,h9,V,hm,y,ai,cq,cp,aE,N,Y,U,M,S,Q,H,w1,w2,G,D,C,B,c,NU,Nat.testBit];exact⟨⟨by omega,_,W,he⟩,by omega⟩
     .have c:vf q r<=0:=Hb.2 (by grind)
      rw[if_neg (by simp[zF,u])] at he;right;rw[he];simp[h0,h8,h9,V,hm,y,ai,cq,cp,aE,N,Y,U,M,S,Q,H,w2,G,D,C,B,c,Nat.testBit];exact⟨_,_,⟨rfl,rfl⟩,⟨_,_,rfl⟩,rfl⟩
   .rw[if_neg (fun h=>M h.2)] at he
    right;rw[he];simp[h8,h9,V,ai,cq,N,Y,U,M,S,Q];exact⟨_,_,⟨rfl,rfl⟩,⟨k.1,k.2,rfl⟩,rfl⟩
  .rw[if_neg (fun h=>U h.1)] at he
   right;rw[he];simp[h8,h9,V,ai,cq,N,U,S,Q];exact⟨_,_,⟨rfl,rfl⟩,⟨k.1,k.2,rfl⟩,rfl⟩
 .right
  have e:L.drop n=[]:=M6 (by omega);rw[e,ckE] at he;rw[he];simp[h9,V]
def knE(L:List (List UInt8×List UInt8)):Int:=if 20<L.length then 4 else ckE none L
theorem xH(L:List (List UInt8×List UInt8))(H:∀k∈L,k.1.length<=1000000000/\k.2.length<=1000000000)(I:L.length<=1000000000):
  bz prog 85 [.slice 0 0 L.length none] [.cells false 2 (kC L)] (.int .i64 (knE L)) [.cells false 2 (kC L)]:=by
 have R:bq prog 85=some f85:=by kernel_rfl
 obtain⟨b,Q⟩:∃b,ah f85=[b]:=⟨_,rfl⟩
 obtain⟨F,Z⟩:=qW (K:=L.length+1) L H I (by omega) Q;simp[ah,aw,f85] at Q;subst Q;refine fQ (lv:=(fun _=>[10])) (K:=(L.length+1)) fc ?_;unfold knE;by_cases S:20<L.length
 .rw[if_pos S]
  have X:(20:Int)<L.length:=by omega
  simp[ad,R,f85,X]
 .rw[if_neg S]
  have X:¬(20:Int)<L.length:=by omega
  by_cases U:ckE none L=0
  .rw[if_pos U] at Z
   have O:=fun V d h=>(Z V d h).1
   have N:=fun V d h=>(Z V d h).2.1 U
   clear Z;simp[ad,R,f85,X,O,N,U]
  .rw[if_neg U] at Z
   have O:=fun V d h=>(Z V d h).1
   have N:=fun V d h=>((Z V d h).2.2 U).1
   have M:=fun V d h=>((Z V d h).2.2 U).2
   clear Z;simp[ad,R,f85,X,O,N,M]
end Go.Proofs
namespace Go.Proofs
open Go.Eng
open Classical in
noncomputable def Ay(f:FuncId)(args:List AV)(v:AV)(p:Mem->Prop):afu:=fun c a M=>if c=.fn f/\a=args/\p M then some ⟨v,none,[]⟩ else none
theorem Hc{P:Program}{f:FuncId}{args:List AV}{v:AV}{p:Mem->Prop}(h:∀M,p M->bz P f args M v M):afs P (Ay f args v p):=by
 have k:∀c a M r,Ay f args v p c a M=some r->(c=.fn f/\a=args/\p M)/\r=⟨v,none,[]⟩:=fun c a M r Z=>by
  unfold Ay at Z;split at Z
  .cases Z;exact⟨‹_›,rfl⟩
  .cases Z
 refine⟨fun g a M r Z=>?_,fun b a M r Z=>?_,fun c a M r q Z V=>?_⟩
 .obtain⟨⟨X,rfl,U⟩,rfl⟩:=k _ _ _ _ Z
  cases X;simpa [afw.mem] using h M U
 .obtain⟨⟨X,_⟩,_⟩:=k _ _ _ _ Z
  cases X
 .obtain⟨_,rfl⟩:=k _ _ _ _ Z
  cases V
section
variable {P:List P2}{T:List Tr}{t:Tr}{A B C:P2}{i:Nat}
end
end Go.Proofs
namespace Go.Proofs
open Go.Eng
open Tryz
def AT(s:List UInt8):Nat->List (List UInt8)->Int
 |_,[]=> -1
 |i,x::l=>if s=x then (i:Int) else AT s (i+1) l
theorem OS{s:List UInt8}:∀{i:Nat} {l:List (List UInt8)},AT s i l<0↔s∉l
 |i,[]=>by simp[AT]
 |i,x::l=>by
  unfold AT;by_cases h:s=x
  .rw[if_pos h];simp[h]
  .rw[if_neg h,OS];simp[h]
theorem Uq{s:List UInt8}:∀{i:Nat} {l:List (List UInt8)},-1<=AT s i l
 |i,[]=>by unfold AT;omega
 |i,x::l=>by
  unfold AT;split
  .omega
  .exact Uq
theorem BL{O:afu}{K:Nat}(L:List (List UInt8))(s:List UInt8)(I:L.length<=1000000000)(J:L.length<K){b:Code}(H:ah f273=[b]):
  ∃F:Env->Bool->Env,∀Z d,(aa Z 0=.slice 0 0 L.length none/\aa Z 1=.str s/\aa Z 7=.int .i64 L.length/\aa Z 8=.int .i64 0)->
   aO (aL prog) (fun _=>[8]) O K 19 1 true (.loop b) ⟨Z,[.cells false 1 (stC L)],d⟩=some (if AT s 0 L<0 then .exit 0 else .ret,⟨F Z d,[.cells false 1 (stC L)],d⟩)/\
    (¬AT s 0 L<0->aa (F Z d) 4=.int .i64 (AT s 0 L)):=by
 refine bG rfl (fun Z=>aa Z 0=.slice 0 0 L.length none/\aa Z 1=.str s/\aa Z 7=.int .i64 L.length/\aa Z 8=.int .i64 0) (fun _ G =>¬AT s 0 L<0->aa G 4=.int .i64 (AT s 0 L)) ?_;rintro Z d ⟨h0,X,h7,h8⟩;simp[ah,aw,f273] at H;have Q:au [8] (ae b) Z ((8,.int .i64 ((0:Nat):Int))::Z)=au [8] (ae b) Z Z:=by simp[au,h8]
 rw[<-Q];have N:(stC L).length=L.length:=eu L;refine bZ (α:=Nat) (fun n=>⟨au [8] (ae b) Z ((8,.int .i64 (n:Int))::Z),[.cells false 1 (stC L)],d⟩) (fun n=>L.length-n) (fun n=>n<=L.length/\AT s 0 L=AT s n (L.drop n)) _ _ d _ (by split<;>simp) ?_ K 0 ⟨by omega,by rw[List.drop_zero]⟩ (by omega);rintro n ⟨hn1,he⟩;clear Q;subst H;by_cases V:n<L.length
 .obtain⟨x,S⟩:∃x,L[n]? =some x:=⟨L[n],LB V⟩
  have M:∀h,(stC L)[n]'h=.str x:=fun h=>by have:=qD S;rw[LB h] at this;exact QQc this
  have D:L.drop n=x::L.drop (n+1):=by rw[Hi] at S;obtain⟨X,C⟩:=S;rw[<-C];exact LU X
  rw[D,AT] at he;have w1:IntKind.i64.wrap ((n:Int)+1)=((n+1:Nat):Int):=by rw[af];omega
  by_cases U:s=x
  .right
   rw[if_pos U] at he;subst U;have R:¬(n:Int)<0:=by omega
   rw[he,if_neg R];simp[h0,X,h7,V,N,M]
  .left
   rw[if_neg U] at he;have H:(s==x)=false:=by simpa using U
   refine⟨n+1,?_⟩;refine bF (show(n+1<=L.length/\AT s 0 L=AT s (n+1) (L.drop (n+1)))/\L.length-(n+1)<L.length-n from⟨⟨by omega,he⟩,by omega⟩) ?_;simp[h0,X,h7,V,N,M,H,w1]
 .right
  have e:L.drop n=[]:=M6 (by omega);rw[e,AT] at he;rw[he,if_pos (by decide)];simp[h7,V]
theorem HS(L:List (List UInt8))(s:List UInt8)(H:L.length<=1000000000):
  bz prog 273 [.slice 0 0 L.length none,.str s] [.cells false 1 (stC L)] (.int .i64 (AT s 0 L)) [.cells false 1 (stC L)]:=by
 have R:bq prog 273=some f273:=by kernel_rfl
 obtain⟨b,V⟩:∃b,ah f273=[b]:=⟨_,rfl⟩
 obtain⟨F,Z⟩:=BL (O:=bC) (K:=L.length+1) L s H (by omega) V;simp[ah,aw,f273] at V;subst V;refine fQ (lv:=(fun _=>[8])) (K:=(L.length+1)) (ar _) ?_;by_cases U:AT s 0 L<0
 .rw[if_pos U] at Z
  have S:=fun X d h=>(Z X d h).1
  clear Z;have Q:AT s 0 L= -1:=by have:=Uq (s:=s) (i:=0) (l:=L);omega
  rw[Q];simp[ad,R,f273,S]
 .rw[if_neg U] at Z
  have S:=fun X d h=>(Z X d h).1
  have N:=fun X d h=>(Z X d h).2 U
  clear Z;simp[ad,R,f273,S,N]
theorem DU(s:List UInt8)(M:Mem):bz prog 273 [.kO,.str s] M (.int .i64 (-1)) M:=by
 have Z:bq prog 273=some f273:=by kernel_rfl
 refine dE (ar _) (lv:=fun _=>[8]) (K:=1) rfl rfl ?_ M;simp[ad,Z,f273,bw,ga]
variable{L:List (List UInt8)}{M:Mem}{x:AV}
theorem HR(s:List UInt8)(H:L.length<=1000000000)(hx:sts M x=some L):bz prog 273 [x,.str s] M (.int .i64 (AT s 0 L)) M:=by
 rcases W1 hx with h | ⟨rfl,rfl⟩
 .exact bz.ahJ (rest:=[.str s]) (fY L) rfl rfl (HS L s H) h
 .exact DU s M
noncomputable def GB:afu:=fun c Z M=>match c,Z with
 |.fn 273,[x,.str s]=>match sts M x with
  |some L=>if L.length<=1000000000 then some ⟨.int .i64 (AT s 0 L),none,[]⟩ else none
  |none=>none
 |c,Z=>bC c Z M
theorem Qz:afs prog GB:=by
 refine cG fun c Z M r h=>?_
 unfold GB at h;split at h
 .split at h
  .rename_i L X
   split at h
   .rename_i V
    cases h;refine aA ?_;rw[List.append_nil];exact HR _ V X
   .cases h
  .cases h
 .exact ee (ar _) h
theorem Bh(s:List UInt8)(H:L.length<=1000000000)(hx:sts M x=some L):bz prog 234 [x,.str s] M (.bool (decide (s∈L))) M:=by
 have Z:bq prog 234=some f234:=by kernel_rfl
 have X:decide (0<=AT s 0 L)=decide (s∈L):=by
  rw[decide_eq_decide];have:=OS (s:=s) (i:=0) (l:=L);by_cases h:s∈L
  .simp only[h,iff_true]
   exact Int.not_lt.1 fun e=>this.1 e h
  .simp only[h,iff_false]
   have:=this.2 h;omega
 refine wz Qz ?_;rw[<-X];simp[ad,Z,f234,GB,hx,H]
end Go.Proofs
namespace Go.Proofs
open Go.Eng
theorem qD{L:List (List UInt8)}{i:Nat}{s:List UInt8}(h:L[i]? =some s):(stC L)[i]? =some (.str s):=by simp[stC,h]
theorem Xo(Q:List Rat):qC Q=stC (Q.map aJ):=by simp[qC,stC]
def afO(N:Mem)(v:AV)(es n:Nat)(C:List AV):Prop:=(v=.kO/\n=0/\C=[])\/∃b o,v=.slice b 0 n none/\0<n/\N[b]? =some (.cells o es C)
variable{N:Mem}{v:AV}
theorem afO.more{es n:Nat}{C:List AV}(h:afO N v es n C)(Z:Mem):afO (N++Z) v es n C:=by
 rcases h with h | ⟨b,o,X,V,h3⟩
 .exact .inl h
 .exact .inr ⟨b,o,X,V,gU h3 _⟩
theorem wZ:∀l:List (List UInt8×List UInt8),AV.afA (kC l)=true
 | []=>rfl
 |k::l=>by simp[kC,AV.afA,AV.closed,wZ l]
def ahz(N:Mem)(v:AV)(S:List (List (List UInt8))):Prop:=∃Z,Z.length=S.length/\afO N v 1 S.length Z/\∀(i:Nat) x L,Z[i]? =some x->S[i]? =some L->afO N x 1 L.length (stC L)
theorem ahz.more{S:List (List (List UInt8))}(h:ahz N v S)(Z:Mem):ahz (N++Z) v S:=by obtain⟨X,V,U,h3⟩:=h;exact⟨X,V,U.more Z,fun i x L a b=>(h3 i x L a b).more Z⟩
structure Evc.Ok (c:Evc):Prop where
 B:c.B.length<=1000
 U:c.U.length<=1000
 S:c.S.length<=2
 SL:∀L∈c.S,L.length<=1000
 K:c.K.length<=1000
def agO(N:Mem)(H:List AV)(c:Evc):Prop:=∃b u s kn,H=c.cells b u s kn/\afO N b 1 c.B.length (stC c.B)/\afO N u 1 c.U.length (stC c.U)/\ahz N s c.S/\afO N kn 2 c.K.length (kC c.K)
theorem agO.more{H:List AV}{c:Evc}(h:agO N H c)(Z:Mem):agO (N++Z) H c:=by obtain⟨b,u,s,kn,X,V,h3,U,S⟩:=h;exact⟨b,u,s,kn,X,V.more Z,h3.more Z,U.more Z,S.more Z⟩
def hT(Z:List Int):List (List UInt8):=(qH Z).map aJ
end Go.Proofs
