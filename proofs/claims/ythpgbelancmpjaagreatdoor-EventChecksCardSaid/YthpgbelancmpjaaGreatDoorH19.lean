/- See H38. -/
import Derived.Test.YthpgbelancmpjaaGreatDoorH18
set_option linter.all false
set_option maxRecDepth 100000
set_option maxHeartbeats 40000000
namespace Go.Proofs
open Go.Eng
open Tryz
theorem PJ(n:Int)(d:Nat)(hd:d≠0)(I:(aj n.natAbs).length<=10000)(H:(aj d).length<=10000)(mem:Mem):
  bz prog 142 [.str (bH n),.str (aj d)] mem (.tuple [.str (aJ (mkRat n d)),.int .i64 0]) mem:=by
 have Z:bq prog 142=some f142:=by kernel_rfl
 refine az kE ?_ mem;have X:jI (d:Int)=1:=Hy hd;have V:(aj n.natAbs).length<=100000:=by omega
 have h3:(aj d).length<=100000:=by omega
 simp[ad,Z,f142,ai,bX,bO,cP,aU,aV,cM,bu,ax,X,hd,V,h3]
noncomputable def BX(f:FuncId)(args:List AV):Option AV:=
 match f,args with
 |142,[.str s,.str t]=>match im s,xF t with
  |some n,some d=>if d≠0/\(aj n.natAbs).length<=10000/\(aj d).length<=10000 then some (.tuple [.str (aJ (mkRat n d)),.int .i64 0]) else none
  |_,_=>none
 |f,args=>cq f args
theorem Nr:afs prog (ai BX):=bT fun f X v h mem=>by
 unfold BX at h;split at h
 .split at h
  .rename_i m n V U
   split at h
   next Z=>cases h;rw[bK V,gB U];exact PJ m n Z.1 Z.2.1 Z.2.2 mem
   .cases h
  .cases h
 .have:=fc.fn _ _ mem ⟨v,none,[]⟩ (by unfold ai;simp only;rw[h])
  simpa [afw.mem] using this
theorem gH{n:Nat}(h:n<10 ^ 19):(aj n).length<=20:=by exact ba (by omega) (by omega)
theorem R6(n:Int)(d:Nat)(hd:d≠0)(I:ef n=true)(H:ef (d:Int)=true)(mem:Mem):
  bz prog 88 [.int .i64 n,.int .i64 d] mem (.tuple [.str (aJ (mkRat n d)),.int .i64 0]) mem:=by
 have X:bq prog 88=some f88:=by kernel_rfl
 refine az Nr ?_ mem;have V:n.natAbs<10 ^ 19:=by unfold ef at I;simp at I;omega
 have Z:d<10 ^ 19:=by unfold ef at H;simp at H;omega
 have U:(aj n.natAbs).length<=10000:=by have:=gH V;omega
 have h3:(aj d).length<=10000:=by have:=gH Z;omega
 have S:bH (d:Int)=aj d:=rfl;simp[ad,X,f88,ai,BX,cq,cp,bX,bO,cP,aU,bu,ax,I,H,S,hd,U,h3]
end Go.Proofs
namespace Go.Eng
theorem yM{a:Int}{b:Nat}(H:0<b)(h:0<=a\/a.natAbs%b=0):a.tdiv b=a / b/\a.tmod b=((a.natAbs%b:Nat):Int):=by
 by_cases S:0<=a
 .obtain⟨n,rfl⟩:∃n:Nat,a=n:=⟨a.toNat,by omega⟩
  rw[xt,xu,Int.natAbs_natCast,Int.natCast_ediv];exact⟨rfl,rfl⟩
 .have X:a.natAbs%b=0:=by rcases h with h | h<;>omega
  have V:a= -((a.natAbs / b*b:Nat):Int):=by have:=Nat.div_add_mod a.natAbs b;rw[X,Nat.add_zero,SP] at this;omega
  obtain⟨q,U⟩:=xE (a.natAbs / b);rw[<-U] at V;rw[X,V,Int.natCast_mul,<-Int.neg_mul];have Z :(b:Int)≠0:=by omega
  exact⟨by rw[Int.mul_tdiv_cancel _ Z,Int.mul_ediv_cancel _ Z],by rw[Int.mul_tmod_left];rfl⟩
def Sm(D V:Nat)(q:Rat):Prop:=0<D/\(∃n:Int,q*(D:Rat)=(n:Rat))/\ -(V:Rat)<=q/\q<=(V:Rat)
end Go.Eng
namespace Go.Proofs
open Go.Eng
open Tryz
def aah(A B C q:P2):Rat×Rat×Rat:=(uZ B C q,uZ C A q,uZ A B q)
def inQ(w:Rat×Rat×Rat):Prop:=0<=kU w.1/\0<=kU w.2.1/\0<=kU w.2.2
instance (w:Rat×Rat×Rat):Decidable (inQ w):=inferInstanceAs (Decidable (0<=kU w.1/\0<=kU w.2.1/\0<=kU w.2.2))
def aaj(P:List P2)(q:P2)(t:Tr):Rat×Rat×Rat:=aah (P.getD t.1 (0,0)) (P.getD t.2.1 (0,0)) (P.getD t.2.2 (0,0)) q
theorem MW(s:List UInt8)(mem:Mem):bz prog 185 [.str s] mem (.tuple [.bool (Lib.hasPrefix s [45]),.str (Lib.trimPrefix s [45])]) mem:=by
 have X:bq prog 185=some f185:=by kernel_rfl
 refine az (ar _) ?_ mem;cases s with
 |nil=>simp[ad,X,f185,Lib.hasPrefix,Lib.trimPrefix]
 |cons c r=>
  have U:0<(r.length:Int)+1:=by omega
  have S:(1:Int)<=(r.length:Int)+1:=by omega
  by_cases h:c=45
  .subst h
   have Z:Lib.hasPrefix (45::r) [45]=true:=by simp[Lib.hasPrefix,List.isPrefixOf]
   have V:Lib.trimPrefix (45::r) [45]=r:=by unfold Lib.trimPrefix;rw[Z];rfl
   rw[Z,V];simp[ad,X,f185,U,S,Nat.testBit]
  .have R :¬(45:UInt8)=c:=fun e=>h e.symm
   have Z:Lib.hasPrefix (c::r) [45]=false:=by simp[Lib.hasPrefix,List.isPrefixOf,R]
   have V:Lib.trimPrefix (c::r) [45]=c::r:=by unfold Lib.trimPrefix;rw[Z];rfl
   have h3:¬((c.toNat:Int)=45):=by
    intro e;apply h;apply UInt8.toNat_inj.1;have:c.toNat=45:=by omega
    rw[this];rfl
   rw[Z,V];simp[ad,X,f185,U,h3]
noncomputable def be(f:FuncId)(args:List AV):Option AV:=
 match f,args with
 |185,[.str s]=>some (.tuple [.bool (Lib.hasPrefix s [45]),.str (Lib.trimPrefix s [45])])
 |f,args=>an f args
theorem iO:afs prog (ai be):=bT fun f Z v h mem=>by
 unfold be at h;split at h
 .cases h;exact MW _ mem
 .have:=ep.fn _ _ mem ⟨v,none,[]⟩ (by unfold ai;simp only;rw[h])
  simpa [afw.mem] using this
theorem MT(n:Int)(mem:Mem):bz prog 149 [.str (bH n)] mem (.int .i64 (jI n)) mem:=by
 have Z:bq prog 149=some f149:=by kernel_rfl
 refine az iO ?_ mem;by_cases X:n<0
 .simp[ad,Z,f149,ai,be,aR,aC,X,jI]
 .by_cases V:n=0
  .subst V
   have:bH 0=[48]:=rfl;simp[ad,Z,f149,ai,be,aR,aC,jI,fD]
  .simp[ad,Z,f149,ai,be,aR,aC,X,V,jI,fD]
theorem PR(n:Int)(mem:Mem):bz prog 189 [.str (bH n)] mem (.str (aj n.natAbs)) mem:=by
 have Z:bq prog 189=some f189:=by kernel_rfl
 refine az iO ?_ mem;simp[ad,Z,f189,ai,be,aC]
theorem R7(n:Int)(H:ef n=true)(mem:Mem):bz prog 93 [.int .i64 n] mem (.str (bH n)) mem:=by
 have Z:bq prog 93=some f93:=by kernel_rfl
 refine az iO ?_ mem;simp[ad,Z,f93,ai,be,an,H]
theorem PW(n:Int)(H:(aj n.natAbs).length<=1000000000)(mem:Mem):bz prog 150 [.str (bH n)] mem (.str (bH (-n))) mem:=by
 have Z:bq prog 150=some f150:=by kernel_rfl
 refine az iO ?_ mem;by_cases X:n<0
 .have e:bH (-n)=aj n.natAbs:=by rw[gj (by omega),Int.natAbs_neg]
  simp[ad,Z,f150,ai,be,aR,aC,X,e]
 .by_cases V:n=0
  .subst V
   have e:aj 0=[48]:=iI;have U:bH 0=[48]:=rfl;have S:Lib.hasPrefix [48] [45]=false:=rfl;have R:Lib.trimPrefix [48] [45]=[48]:=rfl;simp[ad,Z,f150,ai,be,U,S,R]
  .have e:bH (-n)=45::aj n.natAbs:=by rw[kL (by omega),gj (by omega)]
   have Q:1+(aj n.natAbs).length<=ft:=by unfold ft;omega
   simp[ad,Z,f150,ai,be,aR,aC,X,V,fD,e,Q]
variable{K:Nat}{O:afu}{b:Code}
theorem Bq(s:List UInt8)(hs:s.length<=1000000000)(I:s.length<K)(H:ah f186=[b]):
  ∃F:Env->Bool->Env,∀Z d,(aa Z 4=.str s/\aa Z 5=.int .i64 0)->
   aO (aL prog) (fun _=>[5]) O K 43 0 true (.loop b) ⟨Z,[],d⟩=some (if s.all isD then .exit 0 else .ret,⟨F Z d,[],d⟩)/\
   ((s.all isD=false->aa (F Z d) 2=.bool false)/\(s.all isD=true->aa (F Z d) 3=aa Z 3/\aa (F Z d) 4=aa Z 4)):=by
 refine bG rfl (fun Z=>aa Z 4=.str s/\aa Z 5=.int .i64 0) (fun Z N =>(s.all isD=false->aa N 2=.bool false)/\(s.all isD=true->aa N 3=aa Z 3/\aa N 4=aa Z 4)) ?_;rintro Z d ⟨h4,h5⟩;have D:au [5] (ae b) Z ((5,.int .i64 ((0:Nat):Int))::Z)=au [5] (ae b) Z Z:=by simp[au,h5]
 rw[<-D];refine bZ (α:=Nat) (fun i=>⟨au [5] (ae b) Z ((5,.int .i64 (i:Int))::Z),[],d⟩)
  (fun i=>s.length-i) (fun i=>i<=s.length/\s.all isD=(s.drop i).all isD) (if s.all isD then .exit 0 else .ret) _ d _ (by split<;>simp) ?_ K 0 ⟨Nat.zero_le _,rfl⟩ (by simp only[QQg];exact I)
 rintro i ⟨hi,I'⟩;clear D;simp[ah,aw,f186] at H;by_cases M:i=s.length
 .right
  have G:s.drop i=[]:=M6 (by omega);have:s.all isD=true:=by rw[I',G];rfl
  subst M;subst H;rw[this];simp[h4]
 .have Q:i<s.length:=by omega
  have S:(i:Int)<(s.length:Int):=by omega
  obtain⟨c,C⟩:∃c,s[i]? =some c:=⟨s[i],by simp[Q]⟩
  have V :s[i]=c:=(Hi.1 C).2;have G:s.drop i=c::s.drop (i+1):=by rw[LU Q,V]
  have B:IntKind.i64.wrap ((i:Int)+1)=((i+1:Nat):Int):=by rw[af];omega
  rw[G,QQX] at I';by_cases y:c.toNat<48
  .right
   have X:isD c=false:=by unfold isD;simp;omega
   have U :((c.toNat:Int)<48):=by omega
   have:s.all isD=false:=by rw[I',X];rfl
   subst H;rw[this];simp[h4,Q,S,V,U]
  .have U :¬((c.toNat:Int)<48):=by omega
   by_cases u:57<c.toNat
   .right
    have X:isD c=false:=by unfold isD;simp;omega
    have R :(57<(c.toNat:Int)):=by omega
    have:s.all isD=false:=by rw[I',X];rfl
    subst H;rw[this];simp[h4,Q,S,V,U,R]
   .left
    have X:isD c=true:=by unfold isD;simp;omega
    have R :¬(57<(c.toNat:Int)):=by omega
    rw[X,Bool.true_and] at I';refine⟨i+1,?_⟩;refine bS (show(i+1<=s.length/\s.all isD=(s.drop (i+1)).all isD)/\_ from⟨⟨Q,I'⟩,by omega⟩) ?_;subst H;simp[h4,Q,S,V,U,R,B]
def Vm(s:List UInt8):Bool:=(im s).isSome
def TX(mn:Bool)(t:List UInt8):Bool:=match t with
 | []=>false
 |c::r=>(c::r).all isD&& !(c==48&&(mn||decide (0<r.length)))
theorem TY(s:List UInt8):TX (Lib.hasPrefix s [45]) (Lib.trimPrefix s [45])=Vm s:=by
 have S:∀t,TX false t=gA t:=by
  intro t;cases t with
  |nil=>rfl
  |cons c r=>
   simp only[TX,gA,QQX,Bool.false_or];rw[Bool.eq_iff_iff];cases r with
   |nil=>simp
   |cons x r=>simp
 have V:∀t,TX true t=(gA t&& !(t.head? ==some 48)):=by
  intro t;cases t with
  |nil=>rfl
  |cons c r=>
   simp only[TX,gA,QQX,Bool.true_or,Bool.and_true,List.head?_cons];rw[Bool.eq_iff_iff];simp
   grind
 have Z:∀t:List UInt8,(∀r,t≠45::r)->TX false t=Vm t:=by
  intro t R;rw[S];unfold Vm;rw[Fp R];cases hc:gA t with
  |true=>rw[A8 hc];rfl
  |false=>rw[Hj hc];rfl
 unfold Lib.trimPrefix;cases s with
 |nil=>rw[show Lib.hasPrefix [] [45]=false from rfl];exact Z [] (by simp)
 |cons c r=>
  by_cases h:c=45
  .subst h
   rw[show Lib.hasPrefix (45::r) [45]=true by simp[Lib.hasPrefix,List.isPrefixOf]];simp only[if_true,List.length_singleton,List.drop_succ_cons,List.drop_zero];rw[V];unfold Vm;rw[Fo];cases hc:gA r with
   |true=>
    rw[A8 hc,Bool.true_and];have X:=sn hc;cases hvd:eP r with
    |zero=>
     rw[hvd,iI] at X;rw[<-X];rfl
    |succ u=>
     rw[hvd] at X;have U:=xg (u+1) (by omega);rw[X] at U;have:(r.head? ==some 48)=false:=by simpa using U
     rw[this];rfl
   |false=>
    rw[Hj hc];simp
  .have V:Lib.hasPrefix (c::r) [45]=false:=by
    have Q :¬(45:UInt8)=c:=fun e=>h e.symm
    simp[Lib.hasPrefix,List.isPrefixOf,Q]
   rw[V];exact Z (c::r) (by intro N e;exact h (List.cons.inj e).1)
theorem Bg(s:List UInt8)(hs:s.length<=1000000000)(mem:Mem):bz prog 186 [.str s] mem (.bool (Vm s)) mem:=by
 have Q:bq prog 186=some f186:=by kernel_rfl
 refine dE iO (lv:=fun _=>[5]) (K:=s.length+1) rfl rfl ?_ mem;rw[<-TY];obtain⟨b,M⟩:∃b,ah f186=[b]:=⟨_,rfl⟩
 have B:(Lib.trimPrefix s [45]).length<=s.length:=by unfold Lib.trimPrefix;split<;>simp
 obtain⟨N,X⟩:=xE (Lib.hasPrefix s [45]);obtain⟨t,Z⟩:=xE (Lib.trimPrefix s [45]);rw[<-Z] at B;rw[<-X,<-Z];obtain⟨F,U⟩:=Bq (O:=ai be) (K:=s.length+1) t (by omega) (by omega) M;simp[ah,aw,f186] at M;subst M;cases I':t.all isD with
 |false=>
  have G:TX N t=false:=by
   cases t with
   |nil=>rfl
   |cons c r=>simp only[TX];rw[I'];rfl
  simp only[I'] at U;rw[G];simp[ad,Q,f186,ai,be,<-X,<-Z,U]
 |true=>
  simp only[I'] at U;cases t with
  |nil=>
   rw[show TX N []=false from rfl];simp[ad,Q,f186,ai,be,<-X,<-Z,U]
  |cons c r=>
   have G:TX N (c::r)= !(c==48&&(N||decide (0<r.length))):=by simp only[TX];rw[I'];rfl
   rw[G];have V:¬((r.length:Int)+1=0):=by omega
   by_cases S:c=48
   .subst S
    cases N with
    |true=>simp[ad,Q,f186,ai,be,<-X,<-Z,U,V]
    |false=>
     by_cases C:0<r.length
     .have R :1<(r.length:Int)+1:=by omega
      simp[ad,Q,f186,ai,be,<-X,<-Z,U,V,C,R]
     .have R :¬1<(r.length:Int)+1:=by omega
      simp[ad,Q,f186,ai,be,<-X,<-Z,U,V,C,R]
   .have D :¬((c.toNat:Int)=48):=fun e=>S (Zh.1 e)
    simp[ad,Q,f186,ai,be,<-X,<-Z,U,V,S,D]
noncomputable def cj(f:FuncId)(args:List AV):Option AV:=
 match f,args with
 |186,[.str s]=>if s.length<=1000000000 then some (.bool (Vm s)) else none
 |f,args=>be f args
theorem BY:afs prog (ai cj):=bT fun f Z v h mem=>by
 unfold cj at h;split at h
 .split at h
  next X=>cases h;exact Bg _ X mem
  .cases h
 .have:=iO.fn _ _ mem ⟨v,none,[]⟩ (by unfold ai;simp only;rw[h])
  simpa [afw.mem] using this
theorem Ia(s:List UInt8)(hs:s.length<=1000000000)(mem:Mem):bz prog 103 [.str s] mem (.bool (okI s)) mem:=by
 have V:bq prog 103=some f103:=by kernel_rfl
 refine az BY ?_ mem;cases hn:im s with
 |none=>
  have X:Vm s=false:=by unfold Vm;rw[hn];rfl
  have U:okI s=false:=by unfold okI;rw[hn]
  rw[U];simp[ad,V,f103,ai,cj,be,hs,X]
 |some n=>
  have X:Vm s=true:=by unfold Vm;rw[hn];rfl
  have U:okI s=decide ((aj n.natAbs).length<=200):=by unfold okI;rw[hn]
  have h3:Lib.trimPrefix s [45]=aj n.natAbs:=by rw[bK hn,aC]
  rw[U];by_cases S:(aj n.natAbs).length<=200
  .have Z :((aj n.natAbs).length:Int)<=200:=by omega
   simp[ad,V,f103,ai,cj,be,hs,X,h3,S,Z]
  .have Z :¬((aj n.natAbs).length:Int)<=200:=by omega
   simp[ad,V,f103,ai,cj,be,hs,X,h3,S,Z]
theorem Ah(u:Nat)(hl:(aj u).length<=18)(hK:20<K)(H:ah f229=[b]):
  ∃F:Env->Bool->Env,∀Z d,(aa Z 5=.str (aj u)/\aa Z 6=.int .i64 0/\aa Z 7=.int .i64 0)->
   aO (aL prog) (fun _=>[6,7]) O K 45 0 true (.loop b) ⟨Z,[],d⟩=some (.exit 0,⟨F Z d,[],d⟩)/\
   (aa (F Z d) 6=.int .i64 (-(u:Int))/\aa (F Z d) 4=aa Z 4):=by
 obtain⟨s,Q⟩:=xE (aj u);have m:s.all isD=true:=by rw[Q];exact dM u
 have hv:eP s=u:=by rw[Q];exact dP u
 rw[<-Q] at hl |-;refine bG rfl (fun Z=>aa Z 5=.str s/\aa Z 6=.int .i64 0/\aa Z 7=.int .i64 0) (fun Z Y =>aa Y 6=.int .i64 (-(u:Int))/\aa Y 4=aa Z 4) ?_;rintro Z d ⟨h5,h6,h7⟩;have V:eP (s.take 0)=0:=by rw[List.take_zero];unfold eP;rw[dR]
 have W:au [6,7] (ae b) Z ((6,.int .i64 (-((eP (s.take 0):Nat):Int)))::(7,.int .i64 ((0:Nat):Int))::Z)=au [6,7] (ae b) Z Z:=by rw[V];simp[au,h6,h7]
 rw[<-W];refine bZ (α:=Nat) (fun j=>⟨au [6,7] (ae b) Z ((6,.int .i64 (-((eP (s.take j):Nat):Int)))::(7,.int .i64 (j:Int))::Z),[],d⟩)
  (fun j=>s.length-j) (fun j=>j<=s.length) (.exit 0) _ d _ (by simp) ?_ K 0 (Nat.zero_le _) (by simp only[QQg];omega)
 intro j hj;clear W V;simp[ah,aw,f229] at H;by_cases N:j=s.length
 .right
  subst N;rw[V1,hv];subst H;simp[h5]
 .left
  have M:j<s.length:=by omega
  have G:(j:Int)<(s.length:Int):=by omega
  obtain⟨c,D⟩:∃c,s[j]? =some c:=⟨s[j],by simp[M]⟩
  have C :s[j]=c:=(Hi.1 D).2;have X:=List.all_eq_true.1 m c (Lo D);have hcd:=tW X;have adh:48<=c.toNat:=by unfold isD at X;simp only[Ar,Cs] at X;exact X.1
  have B:s.take (j+1)=s.take j++[c]:=by rw[List.take_add_one,D];rfl
  have U:eP (s.take (j+1))=10*eP (s.take j)+(c.toNat-48):=by rw[B,oP]
  have y:eP (s.take j)<10 ^ 17:=by
   have h1:=DM (pR m j);have h2:(s.take j).length<=17:=by rw[M0];omega
   have h3:10 ^ (s.take j).length<=10 ^ 17:=L9 (by omega) h2;omega
  obtain⟨v,S⟩:=xE (eP (s.take j));obtain⟨J,R⟩:=xE (eP (s.take (j+1)));rw[<-S] at y U;rw[<-R] at U;obtain⟨k,hk⟩:=xE (α:=Nat) (c.toNat-48);have w0:IntKind.i64.wrap (c.toNat:Int)=(c.toNat:Int):=af (by omega) (by have:=c.toNat_lt;omega);have w1:IntKind.i64.wrap ((c.toNat:Int)-48)=(k:Int):=by rw[af (by omega) (by have:=c.toNat_lt;omega)];omega
  have w2:IntKind.i64.wrap (-9223372036854775808+(k:Int))= -9223372036854775808+(k:Int):=af;obtain⟨z,I⟩:=xE ((-9223372036854775808+(k:Int)).tdiv 10);have hzb:z<= -900000000000000000/\ -922337203685477581<=z:=by
   have e: -9223372036854775808+(k:Int)= -((9223372036854775808-k:Nat):Int):=by omega
   obtain⟨w,hw⟩:=xE ((9223372036854775808-k) / 10);have hz3:z= -(w:Int):=by rw[I,e,Int.neg_tdiv,HE _ 10,<-hw]
   omega
  have w3:IntKind.i64.wrap z=z:=af;have o:¬(-(v:Int)<z):=by omega
  have w4:IntKind.i64.wrap (10* -(v:Int))=10* -(v:Int):=af;have w4' :IntKind.i64.wrap (-(10*(v:Int)))= -(10*(v:Int)):=af;have w5:IntKind.i64.wrap (10* -(v:Int)-(k:Int))= -(J:Int):=by rw[af];omega
  have w5' :IntKind.i64.wrap (-(10*(v:Int))-(k:Int))= -(J:Int):=by rw[af];omega
  have w6:IntKind.i64.wrap ((j:Int)+1)=((j+1:Nat):Int):=by rw[af];omega
  refine⟨j+1,?_⟩;refine bF (show j+1<=s.length/\_ from⟨M,by omega⟩) ?_;subst H;simp[h5,M,G,C,<-S,<-R,w0,w1,w2,<-I,w3,o,w4,w5,w6]
theorem Ib(n:Int)(H:(aj n.natAbs).length<=18)(mem:Mem):bz prog 229 [.str (bH n)] mem (.tuple [.int .i64 n,.bool true]) mem:=by
 have S:bq prog 229=some f229:=by kernel_rfl
 refine dE iO (lv:=fun _=>[6,7]) (K:=21) rfl rfl ?_ mem;obtain⟨b,V⟩:∃b,ah f229=[b]:=⟨_,rfl⟩
 obtain⟨F,X⟩:=Ah (O:=ai be) (K:=21) n.natAbs H (by omega) V;have M:n.natAbs<10 ^ 18:=by have R:=cf n.natAbs;have Q:10 ^ (aj n.natAbs).length<=10 ^ 18:=L9 (by omega) H;omega
 obtain⟨u,U⟩:=xE n.natAbs;rw[<-U] at X H M;have Z :¬(19<((aj u).length:Int)):=by omega
 simp[ah,aw,f229] at V;subst V;by_cases N:n<0
 .have e: -(u:Int)=n:=by omega
  rw[e] at X;simp[ad,S,f229,ai,be,aR,aC,<-U,Z,X,N]
 .have e:(u:Int)=n:=by omega
  have R:¬(-(u:Int)= -9223372036854775808):=by omega
  have G :¬((u:Int)=9223372036854775808):=by omega
  have Q:IntKind.i64.wrap (u:Int)=n:=by rw[af];exact e
  have h3:¬u=9223372036854775808:=by omega
  simp[ad,S,f229,ai,be,aR,aC,<-U,Z,X,N,R,Q]
noncomputable def bJ(f:FuncId)(args:List AV):Option AV:=
 match f,args with
 |229,[.str s]=>match im s with
  |some n=>if (aj n.natAbs).length<=18 then some (.tuple [.int .i64 n,.bool true]) else none
  |none=>none
 |93,[.int .i64 n]=>if ef n then some (.str (bH n)) else none
 |149,[.str s]=>match im s with
  |some n=>some (.int .i64 (jI n))
  |none=>none
 |189,[.str s]=>match im s with
  |some n=>some (.str (aj n.natAbs))
  |none=>none
 |150,[.str s]=>match im s with
  |some n=>if (aj n.natAbs).length<=1000000000 then some (.str (bH (-n))) else none
  |none=>none
 |f,args=>cj f args
theorem BZ:afs prog (ai bJ):=bT fun f V v h mem=>by
 unfold bJ at h;split at h
 .split at h
  .rename_i n Z
   split at h
   next X=>cases h;rw[bK Z];exact Ib n X mem
   .cases h
  .cases h
 .split at h
  next U=>cases h;exact R7 _ U mem
  .cases h
 .split at h
  next n Z=>cases h;rw[bK Z];exact MT n mem
  .cases h
 .split at h
  next n Z=>cases h;rw[bK Z];exact PR n mem
  .cases h
 .split at h
  .rename_i n Z
   split at h
   next X=>cases h;rw[bK Z];exact PW n X mem
   .cases h
  .cases h
 .have:=BY.fn _ _ mem ⟨v,none,[]⟩ (by unfold ai;simp only;rw[h])
  simpa [afw.mem] using this
theorem H9(n:Int)(H:(aj n.natAbs).length<=1000000000)(mem:Mem):bz prog 224 [.str (bH n)] mem (if (aj n.natAbs).length<=17 then .tuple [.int .i64 n,.bool true] else .tuple [.int .i64 0,.bool false]) mem:=by
 have X:bq prog 224=some f224:=by kernel_rfl
 refine dE BZ (lv:=fun _=>[]) (K:=1) rfl (by split<;>rfl) ?_ mem;by_cases h:(aj n.natAbs).length<=17
 .have Z:¬(17<((aj n.natAbs).length:Int)):=by omega
  have V:(aj n.natAbs).length<=18:=by omega
  simp[ad,X,f224,ai,bJ,cj,be,aC,ax,h,Z,V]
 .have Z:(17<((aj n.natAbs).length:Int)):=by omega
  simp[ad,X,f224,ai,bJ,cj,be,aC,h,Z]
variable{a:Int}
theorem CH{b:Int}(hs:decide (a<0)=decide (b<0)):ei (decide (a<0)) (a.natAbs+b.natAbs)=bH (a+b):=by
 rw[<-gQ (a+b)];have:(a+b).natAbs=a.natAbs+b.natAbs:=by by_cases Z:a<0<;>by_cases X:b<0<;>simp[Z,X] at hs<;>omega
 rw[this];by_cases Z:a<0<;>by_cases X:b<0<;>simp[Z,X] at hs
 .rw[decide_eq_true Z,decide_eq_true (by omega)]
 .rw[decide_eq_false Z,decide_eq_false (by omega)]
theorem Ha{b:Int}(hs:¬decide (a<0)=decide (b<0))(H:a.natAbs<b.natAbs):ei (decide (b<0)) (b.natAbs-a.natAbs)=bH (a+b):=by
 rw[<-gQ (a+b)];have V:(a+b).natAbs=b.natAbs-a.natAbs:=by by_cases X:a<0<;>by_cases Z:b<0<;>simp[X,Z] at hs<;>omega
 rw[V];by_cases X:a<0<;>by_cases Z:b<0<;>simp[X,Z] at hs
 .rw[decide_eq_false Z,decide_eq_false (by omega)]
 .rw[decide_eq_true Z,decide_eq_true (by omega)]
theorem G9{b:Int}(hs:¬decide (a<0)=decide (b<0))(H:b.natAbs<=a.natAbs):ei (decide (a<0)) (a.natAbs-b.natAbs)=bH (a+b):=by
 rw[<-gQ (a+b)];have U:(a+b).natAbs=a.natAbs-b.natAbs:=by by_cases Z:a<0<;>by_cases X:b<0<;>simp[Z,X] at hs<;>omega
 rw[U];by_cases V:a.natAbs-b.natAbs=0
 .unfold ei;rw[if_pos V,if_pos V]
 by_cases Z:a<0<;>by_cases X:b<0<;>simp[Z,X] at hs
 .rw[decide_eq_true Z,decide_eq_true (by omega)]
 .rw[decide_eq_false Z,decide_eq_false (by omega)]
theorem eJ(n:Nat):(dig 10000 n).length<=(aj n).length:=by
 obtain⟨X,Z,U⟩:=kK _ (aj n) (Es _) (dM _);rw[dP] at Z;have V:bd (fu (aj n))=dig 10000 n:=by rw[<-dW (by omega) X,Z]
 have:=dw (fu (aj n));rw[V] at this;omega
noncomputable def bM(f:FuncId)(args:List AV):Option AV:=
 match f,args with
 |224,[.str s]=>match im s with
  |some n=>if (aj n.natAbs).length<=1000000000 then some (if (aj n.natAbs).length<=17 then .tuple [.int .i64 n,.bool true] else .tuple [.int .i64 0,.bool false]) else none
  |none=>none
 |f,args=>bJ f args
theorem B0:afs prog (ai bM):=bT fun f Z v h mem=>by
 unfold bM at h;split at h
 .split at h
  .rename_i n X
   split at h
   next V=>cases h;rw[bK X];exact H9 n V mem
   .cases h
  .cases h
 .have:=BZ.fn _ _ mem ⟨v,none,[]⟩ (by unfold ai;simp only;rw[h])
  simpa [afw.mem] using this
noncomputable def dU:afu:=fun c Z M=>((ai bM).or dD) c Z M
theorem uV:afs prog dU:=B0.or KE
variable{A:List Nat}
theorem rs0(ow:Bool)(l:Mem):bl .i64 (.cells ow 1 (iN .i64 A)::l) (.slice 0 0 A.length none)=some A:=aW rfl (by simp) (An (by simp))
theorem rs1(ow:Bool)(H:afz)(l:Mem):bl .i64 (H::.cells ow 1 (iN .i64 A)::l) (.slice 1 0 A.length none)=some A:=aW rfl (by simp) (An (by simp))
theorem rs2(ow:Bool)(H I:afz)(l:Mem):bl .i64 (H::I::.cells ow 1 (iN .i64 A)::l) (.slice 2 0 A.length none)=some A:=aW rfl (by simp) (An (by simp))
theorem rs3(ow:Bool)(H I J:afz)(l:Mem):bl .i64 (H::I::J::.cells ow 1 (iN .i64 A)::l) (.slice 3 0 A.length none)=some A:=aW rfl (by simp) (An (by simp))
theorem PT(a b:Int)(ha:(aj a.natAbs).length<=10000)(hb:(aj b.natAbs).length<=10000)(mem:Mem):bz prog 146 [.str (bH a),.str (bH b)] mem (.str (bH (a+b))) mem:=by
 have Y:bq prog 146=some f146:=by kernel_rfl
 refine az uV ?_ mem;have c1:decide (a<0)=decide (b<0)->ei (decide (a<0)) (a.natAbs+b.natAbs)=bH (a+b):=CH;have c2:¬decide (a<0)=decide (b<0)->a.natAbs<b.natAbs->ei (decide (b<0)) (b.natAbs-a.natAbs)=bH (a+b):=Ha;have c3:¬decide (a<0)=decide (b<0)->b.natAbs<=a.natAbs->ei (decide (a<0)) (a.natAbs-b.natAbs)=bH (a+b):=G9;obtain⟨n,G⟩:∃n,a.natAbs=n:=⟨_,rfl⟩
 obtain⟨m,F⟩:∃m,b.natAbs=m:=⟨_,rfl⟩
 rw[G,F] at c1 c2 c3;rw[G] at ha;rw[F] at hb;have X:(aj n).length<=1000000000:=by omega
 have V:(aj m).length<=1000000000:=by omega
 by_cases hq:(aj n).length<=17/\(aj m).length<=17
 .obtain⟨N,M⟩:=hq
  have s1:n<10 ^ 17:=by have h1:=cf n;have h2:10 ^ (aj n).length<=10 ^ 17:=L9 (by omega) N;omega
  have s2:m<10 ^ 17:=by have h1:=cf m;have h2:10 ^ (aj m).length<=10 ^ 17:=L9 (by omega) M;omega
  have w1:IntKind.i64.wrap (a+b)=a+b:=af;have hf:ef (a+b)=true:=by unfold ef;simp;omega
  simp[ad,Y,f146,dU,afu.or,ai,bM,bJ,ax,G,F,X,V,N,M,w1,hf]
 .have da:=eJ n
  have db:=eJ m;have R:(aj n).length<=1000000:=by omega
  have Q:(aj m).length<=1000000:=by omega
  have G':dig 10000 n≠[]\/dig 10000 m≠[]:=by
   by_cases h:(aj n).length<=17
   .right
    rw[ne_eq,fh (by omega)];intro e;apply hq;rw[e];exact⟨h,by decide⟩
   .left
    rw[ne_eq,fh (by omega)];intro e;apply h;rw[e];decide
  have W:aq 10000 (dig 10000 n)=n:=bN (by omega) _;have J:aq 10000 (dig 10000 m)=m:=bN (by omega) _;have I:lok 10000 (dig 10000 n)=true:=cc (by omega) _;have H:lok 10000 (dig 10000 m)=true:=cc (by omega) _;have ta:bd (dig 10000 n)=dig 10000 n:=cB (by omega) _;have tb:bd (dig 10000 m)=dig 10000 m:=cB (by omega) _;obtain⟨A,hA⟩:=xE (dig 10000 n);obtain⟨B,hB⟩:=xE (dig 10000 m);rw[<-hA] at da W I ta G';rw[<-hB] at db J H tb G';have adj:=G'.symm;have g1:A.length<=1000000:=by omega
  have g2:B.length<=1000000:=by omega
  have g3:A.length<=1000000000:=by omega
  have g4:B.length<=1000000000:=by omega
  by_cases hs:(decide (a<0))=(decide (b<0))
  .obtain⟨S,hS⟩:=xE (dig 10000 (n+m))
   have D:aq 10000 S=n+m:=by rw[hS];exact bN (by omega) _
   have C:lok 10000 S=true:=by rw[hS];exact cc (by omega) _
   have y:bd S=S:=by rw[hS];exact cB (by omega) _
   have u:S.length<=100000:=by have h1:=jB ha hb;have h2:=eJ (n+m);rw[hS];omega
   have Z:=c1 hs;have U :(decide (a<0)==decide (b<0))=true:=by rw[hs];simp
   have o:0<=(n:Int)+(m:Int):=by omega
   have j:((n:Int)+(m:Int)).toNat=n+m:=by omega
   by_cases N:(aj n).length<=17
   .have M:¬(aj m).length<=17:=fun e=>hq ⟨N,e⟩
    simp[ad,Y,f146,dU,afu.or,ai,bM,bJ,cj,be,an,ax,bu,G,F,X,V,N,M,dD,bR,cS,aR,aC,R,Q,<-hA,<-hB,rs0,rs1,rs2,G',I,H,g1,g2,W,J,o,j,<-hS,C,y,u,D,U,Z]
   .by_cases M:(aj m).length<=17
    .simp[ad,Y,f146,dU,afu.or,ai,bM,bJ,cj,be,an,ax,bu,G,F,X,V,N,M,dD,bR,cS,aR,aC,R,Q,<-hA,<-hB,rs0,rs1,rs2,G',I,H,g1,g2,W,J,o,j,<-hS,C,y,u,D,U,Z]
    .simp[ad,Y,f146,dU,afu.or,ai,bM,bJ,cj,be,an,ax,bu,G,F,X,V,N,M,dD,bR,cS,aR,aC,R,Q,<-hA,<-hB,rs0,rs1,rs2,G',I,H,g1,g2,W,J,o,j,<-hS,C,y,u,D,U,Z]
  .have U :(decide (a<0)==decide (b<0))=false:=by cases h1:decide (a<0)<;>cases h2:decide (b<0)<;>simp[h1,h2] at hs |-
   by_cases A':n<m
   .obtain⟨S,hS⟩:=xE (dig 10000 (m-n))
    have D:aq 10000 S=m-n:=by rw[hS];exact bN (by omega) _
    have C:lok 10000 S=true:=by rw[hS];exact cc (by omega) _
    have y:bd S=S:=by rw[hS];exact cB (by omega) _
    have u:S.length<=100000:=by have h1:=bI (show m-n<=m by omega);have h2:=eJ (m-n);rw[hS];omega
    have Z:=c2 hs A';have o:0<=(m:Int)+ -(n:Int):=by omega
    have j:((m:Int)+ -(n:Int)).toNat=m-n:=by omega
    by_cases N:(aj n).length<=17
    .have M:¬(aj m).length<=17:=fun e=>hq ⟨N,e⟩
     simp[ad,Y,f146,dU,afu.or,ai,bM,bJ,cj,be,an,ax,bu,G,F,X,V,N,M,dD,bR,cS,cN,dh,aR,aC,R,Q,<-hA,<-hB,rs0,rs1,rs2,adj,I,H,ta,tb,g1,g2,g3,W,J,o,j,A',<-hS,C,y,u,D,U,Z]
    .by_cases M:(aj m).length<=17
     .simp[ad,Y,f146,dU,afu.or,ai,bM,bJ,cj,be,an,ax,bu,G,F,X,V,N,M,dD,bR,cS,cN,dh,aR,aC,R,Q,<-hA,<-hB,rs0,rs1,rs2,adj,I,H,ta,tb,g1,g2,g3,W,J,o,j,A',<-hS,C,y,u,D,U,Z]
     .simp[ad,Y,f146,dU,afu.or,ai,bM,bJ,cj,be,an,ax,bu,G,F,X,V,N,M,dD,bR,cS,cN,dh,aR,aC,R,Q,<-hA,<-hB,rs0,rs1,rs2,adj,I,H,ta,tb,g1,g2,g3,W,J,o,j,A',<-hS,C,y,u,D,U,Z]
   .obtain⟨S,hS⟩:=xE (dig 10000 (n-m))
    have D:aq 10000 S=n-m:=by rw[hS];exact bN (by omega) _
    have C:lok 10000 S=true:=by rw[hS];exact cc (by omega) _
    have y:bd S=S:=by rw[hS];exact cB (by omega) _
    have u:S.length<=100000:=by have h1:=bI (show n-m<=n by omega);have h2:=eJ (n-m);rw[hS];omega
    have Z:=c3 hs (by omega);have o:0<=(n:Int)+ -(m:Int):=by omega
    have j:((n:Int)+ -(m:Int)).toNat=n-m:=by omega
    by_cases N:(aj n).length<=17
    .have M:¬(aj m).length<=17:=fun e=>hq ⟨N,e⟩
     simp[ad,Y,f146,dU,afu.or,ai,bM,bJ,cj,be,an,ax,bu,G,F,X,V,N,M,dD,bR,cS,cN,dh,aR,aC,R,Q,<-hA,<-hB,rs0,rs1,rs2,G',I,H,ta,tb,g1,g2,g3,W,J,o,j,A',<-hS,C,y,u,D,U,Z]
    .by_cases M:(aj m).length<=17
     .simp[ad,Y,f146,dU,afu.or,ai,bM,bJ,cj,be,an,ax,bu,G,F,X,V,N,M,dD,bR,cS,cN,dh,aR,aC,R,Q,<-hA,<-hB,rs0,rs1,rs2,G',I,H,ta,tb,g1,g2,g3,W,J,o,j,A',<-hS,C,y,u,D,U,Z]
     .simp[ad,Y,f146,dU,afu.or,ai,bM,bJ,cj,be,an,ax,bu,G,F,X,V,N,M,dD,bR,cS,cN,dh,aR,aC,R,Q,<-hA,<-hB,rs0,rs1,rs2,G',I,H,ta,tb,g1,g2,g3,W,J,o,j,A',<-hS,C,y,u,D,U,Z]
noncomputable def eh(f:FuncId)(args:List AV):Option AV:=
 match f,args with
 |146,[.str s,.str t]=>match im s,im t with
  |some a,some b=>if (aj a.natAbs).length<=10000/\(aj b.natAbs).length<=10000 then some (.str (bH (a+b))) else none
  |_,_=>none
 |f,args=>bM f args
theorem B8:afs prog (ai eh):=bT fun f Z v h mem=>by
 unfold eh at h;split at h
 .split at h
  .rename_i m n V U
   split at h
   next X=>cases h;rw[bK V,bK U];exact PT m n X.1 X.2 mem
   .cases h
  .cases h
 .have:=B0.fn _ _ mem ⟨v,none,[]⟩ (by unfold ai;simp only;rw[h])
  simpa [afw.mem] using this
theorem PX(a b:Int)(H:(aj a.natAbs).length<=10000)(I:(aj b.natAbs).length<=10000)(mem:Mem):bz prog 188 [.str (bH a),.str (bH b)] mem (.str (bH (a-b))) mem:=by
 have X:bq prog 188=some f188:=by kernel_rfl
 refine az B8 ?_ mem;have Z:(aj b.natAbs).length<=1000000000:=by omega
 have e:a+ -b=a-b:=Int.sub_eq_add_neg.symm;simp[ad,X,f188,ai,eh,bM,bJ,ax,Z,H,I,e]
noncomputable def ez(f:FuncId)(args:List AV):Option AV:=
 match f,args with
 |188,[.str s,.str t]=>match im s,im t with
  |some a,some b=>if (aj a.natAbs).length<=10000/\(aj b.natAbs).length<=10000 then some (.str (bH (a-b))) else none
  |_,_=>none
 |f,args=>eh f args
theorem Ca:afs prog (ai ez):=bT fun f Z v h mem=>by
 unfold ez at h;split at h
 .split at h
  .rename_i m n V U
   split at h
   next X=>cases h;rw[bK V,bK U];exact PX m n X.1 X.2 mem
   .cases h
  .cases h
 .have:=B8.fn _ _ mem ⟨v,none,[]⟩ (by unfold ai;simp only;rw[h])
  simpa [afw.mem] using this
theorem DX(a b:Int)(H:(aj a.natAbs).length<=10000)(I:(aj b.natAbs).length<=10000)(mem:Mem):bz prog 105 [.str (bH a),.str (bH b)] mem (.int .i64 (jI (a-b))) mem:=by
 have Z:bq prog 105=some f105:=by kernel_rfl
 refine az Ca ?_ mem;obtain⟨c,X⟩:=xE (a-b);simp[ad,Z,f105,ai,ez,eh,bM,bJ,ax,H,I,<-X]
theorem PV(a b:Int)(H:(aj a.natAbs).length<=5000)(I:(aj b.natAbs).length<=5000)(mem:Mem):bz prog 147 [.str (bH a),.str (bH b)] mem (.str (bH (a*b))) mem:=by
 have C:bq prog 147=some f147:=by kernel_rfl
 refine az uV ?_ mem;have X:=Fi a b;have V:(a*b).natAbs=a.natAbs*b.natAbs:=QQf a b;obtain⟨n,R⟩:∃n,a.natAbs=n:=⟨_,rfl⟩
 obtain⟨m,Q⟩:∃m,b.natAbs=m:=⟨_,rfl⟩
 rw[R,Q] at X V;rw[R] at H;rw[Q] at I;by_cases y:(aj n).length+(aj m).length<=18
 .have q1:(aj n).length<=18:=by omega
  have q2:(aj m).length<=18:=by omega
  have s3:n*m<10 ^ 18:=by have u:=cf n;have o:=cf m;have h3:n*m<10 ^ (aj n).length*10 ^ (aj m).length:=Nat.mul_lt_mul'' u o;rw[<-Nat.pow_add] at h3;have h4:10 ^ ((aj n).length+(aj m).length)<=10 ^ 18:=L9 (by omega) y;omega
  obtain⟨p,N⟩:=xE (a*b);rw[<-N] at V;have w0:IntKind.i64.wrap (((aj n).length:Int)+((aj m).length:Int))=(((aj n).length+(aj m).length:Nat):Int):=by rw[af];omega
  have Z:(((aj n).length+(aj m).length:Nat):Int)<=18:=by omega
  have w1:IntKind.i64.wrap (a*b)=p:=by rw[<-N];exact af
  have hf:ef p=true:=by unfold ef;simp;omega
  obtain⟨l,M⟩:=xE ((aj n).length+(aj m).length);rw[<-M] at w0 Z;rw[<-N];simp[ad,C,f147,dU,afu.or,ai,bM,bJ,cj,be,aR,aC,ax,R,Q,w0,Z,q1,q2,w1,hf]
 .have da:=eJ n
  have db:=eJ m;have G:(aj n).length<=1000000:=by omega
  have F:(aj m).length<=1000000:=by omega
  have D:dig 10000 n≠[]\/dig 10000 m≠[]:=by
   by_cases h:n=0
   .right
    rw[ne_eq,fh (by omega)];intro e;apply y;rw[h,e];decide
   .left
    rw[ne_eq,fh (by omega)];exact h
  have j:aq 10000 (dig 10000 n)=n:=bN (by omega) _;have Y:aq 10000 (dig 10000 m)=m:=bN (by omega) _;have W:lok 10000 (dig 10000 n)=true:=cc (by omega) _;have J:lok 10000 (dig 10000 m)=true:=cc (by omega) _;obtain⟨A,hA⟩:=xE (dig 10000 n);obtain⟨B,hB⟩:=xE (dig 10000 m);rw[<-hA] at da j W D;rw[<-hB] at db Y J D;have g1:A.length<=5000:=by omega
  have g2:B.length<=5000:=by omega
  obtain⟨S,hS⟩:=xE (dig 10000 (n*m));have vs:aq 10000 S=n*m:=by rw[hS];exact bN (by omega) _
  have os:lok 10000 S=true:=by rw[hS];exact cc (by omega) _
  have ts:bd S=S:=by rw[hS];exact cB (by omega) _
  have g5:S.length<=100000:=by have u:=dL H I;have o:=eJ (n*m);rw[hS];omega
  obtain⟨mn,U⟩:=xE (!(decide (a<0)==decide (b<0)));rw[<-U] at X;have w0:IntKind.i64.wrap (((aj n).length:Int)+((aj m).length:Int))=(((aj n).length+(aj m).length:Nat):Int):=by rw[af];omega
  have Z:¬(((aj n).length+(aj m).length:Nat):Int)<=18:=by omega
  obtain⟨l,M⟩:=xE ((aj n).length+(aj m).length);rw[<-M] at w0 Z;have hlN:¬l<=18:=by omega
  simp[ad,C,f147,dU,afu.or,ai,bM,bJ,cj,be,an,aR,aC,bu,R,Q,w0,Z,dD,bR,cS,G,F,<-hA,<-hB,rs0,rs1,rs2,D,W,J,g1,g2,j,Y,<-hS,os,ts,g5,vs,<-U,X]
theorem F5(a:Int)(b:Nat)(H:0<b)(I:0<=a\/a.natAbs%b=0)(ha:(aj a.natAbs).length<=10000)(hb:(aj b).length<=10000)(mem:Mem):
  bz prog 151 [.str (bH a),.str (aj b)] mem (.tuple [.str (bH (a / b)),.str (aj (a.natAbs%b))]) mem:=by
 have hG:bq prog 151=some f151:=by kernel_rfl
 refine az uV ?_ mem;have V:im (aj b)=some (b:Int):=ax (b:Int);have N:Lib.hasPrefix (aj b) [45]=false:=by have:=aR (b:Int);rw[show bH (b:Int)=aj b from rfl] at this;rw[this];simp
 have M:Lib.trimPrefix (aj b) [45]=aj b:=by have:=aC (b:Int);rw[show bH (b:Int)=aj b from rfl,Int.natAbs_natCast] at this;exact this
 have D:=Fh H I;have J:=yM H I;obtain⟨n,Y⟩:∃n,a.natAbs=n:=⟨_,rfl⟩
 rw[Y] at D J ha I |-;have U:(aj n).length<=1000000000:=by omega
 have S:(aj b).length<=1000000000:=by omega
 have aeZ:n%b<b:=Nat.mod_lt _ H;obtain⟨q,hq⟩:=xE (n / b);obtain⟨r,hr⟩:=xE (n%b);rw[<-hq] at D;rw[<-hr] at J I aeZ |-;obtain⟨Z,hZ⟩:=xE (a / (b:Int));rw[<-hZ] at D J |-;have ae0 :¬b=0:=by omega
 by_cases j:(aj n).length<=17/\(aj b).length<=17
 .obtain⟨C,y⟩:=j
  have s1:n<10 ^ 17:=by have h1:=cf n;have h2:10 ^ (aj n).length<=10 ^ 17:=L9 (by omega) C;omega
  have s2:b<10 ^ 17:=by have h1:=cf b;have h2:10 ^ (aj b).length<=10 ^ 17:=L9 (by omega) y;omega
  have hZb:Z.natAbs<=n:=by rw[hZ,<-Y];exact Int.natAbs_ediv_le_natAbs _ _
  have w1:IntKind.i64.wrap (a.tdiv (b:Int))=Z:=by rw[J.1];exact af
  have w2:IntKind.i64.wrap Z=Z:=af;have hf1:ef Z=true:=by unfold ef;simp;omega
  have hf2:ef (r:Int)=true:=by unfold ef;simp;omega
  have hrs:bH (r:Int)=aj r:=rfl;have hrn:¬(r:Int)<0:=by omega
  simp[ad,hG,f151,dU,afu.or,ai,bM,bJ,ax,V,Y,U,S,C,y,ae0,J,w2,hrn,hf1,hf2,hrs,Nat.testBit]
 .have da:=eJ n
  have db:=eJ b;have G:(aj n).length<=1000000:=by omega
  have F:(aj b).length<=1000000:=by omega
  have va:aq 10000 (dig 10000 n)=n:=bN (by omega) _;have vb:aq 10000 (dig 10000 b)=b:=bN (by omega) _;have oa:lok 10000 (dig 10000 n)=true:=cc (by omega) _;have ob:lok 10000 (dig 10000 b)=true:=cc (by omega) _;have tb:bd (dig 10000 b)=dig 10000 b:=cB (by omega) _;have hn0:dig 10000 n=[]↔n=0:=fh (by omega);obtain⟨A,hA⟩:=xE (dig 10000 n);obtain⟨B,hB⟩:=xE (dig 10000 b);rw[<-hA] at da va oa hn0;rw[<-hB] at db vb ob tb;have g1:A.length<=50000:=by omega
  have g2:B.length<=50000:=by omega
  have o:ei false r=aj r:=mU r;obtain⟨Q,hQ⟩:=xE (dig 10000 q);obtain⟨R,W⟩:=xE (dig 10000 r);have vq:aq 10000 Q=q:=by rw[hQ];exact bN (by omega) _
  have oq:lok 10000 Q=true:=by rw[hQ];exact cc (by omega) _
  have tq:bd Q=Q:=by rw[hQ];exact cB (by omega) _
  have gq:Q.length<=100000:=by have h1:=bI (show q<=n by rw[hq];exact Nat.div_le_self _ _);have h2:=eJ q;rw[hQ];omega
  have vr:aq 10000 R=r:=by rw[W];exact bN (by omega) _
  have or:lok 10000 R=true:=by rw[W];exact cc (by omega) _
  have tr:bd R=R:=by rw[W];exact cB (by omega) _
  have gr:R.length<=100000:=by have h1:=bI (show r<=b by omega);have h2:=eJ r;rw[W];omega
  by_cases u:A=[]
  .have adk:=hn0.1 u
   have hq0:q=0:=by rw[hq,adk];exact Nat.zero_div _
   have adl:r=0:=by rw[hr,adk];exact Nat.zero_mod _
   have X:¬a<0:=by omega
   rw[hq0] at D;have ae1:bH Z=[48]:=by rw[<-D];rfl
   have hrd:aj r=[48]:=by rw[adl];exact iI
   have e1:∀l,bl .i64 (.cells true 1 []::l) (.slice 0 0 0 none)=some []:=fun l=>aW (A:=[]) rfl (by simp) rfl
   have e2:∀a0 a1 l,bl .i64 (a0::a1::.cells true 1 []::l) (.slice 2 0 0 none)=some []:=fun a0 a1 l=>aW (A:=[]) rfl (by simp) rfl
   have k1:lok 10000 []=true:=rfl;have k2:bd []=[]:=rfl;have k3:aq 10000 []=0:=rfl;have k4:∀mn,ei mn 0=[48]:=fun mn=>rfl
   have k5:ei false n=[48]:=by rw[adk];rfl
   rw[ae1,hrd];rw[u] at hA va;clear D o hQ W;by_cases C:(aj n).length<=17
   .have y:¬(aj b).length<=17:=fun e=>j ⟨C,e⟩
    simp[ad,hG,f151,dU,afu.or,ai,bM,bJ,cj,be,an,ax,V,bu,Y,U,S,C,y,dD,bR,aR,aC,N,M,G,F,<-hA,<-hB,rs1,ob,tb,g2,va,vb,H,e1,e2,k1,k2,k5,X]
   .by_cases y:(aj b).length<=17
    .simp[ad,hG,f151,dU,afu.or,ai,bM,bJ,cj,be,an,ax,V,bu,Y,U,S,C,y,dD,bR,aR,aC,N,M,G,F,<-hA,<-hB,rs1,ob,tb,g2,va,vb,H,e1,e2,k1,k2,k5,X]
    .simp[ad,hG,f151,dU,afu.or,ai,bM,bJ,cj,be,an,ax,V,bu,Y,U,S,C,y,dD,bR,aR,aC,N,M,G,F,<-hA,<-hB,rs1,ob,tb,g2,va,vb,H,e1,e2,k1,k2,k5,X]
  .by_cases X:a<0
   .have adl:r=0:=by rcases I with h | h<;>omega
    have hR0:R=[]:=by rw[W,adl];exact dX _
    have hRl:¬0<R.length:=by rw[hR0];simp
    have m :ei true q=bH Z:=by rw[<-D,decide_eq_true X]
    by_cases C:(aj n).length<=17
    .have y:¬(aj b).length<=17:=fun e=>j ⟨C,e⟩
     simp[ad,hG,f151,dU,afu.or,ai,bM,bJ,cj,be,an,ax,V,bu,Y,U,S,C,y,dD,bR,aR,aC,N,M,G,F,<-hA,<-hB,rs0,rs1,rs2,rs3,oa,ob,tb,g1,g2,va,vb,H,<-hq,<-hr,<-hQ,<-W,vq,oq,tq,gq,vr,or,tr,gr,o,u,X,hRl,m]
    .by_cases y:(aj b).length<=17
     .simp[ad,hG,f151,dU,afu.or,ai,bM,bJ,cj,be,an,ax,V,bu,Y,U,S,C,y,dD,bR,aR,aC,N,M,G,F,<-hA,<-hB,rs0,rs1,rs2,rs3,oa,ob,tb,g1,g2,va,vb,H,<-hq,<-hr,<-hQ,<-W,vq,oq,tq,gq,vr,or,tr,gr,o,u,X,hRl,m]
     .simp[ad,hG,f151,dU,afu.or,ai,bM,bJ,cj,be,an,ax,V,bu,Y,U,S,C,y,dD,bR,aR,aC,N,M,G,F,<-hA,<-hB,rs0,rs1,rs2,rs3,oa,ob,tb,g1,g2,va,vb,H,<-hq,<-hr,<-hQ,<-W,vq,oq,tq,gq,vr,or,tr,gr,o,u,X,hRl,m]
   .have m :ei false q=bH Z:=by rw[<-D,decide_eq_false X]
    by_cases C:(aj n).length<=17
    .have y:¬(aj b).length<=17:=fun e=>j ⟨C,e⟩
     simp[ad,hG,f151,dU,afu.or,ai,bM,bJ,cj,be,an,ax,V,bu,Y,U,S,C,y,dD,bR,aR,aC,N,M,G,F,<-hA,<-hB,rs0,rs1,rs2,rs3,oa,ob,tb,g1,g2,va,vb,H,<-hq,<-hr,<-hQ,<-W,vq,oq,tq,gq,vr,or,tr,gr,o,u,X,m]
    .by_cases y:(aj b).length<=17
     .simp[ad,hG,f151,dU,afu.or,ai,bM,bJ,cj,be,an,ax,V,bu,Y,U,S,C,y,dD,bR,aR,aC,N,M,G,F,<-hA,<-hB,rs0,rs1,rs2,rs3,oa,ob,tb,g1,g2,va,vb,H,<-hq,<-hr,<-hQ,<-W,vq,oq,tq,gq,vr,or,tr,gr,o,u,X,m]
     .simp[ad,hG,f151,dU,afu.or,ai,bM,bJ,cj,be,an,ax,V,bu,Y,U,S,C,y,dD,bR,aR,aC,N,M,G,F,<-hA,<-hB,rs0,rs1,rs2,rs3,oa,ob,tb,g1,g2,va,vb,H,<-hq,<-hr,<-hQ,<-W,vq,oq,tq,gq,vr,or,tr,gr,o,u,X,m]
noncomputable def dq(f:FuncId)(args:List AV):Option AV:=
 match f,args with
 |151,[.str s,.str t]=>match im s,xF t with
  |some a,some b=>if (aj a.natAbs).length<=10000/\(aj b).length<=10000/\0<b/\(0<=a\/a.natAbs%b=0) then some (.tuple [.str (bH (a / b)),.str (aj (a.natAbs%b))]) else none
  |_,_=>none
 |147,[.str s,.str t]=>match im s,im t with
  |some a,some b=>if (aj a.natAbs).length<=5000/\(aj b.natAbs).length<=5000 then some (.str (bH (a*b))) else none
  |_,_=>none
 |105,[.str s,.str t]=>match im s,im t with
  |some a,some b=>if (aj a.natAbs).length<=10000/\(aj b.natAbs).length<=10000 then some (.int .i64 (jI (a-b))) else none
  |_,_=>none
 |103,[.str s]=>if s.length<=1000000000 then some (.bool (okI s)) else none
 |f,args=>ez f args
theorem Cb:afs prog (ai dq):=bT fun f U v h mem=>by
 unfold dq at h;split at h
 .split at h
  .rename_i m n X V
   split at h
   next Z=>cases h;rw[bK X,gB V];exact F5 m n Z.2.2.1 Z.2.2.2 Z.1 Z.2.1 mem
   .cases h
  .cases h
 .split at h
  .rename_i m n X V
   split at h
   next Z=>cases h;rw[bK X,bK V];exact PV m n Z.1 Z.2 mem
   .cases h
  .cases h
 .split at h
  .rename_i m n X V
   split at h
   next Z=>cases h;rw[bK X,bK V];exact DX m n Z.1 Z.2 mem
   .cases h
  .cases h
 .split at h
  next Z=>cases h;exact Ia _ Z mem
  .cases h
 .have:=Ca.fn _ _ mem ⟨v,none,[]⟩ (by unfold ai;simp only;rw[h])
  simpa [afw.mem] using this
theorem xf(n:Nat):(aj n==[48])=decide (n=0):=by
 rw[Bool.eq_iff_iff,beq_iff_eq,Cs];constructor
 .intro e;exact AY (e.trans (show [48]=aj 0 from rfl))
 .rintro rfl;rfl
theorem Ev(x y:Nat)(hx:(aj x).length<=10000)(I:(aj y).length<=10000)(J:2*y+1<K)(H:ah f106=[b]):
  ∃F:Env->Bool->Env,∀Z d,(aa Z 0=.str (aj x)/\aa Z 1=.str (aj y))->
   aO (aL prog) (fun _=>[0,1]) (ai dq) K 22 0 true (.loop b) ⟨Z,[],d⟩=some (.exit 0,⟨F Z d,[],d⟩)/\aa (F Z d) 0=.str (aj (x.gcd y)):=by
 refine bG rfl (fun Z=>aa Z 0=.str (aj x)/\aa Z 1=.str (aj y)) (fun _ S =>aa S 0=.str (aj (x.gcd y))) ?_;rintro Z d ⟨h0,h1⟩;have U:au [0,1] (ae b) Z ((0,.str (aj x))::(1,.str (aj y))::Z)=au [0,1] (ae b) Z Z:=by simp[au,h0,h1]
 rw[<-U];refine bZ (α:=Nat×Nat) (fun s=>⟨au [0,1] (ae b) Z ((0,.str (aj s.1))::(1,.str (aj s.2))::Z),[],d⟩)
  (fun s=>s.2) (fun s=>s.1.gcd s.2=x.gcd y/\(aj s.1).length<=10000/\(aj s.2).length<=10000) (.exit 0) _ d _ (by simp) ?_ K (x,y) ⟨rfl,hx,I⟩ (by show y<K;omega)
 rintro ⟨a,c⟩ ⟨hg,ha,hc⟩;simp only at hg ha hc |-;clear U;simp[ah,aw,f106] at H;by_cases X:c=0
 .right
  subst X;rw[Nat.gcd_zero_right] at hg;rw[<-hg];subst H;simp[xf]
 .left
  have V:0<c:=by omega
  have R:a%c<c:=Nat.mod_lt _ V;have Q:(aj (a%c)).length<=10000:=by have:=bI (show a%c<=c by omega);omega
  refine⟨(c,a%c),?_⟩;refine bS (show(c.gcd (a%c)=x.gcd y/\(aj c).length<=10000/\(aj (a%c)).length<=10000)/\a%c<c from⟨⟨by rw[<-hg,Nat.gcd_comm a c,Nat.gcd_rec c a,Nat.gcd_comm],hc,Q⟩,R⟩) ?_;subst H;simp[xf,X,ai,dq,cM,bu,ha,hc,V]
theorem PU(a b:Int)(H:(aj a.natAbs).length<=10000)(I:(aj b.natAbs).length<=10000)(mem:Mem):bz prog 106 [.str (bH a),.str (bH b)] mem (.str (aj (a.natAbs.gcd b.natAbs))) mem:=by
 have V:bq prog 106=some f106:=by kernel_rfl
 refine dE Cb (lv:=fun _=>[0,1]) (K:=2*b.natAbs+2) rfl rfl ?_ mem;obtain⟨c,Z⟩:∃c,ah f106=[c]:=⟨_,rfl⟩
 obtain⟨F,X⟩:=Ev (K:=2*b.natAbs+2) a.natAbs b.natAbs H I (by omega) Z;obtain⟨K,U⟩:=xE (2*b.natAbs+2);rw[<-U] at X |-;simp[ah,aw,f106] at Z;subst Z;simp[ad,V,f106,ai,dq,ez,eh,bM,bJ,ax,X]
end Go.Proofs
