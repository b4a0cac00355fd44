/- See H38. -/
import Derived.Test.YthpgbelancmpjaaGreatDoorH27
set_option linter.all false
set_option maxRecDepth 100000
set_option maxHeartbeats 40000000
namespace Go.Proofs
open Go.Eng
open Tryz
def sqP:List AV:=[.str [48],.str [48],.str [52],.str [48],.str [52],.str [52],.str [48],.str [52]]
def sqT:List AV:=[.int .i64 0,.int .i64 1,.int .i64 2,.int .i64 0,.int .i64 2,.int .i64 3]
theorem xO:EC (aL prog) ae (bq prog) Ow 60 10 (.fn 46) [.agg [.slice 0 0 4 none,.slice 1 0 2 none]] [.cells false 2 sqP,.cells false 3 sqT]=some ⟨.int .i64 0,some [.cells false 2 sqP,.cells false 3 sqT],[]⟩:=by kernel_rfl
theorem DR:bz prog 46 [.agg [.slice 0 0 4 none,.slice 1 0 2 none]] [.cells false 2 sqP,.cells false 3 sqT] (.int .i64 0) [.cells false 2 sqP,.cells false 3 sqT]:=by have:=(pS ak (aI _) (aQ _) Nl 10).fn _ _ _ _ xO;simpa [afw.mem] using this
def RC:List AV->List AV->Bool
 | [],[]=>true
 |.str a::l,.str b::r=>(a==b)&&RC l r
 |.int .i64 a::l,.int .i64 b::r=>decide (a=b)&&RC l r
 |_,_=>false
theorem Hw:∀{l r:List AV},RC l r=true->l=r
 | [],r,h=>by cases r<;>first | rfl | (unfold RC at h;cases h)
 |v::l,r,h=>by
  unfold RC at h;split at h
  next Z=>cases Z
  .rename_i Z
   cases Z;simp only[Ar,beq_iff_eq] at h;rw[h.1,Hw h.2]
  .rename_i Z
   cases Z;simp only[Ar,Cs] at h;rw[h.1,Hw h.2]
  .cases h
def Rz(M:Mem)(b e:Nat)(cs:List AV):Bool:=match M[b]? with
 |some (.cells _ es l)=>decide (es=e)&&RC (l.take cs.length) cs
 |_=>false
theorem L5{M:Mem}{b e:Nat}{cs:List AV}{ks:List Nat}(h:Rz M b e cs=true)(H:AV.afA cs=true):b<M.length/\agb ks M b (.cells false e cs):=by
 unfold Rz at h;split at h
 .rename_i o es l U
  simp only[Ar,Cs] at h;obtain⟨rfl,X⟩:=h;have X:=Hw X;refine⟨(gL U),bx H,o,l,U,fun j v V=>?_⟩;have R:=gL V;have:l[j]? =cs[j]? :=by rw[<-V2 R,X]
  have S:=aS (ρ:=back ks M.length) H;rw[gZ] at S;have Z:(cs.map (AV.ren (back ks M.length)))[j]? =cs[j]? :=by rw[S]
  rw[Y1,V] at Z;rw[this,V];exact Z.symm
 .cases h
theorem DQ(M:Mem)(b c:Nat)(h1:Rz M b 2 sqP=true)(h2:Rz M c 3 sqT=true):bz prog 46 [.agg [.slice b 0 4 none,.slice c 0 2 none]] M (.int .i64 0) M:=by
 have X:=L5 (ks:=[b,c]) h1 (by rfl);have V:=L5 (ks:=[b,c]) h2 (by rfl);have:=bz.frame (M:=M) (new:=[]) [b,c] (m:=[.cells false 2 sqP,.cells false 3 sqT]) rfl (by
  intro k U;simp only[lM] at U;rcases U with h | h
  .rw[h];exact X.1
  .rw[h];exact V.1) (by rfl) (fun i s Z=>by
  match i with
  |0=>simp at Z;subst Z;exact X.2
  |1=>simp at Z;subst Z;exact V.2
  |i+2=>simp at Z) rfl DR
 simpa [AV.afR,AV.ren,back] using this
def GL(c:Go.Eng.Callee)(args:List AV)(M:Mem):Option afw:=match c,args with
 |.fn 46,[.agg [.slice b 0 4 none,.slice c 0 2 none]]=>if Rz M b 2 sqP&&Rz M c 3 sqT then some ⟨.int .i64 0,none,[]⟩ else none
 |_,_=>none
theorem Nx:afs prog GL:=by
 refine cG fun c X M r h=>?_
 unfold GL at h;split at h
 .split at h
  .rename_i Z
   simp only[Ar] at Z;cases h;refine aA ?_;rw[List.append_nil];exact DQ M _ _ Z.1 Z.2
  .cases h
 .cases h
def UO(r:afw):Bool:=(match r.v with
 |.bool b=>b
 |_=>false)&&r.new.isEmpty&&(match r.pre with
 |some p=>p.isEmpty
 |none=>true)
theorem N2{r:afw}(h:UO r=true):r.v=.bool true/\r.mem []=[]:=by
 obtain⟨v,Z,V⟩:=r;simp only[UO,Ar,List.isEmpty_iff] at h;obtain⟨⟨X,rfl⟩,h3⟩:=h;constructor
 .cases v<;>first | (cases X;done) | skip
  simp only at X;rw[X]
 .cases Z with
  |none=>rfl
  |some p=>simp only[List.isEmpty_iff] at h3;subst h3;rfl
noncomputable def KA:afu:=afu.or GL (afu.or (ai cq) (ai fl))
theorem KB:afs prog KA:=afs.or Nx (afs.or fc iQ)
theorem Ek:(EC (aL prog) ae (bq prog) KA 60 20 (.fn 7) [] []).map UO=some true:=by kernel_rfl
theorem Bl(M:Mem):bz prog 7 [] M (.bool true) M:=by have h:=Ek;rw[Pi] at h;obtain⟨r,Z,X⟩:=h;have:=(pS ak (aI _) (aQ _) KB 20).fn _ _ _ _ Z;obtain⟨V,U⟩:=N2 X;rw[V,U] at this;exact bz.lift rfl rfl this M
end Go.Proofs
namespace Go.Proofs
open Go.Eng
end Go.Proofs
namespace Go.Proofs
open Go.Eng
open Tryz
theorem Hz{a b:Rat}:kU (a-b)<=0↔a<=b:=by
 have h:kU (a-b)<=0↔(a-b).num<=0:=by
  unfold kU jI;split
  .constructor<;>intro h<;>omega
  .split
   .constructor<;>intro h<;>omega
   .constructor<;>intro h<;>omega
 rw[h];have e:a-b= -(b-a):=by grind
 have Z:0<=(b-a).num↔0<=b-a:=Rat.num_nonneg;have h3:(a-b).num= -(b-a).num:=by rw[e];exact Rat.neg_num _
 rw[h3];constructor
 .intro X
  have:=Z.1 (by omega)
  grind
 .intro X
  have:=Z.2 (by grind);omega
theorem BM{K:Nat}(L:List (List UInt8×List UInt8))(hL:∀k∈L,k.1.length<=1000000000/\k.2.length<=1000000000)(hl:L.length<=1000000000)(hK:L.length<K){b:Code}(hb:ah f119=[b]):
  ∃F:Env->Bool->Env,∀Z d,(aa Z 0=.slice 0 0 L.length none/\aa Z 3=.int .i64 0)->
   aO (aL prog) (fun _=>[3]) (ai jc) K 46 1 true (.loop b) ⟨Z,[.cells false 2 (kC L)],d⟩=some (if ckE none L=0 then .exit 0 else .ret,⟨F Z d,[.cells false 2 (kC L)],d⟩)/\
    (ckE none L≠0->aa (F Z d) 2=.int .i64 (ckE none L)):=by
 refine bG rfl (fun Z=>(aa Z 0=.slice 0 0 L.length none/\aa Z 3=.int .i64 0)) (fun _ AC =>ckE none L≠0->aa AC 2=.int .i64 (ckE none L)) ?_;rintro Z d ⟨h0,h3⟩;simp[ah,aw,f119] at hb;have W:au [3] (ae b) Z ((3,.int .i64 ((0:Nat):Int))::Z)=au [3] (ae b) Z Z:=by simp[au,h3]
 rw[<-W];have kl:(kC L).length=2*L.length:=fU L;refine bZ (α:=Nat) (fun n=>⟨au [3] (ae b) Z ((3,.int .i64 (n:Int))::Z),[.cells false 2 (kC L)],d⟩) (fun n=>L.length-n) (fun n=>n<=L.length/\∃p,E9 L n p/\ckE none L=ckE p (L.drop n)) (if ckE none L=0 then .exit 0 else .ret) _ d _ (by split<;>simp) ?_ K 0 ⟨by omega,none,.inl ⟨rfl,rfl⟩,by rw[List.drop_zero]⟩ (by omega);rintro n ⟨hn1,p,hp,he⟩;clear W;obtain⟨D,H⟩:∃D,bn f119=[D]:=⟨_,rfl⟩
 obtain⟨S,R⟩:=gF H (l:=[0,1,3,7,7,31,63,127,7,7,519,1799,3847,7943,16383,32767,65535]) (j:=16) (by kernel_rfl) (by decide);simp[bn,cU,f119] at H;subst H;subst hb;by_cases X:n<L.length
 .obtain⟨k,Q⟩:∃k,L[n]? =some k:=⟨L[n],LB X⟩
  obtain⟨k1,U,N⟩:=Ly Q;obtain⟨M,J⟩:=hL k (Lo Q);have hd:L.drop n=k::L.drop (n+1):=by rw[Hi] at Q;obtain⟨h1,h2⟩:=Q;rw[<-h2];exact LU h1
  rw[hd,ckE] at he;have w1:IntKind.i64.wrap ((n:Int)+1)=((n+1:Nat):Int):=by rw[af];omega
  by_cases V:iz k.1=0
  .by_cases G:iz k.2=0
   .rw[if_pos ⟨V,G⟩] at he
    obtain⟨q,hq,O,q1,q2⟩:=mT V;rw[hq] at he;have C :(aj q.num.natAbs).length<=2000:=by omega
    have B :(aj q.den).length<=2000:=by omega
    simp only[Option.getD_some] at he;rcases hp with⟨rfl,rfl⟩ | ⟨m,r,j,rfl,rfl,hj,hjs,r1,r2⟩
    .rw[if_pos (by rfl)] at he
     left;refine⟨1,?_⟩;have hz:(0:Int)<L.length:=by omega
     have I:E9 L 1 (some q):=.inr ⟨0,q,k,rfl,rfl,Q,O,q1,q2⟩;have w3:IntKind.i64.wrap 1=1:=rfl;simp at U N X;simp[-aN,aY S,cX,cO,cV,R,h0,X,ai,jc,M,J,V,G,U,N,w3];exact⟨⟨by omega,_,I,by simpa using he⟩,by omega⟩
    .obtain⟨j1,j2,j3⟩:=Ly hj
     have w2:IntKind.i64.wrap (((m+1:Nat):Int)-1)=(m:Int):=by rw[af];omega
     have y :(aj r.num.natAbs).length<=2000:=by omega
     have u :(aj r.den).length<=2000:=by omega
     obtain⟨n,W⟩:=xE (m+1);rw[<-W] at Q k1 U N w1 w2 X hn1 he hd |-;have n0:(0:Int)<n:=by omega
     have o :0<n:=by omega
     have hm:m<L.length:=by omega
     rw[O] at M V U;rw[hjs] at j2;have I:E9 L (n+1) (some q):=.inr ⟨n,q,k,rfl,rfl,Q,O,q1,q2⟩;obtain⟨v,hv⟩:=xE (n+1);rw[<-hv] at w1 I he;by_cases Y:r<q
     .have c:¬kU (q-r)<=0:=fun h=>by have:=Hz.1 h;grind
      rw[if_pos (by simp[zF,Y])] at he;left;refine⟨v,?_⟩;simp[-aN,aY S,cX,cO,cV,R,h0,X,hm,o,ai,jc,aE,M,J,V,G,U,N,j2,w1,w2,C,B,y,u,c,Nat.testBit];exact⟨⟨by omega,_,I,he⟩,by omega⟩
     .have c:kU (q-r)<=0:=Hz.2 (by grind)
      rw[if_neg (by simp[zF,Y])] at he;right;rw[he];simp[-aN,aY S,cX,cO,cV,R,h0,X,hm,o,ai,jc,aE,M,J,V,G,U,N,j2,w2,C,B,y,u,c,Nat.testBit]
   .rw[if_neg (fun h=>G h.2)] at he
    right;rw[he];have c2' :(iz k.2==0)=false:=by simpa using G
    simp[-aN,h0,X,ai,jc,M,J,V,c2',U,N]
  .rw[if_neg (fun h=>V h.1)] at he
   right;rw[he];have c1' :(iz k.1==0)=false:=by simpa using V
   simp[-aN,h0,X,ai,jc,M,c1',U]
 .right
  have e:L.drop n=[]:=M6 (by omega);rw[e,ckE] at he;rw[he];have aao :¬(n:Int)<L.length:=by omega
  simp[h0,X]
theorem MA(L:List (List UInt8×List UInt8))(H:∀k∈L,k.1.length<=1000000000/\k.2.length<=1000000000)(I:L.length<=1000000000):
  bz prog 119 [.slice 0 0 L.length none] [.cells false 2 (kC L)] (.int .i64 (knE L)) [.cells false 2 (kC L)]:=by
 have R:bq prog 119=some f119:=by kernel_rfl
 obtain⟨b,Q⟩:∃b,ah f119=[b]:=⟨_,rfl⟩
 obtain⟨F,X⟩:=BM (K:=L.length+1) L H I (by omega) Q;simp[ah,aw,f119] at Q;subst Q;refine fQ (lv:=(fun _=>[3])) (K:=(L.length+1)) KF ?_;unfold knE;by_cases V:20<L.length
 .rw[if_pos V]
  have Z:(20:Int)<L.length:=by omega
  simp[ad,R,f119,Z]
 .rw[if_neg V]
  have Z:¬(20:Int)<L.length:=by omega
  by_cases S:ckE none L=0
  .rw[if_pos S] at X
   have O:=fun U d h=>(X U d h).1
   clear X;simp[ad,R,f119,Z,O,S]
  .rw[if_neg S] at X
   have O:=fun U d h=>(X U d h).1
   have N:=fun U d h=>(X U d h).2 S
   clear X;simp[ad,R,f119,Z,O,N]
theorem DW(M:Mem):bz prog 119 [.kO] M (.int .i64 0) M:=by
 have Z:bq prog 119=some f119:=by kernel_rfl
 refine dE (ar _) (lv:=fun _=>[3]) (K:=1) rfl rfl ?_ M;simp[ad,Z,f119,bw,ga]
end Go.Proofs
namespace Go.Proofs
open Go.Eng
end Go.Proofs
namespace Go.Proofs
open Go.Eng
open Tryz
def vG(v:V3):Prop:=nE v.1/\nE v.2.1/\nE v.2.2
variable{n:Nat}
theorem sV{q:Rat}(h:dg n n q)(h0:0<n)(h1:n<=2000):nE q:=by have:=h.lens h0 h0;exact⟨by omega,by omega⟩
theorem Zj{v:V3}(h:vDg n v)(h0:0<n)(h1:n<=2000):vG v:=⟨sV h.1 h0 h1,sV h.2.1 h0 h1,sV h.2.2 h0 h1⟩
def ZW(a b:V3):Prop:=(vG a/\vG b)/\(nE (a.1*b.1)/\nE (a.2.1*b.2.1)/\nE (a.2.2*b.2.2))/\nE (a.2.1*b.2.1+a.2.2*b.2.2)
theorem MS(u v:V3)(h:ZW u v)(M:Mem):bz prog 54 [vA u,vA v] M (.str (aJ (xA u v))) M:=by
 have hG:bq prog 54=some f54:=by kernel_rfl
 obtain⟨a,b,c⟩:=u;obtain⟨d,e,f⟩:=v;obtain⟨⟨⟨⟨G,F⟩,⟨h3,D⟩,C,B⟩,⟨g1,o⟩,⟨g3,m⟩,Y,W⟩,⟨⟨V,U⟩,⟨S,R⟩,Q,O⟩,Z,X⟩:=h;simp only at G F h3 D C B g1 o g3 m Y W V U S R Q O Z X;have ev:xA (a,b,c) (d,e,f)=a*d+(b*e+c*f):=by unfold xA;simp only;rw[Rat.add_assoc]
 rw[ev];obtain⟨x,J⟩:=xE (a*d);obtain⟨y,I⟩:=xE (b*e);obtain⟨z,H⟩:=xE (c*f);rw[<-J] at V U |-;rw[<-I] at S R Z X |-;rw[<-H] at Q O Z X |-;obtain⟨w,hw⟩:=xE (y+z);rw[<-hw] at Z X |-;obtain⟨q,hq⟩:=xE (x+w);rw[<-hq];refine az rI ?_ M;obtain⟨o1,N⟩:∃o1,bn f54=[o1]:=⟨_,rfl⟩
 obtain⟨K,j1⟩:=gF N (l:=[0,1,0,4,15,0,32,0,128,511,0,1024,0,4096,16383,32767,65535,131071]) (j:=17) (by kernel_rfl) (by decide);simp[bn,cU,f54] at N;subst N;simp[ad,hG,f54,-aN,aY K,cX,cO,cV,j1,vA,aE,ai,nX,jQ,G,F,h3,D,C,B,g1,o,g3,m,Y,W,V,U,S,R,Q,O,Z,X,<-J,<-I,<-H,<-hw,<-hq,Nat.testBit]
theorem XI{a b:V3}(H:vDg n a)(I:vDg n b)(h0:0<n)(h1:n<=200):ZW a b:=by
 have X:=rO H.1 I.1;have P2:=rO H.2.1 I.2.1;have Z:=rO H.2.2 I.2.2;have S:=zl P2 Z (m:=4*n) (by omega) (by omega);have f:∀{x:Nat}{q:Rat},dg x x q->0<x->x<=2000->nE q:=fun h p r=>sV h p r
 exact⟨⟨Zj H h0 (by omega),Zj I h0 (by omega)⟩,⟨f X (by omega) (by omega),f P2 (by omega) (by omega),f Z (by omega) (by omega)⟩,f (S.mono (n' :=4*n+1) (d' :=4*n+1) (by omega) (by omega)) (by omega) (by omega)⟩
end Go.Proofs
namespace Go.Proofs
open Go.Eng
section
variable {x y:AV}{M:Mem}
end
section
variable {O:afu}{m0:Nat}{ops:Array Oper}{env:Env}{mem:Mem}{d:Bool}{w x y z A B C D E F G H I J K1 K2 K3 K4 K5 K6 K7 K8 K9 S1 S4 S5 S6 S7 S8 S9 S10 S11 S12 S13:Int}{r1 r2 r3:V3}
end
section
variable {x y:AV}{M:Mem}
end
section
variable {x:afv}{s:afI}{M:Mem}{p t:Nat}{o o' :Bool}{ev:List AV}{v:V3}
end
end Go.Proofs
