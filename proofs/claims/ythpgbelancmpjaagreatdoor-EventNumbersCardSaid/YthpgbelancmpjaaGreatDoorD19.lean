/- See D38. -/
import Derived.Test.YthpgbelancmpjaaGreatDoorD18
set_option linter.all false
set_option maxRecDepth 100000
set_option maxHeartbeats 40000000
namespace Go.Proofs
open Go.Eng
open Tryz
theorem CB{v:Nat}(H:0<v)(mn:Bool):ei mn v=if mn then 45::ai v else ai v:=by unfold ei;rw[if_neg (by omega)]
theorem ahb:aX prog 268=some f268:=by kernel_rfl
theorem F6(v:Nat)(I:0<v)(H:(dig 10000 v).length<=100000):aa (bd prog) (fun _=>[3,4]) (aX prog) (ag ak) ((dig 10000 v).length+1) 268 [.slice 0 0 (dig 10000 v).length none] [.cells false 1 (iN .i64 (dig 10000 v))]=
  some ⟨.str (ai v),none,[]⟩:=by
 obtain⟨b,V⟩:∃b,ah f268=[b]:=⟨_,rfl⟩
 obtain⟨F,X⟩:=DB (K:=(dig 10000 v).length+1) v I H (by omega) V;have L:lok 10000 (dig 10000 v)=true:=bX (by omega) _;have G:0<(dig 10000 v).length:=by
  rcases QQX (dig 10000 v).length with h | h
  .have:=(fC (B:=10000) (n:=v) (by omega)).1 (Mp h)
   omega
  .exact h
 obtain⟨A,Z⟩:=xE (dig 10000 v);rw[<-Z] at H L G X |-;obtain⟨n,U⟩:∃n,A.length=n+1:=⟨A.length-1,by omega⟩
 obtain⟨x,S,u⟩:=dh (l:=A) (i:=n) (by omega);have o:=ff L S;have R:ai (aq 10000 (A.drop (A.length-1)))=ai x:=by rw[U,show n+1-1=n by omega,om S,ZN (by omega)];simp[aq]
 have w1:IntKind.i64.wrap (n:Int)=(n:Int):=af;have w2:IntKind.i64.wrap ((n:Int)+1-1)=(n:Int):=by rw[af];omega
 have w3:IntKind.i64.wrap ((n:Int)+1-2)=(n:Int)-1:=by rw[af];omega
 have D:dV (x:Int)=true:=by unfold dV;simp;omega
 have O:bL (x:Int)=ai x:=rfl;rw[R,U,show n+1-1=n by omega] at X;rw[U];have m:n<A.length:=by omega
 have N:(n:Int)<(n:Int)+1:=by omega
 obtain⟨K,C⟩:=xE (n+1+1);rw[<-C] at X |-;have M:¬((n:Int)+1=0):=by omega
 clear Z;simp[ah,aE,f268] at V;subst V;simp[aa,ahb,f268,M,w1,w3,N,S,ag,ak,D,O,X]
theorem DC:aa (bd prog) (fun _=>[]) (aX prog) cP 1 268 [.slice 0 0 0 none] [.cells false 1 []]=some ⟨.str [48],none,[]⟩:=by simp[aa,ahb,f268]
theorem Fe(M:Mem):kO prog 268 [.qF] M (.str [48]) M:=by refine aA (az _) ?_ M;simp[aa,ahb,f268]
variable{A:List Nat}{M:Mem}{x:AV}
theorem MD(H:lok 10000 A=true)(tA:aW A=A)(I:A.length<=100000)(J:aft .i64 M x A):kO prog 268 [x] M (.str (ai (aq 10000 A))) M:=by
 have e:=mL (by omega) H tA;have small:kO prog 268 [.slice 0 0 A.length none] [.cells false 1 (iN .i64 A)] (.str (ai (aq 10000 A))) ([.cells false 1 (iN .i64 A)]++[]):=by
  by_cases Z:aq 10000 A=0
  .have X:A=[]:=by rw[Z,dT] at e;exact e.symm
   subst X;have:=(ar aj (aJ _) (az _) (aM _) DC).1;simpa [afh.mem,aq,iY] using this
  .have h:=F6 (aq 10000 A) (by omega) (by rw[e];exact I)
   rw[e] at h;have:=(ar aj (aJ _) ez (aM _) h).1;simpa [afh.mem] using this
 rw[List.append_nil] at small;obtain⟨b,rfl,h⟩:=kO.agR (new:=[]) (rest:=[]) rfl rfl small J;simpa [AV.ren,fa] using h
noncomputable def bT:y9:=fun c Z M=>match c,Z with
 |.fn 225,[.str s]=>match xe s with
  |some v=>if (ai v).length<=1000000 then some ⟨.slice M.length 0 (dig 10000 v).length none,none,[.cells true 1 (iN .i64 (dig 10000 v))]⟩ else none
  |none=>none
 |.fn 268,[.qF]=>some ⟨.str [48],none,[]⟩
 |.fn 268,[x]=>match bh .i64 M x with
  |some A=>if lok 10000 A=true/\aW A=A/\A.length<=100000 then some ⟨.str (ai (aq 10000 A)),none,[]⟩ else none
  |none=>none
 |c,Z=>cR c Z M
theorem kI:qS prog bT:=by
 refine cB fun c X M r h=>?_
 unfold bT at h;split at h
 .split at h
  .rename_i v V
   split at h
   .rename_i U
    cases h;rw[gN V];exact aC (M1 v U M)
   .cases h
  .cases h
 .cases h
  refine aC ?_;rw[List.append_nil];exact Fe M
 .split at h
  .rename_i S
   split at h
   .rename_i Z
    cases h;refine aC ?_;rw[List.append_nil];exact MD Z.1 Z.2.1 Z.2.2 (bk S)
   .cases h
  .cases h
 .exact dZ yN h
theorem Fk(mn:Bool)(M:Mem):kO prog 226 [.bool mn,.qF] M (.str [48]) M:=by
 have Z:aX prog 226=some f226:=by kernel_rfl
 refine aA kI ?_ M;cases mn<;>simp[aa,Z,f226,bT,cR,cJ,cW]
theorem MN(mn:Bool)(H:lok 10000 A=true)(tA:aW A=A)(I:A.length<=100000)(J:aft .i64 M x A):kO prog 226 [.bool mn,x] M (.str (ei mn (aq 10000 A))) M:=by
 have X:aX prog 226=some f226:=by kernel_rfl
 obtain⟨b,o,Y,rfl,U,O⟩:=J;have N:=gL U;have Z:∀l,bh .i64 (.cells false 1 (iN .i64 A)::l) (.slice 0 0 A.length none)=some A:=fun l=>aR rfl (by simp) (B5 (by simp))
 have S:A.length<=4000000000000:=by omega
 have small:aa (bd prog) (fun _=>[]) (aX prog) bT 1 226 [.bool mn,.slice 0 0 A.length none] [.cells false 1 (iN .i64 A)]=some ⟨.str (ei mn (aq 10000 A)),none,[]⟩:=by
  by_cases V:aq 10000 A=0
  .have L:A=[]:=by have e:=mL (by omega) H tA;rw[V,dT] at e;exact e.symm
   subst L;have K:ai 0=[48]:=iY;have G:lok 10000 []=true:=rfl;have F:aW []=[]:=rfl;have D:aq 10000 []=0:=rfl;have C :∀l,bh .i64 (.cells false 1 []::l) (.slice 0 0 0 none)=some []:=Z
   cases mn<;>simp[aa,X,f226,bT,cR,cJ,cW,C,G,F,D,K,ei]
  .have B:0<A.length:=by
    rcases QQX A.length with h | h
    .rw[Mp h] at V;exact absurd rfl V
    .exact h
   rw[CB (by omega)];have u:1+(ai (aq 10000 A)).length<=fM:=by
    have R:=ia H;have j:(10000:Nat) ^ A.length=10 ^ (4*A.length):=by rw[Nat.pow_mul]
    rw[j] at R;have W:=aN (by omega) R;unfold fM;omega
   cases mn with
   |false=>simp[aa,X,f226,bT,cR,cJ,cW,Z,H,tA,I,S]
   |true=>simp[aa,X,f226,bT,cR,cJ,cW,Z,H,tA,I,S,B,u]
 have h:=(ar aj (aJ _) kI (aM _) small).1;have:=kO.frame (M:=M) (args:=[.bool mn,.slice 0 0 A.length none]) [b] (m:=[.cells false 1 (iN .i64 A)]) (new:=[]) rfl (by simpa using N) (by simp) (fun i s Z=>by
  cases i with
  |zero=>simp at Z;subst Z;exact .row U O
  |succ i=>simp at Z) rfl (by simpa [afh.mem] using h)
 simpa [AV.afz,AV.ren,fa] using this
def jt(c:Code):List Nat:=if (ad c).contains 8 then [7,8] else [9,10]
variable{b:Nat}{k:IntKind}
theorem OH{s:afl}{n:Nat}(h:bh k M (.slice b 0 n none)=some A):bh k (M++[s]) (.slice b 0 n none)=some A:=by obtain⟨V,o,U,e,X,Z⟩:=bk h;cases e;refine aR (gU X _) ?_ Z;have:=congrArg List.length Z;simp at this;omega
theorem OG:bh k (M++[.cells true 1 (iN k A)]) (.slice M.length 0 A.length none)=some A:=
 aR (ow:=true) (by simp) (by simp) (B5 (by simp))
variable{K:Nat}{c c2:Code}
theorem qc(mem:Mem)(B:List Nat)(R p:Nat)(b:Nat)(P':0<b)(Y:B=dig 10000 b)(hR:R<10000*b)(hl:(dig 10000 R).length<=100000)(Zc:B.length<=100000)(I:bh .i64 mem (.slice p 0 (dig 10000 R).length none)=some (dig 10000 R))(J:bh .i64 mem (.slice 1 0 B.length none)=some B)(W:(mem.all fun s=>(s.refs mem.length).isEmpty)=true)(hK:10000<K)(H:ah f232=[c,c2]):
  ∃F:Env->Bool->Env,∀Z d,(ae Z 1=.slice 1 0 B.length none/\ae Z 7=.slice p 0 (dig 10000 R).length none/\ae Z 9=.int .i64 0/\ae Z 10=.int .i64 9999)->
   aU (bd prog) jt bT K 58 2 true (.loop c2) ⟨Z,mem,d⟩=some (.exit 2,⟨F Z d,mem,d⟩)/\
   (ae (F Z d) 9=.int .i64 ((R / b:Nat):Int)/\∀t,t∈[0,1,6,7,8]->ae (F Z d) t=ae Z t):=by
 have Zi:jt c2=[9,10]:=by simp[ah,aE,f232] at H;obtain⟨rfl,rfl⟩:=H;decide
 have ht:R / b<=9999:=by have:=(Nat.div_lt_iff_lt_mul P').2 (show R<10000*b from hR);omega
 have O :∀m,R<m*b↔R / b<m:=fun m=>by rw[Nat.div_lt_iff_lt_mul P']
 generalize R / b=t at ht O |-;refine bl Zi (fun Z=>ae Z 1=.slice 1 0 B.length none/\ae Z 7=.slice p 0 (dig 10000 R).length none/\ae Z 9=.int .i64 0/\ae Z 10=.int .i64 9999)
  (fun Z AC =>ae AC 9=.int .i64 (t:Int)/\∀t,t∈[0,1,6,7,8]->ae AC t=ae Z t) ?_
 rintro Z d ⟨h1,h7,h9,ZS⟩;have hn:aw [9,10] (ad c2) Z ((9,.int .i64 ((0:Nat):Int))::(10,.int .i64 ((9999:Nat):Int))::Z)=aw [9,10] (ad c2) Z Z:=by simp[aw,h9,ZS]
 rw[<-hn];refine bG (α:=Nat×Nat) (fun a=>⟨aw [9,10] (ad c2) Z ((9,.int .i64 (a.1:Int))::(10,.int .i64 (a.2:Int))::Z),mem,d⟩)
  (fun a=>a.2-a.1) (fun a=>a.1<=t/\t<=a.2/\a.2<=9999) (.exit 2) _ d _ (by simp) ?_ K (0,9999) ⟨Nat.zero_le _,ht,L9 _⟩ (by show 9999-0<K;omega)
 rintro ⟨V,U⟩ ⟨i1,i2,i3⟩;simp only at i1 i2 i3 |-;clear hn;by_cases j:V<U
 .left
  obtain⟨m,hm⟩:=xE ((V+U+1) / 2);have S:(V:Int)<(U:Int):=by omega
  have w1:IntKind.i64.wrap ((V:Int)+(U:Int))=(V:Int)+(U:Int):=af;have w2:IntKind.i64.wrap ((V:Int)+(U:Int)+1)=((V+U+1:Nat):Int):=by rw[af];omega
  have w3:IntKind.i64.wrap ((((V+U+1:Nat):Int)).tdiv 2)=(m:Int):=by rw[Hc,<-hm];exact af
  obtain⟨s1,hs1⟩:=xE (V+U+1);rw[<-hs1] at w2 w3 hm;have N :IntKind.i64.wrap ((s1:Int) / 2)=(m:Int):=by rw[af];omega
  have oB:lok 10000 B=true:=by rw[Y];exact bX (by omega) _
  have vB:aq 10000 B=b:=by rw[Y];exact bO (by omega) _
  have tB:aW B=B:=by rw[Y];exact cj (by omega) _
  have nB:B≠[]:=by rw[Y,ne_eq,fC (by omega)];omega
  have oR:lok 10000 (dig 10000 R)=true:=bX (by omega) _;have vR:aq 10000 (dig 10000 R)=R:=bO (by omega) _;have tR:aW (dig 10000 R)=dig 10000 R:=cj (by omega) _;obtain⟨D,L⟩:=xE (dig 10000 (m*b));have oD:lok 10000 D=true:=by rw[L];exact bX (by omega) _
  have vD:aq 10000 D=m*b:=by rw[L];exact bO (by omega) _
  have tD:aW D=D:=by rw[L];exact cj (by omega) _
  have G:((m:Int)*(b:Int)).toNat=m*b:=by rw[<-Int.natCast_mul,Int.toNat_natCast]
  have ZC:0<=(m:Int)*(b:Int):=by rw[<-Int.natCast_mul];exact Int.natCast_nonneg _
  have mB:m<=10000:=by omega
  have lB:B.length<=1000000:=by omega
  have lR:(dig 10000 R).length<=1000000000:=by omega
  obtain⟨X,hX⟩:=xE (dig 10000 R);rw[<-hX] at I oR vR tR lR h7;have p1:∀s,bh .i64 (mem++[s]) (.slice p 0 X.length none)=some X:=fun s=>OH I
  have p2:bh .i64 (mem++[.cells true 1 (iN .i64 D)]) (.slice mem.length 0 D.length none)=some D:=OG;have C:=O m;have u:¬mem.length+1<=mem.length:=by omega
  simp[ah,aE,f232] at H;obtain⟨rfl,rfl⟩:=H;by_cases o:R<m*b
  .have w4:IntKind.i64.wrap ((m:Int)-1)=((m-1:Nat):Int):=by rw[af];omega
   refine⟨(V,m-1),?_⟩;refine bU (show(V<=t/\t<=m-1/\m-1<=9999)/\m-1-V<U-V from⟨⟨i1,by have:=C.1 o;omega,by omega⟩,by omega⟩) ?_;simp[h1,h7,S,w1,w2,N,bT,cR,cJ,cW,J,nB,oB,vB,mB,lB,ZC,G,<-L,p1,p2,oR,oD,lR,tR,tD,vR,vD,o,w4,-List.all_eq_true,-afl.refs,W,u]
  .skip
   refine⟨(m,U),?_⟩;refine bU (show(m<=t/\t<=U/\U<=9999)/\U-m<U-V from⟨⟨by have:¬t<m:=fun e=>o (C.2 e);omega,i2,i3⟩,by omega⟩) ?_;simp[h1,h7,S,w1,w2,N,bT,cR,cJ,cW,J,nB,oB,vB,mB,lB,ZC,G,<-L,p1,p2,oR,oD,lR,tR,tD,vR,vD,o,-List.all_eq_true,-afl.refs,W,u]
 .right
  have e:V=t:=by omega
  have S:¬(V:Int)<(U:Int):=by omega
  simp[ah,aE,f232] at H;obtain⟨rfl,rfl⟩:=H;subst e;simp[j]
def paM(A B:List Nat)(b j:Nat):Mem:=
 if j=A.length then [.cells false 1 (iN .i64 A),.cells false 1 (iN .i64 B),.cells true 1 (iN .i64 (List.replicate A.length 0))]
 else [.cells false 1 (iN .i64 A),.cells false 1 (iN .i64 B),.cells true 1 (iN .i64 (List.replicate j 0++(gx 10000 b (A.drop j)).1)),.cells true 1 (iN .i64 (dig 10000 (gx 10000 b (A.drop j)).2))]
def paR(A:List Nat)(b j:Nat):AV:=if j=A.length then .qF else .slice 3 0 (dig 10000 (gx 10000 b (A.drop j)).2).length none
theorem qd(A B:List Nat)(b:Nat)(P':0<b)(I:B=dig 10000 b)(hA:lok 10000 A=true)(hl:A.length<=50000)(Zc:B.length<=50000)(hK:100000<K)(H:ah f232=[c,c2]):
  ∃F:Env->Bool->Env,∀V d,(ae V 0=.slice 0 0 A.length none/\ae V 1=.slice 1 0 B.length none/\ae V 6=.slice 2 0 A.length none/\ae V 7=.qF/\ae V 8=.int .i64 ((A.length:Int)-1))->
   aU (bd prog) jt bT K 58 2 true (.loop c) ⟨V,paM A B b A.length,d⟩=some (.exit 0,⟨F V d,paM A B b 0,d⟩)/\
   (ae (F V d) 7=paR A b 0/\ae (F V d) 6=.slice 2 0 A.length none):=by
 have Zi:jt c=[7,8]:=by simp[ah,aE,f232] at H;obtain⟨rfl,rfl⟩:=H;decide
 refine bl Zi (fun V=>ae V 0=.slice 0 0 A.length none/\ae V 1=.slice 1 0 B.length none/\ae V 6=.slice 2 0 A.length none/\ae V 7=.qF/\ae V 8=.int .i64 ((A.length:Int)-1))
  (fun _ AC =>ae AC 7=paR A b 0/\ae AC 6=.slice 2 0 A.length none) ?_
 rintro V d ⟨h0,h1,h6,h7,h8⟩;have hn:aw [7,8] (ad c) V ((7,paR A b A.length)::(8,.int .i64 ((A.length:Int)-1))::V)=aw [7,8] (ad c) V V:=by simp[aw,h7,h8,paR]
 have ab6:(paM A B b A.length).length=3:=by unfold paM;rw[if_pos rfl];rfl
 rw[<-hn,ab6];refine bG (α:=Nat) (fun j=>⟨aw [7,8] (ad c) V ((7,paR A b j)::(8,.int .i64 ((j:Int)-1))::V),paM A B b j,d⟩)
  (fun j=>j) (fun j=>j<=A.length) (.exit 0) _ d _ (by simp) ?_ K A.length (L9 _) (by show A.length<K;omega)
 intro j hj;clear hn ab6;cases j with
 |zero=>
  right;simp[ah,aE,f232] at H;obtain⟨rfl,rfl⟩:=H;simp[h6]
 |succ j=>
  left;have D:j<A.length:=by omega
  obtain⟨x,hx,Y9⟩:=dh D;have Zp:=ff hA hx;have eA:A.drop j=x::A.drop (j+1):=by rw[N0 D,Y9]
  obtain⟨i1,i2,i3,i4⟩:=jx P' (A.drop (j+1)) (jK hA (j+1));obtain⟨r,hr⟩:=xE ((gx 10000 b (A.drop (j+1))).2);obtain⟨Q,hQ⟩:=xE ((gx 10000 b (A.drop (j+1))).1);rw[<-hr] at i1;rw[<-hQ] at i4;obtain⟨R,hR⟩:=xE (r*10000+x);have W:gx 10000 b (A.drop j)=(R / b::Q,R%b):=by rw[eA,hR,hr,hQ];rfl
  have J:R<10000*b:=by have:(r+1)*10000<=b*10000:=QQf _ i1;omega
  have C:aW (x::dig 10000 r)=dig 10000 R:=by rw[GK (by omega) Zp,hR];congr 1;omega
  have hlR:(dig 10000 R).length<=100000:=by
   have h2:(dig 10000 b).length<=50000:=by rw[<-I];exact Zc
   have h3:=sP (B:=10000) (by omega) b;have h4:R<10000 ^ ((dig 10000 b).length+1):=by rw[Nat.pow_succ];omega
   have h5:=fH (B:=10000) (by omega) h4;omega
  have hlr:(dig 10000 r).length<=100000:=by have:=l9 (B:=10000) (a:=r) (b:=b) (by omega) (by omega);rw[<-I] at this;omega
  have hqb:R / b<=9999:=by have:=(Nat.div_lt_iff_lt_mul P').2 (show R<10000*b from J);omega
  have hmd:=Nat.div_add_mod R b;obtain⟨q,hq⟩:=xE (R / b);obtain⟨r2,Zz⟩:=xE (R%b);rw[<-hq,<-Zz] at W hmd;rw[<-hq] at hqb;have hQl:Q.length=A.length-(j+1):=by rw[i4,QQj]
  have e1:(((j+1:Nat):Int)-1)=(j:Int):=by omega
  have w1:IntKind.i64.wrap ((j:Int)-1)=(j:Int)-1:=af;have w2:IntKind.i64.wrap (-(q:Int))= -(q:Int):=af;have hjI:(j:Int)<(A.length:Int):=by omega
  have hj1:j+1<=A.length:=by omega
  have hM2:paM A B b j=[.cells false 1 (iN .i64 A),.cells false 1 (iN .i64 B),.cells true 1 (iN .i64 (List.replicate j 0++q::Q)),.cells true 1 (iN .i64 (dig 10000 r2))]:=by unfold paM;rw[if_neg (by omega),W]
  have hR2:paR A b j=.slice 3 0 (dig 10000 r2).length none:=by unfold paR;rw[if_neg (by omega),W]
  have oB:lok 10000 B=true:=by rw[I];exact bX (by omega) _
  have vB:aq 10000 B=b:=by rw[I];exact bO (by omega) _
  have nB:B≠[]:=by rw[I,ne_eq,fC (by omega)];omega
  have oR:lok 10000 (dig 10000 R)=true:=bX (by omega) _;have vR:aq 10000 (dig 10000 R)=R:=bO (by omega) _;obtain⟨X,G⟩:=xE (dig 10000 R);obtain⟨Y,hY⟩:=xE (dig 10000 r);obtain⟨Z,hZ⟩:=xE (dig 10000 r2);have Zx:X.length<=Y.length+1/\(x::Y).take X.length=X:=by rw[G,hY,<-C];exact⟨by have:=dp (x::dig 10000 r);simpa using this,lF _⟩
  have ady:(AV.int .i64 (x:Int)::iN .i64 Y).take X.length=iN .i64 X:=by have:=iM .i64 (x::Y) X.length;rw[Zx.2] at this;exact this
  have ab7:(0:Int)<=(R:Int)+ -(q:Int)*(b:Int):=by
   rw[Int.neg_mul];have:((b*q:Nat):Int)=(q:Int)*(b:Int):=by rw[Int.natCast_mul,Int.mul_comm]
   rw[<-this];omega
  have ZR:((R:Int)+ -(q:Int)*(b:Int)).toNat=r2:=by
   rw[Int.neg_mul];have:((b*q:Nat):Int)=(q:Int)*(b:Int):=by rw[Int.natCast_mul,Int.mul_comm]
   rw[<-this];omega
  have q1:q<=10000:=by omega
  have lX:X.length<=1000000:=by rw[G];omega
  have lB:B.length<=1000000:=by omega
  rw[<-G] at hlR oR vR;rw[<-hY,<-G] at C;refine⟨j,?_⟩;refine bC (show j<=A.length/\_ from⟨by omega,Nat.lt_succ_self j⟩) ?_;rw[hM2,hR2,<-hZ,e1];have hl3:B.length<=100000:=by omega
  have aaL:((List.replicate (j+1) 0++Q).take j++q::(List.replicate (j+1) 0++Q).drop (j+1))=List.replicate j 0++q::Q:=by rw[QXK (by simp),List.take_replicate,Nat.min_eq_left (by omega),List.drop_append,ZN (by simp)];simp
  obtain⟨L1,u⟩:=xE (List.replicate (j+1) 0++Q);obtain⟨L2,hL2⟩:=xE (List.replicate j 0++q::Q);have adz:L1.length=A.length:=by rw[u];simp[hQl];omega
  have hjL:j+1<=L1.length:=by omega
  rw[<-u,<-hL2] at aaL;have hup:(iN .i64 L1).take j++.int .i64 (q:Int)::(iN .i64 L1).drop (j+1)=iN .i64 L2:=by rw[Tg _ _ _ _ (by omega),aaL]
  rw[<-hL2];have o:∀(U:afl) l,bh .i64 (U::.cells false 1 (iN .i64 B)::l) (.slice 1 0 B.length none)=some B:=fun U l=>aR rfl (by simp) (B5 (by simp))
  have hYl:Y.length<=100000:=by rw[hY];exact hlr
  have hcl:Y.length+1<=4000000000000:=by omega
  have htY:(iN .i64 Y).take Y.length=iN .i64 Y:=B5 (by simp);by_cases S:j+1=A.length
  .have hr0:r=0:=by rw[hr,S,List.drop_length];rfl
   have hQ0:Q=[]:=by rw[hQ,S,List.drop_length];rfl
   have hY0:Y=[]:=by rw[hY,hr0,dT]
   have hM1:paM A B b (j+1)=[.cells false 1 (iN .i64 A),.cells false 1 (iN .i64 B),.cells true 1 (iN .i64 L1)]:=by unfold paM;rw[if_pos S,u,hQ0,List.append_nil,S]
   have hR1:paR A b (j+1)=.qF:=by unfold paR;rw[if_pos S]
   rw[hM1,hR1];subst hY0;have p4:∀(U O N L:afl) l,bh .i64 (U::O::N::L::.cells true 1 [.int .i64 (x:Int)]::l) (.slice 4 0 X.length none)=some X:=fun U O N L l=>aR rfl (by simpa using Zx.1) ady
   have p4c:∀(U O N L:afl) l,bh .i64 (U::O::N::L::.cells true 1 [.int .i64 (x:Int)]::l) (.slice 4 0 1 none)=some [x]:=fun U O N L l=>aR (A:=[x]) rfl (by simp) rfl
   obtain⟨F,hF⟩:=qc (K:=K) [.cells false 1 (iN .i64 A),.cells false 1 (iN .i64 B),.cells true 1 (iN .i64 L1),.qK,.cells true 1 [.int .i64 (x:Int)]] B R 4 b P' I J (by rw[<-G];exact hlR) hl3 (by rw[<-G];exact p4 _ _ _ _ _) (o _ _) (by simp) (by omega) H;rw[<-G,<-hq] at hF;simp[ah,aE,f232] at H;obtain⟨rfl,rfl⟩:=H;simp[h0,h1,h6,hjI,D,Y9,bT,cR,cJ,cW,p4c,C,hF,adz,hj1,hup,p4,o,nB,oR,oB,vR,vB,q1,lX,lB,w2,ab7,ZR,<-hZ,w1]
  .have hM1:paM A B b (j+1)=[.cells false 1 (iN .i64 A),.cells false 1 (iN .i64 B),.cells true 1 (iN .i64 L1),.cells true 1 (iN .i64 Y)]:=by unfold paM;rw[if_neg S,<-hr,<-hQ,<-hY,<-u]
   have hR1:paR A b (j+1)=.slice 3 0 Y.length none:=by unfold paR;rw[if_neg S,<-hr,<-hY]
   rw[hM1,hR1];have p5:∀(U O N L m:afl) l,bh .i64 (U::O::N::L::m::.cells true 1 (.int .i64 (x:Int)::iN .i64 Y)::l) (.slice 5 0 X.length none)=some X:=fun U O N L m l=>aR rfl (by simpa using Zx.1) ady
   have p5c:∀(U O N L m:afl) l,bh .i64 (U::O::N::L::m::.cells true 1 (.int .i64 (x:Int)::iN .i64 Y)::l) (.slice 5 0 (Y.length+1) none)=some (x::Y):=fun U O N L m l=>aR (A:=x::Y) rfl (by simp) (by rw[cr];exact B5 (by simp))
   have p5d:∀(U O N L m:afl) l,bh .i64 (U::O::N::L::m::.cells true 1 (.int .i64 (x:Int)::iN .i64 Y)::l) (.slice 5 0 (1+Y.length) none)=some (x::Y):=fun U O N L m l=>by rw[QXJ];exact p5c U O N L m l
   obtain⟨F,hF⟩:=qc (K:=K) [.cells false 1 (iN .i64 A),.cells false 1 (iN .i64 B),.cells true 1 (iN .i64 L1),.cells true 1 (iN .i64 Y),.qK,.cells true 1 (.int .i64 (x:Int)::iN .i64 Y)] B R 5 b P' I J (by rw[<-G];exact hlR) hl3 (by rw[<-G];exact p5 _ _ _ _ _ _) (o _ _) (by simp[AV.afy]) (by omega) H;rw[<-G,<-hq] at hF;have Zg:(1+Y.length)*8<=140737488355328:=by omega
   have Z6:1+Y.length<=140737488355328:=by omega
   simp[ah,aE,f232] at H;obtain⟨rfl,rfl⟩:=H;simp[h0,h1,h6,hjI,D,Y9,bT,cR,cJ,cW,htY,Zg,Z6,p5d,hcl,C,hF,adz,hj1,hup,p5,o,nB,oR,oB,vR,vB,q1,lX,lB,w2,ab7,ZR,<-hZ,w1]
theorem Lk(H:0<b)(I:lok 10000 A=true):aq 10000 (gx 10000 b A).1=aq 10000 A / b/\(gx 10000 b A).2=aq 10000 A%b:=by obtain⟨Z,X,V,U⟩:=jx H A I;have h:=Nat.div_mod_unique H (a:=aq 10000 A) (c:=(gx 10000 b A).2) (d:=aq 10000 (gx 10000 b A).1);have:=h.2 ⟨by rw[Zq,QXJ];exact X,Z⟩;exact⟨this.1.symm,this.2.symm⟩
theorem YZ:List.idxOf? 2 [2,3]=some 0:=rfl
theorem Y0:List.idxOf? 3 [2,3]=some 1:=rfl
theorem DH(A B:List Nat)(b:Nat)(H:0<b)(J:B=dig 10000 b)(I:lok 10000 A=true)(W:A.length<=50000)(Y:B.length<=50000)(I':A≠[]):
  aa (bd prog) jt (aX prog) bT 100001 232 [.slice 0 0 A.length none,.slice 1 0 B.length none] [.cells false 1 (iN .i64 A),.cells false 1 (iN .i64 B)]=
   some ⟨.tuple [.slice 2 0 (dig 10000 (aq 10000 A / b)).length none,.slice 3 0 (dig 10000 (aq 10000 A%b)).length none],none,[.cells true 1 (iN .i64 (gx 10000 b A).1),.cells true 1 (iN .i64 (dig 10000 (aq 10000 A%b)))]⟩:=by
 have o:aX prog 232=some f232:=by kernel_rfl
 obtain⟨c,c2,X⟩:∃c c2,ah f232=[c,c2]:=⟨_,_,rfl⟩
 obtain⟨F,V⟩:=qd (K:=100001) A B b H J I W Y (by omega) X;obtain⟨i1,i2,m,L⟩:=jx H A I;obtain⟨j,G⟩:=Lk H I;have hp:0<A.length:=List.length_pos_iff.2 I';have U:paM A B b 0=[.cells false 1 (iN .i64 A),.cells false 1 (iN .i64 B),.cells true 1 (iN .i64 (gx 10000 b A).1),.cells true 1 (iN .i64 (dig 10000 (aq 10000 A%b)))]:=by unfold paM;rw[if_neg (by omega),List.drop_zero,G];rfl
 have S:paM A B b A.length=[.cells false 1 (iN .i64 A),.cells false 1 (iN .i64 B),.cells true 1 (iN .i64 (List.replicate A.length 0))]:=by unfold paM;rw[if_pos rfl]
 have O:paR A b 0=.slice 3 0 (dig 10000 (aq 10000 A%b)).length none:=by unfold paR;rw[if_neg (by omega),List.drop_zero,G]
 rw[U,S,O] at V;have Z:aW (gx 10000 b A).1=dig 10000 (aq 10000 A / b):=by rw[<-j,dS (by omega) m]
 obtain⟨Q,hQ⟩:=xE ((gx 10000 b A).1);obtain⟨R,D⟩:=xE (dig 10000 (aq 10000 A%b));rw[<-hQ,<-D] at V;rw[<-hQ] at Z L;rw[<-hQ,<-D];have N:Q.length<=4000000000000:=by omega
 have hs:∀(C u:afl) l,bh .i64 (C::u::.cells true 1 (iN .i64 Q)::l) (.slice 2 0 A.length none)=some Q:=fun C u l=>by rw[<-L];exact aR rfl (by simp) (B5 (by simp))
 obtain⟨n,hn⟩:=xE A.length;have w1:IntKind.i64.wrap ((A.length:Int)-1)=(A.length:Int)-1:=af;have h8:8*(A.length:Int)<=281474976710656:=by omega
 have h9:(A.length:Int)<=281474976710656:=by omega
 simp[ah,aE,f232] at X;obtain⟨rfl,rfl⟩:=X;simp[aa,o,f232,w1,h8,h9,rQ,V,bT,cR,cJ,cW,hs,N,Z,YZ,Y0]
theorem Bs(B:List Nat)(b:Nat)(H:0<b)(I:B=dig 10000 b)(J:B.length<=50000):
  aa (bd prog) jt (aX prog) bT 100001 232 [.slice 0 0 0 none,.slice 1 0 B.length none] [.cells false 1 [],.cells false 1 (iN .i64 B)]=
   some ⟨.tuple [.slice 2 0 0 none,.qF],none,[.cells true 1 []]⟩:=by
 have O:aX prog 232=some f232:=by kernel_rfl
 obtain⟨c,c2,Z⟩:∃c c2,ah f232=[c,c2]:=⟨_,_,rfl⟩
 obtain⟨F,X⟩:=qd (K:=100001) [] B b H I rfl (by simp) J (by omega) Z;have V:∀j,j=0->paM [] B b j=[.cells false 1 [],.cells false 1 (iN .i64 B),.cells true 1 []]:=fun j N=>by subst N;rfl
 have U:paR [] b 0=.qF:=rfl;rw[List.length_nil,V 0 rfl,U] at X;have w1:IntKind.i64.wrap (-1)= -1:=rfl;have L:∀(S R:afl) l,bh .i64 (S::R::.cells true 1 []::l) (.slice 2 0 0 none)=some []:=fun S R l=>aR (A:=[]) rfl (by simp) rfl
 have G:aW []=[]:=rfl;simp[ah,aE,f232] at Z;obtain⟨rfl,rfl⟩:=Z;simp at X;simp[aa,O,f232,w1,X,bT,cR,cJ,cW,L,G]
variable{B:List Nat}{y:AV}
theorem HL(J:aft .i64 M x A)(W:aft .i64 M y B)(H:0<aq 10000 B)(I:lok 10000 A=true)(Y:lok 10000 B=true)(tB:aW B=B)(hl:A.length<=50000)(Zc:B.length<=50000)(I':A≠[]):
  kO prog 232 [x,y] M (.tuple [.slice M.length 0 (dig 10000 (aq 10000 A / aq 10000 B)).length none,.slice (M.length+1) 0 (dig 10000 (aq 10000 A%aq 10000 B)).length none])
   (M++[.cells true 1 (iN .i64 (dig 10000 (aq 10000 A / aq 10000 B))),.cells true 1 (iN .i64 (dig 10000 (aq 10000 A%aq 10000 B)))]):=by
 have V:=(mL (by omega) Y tB).symm;have h:=(ar aj (aJ _) kI (aM _) (DH A B (aq 10000 B) H V I hl Zc I')).1;simp only[afh.mem,Option.getD_none,List.cons_append,List.nil_append] at h;obtain⟨R,O,U,N⟩:=jx H A I;have X:aW (gx 10000 (aq 10000 B) A).1=dig 10000 (aq 10000 A / aq 10000 B):=by rw[<-(Lk H I).1,dS (by omega) U]
 have S:=kO.agi (m2:=[.cells false 1 (iN .i64 A),.cells false 1 (iN .i64 B),.cells true 1 (iN .i64 (dig 10000 (aq 10000 A / aq 10000 B))),.cells true 1 (iN .i64 (dig 10000 (aq 10000 A%aq 10000 B)))]) h rfl (fun b s Z=>by
  match b with
  |0=>simp at Z;subst Z;exact⟨_,rfl,.inl rfl⟩
  |1=>simp at Z;subst Z;exact⟨_,rfl,.inl rfl⟩
  |2=>simp at Z;subst Z;exact⟨_,rfl,.row (by rw[<-X];exact dD _)⟩
  |3=>simp at Z;subst Z;exact⟨_,rfl,.inl rfl⟩
  |b+4=>simp at Z)
 obtain⟨b,c,rfl,rfl,h3⟩:=kO.agc (new:=[.cells true 1 (iN .i64 (dig 10000 (aq 10000 A / aq 10000 B))),.cells true 1 (iN .i64 (dig 10000 (aq 10000 A%aq 10000 B)))]) rfl S J W;simpa [AV.ren,AV.afz,fa] using h3
theorem Fp(H:aft .i64 M x [])(I:aft .i64 M y B)(J:0<aq 10000 B)(W:lok 10000 B=true)(Y:aW B=B)(Zc:B.length<=50000):
  kO prog 232 [x,y] M (.tuple [.slice M.length 0 0 none,.qF]) (M++[.cells true 1 []]):=by
 have Z:=(mL (by omega) W Y).symm;have h:=(ar aj (aJ _) kI (aM _) (Bs B (aq 10000 B) J Z Zc)).1;simp only[afh.mem,Option.getD_none,List.cons_append,List.nil_append] at h;obtain⟨b,c,rfl,rfl,h3⟩:=kO.agc (k:=.i64) (A:=[]) (new:=[.cells true 1 []]) rfl h H I;simpa [AV.ren,AV.afz,fa] using h3
noncomputable def dr:y9:=fun c Z M=>match c,Z with
 |.fn 232,[x,y]=>match bh .i64 M x,bh .i64 M y with
  |some A,some B=>if lok 10000 A=true/\lok 10000 B=true/\aW B=B/\A.length<=50000/\B.length<=50000/\0<aq 10000 B then
    (if A=[] then some ⟨.tuple [.slice M.length 0 0 none,.qF],none,[.cells true 1 []]⟩
    else some ⟨.tuple [.slice M.length 0 (dig 10000 (aq 10000 A / aq 10000 B)).length none,.slice (M.length+1) 0 (dig 10000 (aq 10000 A%aq 10000 B)).length none],none,[.cells true 1 (iN .i64 (dig 10000 (aq 10000 A / aq 10000 B))),.cells true 1 (iN .i64 (dig 10000 (aq 10000 A%aq 10000 B)))]⟩) else none
  |_,_=>none
 |.fn 226,[.bool _,.qF]=>some ⟨.str [48],none,[]⟩
 |.fn 226,[.bool mn,x]=>match bh .i64 M x with
  |some A=>if lok 10000 A=true/\aW A=A/\A.length<=100000 then some ⟨.str (ei mn (aq 10000 A)),none,[]⟩ else none
  |none=>none
 |c,Z=>bT c Z M
theorem Ky:qS prog dr:=by
 refine cB fun c U M r h=>?_
 unfold dr at h;split at h
 .split at h
  .rename_i X S
   split at h
   .rename_i Z
    obtain⟨L,c2,R,G,O,N⟩:=Z;split at h
    .rename_i V
     subst V;cases h;exact aC (Fp (bk X) (bk S) N c2 R O)
    .rename_i V
     cases h;exact aC (HL (bk X) (bk S) N L c2 R G O V)
   .cases h
  .cases h
 .cases h
  refine aC ?_;rw[List.append_nil];exact Fk _ M
 .split at h
  .rename_i X
   split at h
   .rename_i Z
    cases h;refine aC ?_;rw[List.append_nil];exact MN _ Z.1 Z.2.1 Z.2.2 (bk X)
   .cases h
  .cases h
 .exact dZ kI h
end Go.Proofs
