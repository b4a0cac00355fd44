/- See C54. -/
import Derived.Test.YtffdedmakncfmaaGreatDoorC20
set_option linter.all false
set_option maxRecDepth 100000
set_option maxHeartbeats 40000000
namespace Go.Proofs
open Go.Eng
open Tryz
theorem Dw{v:Nat}(y:0<v)(mn:Bool):dS mn v=if mn then 45::ai v else ai v:=by unfold dS;rw[if_neg (by omega)]
theorem ahG:aS prog 191=some f191:=by kernel_rfl
theorem GR(v:Nat)(H:0<v)(y:(dig 10000 v).length≤100000):aa (bh prog) (fun _=>[3,4]) (aS prog) (ag aq) ((dig 10000 v).length+1) 191 [.slice 0 0 (dig 10000 v).length none] [.cells false 1 (iN .i64 (dig 10000 v))]=
  some ⟨.str (ai v),none,[]⟩:=by
 obtain⟨b,V⟩:∃b,ah f191=[b]:=⟨_,rfl⟩
 obtain⟨F,X⟩:=Ev (K:=(dig 10000 v).length+1) v H y (by omega) V;have M:lok 10000 (dig 10000 v)=true:=bT (by omega) _;have L:0<(dig 10000 v).length:=by
  rcases Nat.eq_zero_or_pos (dig 10000 v).length with h | h
  ·have:=(eU (B:=10000) (n:=v) (by omega)).1 (List.eq_nil_of_length_eq_zero h)
   omega
  ·exact h
 obtain⟨A,Z⟩:=xE (dig 10000 v);rw[←Z] at y M L X ⊢;obtain⟨n,U⟩:∃n,A.length=n+1:=⟨A.length-1,by omega⟩
 obtain⟨x,S,o⟩:=cO (l:=A) (i:=n) (by omega);have G:=eh M S;have R:ai (au 10000 (A.drop (A.length-1)))=ai x:=by rw[U,show n+1-1=n by omega,oV S,List.drop_of_length_le (by omega)];simp[au]
 have w1:IntKind.i64.wrap (n:Int)=(n:Int):=af;have w2:IntKind.i64.wrap ((n:Int)+1-1)=(n:Int):=by rw[af];omega
 have w3:IntKind.i64.wrap ((n:Int)+1-2)=(n:Int)-1:=by rw[af];omega
 have D:dL (x:Int)=true:=by unfold dL;simp;omega
 have Q:bB (x:Int)=ai x:=rfl;rw[R,U,show n+1-1=n by omega] at X;rw[U];have C:n<A.length:=by omega
 have O:(n:Int)<(n:Int)+1:=by omega
 obtain⟨K,u⟩:=xE (n+1+1);rw[←u] at X ⊢;have N:¬((n:Int)+1=0):=by omega
 clear Z;simp[ah,aE,f191] at V;subst V;simp[aa,ahG,f191,N,w1,w3,O,S,ag,aq,D,Q,X]
theorem Ew:aa (bh prog) (fun _=>[]) (aS prog) cF 1 191 [.slice 0 0 0 none] [.cells false 1 []]=some ⟨.str [48],none,[]⟩:=by simp[aa,ahG,f191]
theorem F6(M:Mem):kO prog 191 [.qF] M (.str [48]) M:=by refine ao (aw _) ?_ M;simp[aa,ahG,f191]
variable{A:List Nat}{M:Mem}{x:AV}
theorem Ni(y:lok 10000 A=true)(tA:aU A=A)(H:A.length≤100000)(I:af0 .i64 M x A):kO prog 191 [x] M (.str (ai (au 10000 A))) M:=by
 have e:=nd (by omega) y tA;have small:kO prog 191 [.slice 0 0 A.length none] [.cells false 1 (iN .i64 A)] (.str (ai (au 10000 A))) ([.cells false 1 (iN .i64 A)]++[]):=by
  by_cases Z:au 10000 A=0
  ·have X:A=[]:=by rw[Z,dK] at e;exact e.symm
   subst X;have:=(ar aj (aK _) (aw _) (aR _) Ew).1;simpa [y9.mem,au,jH] using this
  ·have h:=GR (au 10000 A) (by omega) (by rw[e];exact H)
   rw[e] at h;have:=(ar aj (aK _) dU (aR _) h).1;simpa [y9.mem] using this
 rw[List.append_nil] at small;obtain⟨b,rfl,h⟩:=kO.ahp (new:=[]) (rest:=[]) rfl rfl small I;simpa [AV.ren,fj] using h
noncomputable def bJ:afF:=fun c Z M=>match c,Z with
 |.fn 130,[.str s]=>match xX s with
  |some v=>if (ai v).length≤1000000 then some ⟨.slice M.length 0 (dig 10000 v).length none,none,[.cells true 1 (iN .i64 (dig 10000 v))]⟩ else none
  |none=>none
 |.fn 191,[.qF]=>some ⟨.str [48],none,[]⟩
 |.fn 191,[x]=>match aZ .i64 M x with
  |some A=>if lok 10000 A=true∧aU A=A∧A.length≤100000 then some ⟨.str (ai (au 10000 A)),none,[]⟩ else none
  |none=>none
 |c,Z=>cw c Z M
theorem kE:qS prog bJ:=by
 refine cf fun c X M r h=>?_
 unfold bJ at h;split at h
 ·split at h
  ·rename_i v V
   split at h
   ·rename_i U
    cases h;rw[gw V];exact aC (NN v U M)
   ·cases h
  ·cases h
 ·cases h
  refine aC ?_;rw[List.append_nil];exact F6 M
 ·split at h
  ·rename_i S
   split at h
   ·rename_i Z
    cases h;refine aC ?_;rw[List.append_nil];exact Ni Z.1 Z.2.1 Z.2.2 (ba S)
   ·cases h
  ·cases h
 ·exact dN zy h
theorem Ga(mn:Bool)(M:Mem):kO prog 128 [.bool mn,.qF] M (.str [48]) M:=by
 have Z:aS prog 128=some f128:=by kernel_rfl
 refine ao kE ?_ M;cases mn<;>simp[aa,Z,f128,bJ,cw,cq,cI]
theorem Nv(mn:Bool)(y:lok 10000 A=true)(tA:aU A=A)(H:A.length≤100000)(I:af0 .i64 M x A):kO prog 128 [.bool mn,x] M (.str (dS mn (au 10000 A))) M:=by
 have V:aS prog 128=some f128:=by kernel_rfl
 obtain⟨b,o,j,rfl,Q,N⟩:=I;have L:=gL Q;have Z:∀l,aZ .i64 (.cells false 1 (iN .i64 A)::l) (.slice 0 0 A.length none)=some A:=fun l=>aP rfl (by simp) (List.take_of_length_le (by simp))
 have X:A.length≤4000000000000:=by omega
 have small:aa (bh prog) (fun _=>[]) (aS prog) bJ 1 128 [.bool mn,.slice 0 0 A.length none] [.cells false 1 (iN .i64 A)]=some ⟨.str (dS mn (au 10000 A)),none,[]⟩:=by
  by_cases U:au 10000 A=0
  ·have K:A=[]:=by have e:=nd (by omega) y tA;rw[U,dK] at e;exact e.symm
   subst K;have G:ai 0=[48]:=jH;have F:lok 10000 []=true:=rfl;have D:aU []=[]:=rfl;have C:au 10000 []=0:=rfl;have S :∀l,aZ .i64 (.cells false 1 []::l) (.slice 0 0 0 none)=some []:=Z
   cases mn<;>simp[aa,V,f128,bJ,cw,cq,cI,S,F,D,C,G,dS]
  ·have B:0<A.length:=by
    rcases Nat.eq_zero_or_pos A.length with h | h
    ·rw[List.eq_nil_of_length_eq_zero h] at U;exact absurd rfl U
    ·exact h
   rw[Dw (by omega)];have R:1+(ai (au 10000 A)).length≤fm:=by
    have O:=gK y;have u:(10000:Nat) ^ A.length=10 ^ (4*A.length):=by rw[Nat.pow_mul]
    rw[u] at O;have Y:=aI (by omega) O;unfold fm;omega
   cases mn with
   |false=>simp[aa,V,f128,bJ,cw,cq,cI,Z,y,tA,H,X]
   |true=>simp[aa,V,f128,bJ,cw,cq,cI,Z,y,tA,H,X,B,R]
 have h:=(ar aj (aK _) kE (aR _) small).1;have:=kO.frame (M:=M) (args:=[.bool mn,.slice 0 0 A.length none]) [b] (m:=[.cells false 1 (iN .i64 A)]) (new:=[]) rfl (by simpa using L) (by simp) (fun i s Z=>by
  cases i with
  |zero=>simp at Z;subst Z;exact .row Q N
  |succ i=>simp at Z) rfl (by simpa [y9.mem] using h)
 simpa [AV.af9,AV.ren,fj] using this
def ji(c:Code):List Nat:=if (ae c).contains 8 then [7,8] else [9,10]
variable{b:Nat}{k:IntKind}
theorem PB{s:afU}{n:Nat}(h:aZ k M (.slice b 0 n none)=some A):aZ k (M++[s]) (.slice b 0 n none)=some A:=by obtain⟨V,o,U,e,X,Z⟩:=ba h;cases e;refine aP (gU X _) ?_ Z;have:=congrArg List.length Z;simp at this;omega
theorem PA:aZ k (M++[.cells true 1 (iN k A)]) (.slice M.length 0 A.length none)=some A:=
 aP (ow:=true) (by simp) (by simp) (List.take_of_length_le (by simp))
variable{K:Nat}{c c2:Code}
theorem qO(mem:Mem)(B:List Nat)(R p:Nat)(b:Nat)(S':0<b)(W:B=dig 10000 b)(hR:R<10000*b)(hl:(dig 10000 R).length≤100000)(hl2:B.length≤100000)(H:aZ .i64 mem (.slice p 0 (dig 10000 R).length none)=some (dig 10000 R))(I:aZ .i64 mem (.slice 1 0 B.length none)=some B)(J:(mem.all fun s=>(s.refs mem.length).isEmpty)=true)(hK:10000<K)(y:ah f187=[c,c2]):
  ∃F:Env→Bool→Env,∀Z d,(ad Z 1=.slice 1 0 B.length none∧ad Z 7=.slice p 0 (dig 10000 R).length none∧ad Z 9=.int .i64 0∧ad Z 10=.int .i64 9999)→
   aW (bh prog) ji bJ K 58 2 true (.loop c2) ⟨Z,mem,d⟩=some (.exit 2,⟨F Z d,mem,d⟩)∧
   (ad (F Z d) 9=.int .i64 ((R / b:Nat):Int)∧∀t,t∈[0,1,6,7,8]→ad (F Z d) t=ad Z t):=by
 have j:ji c2=[9,10]:=by simp[ah,aE,f187] at y;obtain⟨rfl,rfl⟩:=y;decide
 have ht:R / b≤9999:=by have:=(Nat.div_lt_iff_lt_mul S').2 (show R<10000*b from hR);omega
 have Q :∀m,R<m*b↔R / b<m:=fun m=>by rw[Nat.div_lt_iff_lt_mul S']
 generalize R / b=t at ht Q ⊢;refine bj j (fun Z=>ad Z 1=.slice 1 0 B.length none∧ad Z 7=.slice p 0 (dig 10000 R).length none∧ad Z 9=.int .i64 0∧ad Z 10=.int .i64 9999)
  (fun Z AC =>ad AC 9=.int .i64 (t:Int)∧∀t,t∈[0,1,6,7,8]→ad AC t=ad Z t) ?_
 rintro Z d ⟨h1,h7,h9,h10⟩;have hn:aA [9,10] (ae c2) Z ((9,.int .i64 ((0:Nat):Int))::(10,.int .i64 ((9999:Nat):Int))::Z)=aA [9,10] (ae c2) Z Z:=by simp[aA,h9,h10]
 rw[←hn];refine bz (α:=Nat×Nat) (fun a=>⟨aA [9,10] (ae c2) Z ((9,.int .i64 (a.1:Int))::(10,.int .i64 (a.2:Int))::Z),mem,d⟩)
  (fun a=>a.2-a.1) (fun a=>a.1≤t∧t≤a.2∧a.2≤9999) (.exit 2) _ d _ (by simp) ?_ K (0,9999) ⟨Nat.zero_le _,ht,Nat.le_refl _⟩ (by show 9999-0<K;omega)
 rintro ⟨V,U⟩ ⟨i1,i2,i3⟩;simp only at i1 i2 i3 ⊢;clear hn;by_cases Y:V<U
 ·left
  obtain⟨m,hm⟩:=xE ((V+U+1) / 2);have S:(V:Int)<(U:Int):=by omega
  have w1:IntKind.i64.wrap ((V:Int)+(U:Int))=(V:Int)+(U:Int):=af;have w2:IntKind.i64.wrap ((V:Int)+(U:Int)+1)=((V+U+1:Nat):Int):=by rw[af];omega
  have w3:IntKind.i64.wrap ((((V+U+1:Nat):Int)).tdiv 2)=(m:Int):=by rw[HT,←hm];exact af
  obtain⟨s1,hs1⟩:=xE (V+U+1);rw[←hs1] at w2 w3 hm;have O :IntKind.i64.wrap ((s1:Int) / 2)=(m:Int):=by rw[af];omega
  have oB:lok 10000 B=true:=by rw[W];exact bT (by omega) _
  have vB:au 10000 B=b:=by rw[W];exact bC (by omega) _
  have tB:aU B=B:=by rw[W];exact bY (by omega) _
  have nB:B≠[]:=by rw[W,ne_eq,eU (by omega)];omega
  have oR:lok 10000 (dig 10000 R)=true:=bT (by omega) _;have vR:au 10000 (dig 10000 R)=R:=bC (by omega) _;have tR:aU (dig 10000 R)=dig 10000 R:=bY (by omega) _;obtain⟨D,N⟩:=xE (dig 10000 (m*b));have oD:lok 10000 D=true:=by rw[N];exact bT (by omega) _
  have vD:au 10000 D=m*b:=by rw[N];exact bC (by omega) _
  have tD:aU D=D:=by rw[N];exact bY (by omega) _
  have L:((m:Int)*(b:Int)).toNat=m*b:=by rw[←Int.natCast_mul,Int.toNat_natCast]
  have G:0≤(m:Int)*(b:Int):=by rw[←Int.natCast_mul];exact Int.natCast_nonneg _
  have mB:m≤10000:=by omega
  have lB:B.length≤1000000:=by omega
  have lR:(dig 10000 R).length≤1000000000:=by omega
  obtain⟨X,hX⟩:=xE (dig 10000 R);rw[←hX] at H oR vR tR lR h7;have p1:∀s,aZ .i64 (mem++[s]) (.slice p 0 X.length none)=some X:=fun s=>PB H
  have p2:aZ .i64 (mem++[.cells true 1 (iN .i64 D)]) (.slice mem.length 0 D.length none)=some D:=PA;have C:=Q m;have u:¬mem.length+1≤mem.length:=by omega
  simp[ah,aE,f187] at y;obtain⟨rfl,rfl⟩:=y;by_cases o:R<m*b
  ·have w4:IntKind.i64.wrap ((m:Int)-1)=((m-1:Nat):Int):=by rw[af];omega
   refine⟨(V,m-1),?_⟩;refine bP (show(V≤t∧t≤m-1∧m-1≤9999)∧m-1-V<U-V from⟨⟨i1,by have:=C.1 o;omega,by omega⟩,by omega⟩) ?_;simp[h1,h7,S,w1,w2,O,bJ,cw,cq,cI,I,nB,oB,vB,mB,lB,G,L,←N,p1,p2,oR,oD,lR,tR,tD,vR,vD,o,w4,-List.all_eq_true,-afU.refs,J,u]
  ·skip
   refine⟨(m,U),?_⟩;refine bP (show(m≤t∧t≤U∧U≤9999)∧U-m<U-V from⟨⟨by have:¬t<m:=fun e=>o (C.2 e);omega,i2,i3⟩,by omega⟩) ?_;simp[h1,h7,S,w1,w2,O,bJ,cw,cq,cI,I,nB,oB,vB,mB,lB,G,L,←N,p1,p2,oR,oD,lR,tR,tD,vR,vD,o,-List.all_eq_true,-afU.refs,J,u]
 ·right
  have e:V=t:=by omega
  have S:¬(V:Int)<(U:Int):=by omega
  simp[ah,aE,f187] at y;obtain⟨rfl,rfl⟩:=y;subst e;simp[Y]
def paM(A B:List Nat)(b j:Nat):Mem:=
 if j=A.length then [.cells false 1 (iN .i64 A),.cells false 1 (iN .i64 B),.cells true 1 (iN .i64 (List.replicate A.length 0))]
 else [.cells false 1 (iN .i64 A),.cells false 1 (iN .i64 B),.cells true 1 (iN .i64 (List.replicate j 0++(fZ 10000 b (A.drop j)).1)),.cells true 1 (iN .i64 (dig 10000 (fZ 10000 b (A.drop j)).2))]
def paR(A:List Nat)(b j:Nat):AV:=if j=A.length then .qF else .slice 3 0 (dig 10000 (fZ 10000 b (A.drop j)).2).length none
theorem qP(A B:List Nat)(b:Nat)(S':0<b)(H:B=dig 10000 b)(hA:lok 10000 A=true)(hl:A.length≤50000)(hl2:B.length≤50000)(hK:100000<K)(y:ah f187=[c,c2]):
  ∃F:Env→Bool→Env,∀V d,(ad V 0=.slice 0 0 A.length none∧ad V 1=.slice 1 0 B.length none∧ad V 6=.slice 2 0 A.length none∧ad V 7=.qF∧ad V 8=.int .i64 ((A.length:Int)-1))→
   aW (bh prog) ji bJ K 58 2 true (.loop c) ⟨V,paM A B b A.length,d⟩=some (.exit 0,⟨F V d,paM A B b 0,d⟩)∧
   (ad (F V d) 7=paR A b 0∧ad (F V d) 6=.slice 2 0 A.length none):=by
 have hlv:ji c=[7,8]:=by simp[ah,aE,f187] at y;obtain⟨rfl,rfl⟩:=y;decide
 refine bj hlv (fun V=>ad V 0=.slice 0 0 A.length none∧ad V 1=.slice 1 0 B.length none∧ad V 6=.slice 2 0 A.length none∧ad V 7=.qF∧ad V 8=.int .i64 ((A.length:Int)-1))
  (fun _ AC =>ad AC 7=paR A b 0∧ad AC 6=.slice 2 0 A.length none) ?_
 rintro V d ⟨h0,h1,h6,h7,h8⟩;have hn:aA [7,8] (ae c) V ((7,paR A b A.length)::(8,.int .i64 ((A.length:Int)-1))::V)=aA [7,8] (ae c) V V:=by simp[aA,h7,h8,paR]
 have acw:(paM A B b A.length).length=3:=by unfold paM;rw[if_pos rfl];rfl
 rw[←hn,acw];refine bz (α:=Nat) (fun j=>⟨aA [7,8] (ae c) V ((7,paR A b j)::(8,.int .i64 ((j:Int)-1))::V),paM A B b j,d⟩)
  (fun j=>j) (fun j=>j≤A.length) (.exit 0) _ d _ (by simp) ?_ K A.length (Nat.le_refl _) (by show A.length<K;omega)
 intro j hj;clear hn acw;cases j with
 |zero=>
  right;simp[ah,aE,f187] at y;obtain⟨rfl,rfl⟩:=y;simp[h6]
 |succ j=>
  left;have D:j<A.length:=by omega
  obtain⟨x,hx,Z7⟩:=cO D;have hxb:=eh hA hx;have eA:A.drop j=x::A.drop (j+1):=by rw[List.drop_eq_getElem_cons D,Z7]
  obtain⟨i1,i2,i3,i4⟩:=jm S' (A.drop (j+1)) (jB hA (j+1));obtain⟨r,hr⟩:=xE ((fZ 10000 b (A.drop (j+1))).2);obtain⟨Q,hQ⟩:=xE ((fZ 10000 b (A.drop (j+1))).1);rw[←hr] at i1;rw[←hQ] at i4;obtain⟨R,hR⟩:=xE (r*10000+x);have W:fZ 10000 b (A.drop j)=(R / b::Q,R%b):=by rw[eA,hR,hr,hQ];rfl
  have J:R<10000*b:=by have:(r+1)*10000≤b*10000:=Nat.mul_le_mul_right _ i1;omega
  have C:aU (x::dig 10000 r)=dig 10000 R:=by rw[Ht (by omega) hxb,hR];congr 1;omega
  have I:(dig 10000 R).length≤100000:=by
   have h2:(dig 10000 b).length≤50000:=by rw[←H];exact hl2
   have h3:=tP (B:=10000) (by omega) b;have h4:R<10000 ^ ((dig 10000 b).length+1):=by rw[Nat.pow_succ];omega
   have h5:=ff (B:=10000) (by omega) h4;omega
  have hlr:(dig 10000 r).length≤100000:=by have:=lW (B:=10000) (a:=r) (b:=b) (by omega) (by omega);rw[←H] at this;omega
  have hqb:R / b≤9999:=by have:=(Nat.div_lt_iff_lt_mul S').2 (show R<10000*b from J);omega
  have hmd:=Nat.div_add_mod R b;obtain⟨q,hq⟩:=xE (R / b);obtain⟨r2,hr2⟩:=xE (R%b);rw[←hq,←hr2] at W hmd;rw[←hq] at hqb;have hQl:Q.length=A.length-(j+1):=by rw[i4,List.length_drop]
  have e1:(((j+1:Nat):Int)-1)=(j:Int):=by omega
  have w1:IntKind.i64.wrap ((j:Int)-1)=(j:Int)-1:=af;have w2:IntKind.i64.wrap (-(q:Int))= -(q:Int):=af;have hjI:(j:Int)<(A.length:Int):=by omega
  have hj1:j+1≤A.length:=by omega
  have hM2:paM A B b j=[.cells false 1 (iN .i64 A),.cells false 1 (iN .i64 B),.cells true 1 (iN .i64 (List.replicate j 0++q::Q)),.cells true 1 (iN .i64 (dig 10000 r2))]:=by unfold paM;rw[if_neg (by omega),W]
  have hR2:paR A b j=.slice 3 0 (dig 10000 r2).length none:=by unfold paR;rw[if_neg (by omega),W]
  have oB:lok 10000 B=true:=by rw[H];exact bT (by omega) _
  have vB:au 10000 B=b:=by rw[H];exact bC (by omega) _
  have nB:B≠[]:=by rw[H,ne_eq,eU (by omega)];omega
  have oR:lok 10000 (dig 10000 R)=true:=bT (by omega) _;have vR:au 10000 (dig 10000 R)=R:=bC (by omega) _;obtain⟨X,G⟩:=xE (dig 10000 R);obtain⟨Y,hY⟩:=xE (dig 10000 r);obtain⟨Z,hZ⟩:=xE (dig 10000 r2);have aai:X.length≤Y.length+1∧(x::Y).take X.length=X:=by rw[G,hY,←C];exact⟨by have:=cS (x::dig 10000 r);simpa using this,lh _⟩
  have ad0:(AV.int .i64 (x:Int)::iN .i64 Y).take X.length=iN .i64 X:=by have:=iA .i64 (x::Y) X.length;rw[aai.2] at this;exact this
  have acx:(0:Int)≤(R:Int)+ -(q:Int)*(b:Int):=by
   rw[Int.neg_mul];have:((b*q:Nat):Int)=(q:Int)*(b:Int):=by rw[Int.natCast_mul,Int.mul_comm]
   rw[←this];omega
  have aaw:((R:Int)+ -(q:Int)*(b:Int)).toNat=r2:=by
   rw[Int.neg_mul];have:((b*q:Nat):Int)=(q:Int)*(b:Int):=by rw[Int.natCast_mul,Int.mul_comm]
   rw[←this];omega
  have q1:q≤10000:=by omega
  have lX:X.length≤1000000:=by rw[G];omega
  have lB:B.length≤1000000:=by omega
  rw[←G] at I oR vR;rw[←hY,←G] at C;refine⟨j,?_⟩;refine br (show j≤A.length∧_ from⟨by omega,Nat.lt_succ_self j⟩) ?_;rw[hM2,hR2,←hZ,e1];have hl3:B.length≤100000:=by omega
  have aa2:((List.replicate (j+1) 0++Q).take j++q::(List.replicate (j+1) 0++Q).drop (j+1))=List.replicate j 0++q::Q:=by rw[List.take_append_of_le_length (by simp),List.take_replicate,Nat.min_eq_left (by omega),List.drop_append,List.drop_of_length_le (by simp)];simp
  obtain⟨L1,u⟩:=xE (List.replicate (j+1) 0++Q);obtain⟨L2,hL2⟩:=xE (List.replicate j 0++q::Q);have ad1:L1.length=A.length:=by rw[u];simp[hQl];omega
  have hjL:j+1≤L1.length:=by omega
  rw[←u,←hL2] at aa2;have hup:(iN .i64 L1).take j++.int .i64 (q:Int)::(iN .i64 L1).drop (j+1)=iN .i64 L2:=by rw[Uk _ _ _ _ (by omega),aa2]
  rw[←hL2];have o:∀(U:afU) l,aZ .i64 (U::.cells false 1 (iN .i64 B)::l) (.slice 1 0 B.length none)=some B:=fun U l=>aP rfl (by simp) (List.take_of_length_le (by simp))
  have hYl:Y.length≤100000:=by rw[hY];exact hlr
  have hcl:Y.length+1≤4000000000000:=by omega
  have htY:(iN .i64 Y).take Y.length=iN .i64 Y:=List.take_of_length_le (by simp);by_cases S:j+1=A.length
  ·have hr0:r=0:=by rw[hr,S,List.drop_length];rfl
   have hQ0:Q=[]:=by rw[hQ,S,List.drop_length];rfl
   have hY0:Y=[]:=by rw[hY,hr0,dK]
   have hM1:paM A B b (j+1)=[.cells false 1 (iN .i64 A),.cells false 1 (iN .i64 B),.cells true 1 (iN .i64 L1)]:=by unfold paM;rw[if_pos S,u,hQ0,List.append_nil,S]
   have hR1:paR A b (j+1)=.qF:=by unfold paR;rw[if_pos S]
   rw[hM1,hR1];subst hY0;have p4:∀(U O N L:afU) l,aZ .i64 (U::O::N::L::.cells true 1 [.int .i64 (x:Int)]::l) (.slice 4 0 X.length none)=some X:=fun U O N L l=>aP rfl (by simpa using aai.1) ad0
   have p4c:∀(U O N L:afU) l,aZ .i64 (U::O::N::L::.cells true 1 [.int .i64 (x:Int)]::l) (.slice 4 0 1 none)=some [x]:=fun U O N L l=>aP (A:=[x]) rfl (by simp) rfl
   obtain⟨F,hF⟩:=qO (K:=K) [.cells false 1 (iN .i64 A),.cells false 1 (iN .i64 B),.cells true 1 (iN .i64 L1),.qK,.cells true 1 [.int .i64 (x:Int)]] B R 4 b S' H J (by rw[←G];exact I) hl3 (by rw[←G];exact p4 _ _ _ _ _) (o _ _) (by simp) (by omega) y;rw[←G,←hq] at hF;simp[ah,aE,f187] at y;obtain⟨rfl,rfl⟩:=y;simp[h0,h1,h6,hjI,D,Z7,bJ,cw,cq,cI,p4c,C,hF,ad1,hj1,hup,p4,o,nB,oR,oB,vR,vB,q1,lX,lB,w2,acx,aaw,←hZ,w1]
  ·have hM1:paM A B b (j+1)=[.cells false 1 (iN .i64 A),.cells false 1 (iN .i64 B),.cells true 1 (iN .i64 L1),.cells true 1 (iN .i64 Y)]:=by unfold paM;rw[if_neg S,←hr,←hQ,←hY,←u]
   have hR1:paR A b (j+1)=.slice 3 0 Y.length none:=by unfold paR;rw[if_neg S,←hr,←hY]
   rw[hM1,hR1];have p5:∀(U O N L m:afU) l,aZ .i64 (U::O::N::L::m::.cells true 1 (.int .i64 (x:Int)::iN .i64 Y)::l) (.slice 5 0 X.length none)=some X:=fun U O N L m l=>aP rfl (by simpa using aai.1) ad0
   have p5c:∀(U O N L m:afU) l,aZ .i64 (U::O::N::L::m::.cells true 1 (.int .i64 (x:Int)::iN .i64 Y)::l) (.slice 5 0 (Y.length+1) none)=some (x::Y):=fun U O N L m l=>aP (A:=x::Y) rfl (by simp) (by rw[ca];exact List.take_of_length_le (by simp))
   have p5d:∀(U O N L m:afU) l,aZ .i64 (U::O::N::L::m::.cells true 1 (.int .i64 (x:Int)::iN .i64 Y)::l) (.slice 5 0 (1+Y.length) none)=some (x::Y):=fun U O N L m l=>by rw[Nat.add_comm];exact p5c U O N L m l
   obtain⟨F,hF⟩:=qO (K:=K) [.cells false 1 (iN .i64 A),.cells false 1 (iN .i64 B),.cells true 1 (iN .i64 L1),.cells true 1 (iN .i64 Y),.qK,.cells true 1 (.int .i64 (x:Int)::iN .i64 Y)] B R 5 b S' H J (by rw[←G];exact I) hl3 (by rw[←G];exact p5 _ _ _ _ _ _) (o _ _) (by simp[AV.af6]) (by omega) y;rw[←G,←hq] at hF;have hm1:(1+Y.length)*8≤140737488355328:=by omega
   have hm2:1+Y.length≤140737488355328:=by omega
   simp[ah,aE,f187] at y;obtain⟨rfl,rfl⟩:=y;simp[h0,h1,h6,hjI,D,Z7,bJ,cw,cq,cI,htY,hm1,hm2,p5d,hcl,C,hF,ad1,hj1,hup,p5,o,nB,oR,oB,vR,vB,q1,lX,lB,w2,acx,aaw,←hZ,w1]
theorem LY(y:0<b)(H:lok 10000 A=true):au 10000 (fZ 10000 b A).1=au 10000 A / b∧(fZ 10000 b A).2=au 10000 A%b:=by obtain⟨Z,X,V,U⟩:=jm y A H;have h:=Nat.div_mod_unique y (a:=au 10000 A) (c:=(fZ 10000 b A).2) (d:=au 10000 (fZ 10000 b A).1);have:=h.2 ⟨by rw[Nat.mul_comm,Nat.add_comm];exact X,Z⟩;exact⟨this.1.symm,this.2.symm⟩
theorem Z1:List.idxOf? 2 [2,3]=some 0:=rfl
theorem Z2:List.idxOf? 3 [2,3]=some 1:=rfl
theorem EB(A B:List Nat)(b:Nat)(y:0<b)(J:B=dig 10000 b)(H:lok 10000 A=true)(W:A.length≤50000)(I:B.length≤50000)(Y:A≠[]):
  aa (bh prog) ji (aS prog) bJ 100001 187 [.slice 0 0 A.length none,.slice 1 0 B.length none] [.cells false 1 (iN .i64 A),.cells false 1 (iN .i64 B)]=
   some ⟨.tuple [.slice 2 0 (dig 10000 (au 10000 A / b)).length none,.slice 3 0 (dig 10000 (au 10000 A%b)).length none],none,[.cells true 1 (iN .i64 (fZ 10000 b A).1),.cells true 1 (iN .i64 (dig 10000 (au 10000 A%b)))]⟩:=by
 have o:aS prog 187=some f187:=by kernel_rfl
 obtain⟨c,c2,X⟩:∃c c2,ah f187=[c,c2]:=⟨_,_,rfl⟩
 obtain⟨F,V⟩:=qP (K:=100001) A B b y J H W I (by omega) X;obtain⟨i1,i2,m,L⟩:=jm y A H;obtain⟨j,G⟩:=LY y H;have hp:0<A.length:=List.length_pos_iff.2 Y;have U:paM A B b 0=[.cells false 1 (iN .i64 A),.cells false 1 (iN .i64 B),.cells true 1 (iN .i64 (fZ 10000 b A).1),.cells true 1 (iN .i64 (dig 10000 (au 10000 A%b)))]:=by unfold paM;rw[if_neg (by omega),List.drop_zero,G];rfl
 have S:paM A B b A.length=[.cells false 1 (iN .i64 A),.cells false 1 (iN .i64 B),.cells true 1 (iN .i64 (List.replicate A.length 0))]:=by unfold paM;rw[if_pos rfl]
 have O:paR A b 0=.slice 3 0 (dig 10000 (au 10000 A%b)).length none:=by unfold paR;rw[if_neg (by omega),List.drop_zero,G]
 rw[U,S,O] at V;have Z:aU (fZ 10000 b A).1=dig 10000 (au 10000 A / b):=by rw[←j,dJ (by omega) m]
 obtain⟨Q,hQ⟩:=xE ((fZ 10000 b A).1);obtain⟨R,D⟩:=xE (dig 10000 (au 10000 A%b));rw[←hQ,←D] at V;rw[←hQ] at Z L;rw[←hQ,←D];have N:Q.length≤4000000000000:=by omega
 have hs:∀(C u:afU) l,aZ .i64 (C::u::.cells true 1 (iN .i64 Q)::l) (.slice 2 0 A.length none)=some Q:=fun C u l=>by rw[←L];exact aP rfl (by simp) (List.take_of_length_le (by simp))
 obtain⟨n,hn⟩:=xE A.length;have w1:IntKind.i64.wrap ((A.length:Int)-1)=(A.length:Int)-1:=af;have h8:8*(A.length:Int)≤281474976710656:=by omega
 have h9:(A.length:Int)≤281474976710656:=by omega
 simp[ah,aE,f187] at X;obtain⟨rfl,rfl⟩:=X;simp[aa,o,f187,w1,h8,h9,sI,V,bJ,cw,cq,cI,hs,N,Z,Z1,Z2]
theorem Cd(B:List Nat)(b:Nat)(H:0<b)(I:B=dig 10000 b)(y:B.length≤50000):
  aa (bh prog) ji (aS prog) bJ 100001 187 [.slice 0 0 0 none,.slice 1 0 B.length none] [.cells false 1 [],.cells false 1 (iN .i64 B)]=
   some ⟨.tuple [.slice 2 0 0 none,.qF],none,[.cells true 1 []]⟩:=by
 have Q:aS prog 187=some f187:=by kernel_rfl
 obtain⟨c,c2,Z⟩:∃c c2,ah f187=[c,c2]:=⟨_,_,rfl⟩
 obtain⟨F,X⟩:=qP (K:=100001) [] B b H I rfl (by simp) y (by omega) Z;have V:∀j,j=0→paM [] B b j=[.cells false 1 [],.cells false 1 (iN .i64 B),.cells true 1 []]:=fun j O=>by subst O;rfl
 have U:paR [] b 0=.qF:=rfl;rw[List.length_nil,V 0 rfl,U] at X;have w1:IntKind.i64.wrap (-1)= -1:=rfl;have N:∀(S R:afU) l,aZ .i64 (S::R::.cells true 1 []::l) (.slice 2 0 0 none)=some []:=fun S R l=>aP (A:=[]) rfl (by simp) rfl
 have L:aU []=[]:=rfl;simp[ah,aE,f187] at Z;obtain⟨rfl,rfl⟩:=Z;simp at X;simp[aa,Q,f187,w1,X,bJ,cw,cq,cI,N,L]
variable{B:List Nat}{y:AV}
theorem Iy(W:af0 .i64 M x A)(Y:af0 .i64 M y B)(H:0<au 10000 B)(I:lok 10000 A=true)(hB:lok 10000 B=true)(tB:aU B=B)(hl:A.length≤50000)(J:B.length≤50000)(I':A≠[]):
  kO prog 187 [x,y] M (.tuple [.slice M.length 0 (dig 10000 (au 10000 A / au 10000 B)).length none,.slice (M.length+1) 0 (dig 10000 (au 10000 A%au 10000 B)).length none])
   (M++[.cells true 1 (iN .i64 (dig 10000 (au 10000 A / au 10000 B))),.cells true 1 (iN .i64 (dig 10000 (au 10000 A%au 10000 B)))]):=by
 have V:=(nd (by omega) hB tB).symm;have h:=(ar aj (aK _) kE (aR _) (EB A B (au 10000 B) H V I hl J I')).1;simp only[y9.mem,Option.getD_none,List.cons_append,List.nil_append] at h;obtain⟨R,Q,U,O⟩:=jm H A I;have X:aU (fZ 10000 (au 10000 B) A).1=dig 10000 (au 10000 A / au 10000 B):=by rw[←(LY H I).1,dJ (by omega) U]
 have S:=kO.agQ (m2:=[.cells false 1 (iN .i64 A),.cells false 1 (iN .i64 B),.cells true 1 (iN .i64 (dig 10000 (au 10000 A / au 10000 B))),.cells true 1 (iN .i64 (dig 10000 (au 10000 A%au 10000 B)))]) h rfl (fun b s Z=>by
  match b with
  |0=>simp at Z;subst Z;exact⟨_,rfl,.inl rfl⟩
  |1=>simp at Z;subst Z;exact⟨_,rfl,.inl rfl⟩
  |2=>simp at Z;subst Z;exact⟨_,rfl,.row (by rw[←X];exact dp _)⟩
  |3=>simp at Z;subst Z;exact⟨_,rfl,.inl rfl⟩
  |b+4=>simp at Z)
 obtain⟨b,c,rfl,rfl,h3⟩:=kO.agM (new:=[.cells true 1 (iN .i64 (dig 10000 (au 10000 A / au 10000 B))),.cells true 1 (iN .i64 (dig 10000 (au 10000 A%au 10000 B)))]) rfl S W Y;simpa [AV.ren,AV.af9,fj] using h3
theorem Ge(I:af0 .i64 M x [])(J:af0 .i64 M y B)(W:0<au 10000 B)(Y:lok 10000 B=true)(tB:aU B=B)(H:B.length≤50000):
  kO prog 187 [x,y] M (.tuple [.slice M.length 0 0 none,.qF]) (M++[.cells true 1 []]):=by
 have Z:=(nd (by omega) Y tB).symm;have h:=(ar aj (aK _) kE (aR _) (Cd B (au 10000 B) W Z H)).1;simp only[y9.mem,Option.getD_none,List.cons_append,List.nil_append] at h;obtain⟨b,c,rfl,rfl,h3⟩:=kO.agM (k:=.i64) (A:=[]) (new:=[.cells true 1 []]) rfl h I J;simpa [AV.ren,AV.af9,fj] using h3
noncomputable def cY:afF:=fun c Z M=>match c,Z with
 |.fn 187,[x,y]=>match aZ .i64 M x,aZ .i64 M y with
  |some A,some B=>if lok 10000 A=true∧lok 10000 B=true∧aU B=B∧A.length≤50000∧B.length≤50000∧0<au 10000 B then
    (if A=[] then some ⟨.tuple [.slice M.length 0 0 none,.qF],none,[.cells true 1 []]⟩
    else some ⟨.tuple [.slice M.length 0 (dig 10000 (au 10000 A / au 10000 B)).length none,.slice (M.length+1) 0 (dig 10000 (au 10000 A%au 10000 B)).length none],none,[.cells true 1 (iN .i64 (dig 10000 (au 10000 A / au 10000 B))),.cells true 1 (iN .i64 (dig 10000 (au 10000 A%au 10000 B)))]⟩) else none
  |_,_=>none
 |.fn 128,[.bool _,.qF]=>some ⟨.str [48],none,[]⟩
 |.fn 128,[.bool mn,x]=>match aZ .i64 M x with
  |some A=>if lok 10000 A=true∧aU A=A∧A.length≤100000 then some ⟨.str (dS mn (au 10000 A)),none,[]⟩ else none
  |none=>none
 |c,Z=>bJ c Z M
theorem Ll:qS prog cY:=by
 refine cf fun c U M r h=>?_
 unfold cY at h;split at h
 ·split at h
  ·rename_i X S
   split at h
   ·rename_i Z
    obtain⟨N,c2,R,L,Q,O⟩:=Z;split at h
    ·rename_i V
     subst V;cases h;exact aC (Ge (ba X) (ba S) O c2 R Q)
    ·rename_i V
     cases h;exact aC (Iy (ba X) (ba S) O N c2 R L Q V)
   ·cases h
  ·cases h
 ·cases h
  refine aC ?_;rw[List.append_nil];exact Ga _ M
 ·split at h
  ·rename_i X
   split at h
   ·rename_i Z
    cases h;refine aC ?_;rw[List.append_nil];exact Nv _ Z.1 Z.2.1 Z.2.2 (ba X)
   ·cases h
  ·cases h
 ·exact dN kE h
end Go.Proofs
