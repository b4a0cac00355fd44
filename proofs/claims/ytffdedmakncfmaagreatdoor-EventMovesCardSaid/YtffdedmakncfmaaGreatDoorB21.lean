/- See B54. -/
import Derived.Test.YtffdedmakncfmaaGreatDoorB20
set_option linter.all false
set_option maxRecDepth 100000
set_option maxHeartbeats 40000000
namespace Go.Proofs
open Go.Eng
open Tryz
theorem CA{v:Nat}(y:0<v)(mn:Bool):dN mn v=if mn then 45::ai v else ai v:=by unfold dN;rw[if_neg (by omega)]
theorem ag0:aT prog 191=some f191:=by kernel_rfl
theorem F0(v:Nat)(H:0<v)(y:(dig 10000 v).length≤100000):aa (ba prog) (fun _=>[3,4]) (aT prog) (af ak) ((dig 10000 v).length+1) 191 [.slice 0 0 (dig 10000 v).length none] [.cells false 1 (iN .i64 (dig 10000 v))]=
  some ⟨.str (ai v),none,[]⟩:=by
 obtain⟨b,V⟩:∃b,ah f191=[b]:=⟨_,rfl⟩
 obtain⟨F,X⟩:=DG (K:=(dig 10000 v).length+1) v H y (by omega) V;have Q:lok 10000 (dig 10000 v)=true:=bO (by omega) _;have O:0<(dig 10000 v).length:=by
  rcases Nat.eq_zero_or_pos (dig 10000 v).length with h | h
  ·have:=(eH (B:=10000) (n:=v) (by omega)).1 (List.eq_nil_of_length_eq_zero h)
   omega
  ·exact h
 obtain⟨A,Z⟩:=xE (dig 10000 v);rw[←Z] at y Q O X ⊢;obtain⟨n,U⟩:∃n,A.length=n+1:=⟨A.length-1,by omega⟩
 obtain⟨x,S,C⟩:=cM (l:=A) (i:=n) (by omega);have u:=ed Q S;have N:ai (au 10000 (A.drop (A.length-1)))=ai x:=by rw[U,show n+1-1=n by omega,nw S,List.drop_of_length_le (by omega)];simp[au]
 have w1:IntKind.i64.wrap (n:Int)=(n:Int):=ae;have w2:IntKind.i64.wrap ((n:Int)+1-1)=(n:Int):=by rw[ae];omega
 have w3:IntKind.i64.wrap ((n:Int)+1-2)=(n:Int)-1:=by rw[ae];omega
 have M:dF (x:Int)=true:=by unfold dF;simp;omega
 have L:bB (x:Int)=ai x:=rfl;rw[N,U,show n+1-1=n by omega] at X;rw[U];have o:n<A.length:=by omega
 have R:(n:Int)<(n:Int)+1:=by omega
 obtain⟨K,G⟩:=xE (n+1+1);rw[←G] at X ⊢;have D:¬((n:Int)+1=0):=by omega
 clear Z;simp[ah,aE,f191] at V;subst V;simp[aa,ag0,f191,D,w1,w3,R,S,af,ak,M,L,X]
theorem DH:aa (ba prog) (fun _=>[]) (aT prog) cN 1 191 [.slice 0 0 0 none] [.cells false 1 []]=some ⟨.str [48],none,[]⟩:=by simp[aa,ag0,f191]
theorem Fh(M:Mem):kO prog 191 [.qF] M (.str [48]) M:=by refine ao (ax _) ?_ M;simp[aa,ag0,f191]
variable{A:List Nat}{M:Mem}{x:AV}
theorem Mi(y:lok 10000 A=true)(tA:aU A=A)(H:A.length≤100000)(I:afi .i64 M x A):kO prog 191 [x] M (.str (ai (au 10000 A))) M:=by
 have e:=mi (by omega) y tA;have small:kO prog 191 [.slice 0 0 A.length none] [.cells false 1 (iN .i64 A)] (.str (ai (au 10000 A))) ([.cells false 1 (iN .i64 A)]++[]):=by
  by_cases Z:au 10000 A=0
  ·have X:A=[]:=by rw[Z,dD] at e;exact e.symm
   subst X;have:=(ar aj (aI _) (ax _) (aP _) DH).1;simpa [y9.mem,au,jb] using this
  ·have h:=F0 (au 10000 A) (by omega) (by rw[e];exact H)
   rw[e] at h;have:=(ar aj (aI _) dO (aP _) h).1;simpa [y9.mem] using this
 rw[List.append_nil] at small;obtain⟨b,rfl,h⟩:=kO.agJ (new:=[]) (rest:=[]) rfl rfl small I;simpa [AV.ren,eL] using h
noncomputable def bG:ae3:=fun c Z M=>match c,Z with
 |.fn 130,[.str s]=>match wY s with
  |some v=>if (ai v).length≤1000000 then some ⟨.slice M.length 0 (dig 10000 v).length none,none,[.cells true 1 (iN .i64 (dig 10000 v))]⟩ else none
  |none=>none
 |.fn 191,[.qF]=>some ⟨.str [48],none,[]⟩
 |.fn 191,[x]=>match aW .i64 M x with
  |some A=>if lok 10000 A=true∧aU A=A∧A.length≤100000 then some ⟨.str (ai (au 10000 A)),none,[]⟩ else none
  |none=>none
 |c,Z=>cu c Z M
theorem jR:qS prog bG:=by
 refine bZ fun c X M r h=>?_
 unfold bG at h;split at h
 ·split at h
  ·rename_i v V
   split at h
   ·rename_i U
    cases h;rw[fS V];exact aw (MJ v U M)
   ·cases h
  ·cases h
 ·cases h
  refine aw ?_;rw[List.append_nil];exact Fh M
 ·split at h
  ·rename_i S
   split at h
   ·rename_i Z
    cases h;refine aw ?_;rw[List.append_nil];exact Mi Z.1 Z.2.1 Z.2.2 (aY S)
   ·cases h
  ·cases h
 ·exact dr yI h
theorem Fl(mn:Bool)(M:Mem):kO prog 128 [.bool mn,.qF] M (.str [48]) M:=by
 have Z:aT prog 128=some f128:=by kernel_rfl
 refine ao jR ?_ M;cases mn<;>simp[aa,Z,f128,bG,cu,cn,cF]
theorem Mq(mn:Bool)(y:lok 10000 A=true)(tA:aU A=A)(H:A.length≤100000)(I:afi .i64 M x A):kO prog 128 [.bool mn,x] M (.str (dN mn (au 10000 A))) M:=by
 have X:aT prog 128=some f128:=by kernel_rfl
 obtain⟨b,o,j,rfl,U,Q⟩:=I;have O:=gL U;have Z:∀l,aW .i64 (.cells false 1 (iN .i64 A)::l) (.slice 0 0 A.length none)=some A:=fun l=>aR rfl (by simp) (List.take_of_length_le (by simp))
 have S:A.length≤4000000000000:=by omega
 have small:aa (ba prog) (fun _=>[]) (aT prog) bG 1 128 [.bool mn,.slice 0 0 A.length none] [.cells false 1 (iN .i64 A)]=some ⟨.str (dN mn (au 10000 A)),none,[]⟩:=by
  by_cases V:au 10000 A=0
  ·have N:A=[]:=by have e:=mi (by omega) y tA;rw[V,dD] at e;exact e.symm
   subst N;have L:ai 0=[48]:=jb;have K:lok 10000 []=true:=rfl;have G:aU []=[]:=rfl;have F:au 10000 []=0:=rfl;have D :∀l,aW .i64 (.cells false 1 []::l) (.slice 0 0 0 none)=some []:=Z
   cases mn<;>simp[aa,X,f128,bG,cu,cn,cF,D,K,G,F,L,dN]
  ·have C:0<A.length:=by
    rcases Nat.eq_zero_or_pos A.length with h | h
    ·rw[List.eq_nil_of_length_eq_zero h] at V;exact absurd rfl V
    ·exact h
   rw[CA (by omega)];have B:1+(ai (au 10000 A)).length≤eR:=by
    have R:=gd y;have u:(10000:Nat) ^ A.length=10 ^ (4*A.length):=by rw[Nat.pow_mul]
    rw[u] at R;have Y:=aG (by omega) R;unfold eR;omega
   cases mn with
   |false=>simp[aa,X,f128,bG,cu,cn,cF,Z,y,tA,H,S]
   |true=>simp[aa,X,f128,bG,cu,cn,cF,Z,y,tA,H,S,C,B]
 have h:=(ar aj (aI _) jR (aP _) small).1;have:=kO.frame (M:=M) (args:=[.bool mn,.slice 0 0 A.length none]) [b] (m:=[.cells false 1 (iN .i64 A)]) (new:=[]) rfl (by simpa using O) (by simp) (fun i s Z=>by
  cases i with
  |zero=>simp at Z;subst Z;exact .row U Q
  |succ i=>simp at Z) rfl (by simpa [y9.mem] using h)
 simpa [AV.afp,AV.ren,eL] using this
def iC(c:Code):List Nat:=if (ad c).contains 8 then [7,8] else [9,10]
variable{b:Nat}{k:IntKind}
theorem Om{s:afb}{n:Nat}(h:aW k M (.slice b 0 n none)=some A):aW k (M++[s]) (.slice b 0 n none)=some A:=by obtain⟨V,o,U,e,X,Z⟩:=aY h;cases e;refine aR (gU X _) ?_ Z;have:=congrArg List.length Z;simp at this;omega
theorem Ol:aW k (M++[.cells true 1 (iN k A)]) (.slice M.length 0 A.length none)=some A:=
 aR (ow:=true) (by simp) (by simp) (List.take_of_length_le (by simp))
variable{K:Nat}{c c2:Code}
theorem pU(mem:Mem)(B:List Nat)(R p:Nat)(b:Nat)(H':0<b)(W:B=dig 10000 b)(hR:R<10000*b)(hl:(dig 10000 R).length≤100000)(Yb:B.length≤100000)(H:aW .i64 mem (.slice p 0 (dig 10000 R).length none)=some (dig 10000 R))(I:aW .i64 mem (.slice 1 0 B.length none)=some B)(J:(mem.all fun s=>(s.refs mem.length).isEmpty)=true)(hK:10000<K)(y:ah f187=[c,c2]):
  ∃F:Env→Bool→Env,∀Z d,(ab Z 1=.slice 1 0 B.length none∧ab Z 7=.slice p 0 (dig 10000 R).length none∧ab Z 9=.int .i64 0∧ab Z 10=.int .i64 9999)→
   bh (ba prog) iC bG K 58 2 true (.loop c2) ⟨Z,mem,d⟩=some (.exit 2,⟨F Z d,mem,d⟩)∧
   (ab (F Z d) 9=.int .i64 ((R / b:Nat):Int)∧∀t,t∈[0,1,6,7,8]→ab (F Z d) t=ab Z t):=by
 have Yg:iC c2=[9,10]:=by simp[ah,aE,f187] at y;obtain⟨rfl,rfl⟩:=y;decide
 have ht:R / b≤9999:=by have:=(Nat.div_lt_iff_lt_mul H').2 (show R<10000*b from hR);omega
 have Q :∀m,R<m*b↔R / b<m:=fun m=>by rw[Nat.div_lt_iff_lt_mul H']
 generalize R / b=t at ht Q ⊢;refine bj Yg (fun Z=>ab Z 1=.slice 1 0 B.length none∧ab Z 7=.slice p 0 (dig 10000 R).length none∧ab Z 9=.int .i64 0∧ab Z 10=.int .i64 9999)
  (fun Z AC =>ab AC 9=.int .i64 (t:Int)∧∀t,t∈[0,1,6,7,8]→ab AC t=ab Z t) ?_
 rintro Z d ⟨h1,h7,h9,YT⟩;have hn:ay [9,10] (ad c2) Z ((9,.int .i64 ((0:Nat):Int))::(10,.int .i64 ((9999:Nat):Int))::Z)=ay [9,10] (ad c2) Z Z:=by simp[ay,h9,YT]
 rw[←hn];refine bx (α:=Nat×Nat) (fun a=>⟨ay [9,10] (ad c2) Z ((9,.int .i64 (a.1:Int))::(10,.int .i64 (a.2:Int))::Z),mem,d⟩)
  (fun a=>a.2-a.1) (fun a=>a.1≤t∧t≤a.2∧a.2≤9999) (.exit 2) _ d _ (by simp) ?_ K (0,9999) ⟨Nat.zero_le _,ht,Nat.le_refl _⟩ (by show 9999-0<K;omega)
 rintro ⟨V,U⟩ ⟨i1,i2,i3⟩;simp only at i1 i2 i3 ⊢;clear hn;by_cases u:V<U
 ·left
  obtain⟨m,hm⟩:=xE ((V+U+1) / 2);have S:(V:Int)<(U:Int):=by omega
  have w1:IntKind.i64.wrap ((V:Int)+(U:Int))=(V:Int)+(U:Int):=ae;have w2:IntKind.i64.wrap ((V:Int)+(U:Int)+1)=((V+U+1:Nat):Int):=by rw[ae];omega
  have w3:IntKind.i64.wrap ((((V+U+1:Nat):Int)).tdiv 2)=(m:Int):=by rw[G4,←hm];exact ae
  obtain⟨s1,hs1⟩:=xE (V+U+1);rw[←hs1] at w2 w3 hm;have O :IntKind.i64.wrap ((s1:Int) / 2)=(m:Int):=by rw[ae];omega
  have oB:lok 10000 B=true:=by rw[W];exact bO (by omega) _
  have vB:au 10000 B=b:=by rw[W];exact bC (by omega) _
  have tB:aU B=B:=by rw[W];exact bX (by omega) _
  have nB:B≠[]:=by rw[W,ne_eq,eH (by omega)];omega
  have o:lok 10000 (dig 10000 R)=true:=bO (by omega) _;have j:au 10000 (dig 10000 R)=R:=bC (by omega) _;have Y:aU (dig 10000 R)=dig 10000 R:=bX (by omega) _;obtain⟨D,N⟩:=xE (dig 10000 (m*b));have oD:lok 10000 D=true:=by rw[N];exact bO (by omega) _
  have vD:au 10000 D=m*b:=by rw[N];exact bC (by omega) _
  have tD:aU D=D:=by rw[N];exact bX (by omega) _
  have L:((m:Int)*(b:Int)).toNat=m*b:=by rw[←Int.natCast_mul,Int.toNat_natCast]
  have Yn:0≤(m:Int)*(b:Int):=by rw[←Int.natCast_mul];exact Int.natCast_nonneg _
  have mB:m≤10000:=by omega
  have lB:B.length≤1000000:=by omega
  have lR:(dig 10000 R).length≤1000000000:=by omega
  obtain⟨X,hX⟩:=xE (dig 10000 R);rw[←hX] at H o j Y lR h7;have p1:∀s,aW .i64 (mem++[s]) (.slice p 0 X.length none)=some X:=fun s=>Om H
  have p2:aW .i64 (mem++[.cells true 1 (iN .i64 D)]) (.slice mem.length 0 D.length none)=some D:=Ol;have ZU:=Q m;have G:¬mem.length+1≤mem.length:=by omega
  simp[ah,aE,f187] at y;obtain⟨rfl,rfl⟩:=y;by_cases C:R<m*b
  ·have w4:IntKind.i64.wrap ((m:Int)-1)=((m-1:Nat):Int):=by rw[ae];omega
   refine⟨(V,m-1),?_⟩;refine bL (show(V≤t∧t≤m-1∧m-1≤9999)∧m-1-V<U-V from⟨⟨i1,by have:=ZU.1 C;omega,by omega⟩,by omega⟩) ?_;simp[h1,h7,S,w1,w2,O,bG,cu,cn,cF,I,nB,oB,vB,mB,lB,Yn,L,←N,p1,p2,o,oD,lR,Y,tD,j,vD,C,w4,-List.all_eq_true,-afb.refs,J,G]
  ·skip
   refine⟨(m,U),?_⟩;refine bL (show(m≤t∧t≤U∧U≤9999)∧U-m<U-V from⟨⟨by have:¬t<m:=fun e=>C (ZU.2 e);omega,i2,i3⟩,by omega⟩) ?_;simp[h1,h7,S,w1,w2,O,bG,cu,cn,cF,I,nB,oB,vB,mB,lB,Yn,L,←N,p1,p2,o,oD,lR,Y,tD,j,vD,C,-List.all_eq_true,-afb.refs,J,G]
 ·right
  have e:V=t:=by omega
  have S:¬(V:Int)<(U:Int):=by omega
  simp[ah,aE,f187] at y;obtain⟨rfl,rfl⟩:=y;subst e;simp[u]
def paM(A B:List Nat)(b j:Nat):Mem:=
 if j=A.length then [.cells false 1 (iN .i64 A),.cells false 1 (iN .i64 B),.cells true 1 (iN .i64 (List.replicate A.length 0))]
 else [.cells false 1 (iN .i64 A),.cells false 1 (iN .i64 B),.cells true 1 (iN .i64 (List.replicate j 0++(fE 10000 b (A.drop j)).1)),.cells true 1 (iN .i64 (dig 10000 (fE 10000 b (A.drop j)).2))]
def paR(A:List Nat)(b j:Nat):AV:=if j=A.length then .qF else .slice 3 0 (dig 10000 (fE 10000 b (A.drop j)).2).length none
theorem pV(A B:List Nat)(b:Nat)(H':0<b)(H:B=dig 10000 b)(hA:lok 10000 A=true)(hl:A.length≤50000)(Yb:B.length≤50000)(hK:100000<K)(y:ah f187=[c,c2]):
  ∃F:Env→Bool→Env,∀V d,(ab V 0=.slice 0 0 A.length none∧ab V 1=.slice 1 0 B.length none∧ab V 6=.slice 2 0 A.length none∧ab V 7=.qF∧ab V 8=.int .i64 ((A.length:Int)-1))→
   bh (ba prog) iC bG K 58 2 true (.loop c) ⟨V,paM A B b A.length,d⟩=some (.exit 0,⟨F V d,paM A B b 0,d⟩)∧
   (ab (F V d) 7=paR A b 0∧ab (F V d) 6=.slice 2 0 A.length none):=by
 have Yg:iC c=[7,8]:=by simp[ah,aE,f187] at y;obtain⟨rfl,rfl⟩:=y;decide
 refine bj Yg (fun V=>ab V 0=.slice 0 0 A.length none∧ab V 1=.slice 1 0 B.length none∧ab V 6=.slice 2 0 A.length none∧ab V 7=.qF∧ab V 8=.int .i64 ((A.length:Int)-1))
  (fun _ AC =>ab AC 7=paR A b 0∧ab AC 6=.slice 2 0 A.length none) ?_
 rintro V d ⟨h0,h1,h6,h7,h8⟩;have hn:ay [7,8] (ad c) V ((7,paR A b A.length)::(8,.int .i64 ((A.length:Int)-1))::V)=ay [7,8] (ad c) V V:=by simp[ay,h7,h8,paR]
 have abL:(paM A B b A.length).length=3:=by unfold paM;rw[if_pos rfl];rfl
 rw[←hn,abL];refine bx (α:=Nat) (fun j=>⟨ay [7,8] (ad c) V ((7,paR A b j)::(8,.int .i64 ((j:Int)-1))::V),paM A B b j,d⟩)
  (fun j=>j) (fun j=>j≤A.length) (.exit 0) _ d _ (by simp) ?_ K A.length (Nat.le_refl _) (by show A.length<K;omega)
 intro j hj;clear hn abL;cases j with
 |zero=>
  right;simp[ah,aE,f187] at y;obtain⟨rfl,rfl⟩:=y;simp[h6]
 |succ j=>
  left;have D:j<A.length:=by omega
  obtain⟨x,hx,X9⟩:=cM D;have Ym:=ed hA hx;have eA:A.drop j=x::A.drop (j+1):=by rw[List.drop_eq_getElem_cons D,X9]
  obtain⟨i1,i2,i3,i4⟩:=iF H' (A.drop (j+1)) (iU hA (j+1));obtain⟨r,hr⟩:=xE ((fE 10000 b (A.drop (j+1))).2);obtain⟨Q,hQ⟩:=xE ((fE 10000 b (A.drop (j+1))).1);rw[←hr] at i1;rw[←hQ] at i4;obtain⟨R,hR⟩:=xE (r*10000+x);have Zh:fE 10000 b (A.drop j)=(R / b::Q,R%b):=by rw[eA,hR,hr,hQ];rfl
  have W:R<10000*b:=by have:(r+1)*10000≤b*10000:=Nat.mul_le_mul_right _ i1;omega
  have C:aU (x::dig 10000 r)=dig 10000 R:=by rw[GC (by omega) Ym,hR];congr 1;omega
  have J:(dig 10000 R).length≤100000:=by
   have h2:(dig 10000 b).length≤50000:=by rw[←H];exact Yb
   have h3:=sB (B:=10000) (by omega) b;have h4:R<10000 ^ ((dig 10000 b).length+1):=by rw[Nat.pow_succ];omega
   have h5:=eN (B:=10000) (by omega) h4;omega
  have hlr:(dig 10000 r).length≤100000:=by have:=kX (B:=10000) (a:=r) (b:=b) (by omega) (by omega);rw[←H] at this;omega
  have hqb:R / b≤9999:=by have:=(Nat.div_lt_iff_lt_mul H').2 (show R<10000*b from W);omega
  have hmd:=Nat.div_add_mod R b;obtain⟨q,hq⟩:=xE (R / b);obtain⟨r2,YB⟩:=xE (R%b);rw[←hq,←YB] at Zh hmd;rw[←hq] at hqb;have hQl:Q.length=A.length-(j+1):=by rw[i4,List.length_drop]
  have e1:(((j+1:Nat):Int)-1)=(j:Int):=by omega
  have w1:IntKind.i64.wrap ((j:Int)-1)=(j:Int)-1:=ae;have w2:IntKind.i64.wrap (-(q:Int))= -(q:Int):=ae;have hjI:(j:Int)<(A.length:Int):=by omega
  have ZO:j+1≤A.length:=by omega
  have hM2:paM A B b j=[.cells false 1 (iN .i64 A),.cells false 1 (iN .i64 B),.cells true 1 (iN .i64 (List.replicate j 0++q::Q)),.cells true 1 (iN .i64 (dig 10000 r2))]:=by unfold paM;rw[if_neg (by omega),Zh]
  have hR2:paR A b j=.slice 3 0 (dig 10000 r2).length none:=by unfold paR;rw[if_neg (by omega),Zh]
  have oB:lok 10000 B=true:=by rw[H];exact bO (by omega) _
  have vB:au 10000 B=b:=by rw[H];exact bC (by omega) _
  have nB:B≠[]:=by rw[H,ne_eq,eH (by omega)];omega
  have oR:lok 10000 (dig 10000 R)=true:=bO (by omega) _;have vR:au 10000 (dig 10000 R)=R:=bC (by omega) _;obtain⟨X,G⟩:=xE (dig 10000 R);obtain⟨Y,hY⟩:=xE (dig 10000 r);obtain⟨Z,hZ⟩:=xE (dig 10000 r2);have Yx:X.length≤Y.length+1∧(x::Y).take X.length=X:=by rw[G,hY,←C];exact⟨by have:=cR (x::dig 10000 r);simpa using this,kF _⟩
  have adf:(AV.int .i64 (x:Int)::iN .i64 Y).take X.length=iN .i64 X:=by have:=gW .i64 (x::Y) X.length;rw[Yx.2] at this;exact this
  have abM:(0:Int)≤(R:Int)+ -(q:Int)*(b:Int):=by
   rw[Int.neg_mul];have:((b*q:Nat):Int)=(q:Int)*(b:Int):=by rw[Int.natCast_mul,Int.mul_comm]
   rw[←this];omega
  have YS:((R:Int)+ -(q:Int)*(b:Int)).toNat=r2:=by
   rw[Int.neg_mul];have:((b*q:Nat):Int)=(q:Int)*(b:Int):=by rw[Int.natCast_mul,Int.mul_comm]
   rw[←this];omega
  have q1:q≤10000:=by omega
  have lX:X.length≤1000000:=by rw[G];omega
  have lB:B.length≤1000000:=by omega
  rw[←G] at J oR vR;rw[←hY,←G] at C;refine⟨j,?_⟩;refine bt (show j≤A.length∧_ from⟨by omega,Nat.lt_succ_self j⟩) ?_;rw[hM2,hR2,←hZ,e1];have hl3:B.length≤100000:=by omega
  have aao:((List.replicate (j+1) 0++Q).take j++q::(List.replicate (j+1) 0++Q).drop (j+1))=List.replicate j 0++q::Q:=by rw[List.take_append_of_le_length (by simp),List.take_replicate,Nat.min_eq_left (by omega),List.drop_append,List.drop_of_length_le (by simp)];simp
  obtain⟨L1,u⟩:=xE (List.replicate (j+1) 0++Q);obtain⟨L2,hL2⟩:=xE (List.replicate j 0++q::Q);have adg:L1.length=A.length:=by rw[u];simp[hQl];omega
  have hjL:j+1≤L1.length:=by omega
  rw[←u,←hL2] at aao;have hup:(iN .i64 L1).take j++.int .i64 (q:Int)::(iN .i64 L1).drop (j+1)=iN .i64 L2:=by rw[SG _ _ _ _ (by omega),aao]
  rw[←hL2];have o:∀(U:afb) l,aW .i64 (U::.cells false 1 (iN .i64 B)::l) (.slice 1 0 B.length none)=some B:=fun U l=>aR rfl (by simp) (List.take_of_length_le (by simp))
  have hYl:Y.length≤100000:=by rw[hY];exact hlr
  have Z1:Y.length+1≤4000000000000:=by omega
  have htY:(iN .i64 Y).take Y.length=iN .i64 Y:=List.take_of_length_le (by simp);by_cases S:j+1=A.length
  ·have hr0:r=0:=by rw[hr,S,List.drop_length];rfl
   have hQ0:Q=[]:=by rw[hQ,S,List.drop_length];rfl
   have hY0:Y=[]:=by rw[hY,hr0,dD]
   have I:paM A B b (j+1)=[.cells false 1 (iN .i64 A),.cells false 1 (iN .i64 B),.cells true 1 (iN .i64 L1)]:=by unfold paM;rw[if_pos S,u,hQ0,List.append_nil,S]
   have hR1:paR A b (j+1)=.qF:=by unfold paR;rw[if_pos S]
   rw[I,hR1];subst hY0;have p4:∀(U O N L:afb) l,aW .i64 (U::O::N::L::.cells true 1 [.int .i64 (x:Int)]::l) (.slice 4 0 X.length none)=some X:=fun U O N L l=>aR rfl (by simpa using Yx.1) adf
   have p4c:∀(U O N L:afb) l,aW .i64 (U::O::N::L::.cells true 1 [.int .i64 (x:Int)]::l) (.slice 4 0 1 none)=some [x]:=fun U O N L l=>aR (A:=[x]) rfl (by simp) rfl
   obtain⟨F,hF⟩:=pU (K:=K) [.cells false 1 (iN .i64 A),.cells false 1 (iN .i64 B),.cells true 1 (iN .i64 L1),.qK,.cells true 1 [.int .i64 (x:Int)]] B R 4 b H' H W (by rw[←G];exact J) hl3 (by rw[←G];exact p4 _ _ _ _ _) (o _ _) (by simp) (by omega) y;rw[←G,←hq] at hF;simp[ah,aE,f187] at y;obtain⟨rfl,rfl⟩:=y;simp[h0,h1,h6,hjI,D,X9,bG,cu,cn,cF,p4c,C,hF,adg,ZO,hup,p4,o,nB,oR,oB,vR,vB,q1,lX,lB,w2,abM,YS,←hZ,w1]
  ·have I:paM A B b (j+1)=[.cells false 1 (iN .i64 A),.cells false 1 (iN .i64 B),.cells true 1 (iN .i64 L1),.cells true 1 (iN .i64 Y)]:=by unfold paM;rw[if_neg S,←hr,←hQ,←hY,←u]
   have hR1:paR A b (j+1)=.slice 3 0 Y.length none:=by unfold paR;rw[if_neg S,←hr,←hY]
   rw[I,hR1];have p5:∀(U O N L m:afb) l,aW .i64 (U::O::N::L::m::.cells true 1 (.int .i64 (x:Int)::iN .i64 Y)::l) (.slice 5 0 X.length none)=some X:=fun U O N L m l=>aR rfl (by simpa using Yx.1) adf
   have p5c:∀(U O N L m:afb) l,aW .i64 (U::O::N::L::m::.cells true 1 (.int .i64 (x:Int)::iN .i64 Y)::l) (.slice 5 0 (Y.length+1) none)=some (x::Y):=fun U O N L m l=>aR (A:=x::Y) rfl (by simp) (by rw[ca];exact List.take_of_length_le (by simp))
   have p5d:∀(U O N L m:afb) l,aW .i64 (U::O::N::L::m::.cells true 1 (.int .i64 (x:Int)::iN .i64 Y)::l) (.slice 5 0 (1+Y.length) none)=some (x::Y):=fun U O N L m l=>by rw[Nat.add_comm];exact p5c U O N L m l
   obtain⟨F,hF⟩:=pU (K:=K) [.cells false 1 (iN .i64 A),.cells false 1 (iN .i64 B),.cells true 1 (iN .i64 L1),.cells true 1 (iN .i64 Y),.qK,.cells true 1 (.int .i64 (x:Int)::iN .i64 Y)] B R 5 b H' H W (by rw[←G];exact J) hl3 (by rw[←G];exact p5 _ _ _ _ _ _) (o _ _) (by simp[AV.afm]) (by omega) y;rw[←G,←hq] at hF;have Yu:(1+Y.length)*8≤140737488355328:=by omega
   have Zo:1+Y.length≤140737488355328:=by omega
   simp[ah,aE,f187] at y;obtain⟨rfl,rfl⟩:=y;simp[h0,h1,h6,hjI,D,X9,bG,cu,cn,cF,htY,Yu,Zo,p5d,Z1,C,hF,adg,ZO,hup,p5,o,nB,oR,oB,vR,vB,q1,lX,lB,w2,abM,YS,←hZ,w1]
theorem KP(y:0<b)(H:lok 10000 A=true):au 10000 (fE 10000 b A).1=au 10000 A / b∧(fE 10000 b A).2=au 10000 A%b:=by obtain⟨Z,X,V,U⟩:=iF y A H;have h:=Nat.div_mod_unique y (a:=au 10000 A) (c:=(fE 10000 b A).2) (d:=au 10000 (fE 10000 b A).1);have:=h.2 ⟨by rw[Nat.mul_comm,Nat.add_comm];exact X,Z⟩;exact⟨this.1.symm,this.2.symm⟩
theorem XZ:List.idxOf? 2 [2,3]=some 0:=rfl
theorem X8:List.idxOf? 3 [2,3]=some 1:=rfl
theorem DM(A B:List Nat)(b:Nat)(y:0<b)(I:B=dig 10000 b)(H:lok 10000 A=true)(J:A.length≤50000)(W:B.length≤50000)(Y:A≠[]):
  aa (ba prog) iC (aT prog) bG 100001 187 [.slice 0 0 A.length none,.slice 1 0 B.length none] [.cells false 1 (iN .i64 A),.cells false 1 (iN .i64 B)]=
   some ⟨.tuple [.slice 2 0 (dig 10000 (au 10000 A / b)).length none,.slice 3 0 (dig 10000 (au 10000 A%b)).length none],none,[.cells true 1 (iN .i64 (fE 10000 b A).1),.cells true 1 (iN .i64 (dig 10000 (au 10000 A%b)))]⟩:=by
 have o:aT prog 187=some f187:=by kernel_rfl
 obtain⟨c,c2,X⟩:∃c c2,ah f187=[c,c2]:=⟨_,_,rfl⟩
 obtain⟨F,V⟩:=pV (K:=100001) A B b y I H J W (by omega) X;obtain⟨i1,i2,m,L⟩:=iF y A H;obtain⟨j,G⟩:=KP y H;have hp:0<A.length:=List.length_pos_iff.2 Y;have U:paM A B b 0=[.cells false 1 (iN .i64 A),.cells false 1 (iN .i64 B),.cells true 1 (iN .i64 (fE 10000 b A).1),.cells true 1 (iN .i64 (dig 10000 (au 10000 A%b)))]:=by unfold paM;rw[if_neg (by omega),List.drop_zero,G];rfl
 have S:paM A B b A.length=[.cells false 1 (iN .i64 A),.cells false 1 (iN .i64 B),.cells true 1 (iN .i64 (List.replicate A.length 0))]:=by unfold paM;rw[if_pos rfl]
 have O:paR A b 0=.slice 3 0 (dig 10000 (au 10000 A%b)).length none:=by unfold paR;rw[if_neg (by omega),List.drop_zero,G]
 rw[U,S,O] at V;have Z:aU (fE 10000 b A).1=dig 10000 (au 10000 A / b):=by rw[←j,dC (by omega) m]
 obtain⟨Q,hQ⟩:=xE ((fE 10000 b A).1);obtain⟨R,D⟩:=xE (dig 10000 (au 10000 A%b));rw[←hQ,←D] at V;rw[←hQ] at Z L;rw[←hQ,←D];have N:Q.length≤4000000000000:=by omega
 have hs:∀(C u:afb) l,aW .i64 (C::u::.cells true 1 (iN .i64 Q)::l) (.slice 2 0 A.length none)=some Q:=fun C u l=>by rw[←L];exact aR rfl (by simp) (List.take_of_length_le (by simp))
 obtain⟨n,hn⟩:=xE A.length;have w1:IntKind.i64.wrap ((A.length:Int)-1)=(A.length:Int)-1:=ae;have h8:8*(A.length:Int)≤281474976710656:=by omega
 have h9:(A.length:Int)≤281474976710656:=by omega
 simp[ah,aE,f187] at X;obtain⟨rfl,rfl⟩:=X;simp[aa,o,f187,w1,h8,h9,rz,V,bG,cu,cn,cF,hs,N,Z,XZ,X8]
theorem Br(B:List Nat)(b:Nat)(y:0<b)(H:B=dig 10000 b)(I:B.length≤50000):
  aa (ba prog) iC (aT prog) bG 100001 187 [.slice 0 0 0 none,.slice 1 0 B.length none] [.cells false 1 [],.cells false 1 (iN .i64 B)]=
   some ⟨.tuple [.slice 2 0 0 none,.qF],none,[.cells true 1 []]⟩:=by
 have Q:aT prog 187=some f187:=by kernel_rfl
 obtain⟨c,c2,Z⟩:∃c c2,ah f187=[c,c2]:=⟨_,_,rfl⟩
 obtain⟨F,X⟩:=pV (K:=100001) [] B b y H rfl (by simp) I (by omega) Z;have V:∀j,j=0→paM [] B b j=[.cells false 1 [],.cells false 1 (iN .i64 B),.cells true 1 []]:=fun j O=>by subst O;rfl
 have U:paR [] b 0=.qF:=rfl;rw[List.length_nil,V 0 rfl,U] at X;have w1:IntKind.i64.wrap (-1)= -1:=rfl;have N:∀(S R:afb) l,aW .i64 (S::R::.cells true 1 []::l) (.slice 2 0 0 none)=some []:=fun S R l=>aR (A:=[]) rfl (by simp) rfl
 have L:aU []=[]:=rfl;simp[ah,aE,f187] at Z;obtain⟨rfl,rfl⟩:=Z;simp at X;simp[aa,Q,f187,w1,X,bG,cu,cn,cF,N,L]
variable{B:List Nat}{y:AV}
theorem HF(J:afi .i64 M x A)(W:afi .i64 M y B)(H:0<au 10000 B)(I:lok 10000 A=true)(Y:lok 10000 B=true)(tB:aU B=B)(hl:A.length≤50000)(Yb:B.length≤50000)(G':A≠[]):
  kO prog 187 [x,y] M (.tuple [.slice M.length 0 (dig 10000 (au 10000 A / au 10000 B)).length none,.slice (M.length+1) 0 (dig 10000 (au 10000 A%au 10000 B)).length none])
   (M++[.cells true 1 (iN .i64 (dig 10000 (au 10000 A / au 10000 B))),.cells true 1 (iN .i64 (dig 10000 (au 10000 A%au 10000 B)))]):=by
 have V:=(mi (by omega) Y tB).symm;have h:=(ar aj (aI _) jR (aP _) (DM A B (au 10000 B) H V I hl Yb G')).1;simp only[y9.mem,Option.getD_none,List.cons_append,List.nil_append] at h;obtain⟨R,Q,U,O⟩:=iF H A I;have X:aU (fE 10000 (au 10000 B) A).1=dig 10000 (au 10000 A / au 10000 B):=by rw[←(KP H I).1,dC (by omega) U]
 have S:=kO.af5 (m2:=[.cells false 1 (iN .i64 A),.cells false 1 (iN .i64 B),.cells true 1 (iN .i64 (dig 10000 (au 10000 A / au 10000 B))),.cells true 1 (iN .i64 (dig 10000 (au 10000 A%au 10000 B)))]) h rfl (fun b s Z=>by
  match b with
  |0=>simp at Z;subst Z;exact⟨_,rfl,.inl rfl⟩
  |1=>simp at Z;subst Z;exact⟨_,rfl,.inl rfl⟩
  |2=>simp at Z;subst Z;exact⟨_,rfl,.row (by rw[←X];exact di _)⟩
  |3=>simp at Z;subst Z;exact⟨_,rfl,.inl rfl⟩
  |b+4=>simp at Z)
 obtain⟨b,c,rfl,rfl,h3⟩:=kO.af1 (new:=[.cells true 1 (iN .i64 (dig 10000 (au 10000 A / au 10000 B))),.cells true 1 (iN .i64 (dig 10000 (au 10000 A%au 10000 B)))]) rfl S J W;simpa [AV.ren,AV.afp,eL] using h3
theorem Fq(H:afi .i64 M x [])(I:afi .i64 M y B)(J:0<au 10000 B)(W:lok 10000 B=true)(Y:aU B=B)(Yb:B.length≤50000):
  kO prog 187 [x,y] M (.tuple [.slice M.length 0 0 none,.qF]) (M++[.cells true 1 []]):=by
 have Z:=(mi (by omega) W Y).symm;have h:=(ar aj (aI _) jR (aP _) (Br B (au 10000 B) J Z Yb)).1;simp only[y9.mem,Option.getD_none,List.cons_append,List.nil_append] at h;obtain⟨b,c,rfl,rfl,h3⟩:=kO.af1 (k:=.i64) (A:=[]) (new:=[.cells true 1 []]) rfl h H I;simpa [AV.ren,AV.afp,eL] using h3
noncomputable def cX:ae3:=fun c Z M=>match c,Z with
 |.fn 187,[x,y]=>match aW .i64 M x,aW .i64 M y with
  |some A,some B=>if lok 10000 A=true∧lok 10000 B=true∧aU B=B∧A.length≤50000∧B.length≤50000∧0<au 10000 B then
    (if A=[] then some ⟨.tuple [.slice M.length 0 0 none,.qF],none,[.cells true 1 []]⟩
    else some ⟨.tuple [.slice M.length 0 (dig 10000 (au 10000 A / au 10000 B)).length none,.slice (M.length+1) 0 (dig 10000 (au 10000 A%au 10000 B)).length none],none,[.cells true 1 (iN .i64 (dig 10000 (au 10000 A / au 10000 B))),.cells true 1 (iN .i64 (dig 10000 (au 10000 A%au 10000 B)))]⟩) else none
  |_,_=>none
 |.fn 128,[.bool _,.qF]=>some ⟨.str [48],none,[]⟩
 |.fn 128,[.bool mn,x]=>match aW .i64 M x with
  |some A=>if lok 10000 A=true∧aU A=A∧A.length≤100000 then some ⟨.str (dN mn (au 10000 A)),none,[]⟩ else none
  |none=>none
 |c,Z=>bG c Z M
theorem Kc:qS prog cX:=by
 refine bZ fun c U M r h=>?_
 unfold cX at h;split at h
 ·split at h
  ·rename_i X S
   split at h
   ·rename_i Z
    obtain⟨N,c2,R,L,Q,O⟩:=Z;split at h
    ·rename_i V
     subst V;cases h;exact aw (Fq (aY X) (aY S) O c2 R Q)
    ·rename_i V
     cases h;exact aw (HF (aY X) (aY S) O N c2 R L Q V)
   ·cases h
  ·cases h
 ·cases h
  refine aw ?_;rw[List.append_nil];exact Fl _ M
 ·split at h
  ·rename_i X
   split at h
   ·rename_i Z
    cases h;refine aw ?_;rw[List.append_nil];exact Mq _ Z.1 Z.2.1 Z.2.2 (aY X)
   ·cases h
  ·cases h
 ·exact dr jR h
end Go.Proofs
