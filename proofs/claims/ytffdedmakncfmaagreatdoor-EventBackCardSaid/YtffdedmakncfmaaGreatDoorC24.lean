/- See C54. -/
import Derived.Test.YtffdedmakncfmaaGreatDoorC23
set_option linter.all false
set_option maxRecDepth 100000
set_option maxHeartbeats 40000000
namespace Go.Proofs
open Go.Eng
open Tryz
theorem Iw(s:List UInt8)(y:s.length≤1000000000)(mem:Mem):kO prog 78 [.str s] mem (match s.idxOf? 47 with | some i=>.tuple [.str (s.take i),.str (s.drop (i+1))] | none=>.tuple [.str s,.str [49]]) mem:=by
 have V:aS prog 78=some f78:=by kernel_rfl
 refine cK dU (lv:=fun _=>[]) (K:=1) rfl (by split<;>rfl) ?_ mem;have Z:=me s 47;cases hx:s.idxOf? 47 with
 |none=>
  rw[hx] at Z;simp only at Z;simp[aa,V,f78,ag,aq,Z]
 |some i=>
  rw[hx] at Z;simp only at Z;have U:i<s.length:=by have:=(List.idxOf?_eq_some_iff.1 hx).1;exact this
  have S:¬(i:Int)<0:=by omega
  have R:(i:Int)≤(s.length:Int):=by omega
  have Q :i≤s.length:=by omega
  have w1:IntKind.i64.wrap ((i:Int)+1)=((i+1:Nat):Int):=by rw[af];omega
  obtain⟨j,O⟩:=xE (i+1);show _=some (y9.mk (.tuple [.str (s.take i),.str (s.drop (i+1))]) none [])
  rw[←O] at w1 ⊢;have N:(j:Int)≤(s.length:Int):=by omega
  have M :j≤s.length:=by omega
  have X:(s.drop j).take (s.length-j)=s.drop j:=List.take_of_length_le (by simp);simp[aa,V,f78,ag,aq,Z,S,R,w1,N,X,Nat.testBit]
theorem Gd(q:Rat)(y:(ax q).length≤1000000000)(mem:Mem):kO prog 78 [.str (ax q)] mem (.tuple [.str (bB q.num),.str (ai q.den)]) mem:=by
 have h:=Iw (ax q) y mem;by_cases Z:q.den=1
 ·have e:ax q=bB q.num:=by unfold ax;rw[if_pos Z]
  have X:(ax q).idxOf? 47=none:=by rw[e];exact Fy (iv _)
  rw[X] at h;have:ai q.den=[49]:=by rw[Z];rfl
  rw[this];rw[←e];exact h
 ·have e:ax q=bB q.num++47::ai q.den:=by unfold ax;rw[if_neg Z]
  have X:(ax q).idxOf? 47=some (bB q.num).length:=by rw[e];exact P9 (iv _)
  rw[X] at h;have V:List.drop ((bB q.num).length+1) (ax q)=ai q.den:=by rw[e,List.drop_append];simp
  have U:List.take (bB q.num).length (ax q)=bB q.num:=by rw[e];exact List.take_left' rfl
  simp only[V,U] at h;exact h
theorem Ra(q:Rat)(y:(ax q).length≤1000000000)(mem:Mem):kO prog 116 [.str (ax q)] mem (.str (ax (-q))) mem:=by
 have X:aS prog 116=some f116:=by kernel_rfl
 refine ao (aw _) ?_ mem;by_cases Z:q=0
 ·subst Z
  simp[aa,X,f116,aY]
 ·have O:¬q.num=0:=fun e=>Z (ni.1 e)
  by_cases S:q.num<0
  ·have e:=jd S
   have V:(45::ax (-q)==[48])=false:=by rw[←e,aY];simpa using Z
   rw[e];have h3:(1:Int)≤((ax (-q)).length:Int)+1:=by omega
   simp[aa,X,f116,V,h3]
  ·have e:=nq (q:=q) (by omega)
   obtain⟨c,r,U,R⟩:=kP (q:=q) (by omega);have V:(c::r==[48])=false:=by rw[←U,aY];simpa using Z
   have Q:=eP R;rw[e,U];rw[U] at y;simp only[List.length_cons] at y;have h3:1+(r.length+1)≤9223372036854775807:=by omega
   simp[aa,X,f116,V,Q,h3,fm]
theorem uL(q:Rat)(mem:Mem):kO prog 52 [.str (ax q)] mem (.int .i64 (fL q)) mem:=by
 have X:aS prog 52=some f52:=by kernel_rfl
 refine ao (aw _) ?_ mem;by_cases Z:q=0
 ·subst Z
  have:fL 0=0:=rfl;simp[aa,X,f52,aY,this]
 ·have R:¬q.num=0:=fun e=>Z (ni.1 e)
  by_cases V:q.num<0
  ·have e:=jd V
   have U:(45::ax (-q)==[48])=false:=by rw[←e,aY];simpa using Z
   rw[e];simp[aa,X,f52,U,fL,kf,V]
  ·obtain⟨c,r,S,Q⟩:=kP (q:=q) (by omega)
   have U:(c::r==[48])=false:=by rw[←S,aY];simpa using Z
   have O:=eP Q;rw[S];simp[aa,X,f52,U,O,fL,kf,V,R]
variable{K:Nat}{O:afF}{b:Code}
theorem EC(n m:Int)(I:m.natAbs<K)(H:ah f77=[b]):
  ∃F:Env→Bool→Env,∀Z d,(ad Z 5=.int .i64 n∧ad Z 6=.int .i64 m)→
   aW (bh prog) (fun _=>[5,6]) O K 36 0 true (.loop b) ⟨Z,[],d⟩=some (.exit 0,⟨F Z d,[],d⟩)∧(ad (F Z d) 5=.int .i64 (euc K n m)∧ad (F Z d) 0=ad Z 0∧ad (F Z d) 1=ad Z 1∧ad (F Z d) 4=ad Z 4):=by
 refine bj rfl (fun Z=>ad Z 5=.int .i64 n∧ad Z 6=.int .i64 m) (fun Z X =>ad X 5=.int .i64 (euc K n m)∧ad X 0=ad Z 0∧ad X 1=ad Z 1∧ad X 4=ad Z 4) ?_;rintro Z d ⟨h5,h6⟩;have S:aA [5,6] (ae b) Z ((5,.int .i64 n)::(6,.int .i64 m)::Z)=aA [5,6] (ae b) Z Z:=by simp[aA,h5,h6]
 rw[←S];have V:∀(k:Nat) (x y:Int),y.natAbs<k→∃X,ga [5,6] (ae b) Z 0 (aW (bh prog) (fun _=>[5,6]) O K 36 0 true b) k ⟨aA [5,6] (ae b) Z ((5,.int .i64 x)::(6,.int .i64 y)::Z),[],d⟩=
   some (.exit 0,⟨X,[],d⟩)∧ad X 5=.int .i64 (euc k x y)∧ad X 0=ad Z 0∧ad X 1=ad Z 1∧ad X 4=ad Z 4:=by
  clear S;simp[ah,aE,f77] at H;intro k;induction k with
  |zero=>intro x y h;omega
  |succ k ih=>
   intro x y L;by_cases U:y=0
   ·subst H
    subst U;simp[ga,euc]
   ·have Q:(x.tmod y).natAbs<k:=by rw[Int.natAbs_tmod];have:=Nat.mod_lt x.natAbs (show 0<y.natAbs by omega);omega
    obtain⟨X,R,N,M⟩:=ih y (x.tmod y) Q;subst H;refine⟨X,?_,by rw[N,euc,if_neg U],M⟩;rw[ga];simp[U];simp at R;exact R
 exact V K n m I
theorem Gc(n:Int)(m:Nat)(hn:n.natAbs≤4611686018427387904)(H:m≠0)(hm:m≤4611686018427387904)(mem:Mem):kO prog 77 [.int .i64 n,.int .i64 m] mem (.str (ax (mkRat n m))) mem:=by
 have W:aS prog 77=some f77:=by kernel_rfl
 refine cK dU (lv:=fun _=>[5,6]) (K:=m+1) rfl rfl ?_ mem;obtain⟨b,J⟩:∃b,ah f77=[b]:=⟨_,rfl⟩
 obtain⟨N,hN⟩:=xE (α:=Nat) n.natAbs;obtain⟨F,I⟩:=EC (O:=ag aq) (K:=m+1) (N:Int) (m:Int) (by simp) J;simp[ah,aE,f77] at J;subst J;rw[ua n H,←hN];have hgE:∀k (x y:Nat),0≤euc k (x:Int) (y:Int):=by
  intro k;induction k with
  |zero=>intro x y;unfold euc;omega
  |succ k ih=>
   intro x y;unfold euc;split
   ·omega
   ·rw[xO];exact ih y (x%y)
 have V:=tQ (m+1) (N:Int) (m:Int) (by simp);have hg0:=hgE (m+1) N m;generalize euc (m+1) (N:Int) (m:Int)=gz at I V hg0;rw[Int.natAbs_natCast,Int.natAbs_natCast] at V;obtain⟨g,rfl⟩:∃g:Nat,gz=g:=⟨gz.toNat,by omega⟩
 rw[Int.natAbs_natCast] at V;rw[←V];have hgp:0<g:=by rw[V];exact Nat.gcd_pos_of_pos_right _ (by omega)
 have hgn:g∣N:=by rw[V];exact Nat.gcd_dvd_left _ _
 have hgd:g∣m:=by rw[V];exact Nat.gcd_dvd_right _ _
 have hgm:g≤m:=Nat.le_of_dvd (by omega) hgd;have Y:=ze (a:=n) hgp (.inr (by rw[←hN];exact Nat.mod_eq_zero_of_dvd hgn));have hq1:(n / (g:Int)).natAbs≤n.natAbs:=Int.natAbs_ediv_le_natAbs _ _;obtain⟨Z,hZ⟩:=xE (n / (g:Int));rw[←hZ] at hq1 Y ⊢;obtain⟨D,R⟩:=xE (m / g);have hDm:D≤m:=by rw[R];exact Nat.div_le_self _ _
 rw[←R];have w0:IntKind.i64.wrap (-n)= -n:=af;have Q:(if n< -n then -n else n)=(N:Int):=by split<;>omega
 have afy :(if -n<n then n else -n)=(N:Int):=by split<;>omega
 have w1:IntKind.i64.wrap (n.tdiv (g:Int))=Z:=by rw[Y.1];exact af
 have M :IntKind.i64.wrap Z=Z:=af;have w2:IntKind.i64.wrap ((m:Int).tdiv (g:Int))=(D:Int):=by rw[xN,←R];exact af
 have L :IntKind.i64.wrap ((m:Int) / (g:Int))=(D:Int):=by rw[←Int.natCast_ediv,←R];exact af
 have U:dL Z=true:=by unfold dL;simp;omega
 have hf2:dL (D:Int)=true:=by unfold dL;simp;omega
 have hDs:bB (D:Int)=ai D:=rfl;have G :¬g=0:=by omega
 have lZ:(bB Z).length+1≤fm∧(bB Z).length+1+(ai D).length≤fm:=by have h1:=cR Z;have h2:=aI (u:=Z.natAbs) (k:=20) (by omega) (by omega);have h3:=aI (u:=D) (k:=20) (by omega) (by omega);unfold fm;omega
 obtain⟨l1,l2⟩:=lZ;by_cases C:m=1
 ·have B:g=1:=by omega
  have X:D=1:=by rw[R,C,B]
  have o:Z=n:=by rw[hZ,B];exact Int.ediv_one n
  have hfn:dL n=true:=by rw[←o];exact U
  subst C;rw[if_pos X,o];simp[aa,W,f77,ag,aq,hfn]
 ·have j:¬(m:Int)=1:=by omega
  by_cases X:D=1
  ·have S:(D:Int)=1:=by omega
   rw[if_pos X];simp[aa,W,f77,j,w0,Q,I,G,Y,M,L,S,ag,aq,U,Nat.testBit]
  ·have S:¬(D:Int)=1:=by omega
   rw[if_neg X];simp[aa,W,f77,j,w0,Q,I,G,Y,M,L,S,ag,aq,U,hf2,hDs,l1,l2,Nat.testBit]
theorem Az(n m:Int)(I:m.natAbs<K)(H:ah f117=[b]):
  ∃F:Env→Bool→Env,∀Z d,(ad Z 9=.int .i64 n∧ad Z 10=.int .i64 m)→
   aW (bh prog) (fun _=>[9,10]) O K 55 0 true (.loop b) ⟨Z,[],d⟩=some (.exit 0,⟨F Z d,[],d⟩)∧(ad (F Z d) 9=.int .i64 (euc K n m)∧ad (F Z d) 5=ad Z 5∧ad (F Z d) 7=ad Z 7∧ad (F Z d) 4=ad Z 4):=by
 refine bj rfl (fun Z=>ad Z 9=.int .i64 n∧ad Z 10=.int .i64 m) (fun Z X =>ad X 9=.int .i64 (euc K n m)∧ad X 5=ad Z 5∧ad X 7=ad Z 7∧ad X 4=ad Z 4) ?_;rintro Z d ⟨h5,h6⟩;have S:aA [9,10] (ae b) Z ((9,.int .i64 n)::(10,.int .i64 m)::Z)=aA [9,10] (ae b) Z Z:=by simp[aA,h5,h6]
 rw[←S];have V:∀(k:Nat) (x y:Int),y.natAbs<k→∃X,ga [9,10] (ae b) Z 0 (aW (bh prog) (fun _=>[9,10]) O K 55 0 true b) k ⟨aA [9,10] (ae b) Z ((9,.int .i64 x)::(10,.int .i64 y)::Z),[],d⟩=
   some (.exit 0,⟨X,[],d⟩)∧ad X 9=.int .i64 (euc k x y)∧ad X 5=ad Z 5∧ad X 7=ad Z 7∧ad X 4=ad Z 4:=by
  clear S;simp[ah,aE,f117] at H;intro k;induction k with
  |zero=>intro x y h;omega
  |succ k ih=>
   intro x y L;by_cases U:y=0
   ·subst H
    subst U;simp[ga,euc]
   ·have Q:(x.tmod y).natAbs<k:=by rw[Int.natAbs_tmod];have:=Nat.mod_lt x.natAbs (show 0<y.natAbs by omega);omega
    obtain⟨X,R,N,M⟩:=ih y (x.tmod y) Q;subst H;refine⟨X,?_,by rw[N,euc,if_neg U],M⟩;rw[ga];simp[U];simp at R;exact R
 exact V K n m I
theorem Sc:∀(k x y:Nat),0≤euc k (x:Int) (y:Int):=by
 intro k;induction k with
 |zero=>intro x y;unfold euc;omega
 |succ k ih=>
  intro x y;unfold euc;split
  ·omega
  ·rw[xO];exact ih y (x%y)
theorem Ix(n:Int)(m:Nat)(hm0:m≠0)(y:(bB n).length≤18)(H:(ai m).length≤18)(mem:Mem):kO prog 117 [.str (bB n),.str (ai m)] mem (.str (ax (mkRat n m))) mem:=by
 have I:aS prog 117=some f117:=by kernel_rfl
 have hn:=j8 y;have hm:m<10 ^ 18:=by have h1:=bZ m;have h2:10 ^ (ai m).length≤10 ^ 18:=Nat.pow_le_pow_right (by omega) H;omega
 refine cK dU (lv:=fun _=>[9,10]) (K:=m+1) rfl rfl ?_ mem;obtain⟨b,hb⟩:∃b,ah f117=[b]:=⟨_,rfl⟩
 obtain⟨N,hN⟩:=xE (α:=Nat) n.natAbs;rw[←hN] at hn;obtain⟨F,G⟩:=Az (O:=ag aq) (K:=m+1) (N:Int) (m:Int) (by simp) hb;simp[ah,aE,f117] at hb;subst hb;rw[ua n hm0,←hN];have C:=tQ (m+1) (N:Int) (m:Int) (by simp);have hg0:=Sc (m+1) N m;generalize euc (m+1) (N:Int) (m:Int)=gz at G C hg0;rw[Int.natAbs_natCast,Int.natAbs_natCast] at C;obtain⟨g,rfl⟩:∃g:Nat,gz=g:=⟨gz.toNat,by omega⟩
 rw[Int.natAbs_natCast] at C;rw[←C];have hgp:0<g:=by rw[C];exact Nat.gcd_pos_of_pos_right _ (by omega)
 have hgn:g∣N:=by rw[C];exact Nat.gcd_dvd_left _ _
 have B:=ze (a:=n) hgp (.inr (by rw[←hN];exact Nat.mod_eq_zero_of_dvd hgn));have hq1:(n / (g:Int)).natAbs≤n.natAbs:=Int.natAbs_ediv_le_natAbs _ _;obtain⟨Z,hZ⟩:=xE (n / (g:Int));rw[←hZ] at hq1 B ⊢;obtain⟨D,hD⟩:=xE (m / g);have hDm:D≤m:=by rw[hD];exact Nat.div_le_self _ _
 rw[←hD];have w1:IntKind.i64.wrap (n.tdiv (g:Int))=Z:=by rw[B.1];exact af
 have U :IntKind.i64.wrap Z=Z:=af;have w2:IntKind.i64.wrap ((m:Int).tdiv (g:Int))=(D:Int):=by rw[xN,←hD];exact af
 have S :IntKind.i64.wrap ((m:Int) / (g:Int))=(D:Int):=by rw[←Int.natCast_ediv,←hD];exact af
 have R:dL Z=true:=by unfold dL;simp;omega
 have j:dL (D:Int)=true:=by unfold dL;simp;omega
 have Y:bB (D:Int)=ai D:=rfl;have Q :¬g=0:=by omega
 have lZ:(bB Z).length+1≤fm∧(bB Z).length+1+(ai D).length≤fm:=by have h1:=cR Z;have h2:=aI (u:=Z.natAbs) (k:=20) (by omega) (by omega);have h3:=aI (u:=D) (k:=20) (by omega) (by omega);unfold fm;omega
 obtain⟨l1,l2⟩:=lZ;have M:Lib.atoi (ai m)=some (m:Int):=oC (m:Int);have L:¬(m:Int)<0:=by omega
 have w0:IntKind.i64.wrap (-n)= -n:=af;have aau:n<0→ -n=(N:Int):=by omega
 have W:¬n<0→n=(N:Int):=by omega
 by_cases o:n<0
 ·have J :IntKind.i64.wrap (-n)=(N:Int):=by rw[w0];exact aau o
  by_cases V:D=1
  ·have X:(D:Int)=1:=by omega
   rw[if_pos V];simp[aa,I,f117,ag,aq,y,H,oC,M,L,o,J,G,Q,B,U,S,X,R,Nat.testBit]
  ·have X:¬(D:Int)=1:=by omega
   rw[if_neg V];simp[aa,I,f117,ag,aq,y,H,oC,M,L,o,J,G,Q,B,U,S,X,R,j,Y,l1,l2,Nat.testBit]
 ·have e:=W o
  rw[←e] at G;by_cases V:D=1
  ·have X:(D:Int)=1:=by omega
   rw[if_pos V];simp[aa,I,f117,ag,aq,y,H,oC,M,L,o, G,Q,B,U,S,X,R,Nat.testBit]
  ·have X:¬(D:Int)=1:=by omega
   rw[if_neg V];simp[aa,I,f117,ag,aq,y,H,oC,M,L,o, G,Q,B,U,S,X,R,j,Y,l1,l2,Nat.testBit]
noncomputable def dQ(f:FuncId)(args:List AV):Option AV:=
 match f,args with
 |120,[.str s,.str t]=>match jP s,jP t with
  |some a,some b=>if (ai a.natAbs).length≤10000∧(ai b.natAbs).length≤10000 then some (.str (ai (a.natAbs.gcd b.natAbs))) else none
  |_,_=>none
 |117,[.str s,.str t]=>match jP s,xX t with
  |some n,some m=>if m≠0∧(bB n).length≤18∧(ai m).length≤18 then some (.str (ax (mkRat n m))) else none
  |_,_=>none
 |77,[.int .i64 n,.int .i64 d]=>if d.toNat≠0∧n.natAbs≤4611686018427387904∧0≤d∧d.toNat≤4611686018427387904 then some (.str (ax (mkRat n d.toNat))) else none
 |78,[.str s]=>match dY s with
  |some q=>if s.length≤1000000000 then some (.tuple [.str (bB q.num),.str (ai q.den)]) else none
  |none=>none
 |116,[.str s]=>match dY s with
  |some q=>if s.length≤1000000000 then some (.str (ax (-q))) else none
  |none=>none
 |52,[.str s]=>match dY s with
  |some q=>some (.int .i64 (fL q))
  |none=>none
 |f,args=>fc f args
theorem Ck:qS prog (ag dQ):=bF fun f R v h mem=>by
 unfold dQ at h;split at h
 ·split at h
  ·rename_i m n U S
   split at h
   next Z=>cases h;rw[bS U,bS S];exact Rd m n Z.1 Z.2 mem
   ·cases h
  ·cases h
 ·split at h
  ·rename_i m n U S
   split at h
   next Z=>cases h;rw[bS U,gw S];exact Ix m n Z.1 Z.2.1 Z.2.2 mem
   ·cases h
  ·cases h
 ·split at h
  ·rename_i Z
   obtain⟨Q,N,M,L⟩:=Z;cases h;have:=Gc _ _ N Q L mem;rw[Int.toNat_of_nonneg M] at this;exact this
  ·cases h
 ·split at h
  ·rename_i q X
   split at h
   next V=>cases h;rw[az X] at V ⊢;exact Gd q V mem
   ·cases h
  ·cases h
 ·split at h
  ·rename_i q X
   split at h
   next V=>cases h;rw[az X] at V ⊢;exact Ra q V mem
   ·cases h
  ·cases h
 ·split at h
  next q X=>cases h;rw[az X];exact uL q mem
  ·cases h
 ·have:=Cj.fn _ _ mem ⟨v,none,[]⟩ (by unfold ag;simp only;rw[h])
  simpa [y9.mem] using this
theorem BK(n:Int)(d:Nat)(hd:d≠0)(H:(ai n.natAbs).length≤10000)(y:(ai d).length≤10000)(mem:Mem):
  kO prog 70 [.str (bB n),.str (ai d)] mem (.str (ax (mkRat n d))) mem:=by
 have N:aS prog 70=some f70:=by kernel_rfl
 refine ao Ck ?_ mem;have J:=cR n;by_cases I:(bB n).length≤9∧(ai d).length≤9
 ·have j:((bB n).length:Int)≤9:=by omega
  have W:((ai d).length:Int)≤9:=by omega
  have q3:(bB n).length≤18:=by omega
  have q4:(ai d).length≤18:=by omega
  simp[aa,N,f70,j,W,ag,dQ,aB,bk,hd,q3,q4]
 ·rw[ua n hd]
  have m:=HQ hd;have X:0<n.natAbs.gcd d:=Nat.gcd_pos_of_pos_right _ (by omega);have M:n.natAbs.gcd d∣n.natAbs:=Nat.gcd_dvd_left _ _;have L:n.natAbs.gcd d∣d:=Nat.gcd_dvd_right _ _;have G:n.natAbs.gcd d≤d:=Nat.le_of_dvd (by omega) L;obtain⟨g,F⟩:=xE (n.natAbs.gcd d);rw[←F] at X M L G ⊢;have S:(ai g).length≤10000:=by have:=bx G;omega
  have R:n.natAbs%g=0:=Nat.mod_eq_zero_of_dvd M;have V:bB ((d:Int) / (g:Int))=ai (d / g):=by rw[←Int.natCast_ediv];rfl
  obtain⟨Z,Q⟩:=xE (n / (g:Int));obtain⟨D,Y⟩:=xE (d / g);rw[←Y] at V;rw[←Q,←Y];have hq1:(ai Z.natAbs).length≤10000:=by have:=bx (Int.natAbs_ediv_le_natAbs n g);rw[←Q] at this;omega
  have hq2:(ai D).length≤10000:=by have:=bx (Nat.div_le_self d g);rw[←Y] at this;omega
  have hl4:=cR Z;have C:(bB Z).length+1≤fm:=by unfold fm;omega
  have B:(bB Z).length+1+(ai D).length≤fm:=by unfold fm;omega
  by_cases j:(bB n).length≤9
  ·have W:¬(ai d).length≤9:=fun e=>I ⟨j,e⟩
   have U:((bB n).length:Int)≤9:=by omega
   have u:¬((ai d).length:Int)≤9:=by omega
   by_cases o:D=1
   ·simp[aa,N,f70,U,u,ag,dQ,fc,iD,gQ,bW,bV,cn,bk,aB,m,H,y,←F,S,X,R,←Q,V,gd,o]
   ·simp[aa,N,f70,U,u,ag,dQ,fc,iD,gQ,bW,bV,cn,bk,aB,m,H,y,←F,S,X,R,←Q,V,gd,o,C,B]
  ·have U:¬((bB n).length:Int)≤9:=by omega
   by_cases o:D=1
   ·simp[aa,N,f70,U,ag,dQ,fc,iD,gQ,bW,bV,cn,bk,aB,m,H,y,←F,S,X,R,←Q,V,gd,o]
   ·simp[aa,N,f70,U,ag,dQ,fc,iD,gQ,bW,bV,cn,bk,aB,m,H,y,←F,S,X,R,←Q,V,gd,o,C,B]
theorem Aa{y:List UInt8}(hd:y.all isD=true)(H:y.length≤9)(j:Nat):eF (y.take j)<10 ^ 9:=by
 have X:=DU (qi hd j);have Z:(y.take j).length≤9:=by rw[List.length_take];omega
 have h3:10 ^ (y.take j).length≤10 ^ 9:=Nat.pow_le_pow_right (by omega) Z;omega
def kB(c:Code):List Nat:=if (ae c).contains 24 then [2,5] else [3,5]
variable{b2:Code}
theorem Aq(s y rest:List UInt8)(H:Nat)(hs:s.length≤9)(Z6:H≤s.length)(hd:s.drop H=y++rest)(J:rest=[]∨∃r,rest=47::r)(UV:y.all isD=true)(hK:10<K)(I:ah f76=[b,b2]):
  ∃F:Env→Bool→Env,∀Z d,(ad Z 0=.str s∧ad Z 2=.int .i64 0∧ad Z 5=.int .i64 (H:Int))→
   aW (bh prog) kB O K 57 0 true (.loop b) ⟨Z,[],d⟩=some (.exit 0,⟨F Z d,[],d⟩)∧(ad (F Z d) 2=.int .i64 ((eF y:Nat):Int)∧ad (F Z d) 5=.int .i64 ((H+y.length:Nat):Int)∧ad (F Z d) 0=ad Z 0∧ad (F Z d) 3=ad Z 3∧ad (F Z d) 6=ad Z 6):=by
 have D:kB b=[2,5]:=by simp[ah,aE,f76] at I;obtain⟨rfl,rfl⟩:=I;decide
 have G':H+y.length+rest.length=s.length:=by have:=congrArg List.length hd;simp at this;omega
 refine bj D (fun Z=>ad Z 0=.str s∧ad Z 2=.int .i64 0∧ad Z 5=.int .i64 (H:Int)) (fun Z R =>ad R 2=.int .i64 ((eF y:Nat):Int)∧ad R 5=.int .i64 ((H+y.length:Nat):Int)∧ad R 0=ad Z 0∧ad R 3=ad Z 3∧ad R 6=ad Z 6) ?_;rintro Z d ⟨h0,h2,h5⟩;have Q:eF (y.take 0)=0:=by rw[List.take_zero];unfold eF;rw[dD]
 have hn:aA [2,5] (ae b) Z ((2,.int .i64 ((eF (y.take 0):Nat):Int))::(5,.int .i64 ((H+0:Nat):Int))::Z)=aA [2,5] (ae b) Z Z:=by rw[Q];simp[aA,h2,h5]
 rw[←hn];refine bz (α:=Nat) (fun j=>⟨aA [2,5] (ae b) Z ((2,.int .i64 ((eF (y.take j):Nat):Int))::(5,.int .i64 ((H+j:Nat):Int))::Z),[],d⟩)
  (fun j=>y.length-j) (fun j=>j≤y.length) (.exit 0) _ d _ (by simp) ?_ K 0 (Nat.zero_le _) (by simp only[Nat.sub_zero];omega)
 intro j hj;clear hn Q;simp[ah,aE,f76] at I;obtain⟨i,C⟩:=xE (H+j);have X:s[i]? =(y++rest)[j]? :=by rw[←hd,List.getElem?_drop,C]
 by_cases B:j=y.length
 ·right
  subst B;rw[List.take_length,←C];rw[List.getElem?_append_right (Nat.le_refl _),Nat.sub_self] at X;obtain⟨rfl,rfl⟩:=I;rcases J with h | ⟨r,h⟩
  ·subst h
   have V:i=s.length:=by simp at G';omega
   have h1:¬i<s.length:=by omega
   have u:¬(i:Int)<(s.length:Int):=by omega
   simp[h0,u]
  ·subst h
   have V:i<s.length:=by simp at G';omega
   have S:(i:Int)<(s.length:Int):=by omega
   have N:s[i]? =some 47:=by simpa using X
   have o :s[i]=47:=(List.getElem?_eq_some_iff.1 N).2;simp[h0,V,S,o]
 ·left
  have m:j<y.length:=by omega
  obtain⟨c,N⟩:∃c,y[j]? =some c:=⟨y[j],by simp[m]⟩
  rw[List.getElem?_append_left m,N] at X;have V:i<s.length:=gL X;have S:(i:Int)<(s.length:Int):=by omega
  have Y :s[i]=c:=(List.getElem?_eq_some_iff.1 X).2;have U:=List.all_eq_true.1 UV c (List.mem_of_getElem? N);have hcd:=uC U;have ac5:48≤c.toNat∧c.toNat≤57:=by unfold isD at U;simp only[Bool.and_eq_true,decide_eq_true_eq] at U;exact U
  have W:¬((c.toNat:Int)=47):=by omega
  have aao:y.take (j+1)=y.take j++[c]:=by rw[List.take_add_one,N];rfl
  have M:eF (y.take (j+1))=10*eF (y.take j)+(c.toNat-48):=by rw[aao,pd]
  have hvb:=Aa UV (by omega) j;obtain⟨v,L⟩:=xE (eF (y.take j));obtain⟨v2,G⟩:=xE (eF (y.take (j+1)));rw[←L] at hvb M;rw[←G] at M;obtain⟨k,hk⟩:=xE (α:=Nat) (c.toNat-48);have w0:IntKind.u8.wrap ((c.toNat:Int)-48)=(k:Int):=by rw[HY (by omega) (by omega)];omega
  have w1:IntKind.i64.wrap (k:Int)=(k:Int):=af;have w2:IntKind.i64.wrap (10*(v:Int))=10*(v:Int):=af;have w3:IntKind.i64.wrap (10*(v:Int)+(k:Int))=(v2:Int):=by rw[af];omega
  have w4:IntKind.i64.wrap ((i:Int)+1)=((H+(j+1):Nat):Int):=by rw[af];omega
  rw[←C];refine⟨j+1,?_⟩;refine br (show j+1≤y.length∧_ from⟨m,by omega⟩) ?_;obtain⟨rfl,rfl⟩:=I;simp[h0,V,S,Y,W,←L,←G,w0,w1,w2,w3,w4];try omega
theorem As(s y:List UInt8)(H:Nat)(hs:s.length≤9)(Z6:H≤s.length)(hd:s.drop H=y)(J:y.all isD=true)(hK:10<K)(I:ah f76=[b,b2]):
  ∃F:Env→Bool→Env,∀Z d,(ad Z 0=.str s∧ad Z 3=.int .i64 0∧ad Z 5=.int .i64 (H:Int))→
   aW (bh prog) kB O K 57 0 true (.loop b2) ⟨Z,[],d⟩=some (.exit 2,⟨F Z d,[],d⟩)∧(ad (F Z d) 3=.int .i64 ((eF y:Nat):Int)∧ad (F Z d) 2=ad Z 2∧ad (F Z d) 6=ad Z 6):=by
 have N:kB b2=[3,5]:=by simp[ah,aE,f76] at I;obtain⟨rfl,rfl⟩:=I;decide
 have G':H+y.length=s.length:=by have:=congrArg List.length hd;simp at this;omega
 refine bj N (fun Z=>ad Z 0=.str s∧ad Z 3=.int .i64 0∧ad Z 5=.int .i64 (H:Int)) (fun Z M =>ad M 3=.int .i64 ((eF y:Nat):Int)∧ad M 2=ad Z 2∧ad M 6=ad Z 6) ?_;rintro Z d ⟨h0,h2,h5⟩;have U:eF (y.take 0)=0:=by rw[List.take_zero];unfold eF;rw[dD]
 have Y:aA [3,5] (ae b2) Z ((3,.int .i64 ((eF (y.take 0):Nat):Int))::(5,.int .i64 ((H+0:Nat):Int))::Z)=aA [3,5] (ae b2) Z Z:=by rw[U];simp[aA,h2,h5]
 rw[←Y];refine bz (α:=Nat) (fun j=>⟨aA [3,5] (ae b2) Z ((3,.int .i64 ((eF (y.take j):Nat):Int))::(5,.int .i64 ((H+j:Nat):Int))::Z),[],d⟩)
  (fun j=>y.length-j) (fun j=>j≤y.length) (.exit 2) _ d _ (by simp) ?_ K 0 (Nat.zero_le _) (by simp only[Nat.sub_zero];omega)
 intro j hj;clear Y U;simp[ah,aE,f76] at I;obtain⟨i,L⟩:=xE (H+j);have V:s[i]? =y[j]? :=by rw[←hd,List.getElem?_drop,L]
 by_cases G:j=y.length
 ·right
  subst G;rw[List.take_length,←L];obtain⟨rfl,rfl⟩:=I;have h1:¬i<s.length:=by omega
  have h1I:¬(i:Int)<(s.length:Int):=by omega
  simp[h0,h1]
 ·left
  have W:j<y.length:=by omega
  obtain⟨c,D⟩:∃c,y[j]? =some c:=⟨y[j],by simp[W]⟩
  rw[D] at V;have C:i<s.length:=gL V;have B:(i:Int)<(s.length:Int):=by omega
  have u :s[i]=c:=(List.getElem?_eq_some_iff.1 V).2;have X:=List.all_eq_true.1 J c (List.mem_of_getElem? D);have hcd:=uC X;have ac5:48≤c.toNat∧c.toNat≤57:=by unfold isD at X;simp only[Bool.and_eq_true,decide_eq_true_eq] at X;exact X
  have o:y.take (j+1)=y.take j++[c]:=by rw[List.take_add_one,D];rfl
  have S:eF (y.take (j+1))=10*eF (y.take j)+(c.toNat-48):=by rw[o,pd]
  have m:=Aa J (by omega) j;obtain⟨v,R⟩:=xE (eF (y.take j));obtain⟨v2,Q⟩:=xE (eF (y.take (j+1)));rw[←R] at m S;rw[←Q] at S;obtain⟨k,hk⟩:=xE (α:=Nat) (c.toNat-48);have w0:IntKind.u8.wrap ((c.toNat:Int)-48)=(k:Int):=by rw[HY (by omega) (by omega)];omega
  have w1:IntKind.i64.wrap (k:Int)=(k:Int):=af;have w2:IntKind.i64.wrap (10*(v:Int))=10*(v:Int):=af;have w3:IntKind.i64.wrap (10*(v:Int)+(k:Int))=(v2:Int):=by rw[af];omega
  have w4:IntKind.i64.wrap ((i:Int)+1)=((H+(j+1):Nat):Int):=by rw[af];omega
  rw[←L];refine⟨j+1,?_⟩;refine br (show j+1≤y.length∧_ from⟨W,by omega⟩) ?_;obtain⟨rfl,rfl⟩:=I;simp[h0,C,B,u,←R,←Q,w0,w1,w2,w3,w4];try omega
theorem Iv(q:Rat)(mem:Mem):kO prog 76 [.str (ax q)] mem (if (ax q).length≤9 then .tuple [.int .i64 q.num,.int .i64 q.den,.bool true] else .tuple [.int .i64 0,.int .i64 0,.bool false]) mem:=by
 have W:aS prog 76=some f76:=by kernel_rfl
 refine cK (aw _) (lv:=kB) (K:=11) rfl (by split<;>rfl) ?_ mem;by_cases J:(ax q).length≤9
 ·rw[if_pos J]
  have U:¬(9<((ax q).length:Int)):=by omega
  obtain⟨b,b2,Y⟩:∃b b2,ah f76=[b,b2]:=⟨_,_,rfl⟩
  obtain⟨X,V,R⟩:=y7 q;obtain⟨s,hs⟩:=xE (ax q);rw[←hs] at J U V ⊢;obtain⟨N,hN⟩:=xE q.num.natAbs;rw[←hN] at V;have S:=du N;have hvN:=dz N;have hpN:=qz N;have I:=jG N;have aab:X=[]∨∃r,X=47::r:=by rw[R];split<;>simp
  obtain⟨H,L⟩:=xE (α:=Nat) (if q.num<0 then 1 else 0);have y:(if q.num<0 then [(45:UInt8)] else []).length=H:=by rw[L];split<;>rfl
  have aa2:s.drop H=ai N++X:=by rw[V,←y,List.drop_left]
  have G':s.length=H+(ai N).length+X.length:=by rw[V,List.length_append,y,List.length_append];omega
  obtain⟨F,M⟩:=Aq (O:=cF) (K:=11) s (ai N) X H J (by omega) aa2 aab S (by omega) Y;rw[hvN] at M;obtain⟨Z,hat⟩:=xE (H+(ai N).length);rw[←hat] at M G';have afN:N<10 ^ 9:=by have h1:=bZ N;have h2:10 ^ (ai N).length≤10 ^ 9:=Nat.pow_le_pow_right (by omega) (by omega);omega
  have wn:IntKind.i64.wrap (-(N:Int))= -(N:Int):=af;have wp:IntKind.i64.wrap (N:Int)=(N:Int):=af;by_cases G:q.den=1
  ·rw[if_pos G] at R
   subst R;have B:¬Z<s.length:=by simp at G';omega
   simp[ah,aE,f76] at Y;obtain⟨rfl,rfl⟩:=Y;by_cases D:q.num<0
   ·rw[if_pos D] at L
    subst L;have Q:s[0]? =some 45:=by rw[V,if_pos D];rfl
    have e: -(N:Int)=q.num:=by omega
    have u :IntKind.i64.wrap (-(N:Int))=q.num:=by rw[wn,e]
    simp only[Int.natCast_one] at M;simp[aa,W,f76,U,Q,M,B,u,G]
   ·rw[if_neg D] at L
    subst L;have Q:∃c,s[0]? =some c∧isD c=true:=by
     rw[V,if_neg D];cases hx:ai N with
     |nil=>exact absurd hx I
     |cons c r=>
      rw[hx] at S;simp only[List.all_cons,Bool.and_eq_true] at S;exact⟨c,by simp,S.1⟩
    obtain⟨c,Q,o⟩:=Q;have m:=eP o;have e:(N:Int)=q.num:=by omega
    have j :IntKind.i64.wrap (N:Int)=q.num:=by rw[wp,e]
    simp only[Int.natCast_zero] at M;simp[aa,W,f76,U,Q,m,M,B,j,G]
  ·rw[if_neg G] at R
   subst R;have B:Z<s.length:=by simp at G';omega
   have acy:(Z:Int)<(s.length:Int):=by omega
   have acC:s.drop (Z+1)=ai q.den:=by
    have h1:s.drop Z=47::ai q.den:=by rw[hat,←List.drop_drop,aa2,List.drop_left]
    rw[←List.drop_drop,h1];rfl
   obtain⟨F2,C⟩:=As (O:=cF) (K:=11) s (ai q.den) (Z+1) J (by omega) acC (du _) (by omega) Y;rw[dz] at C;have w1:IntKind.i64.wrap ((Z:Int)+1)=((Z+1:Nat):Int):=by rw[af];omega
   obtain⟨at2,aeW⟩:=xE (Z+1);rw[←aeW] at w1 C;simp[ah,aE,f76] at Y;obtain⟨rfl,rfl⟩:=Y;by_cases D:q.num<0
   ·rw[if_pos D] at L
    subst L;have Q:s[0]? =some 45:=by rw[V,if_pos D];rfl
    have e: -(N:Int)=q.num:=by omega
    have u :IntKind.i64.wrap (-(N:Int))=q.num:=by rw[wn,e]
    simp only[Int.natCast_one] at M;simp[aa,W,f76,U,Q,M,acy,w1,C,u]
   ·rw[if_neg D] at L
    subst L;have Q:∃c,s[0]? =some c∧isD c=true:=by
     rw[V,if_neg D];cases hx:ai N with
     |nil=>exact absurd hx I
     |cons c r=>
      rw[hx] at S;simp only[List.all_cons,Bool.and_eq_true] at S;exact⟨c,by simp,S.1⟩
    obtain⟨c,Q,o⟩:=Q;have m:=eP o;have e:(N:Int)=q.num:=by omega
    have j :IntKind.i64.wrap (N:Int)=q.num:=by rw[wp,e]
    simp only[Int.natCast_zero] at M;simp[aa,W,f76,U,Q,m,M,acy,w1,C,j]
 ·rw[if_neg J]
  have U:(9<((ax q).length:Int)):=by omega
  simp[aa,W,f76,U]
noncomputable def fP(f:FuncId)(args:List AV):Option AV:=
 match f,args with
 |76,[.str s]=>match dY s with
  |some q=>some (if (ax q).length≤9 then .tuple [.int .i64 q.num,.int .i64 q.den,.bool true] else .tuple [.int .i64 0,.int .i64 0,.bool false])
  |none=>none
 |70,[.str s,.str t]=>match jP s,xX t with
  |some n,some d=>if d≠0∧(ai n.natAbs).length≤10000∧(ai d).length≤10000 then some (.str (ax (mkRat n d))) else none
  |_,_=>none
 |f,args=>dQ f args
theorem qd:qS prog (ag fP):=bF fun f X v h mem=>by
 unfold fP at h;split at h
 ·split at h
  next q V=>cases h;rw[az V];exact Iv q mem
  ·cases h
 ·split at h
  ·rename_i m n U S
   split at h
   next Z=>cases h;rw[bS U,gw S];exact BK m n Z.1 Z.2.1 Z.2.2 mem
   ·cases h
  ·cases h
 ·have:=Ck.fn _ _ mem ⟨v,none,[]⟩ (by unfold ag;simp only;rw[h])
  simpa [y9.mem] using this
def cB(q:Rat):Prop:=(ai q.num.natAbs).length≤2000∧(ai q.den).length≤2000
variable{q:Rat}
theorem lg(h:cB q):kx q:=⟨by have:=h.1;omega,by have:=h.2;omega⟩
theorem xk(h:(ax q).length≤9):q.num.natAbs<10 ^ 9∧q.den<10 ^ 9:=Hj h
theorem Fc(a b:Rat)(y:cB a)(H:cB b)(mem:Mem):
  kO prog 68 [.str (ax a),.str (ax b)] mem (.str (ax (a+b))) mem:=by
 have L:aS prog 68=some f68:=by kernel_rfl
 refine ao qd ?_ mem;have G:=eH (lg y);have F:=eH (lg H);have Z:a.den*b.den≠0:=Nat.mul_ne_zero a.den_nz b.den_nz;have Q:=Rat.add_def' a b;obtain⟨X,V⟩:=xE (a.num*(b.den:Int));obtain⟨Y,U⟩:=xE (b.num*(a.den:Int));obtain⟨D,S⟩:=xE (a.den*b.den);rw[←V,←U,←S] at Q;rw[←S] at Z;rw[Q];by_cases C:(ax a).length≤9∧(ax b).length≤9
 ·obtain⟨R,M⟩:=C
  obtain⟨a1,B⟩:=xk R;obtain⟨b1,b2⟩:=xk M;have u:X.natAbs<10 ^ 9*10 ^ 9:=by rw[V];exact fD a1 (by simpa using b2)
  have o:Y.natAbs<10 ^ 9*10 ^ 9:=by rw[U];exact fD b1 (by simpa using B)
  have d1:D<10 ^ 9*10 ^ 9:=by rw[S];exact Nat.mul_lt_mul'' B b2
  have w1:IntKind.i64.wrap (a.num*(b.den:Int))=X:=by rw[←V];exact af
  have w2:IntKind.i64.wrap (b.num*(a.den:Int))=Y:=by rw[←U];exact af
  have w3:IntKind.i64.wrap (X+Y)=X+Y:=af;have w4:IntKind.i64.wrap ((a.den:Int)*(b.den:Int))=(D:Int):=by rw[←Int.natCast_mul,←S];exact af
  have c1:(X+Y).natAbs≤4611686018427387904:=by omega
  have c2:D≤4611686018427387904:=by omega
  simp[aa,L,f68,ag,fP,dQ,ay,R,M,w1,w2,w3,w4,Z,c1,c2]
 ·have m:(ai a.num.natAbs).length≤5000:=by have:=y.1;omega
  have j:(ai a.den).length≤5000:=by have:=y.2;omega
  have W:(ai b.num.natAbs).length≤5000:=by have:=H.1;omega
  have J:(ai b.den).length≤5000:=by have:=H.2;omega
  have u:(ai X.natAbs).length≤4000:=by rw[V,Int.natAbs_mul,Int.natAbs_natCast];exact dq y.1 H.2
  have o:(ai Y.natAbs).length≤4000:=by rw[U,Int.natAbs_mul,Int.natAbs_natCast];exact dq H.1 y.2
  have I:(ai X.natAbs).length≤10000:=by omega
  have s6:(ai Y.natAbs).length≤10000:=by omega
  have s7:(ai (X+Y).natAbs).length≤10000:=by have h1:=jE u o;have h2:=bx (Int.natAbs_add_le X Y);omega
  have s8:(ai D).length≤10000:=by
   have:(ai D).length≤4000:=by rw[S];exact dq y.2 H.2
   omega
  have N:bB ((a.den:Int)*(b.den:Int))=ai D:=by rw[←Int.natCast_mul,←S];rfl
  by_cases R:(ax a).length≤9
  ·have M:¬(ax b).length≤9:=fun h=>C ⟨R,h⟩
   simp[aa,L,f68,ag,fP,dQ,fc,iD,gQ,ay,aB,cn,bk,G,F,R,M,m,j,W,J,←V,←U,I,s6,s7,s8,N,Z]
  ·simp[aa,L,f68,ag,fP,dQ,fc,iD,gQ,ay,aB,cn,bk,G,F,R,m,j,W,J,←V,←U,I,s6,s7,s8,N,Z]
theorem ye(a b:Rat)(y:cB a)(H:cB b)(mem:Mem):
  kO prog 36 [.str (ax a),.str (ax b)] mem (.str (ax (a*b))) mem:=by
 have M:aS prog 36=some f36:=by kernel_rfl
 refine ao qd ?_ mem;have L:=eH (lg y);have G:=eH (lg H);have Z:a.den*b.den≠0:=Nat.mul_ne_zero a.den_nz b.den_nz;have R:=Rat.mul_def' a b;obtain⟨X,V⟩:=xE (a.num*b.num);obtain⟨D,U⟩:=xE (a.den*b.den);rw[←V,←U] at R;rw[←U] at Z;rw[R];by_cases F:(ax a).length≤9∧(ax b).length≤9
 ·obtain⟨S,N⟩:=F
  obtain⟨Y,W⟩:=xk S;obtain⟨J,b2⟩:=xk N;have I:X.natAbs<10 ^ 9*10 ^ 9:=by rw[V];exact fD Y J
  have d1:D<10 ^ 9*10 ^ 9:=by rw[U];exact Nat.mul_lt_mul'' W b2
  have w1:IntKind.i64.wrap (a.num*b.num)=X:=by rw[←V];exact af
  have w4:IntKind.i64.wrap ((a.den:Int)*(b.den:Int))=(D:Int):=by rw[←Int.natCast_mul,←U];exact af
  have c1:X.natAbs≤4611686018427387904:=by omega
  have c2:D≤4611686018427387904:=by omega
  simp[aa,M,f36,ag,fP,dQ,ay,S,N,w1,w4,Z,c1,c2]
 ·have C:(ai a.num.natAbs).length≤5000:=by have:=y.1;omega
  have B:(ai a.den).length≤5000:=by have:=y.2;omega
  have u:(ai b.num.natAbs).length≤5000:=by have:=H.1;omega
  have o:(ai b.den).length≤5000:=by have:=H.2;omega
  have I:(ai X.natAbs).length≤4000:=by rw[V,Int.natAbs_mul];exact dq y.1 H.1
  have m:(ai X.natAbs).length≤10000:=by omega
  have j:(ai D).length≤10000:=by
   have:(ai D).length≤4000:=by rw[U];exact dq y.2 H.2
   omega
  have Q:bB ((a.den:Int)*(b.den:Int))=ai D:=by rw[←Int.natCast_mul,←U];rfl
  by_cases S:(ax a).length≤9
  ·have N:¬(ax b).length≤9:=fun h=>F ⟨S,h⟩
   simp[aa,M,f36,ag,fP,dQ,fc,ay,aB,cn,bk,L,G,S,N,C,B,u,o,←V,m,j,Q,Z]
  ·simp[aa,M,f36,ag,fP,dQ,fc,ay,aB,cn,bk,L,G,S,C,B,u,o,←V,m,j,Q,Z]
noncomputable def fy(f:FuncId)(args:List AV):Option AV:=
 match f,args with
 |68,[.str s,.str t]=>match dY s,dY t with
  |some a,some b=>if (ai a.num.natAbs).length≤2000∧(ai a.den).length≤2000∧(ai b.num.natAbs).length≤2000∧(ai b.den).length≤2000 then some (.str (ax (a+b))) else none
  |_,_=>none
 |36,[.str s,.str t]=>match dY s,dY t with
  |some a,some b=>if (ai a.num.natAbs).length≤2000∧(ai a.den).length≤2000∧(ai b.num.natAbs).length≤2000∧(ai b.den).length≤2000 then some (.str (ax (a*b))) else none
  |_,_=>none
 |f,args=>fP f args
theorem sn:qS prog (ag fy):=bF fun f U v h mem=>by
 unfold fy at h;split at h
 ·split at h
  ·rename_i m n X V
   split at h
   next Z=>cases h;rw[az X,az V];exact Fc m n ⟨Z.1,Z.2.1⟩ ⟨Z.2.2.1,Z.2.2.2⟩ mem
   ·cases h
  ·cases h
 ·split at h
  ·rename_i m n X V
   split at h
   next Z=>cases h;rw[az X,az V];exact ye m n ⟨Z.1,Z.2.1⟩ ⟨Z.2.2.1,Z.2.2.2⟩ mem
   ·cases h
  ·cases h
 ·have:=qd.fn _ _ mem ⟨v,none,[]⟩ (by unfold ag;simp only;rw[h])
  simpa [y9.mem] using this
theorem Fe(a b:Rat)(H:cB a)(y:cB b)(mem:Mem):
  kO prog 81 [.str (ax a),.str (ax b)] mem (.str (ax (a-b))) mem:=by
 have Z:aS prog 81=some f81:=by kernel_rfl
 refine ao sn ?_ mem;have X:=eH (lg y);obtain⟨V,U⟩:=H;obtain⟨S,b2⟩:=y;have e:a+ -b=a-b:=(Rat.sub_eq_add_neg a b).symm;simp[aa,Z,f81,ag,fy,fP,dQ,ay,X,V,U,S,b2,e]
theorem Q9(a b:Rat)(H:0<b.num)(I:cB a)(y:cB b)(mem:Mem):
  kO prog 80 [.str (ax a),.str (ax b)] mem (.str (ax (a / b))) mem:=by
 have G:aS prog 80=some f80:=by kernel_rfl
 refine ao sn ?_ mem;have F:=eH (lg y);obtain⟨D,C⟩:=I;obtain⟨R,b2⟩:=y;have e:a*b⁻¹=a / b:=(Rat.div_def a b).symm;obtain⟨Q,Z⟩:=vU H;have X:=Rat.mkRat_self b⁻¹;obtain⟨m,N⟩:=xE b.num.natAbs;have V:m≠0:=by omega
 have U:bB b.num=ai m:=by rw[gj (by omega),N]
 rw[←N] at R Z;rw[Q,Z] at X;have M:(ai b⁻¹.num.natAbs).length≤2000:=by rw[Q,Int.natAbs_natCast];exact b2
 have L:(ai b⁻¹.den).length≤2000:=by rw[Z];exact R
 obtain⟨w,S⟩:=xE (b⁻¹);rw[←S] at M L X e;have B:(ai m).length≤10000:=by omega
 have u:(ai b.den).length≤10000:=by omega
 simp[aa,G,f80,ag,fy,fP,dQ,ay,bk,cn,F,U,V,B,u,X,D,C,M,L,e]
noncomputable def eR(f:FuncId)(args:List AV):Option AV:=
 match f,args with
 |81,[.str s,.str t]=>match dY s,dY t with
  |some a,some b=>if (ai a.num.natAbs).length≤2000∧(ai a.den).length≤2000∧(ai b.num.natAbs).length≤2000∧(ai b.den).length≤2000 then some (.str (ax (a-b))) else none
  |_,_=>none
 |80,[.str s,.str t]=>match dY s,dY t with
  |some a,some b=>if 0<b.num∧(ai a.num.natAbs).length≤2000∧(ai a.den).length≤2000∧(ai b.num.natAbs).length≤2000∧(ai b.den).length≤2000 then some (.str (ax (a / b))) else none
  |_,_=>none
 |f,args=>fy f args
theorem gb:qS prog (ag eR):=bF fun f U v h mem=>by
 unfold eR at h;split at h
 ·split at h
  ·rename_i m n X V
   split at h
   next Z=>cases h;rw[az X,az V];exact Fe m n ⟨Z.1,Z.2.1⟩ ⟨Z.2.2.1,Z.2.2.2⟩ mem
   ·cases h
  ·cases h
 ·split at h
  ·rename_i m n X V
   split at h
   next Z=>cases h;rw[az X,az V];exact Q9 m n Z.1 ⟨Z.2.1,Z.2.2.1⟩ ⟨Z.2.2.2.1,Z.2.2.2.2⟩ mem
   ·cases h
  ·cases h
 ·have:=sn.fn _ _ mem ⟨v,none,[]⟩ (by unfold ag;simp only;rw[h])
  simpa [y9.mem] using this
theorem nQ(a b:Rat)(y:cB a)(H:cB b)(mem:Mem):
  kO prog 51 [.str (ax a),.str (ax b)] mem (.int .i64 (fL (a-b))) mem:=by
 have X:aS prog 51=some f51:=by kernel_rfl
 refine ao gb ?_ mem;obtain⟨V,U⟩:=y;obtain⟨S,b2⟩:=H;obtain⟨c,Z⟩:=xE (a-b);rw[←Z];simp[aa,X,f51,ag,eR,fy,fP,dQ,ay,V,U,S,b2,←Z]
theorem xq(h:(ax q).length≤9):cB q:=by have:=xk h;have Z:=aI (k:=9) (by omega) this.1;have X:=aI (k:=9) (by omega) this.2;exact⟨by omega,by omega⟩
theorem BM(n:Int)(d:Nat)(hd:d≠0)(y:n.natAbs<10 ^ 8)(hd2:d<10 ^ 8)(mem:Mem):kO prog 27 [.int .i64 n,.int .i64 d] mem (.str (ax (mkRat n d))) mem:=by
 have Z:aS prog 27=some f27:=by kernel_rfl
 have f1:dL n=true:=by unfold dL;simp only[Bool.and_eq_true,decide_eq_true_eq];omega
 have f2:dL (d:Int)=true:=by unfold dL;simp only[Bool.and_eq_true,decide_eq_true_eq];omega
 have S:=aI (k:=8) (by omega) y;have R:=aI (k:=8) (by omega) hd2;have X:bB (d:Int)=ai d:=rfl;have V:(ai n.natAbs).length≤10000:=by omega
 have U:(ai d).length≤10000:=by omega
 refine ao qd ?_ mem;simp[aa,Z,f27,ag,fP,dQ,fc,iD,gQ,bW,bV,f1,f2,X,aB,bk,hd,V,U]
theorem Rh(a b:Rat)(y:(ax a).length≤9)(H:(ax b).length≤9)(mem:Mem):
  kO prog 68 [.str (ax a),.str (ax b)] mem (.str (ax (a+b))) mem:=Fc a b (xq y) (xq H) mem
theorem Ri(a b:Rat)(y:(ax a).length≤9)(H:(ax b).length≤9)(mem:Mem):
  kO prog 36 [.str (ax a),.str (ax b)] mem (.str (ax (a*b))) mem:=ye a b (xq y) (xq H) mem
end Go.Proofs
