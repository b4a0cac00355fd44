/- See B54. -/
import Derived.Test.YtffdedmakncfmaaGreatDoorB23
set_option linter.all false
set_option maxRecDepth 100000
set_option maxHeartbeats 40000000
namespace Go.Proofs
open Go.Eng
open Tryz
theorem HD(s:List UInt8)(y:s.length≤1000000000)(mem:Mem):kO prog 78 [.str s] mem (match s.idxOf? 47 with | some i=>.tuple [.str (s.take i),.str (s.drop (i+1))] | none=>.tuple [.str s,.str [49]]) mem:=by
 have X:aT prog 78=some f78:=by kernel_rfl
 refine cH dO (lv:=fun _=>[]) (K:=1) rfl (by split<;>rfl) ?_ mem;have Z:=k8 s 47;cases hx:s.idxOf? 47 with
 |none=>
  rw[hx] at Z;simp only at Z;simp[aa,X,f78,af,ak,Z]
 |some i=>
  rw[hx] at Z;simp only at Z;have V:i<s.length:=by have:=(List.idxOf?_eq_some_iff.1 hx).1;exact this
  have U:¬(i:Int)<0:=by omega
  have S:(i:Int)≤(s.length:Int):=by omega
  have M :i≤s.length:=by omega
  have w1:IntKind.i64.wrap ((i:Int)+1)=((i+1:Nat):Int):=by rw[ae];omega
  obtain⟨j,R⟩:=xE (i+1);show _=some (y9.mk (.tuple [.str (s.take i),.str (s.drop (i+1))]) none [])
  rw[←R] at w1 ⊢;have Q:(j:Int)≤(s.length:Int):=by omega
  have O :j≤s.length:=by omega
  have N:(s.drop j).take (s.length-j)=s.drop j:=List.take_of_length_le (by simp);simp[aa,X,f78,af,ak,Z,U,S,w1,Q,N,Nat.testBit]
theorem Fp(q:Rat)(y:(aB q).length≤1000000000)(mem:Mem):kO prog 78 [.str (aB q)] mem (.tuple [.str (bB q.num),.str (ai q.den)]) mem:=by
 have h:=HD (aB q) y mem;by_cases Z:q.den=1
 ·have e:aB q=bB q.num:=by unfold aB;rw[if_pos Z]
  have X:(aB q).idxOf? 47=none:=by rw[e];exact EG (gQ _)
  rw[X] at h;have:ai q.den=[49]:=by rw[Z];rfl
  rw[this];rw[←e];exact h
 ·have e:aB q=bB q.num++47::ai q.den:=by unfold aB;rw[if_neg Z]
  have X:(aB q).idxOf? 47=some (bB q.num).length:=by rw[e];exact OR (gQ _)
  rw[X] at h;have V:List.drop ((bB q.num).length+1) (aB q)=ai q.den:=by rw[e,List.drop_append];simp
  have U:List.take (bB q.num).length (aB q)=bB q.num:=by rw[e];exact List.take_left' rfl
  simp only[V,U] at h;exact h
theorem PJ(q:Rat)(y:(aB q).length≤1000000000)(mem:Mem):kO prog 116 [.str (aB q)] mem (.str (aB (-q))) mem:=by
 have X:aT prog 116=some f116:=by kernel_rfl
 refine ao (ax _) ?_ mem;by_cases Z:q=0
 ·subst Z
  simp[aa,X,f116,aV]
 ·have O:¬q.num=0:=fun e=>Z (mu.1 e)
  by_cases S:q.num<0
  ·have e:=iz S
   have V:(45::aB (-q)==[48])=false:=by rw[←e,aV];simpa using Z
   rw[e];have h3:(1:Int)≤((aB (-q)).length:Int)+1:=by omega
   simp[aa,X,f116,V,h3]
  ·have e:=mz (q:=q) (by omega)
   obtain⟨c,r,U,R⟩:=kc (q:=q) (by omega);have V:(c::r==[48])=false:=by rw[←U,aV];simpa using Z
   have Q:=eG R;rw[e,U];rw[U] at y;simp only[List.length_cons] at y;have h3:1+(r.length+1)≤9223372036854775807:=by omega
   simp[aa,X,f116,V,Q,h3,eR]
theorem Mv(q:Rat)(mem:Mem):kO prog 52 [.str (aB q)] mem (.int .i64 (nQ q)) mem:=by
 have X:aT prog 52=some f52:=by kernel_rfl
 refine ao (ax _) ?_ mem;by_cases Z:q=0
 ·subst Z
  have:nQ 0=0:=rfl;simp[aa,X,f52,aV,this]
 ·have R:¬q.num=0:=fun e=>Z (mu.1 e)
  by_cases V:q.num<0
  ·have e:=iz V
   have U:(45::aB (-q)==[48])=false:=by rw[←e,aV];simpa using Z
   rw[e];simp[aa,X,f52,U,nQ,kg,V]
  ·obtain⟨c,r,S,Q⟩:=kc (q:=q) (by omega)
   have U:(c::r==[48])=false:=by rw[←S,aV];simpa using Z
   have O:=eG Q;rw[S];simp[aa,X,f52,U,O,nQ,kg,V,R]
variable{K:Nat}{O:ae3}{b:Code}
theorem DN(n m:Int)(I:m.natAbs<K)(H:ah f77=[b]):
  ∃F:Env→Bool→Env,∀Z d,(ab Z 5=.int .i64 n∧ab Z 6=.int .i64 m)→
   bh (ba prog) (fun _=>[5,6]) O K 36 0 true (.loop b) ⟨Z,[],d⟩=some (.exit 0,⟨F Z d,[],d⟩)∧(ab (F Z d) 5=.int .i64 (euc K n m)∧ab (F Z d) 0=ab Z 0∧ab (F Z d) 1=ab Z 1∧ab (F Z d) 4=ab Z 4):=by
 refine bj rfl (fun Z=>ab Z 5=.int .i64 n∧ab Z 6=.int .i64 m) (fun Z X =>ab X 5=.int .i64 (euc K n m)∧ab X 0=ab Z 0∧ab X 1=ab Z 1∧ab X 4=ab Z 4) ?_;rintro Z d ⟨h5,h6⟩;have S:ay [5,6] (ad b) Z ((5,.int .i64 n)::(6,.int .i64 m)::Z)=ay [5,6] (ad b) Z Z:=by simp[ay,h5,h6]
 rw[←S];have V:∀(k:Nat) (x y:Int),y.natAbs<k→∃X,gi [5,6] (ad b) Z 0 (bh (ba prog) (fun _=>[5,6]) O K 36 0 true b) k ⟨ay [5,6] (ad b) Z ((5,.int .i64 x)::(6,.int .i64 y)::Z),[],d⟩=
   some (.exit 0,⟨X,[],d⟩)∧ab X 5=.int .i64 (euc k x y)∧ab X 0=ab Z 0∧ab X 1=ab Z 1∧ab X 4=ab Z 4:=by
  clear S;simp[ah,aE,f77] at H;intro k;induction k with
  |zero=>intro x y h;omega
  |succ k ih=>
   intro x y L;by_cases U:y=0
   ·subst H
    subst U;simp[gi,euc]
   ·have Q:(x.tmod y).natAbs<k:=by rw[Int.natAbs_tmod];have:=Nat.mod_lt x.natAbs (show 0<y.natAbs by omega);omega
    obtain⟨X,R,N,M⟩:=ih y (x.tmod y) Q;subst H;refine⟨X,?_,by rw[N,euc,if_neg U],M⟩;rw[gi];simp[U];simp at R;exact R
 exact V K n m I
theorem Fo(n:Int)(m:Nat)(hn:n.natAbs≤4611686018427387904)(Yn:m≠0)(hm:m≤4611686018427387904)(mem:Mem):kO prog 77 [.int .i64 n,.int .i64 m] mem (.str (aB (mkRat n m))) mem:=by
 have o:aT prog 77=some f77:=by kernel_rfl
 refine cH dO (lv:=fun _=>[5,6]) (K:=m+1) rfl rfl ?_ mem;obtain⟨b,j⟩:∃b,ah f77=[b]:=⟨_,rfl⟩
 obtain⟨N,hN⟩:=xE (α:=Nat) n.natAbs;obtain⟨F,Y⟩:=DN (O:=af ak) (K:=m+1) (N:Int) (m:Int) (by simp) j;simp[ah,aE,f77] at j;subst j;rw[sP n Yn,←hN];have W:∀k (x y:Nat),0≤euc k (x:Int) (y:Int):=by
  intro k;induction k with
  |zero=>intro x y;unfold euc;omega
  |succ k ih=>
   intro x y;unfold euc;split
   ·omega
   ·rw[wP];exact ih y (x%y)
 have V:=sD (m+1) (N:Int) (m:Int) (by simp);have J:=W (m+1) N m;generalize euc (m+1) (N:Int) (m:Int)=gz at Y V J;rw[Int.natAbs_natCast,Int.natAbs_natCast] at V;obtain⟨g,rfl⟩:∃g:Nat,gz=g:=⟨gz.toNat,by omega⟩
 rw[Int.natAbs_natCast] at V;rw[←V];have I:0<g:=by rw[V];exact Nat.gcd_pos_of_pos_right _ (by omega)
 have H:g∣N:=by rw[V];exact Nat.gcd_dvd_left _ _
 have hgd:g∣m:=by rw[V];exact Nat.gcd_dvd_right _ _
 have hgm:g≤m:=Nat.le_of_dvd (by omega) hgd;have B:=yq (a:=n) I (.inr (by rw[←hN];exact Nat.mod_eq_zero_of_dvd H));have hq1:(n / (g:Int)).natAbs≤n.natAbs:=Int.natAbs_ediv_le_natAbs _ _;obtain⟨Z,hZ⟩:=xE (n / (g:Int));rw[←hZ] at hq1 B ⊢;obtain⟨D,U⟩:=xE (m / g);have hDm:D≤m:=by rw[U];exact Nat.div_le_self _ _
 rw[←U];have w0:IntKind.i64.wrap (-n)= -n:=ae;have S:(if n< -n then -n else n)=(N:Int):=by split<;>omega
 have aeQ :(if -n<n then n else -n)=(N:Int):=by split<;>omega
 have w1:IntKind.i64.wrap (n.tdiv (g:Int))=Z:=by rw[B.1];exact ae
 have R :IntKind.i64.wrap Z=Z:=ae;have w2:IntKind.i64.wrap ((m:Int).tdiv (g:Int))=(D:Int):=by rw[wO,←U];exact ae
 have Q :IntKind.i64.wrap ((m:Int) / (g:Int))=(D:Int):=by rw[←Int.natCast_ediv,←U];exact ae
 have YK:dF Z=true:=by unfold dF;simp;omega
 have hf2:dF (D:Int)=true:=by unfold dF;simp;omega
 have hDs:bB (D:Int)=ai D:=rfl;have M :¬g=0:=by omega
 have lZ:(bB Z).length+1≤eR∧(bB Z).length+1+(ai D).length≤eR:=by have h1:=cQ Z;have h2:=aG (u:=Z.natAbs) (k:=20) (by omega) (by omega);have h3:=aG (u:=D) (k:=20) (by omega) (by omega);unfold eR;omega
 obtain⟨l1,l2⟩:=lZ;by_cases Yu:m=1
 ·have L:g=1:=by omega
  have X:D=1:=by rw[U,Yu,L]
  have G:Z=n:=by rw[hZ,L];exact Int.ediv_one n
  have hfn:dF n=true:=by rw[←G];exact YK
  subst Yu;rw[if_pos X,G];simp[aa,o,f77,af,ak,hfn]
 ·have C:¬(m:Int)=1:=by omega
  by_cases X:D=1
  ·have ZK:(D:Int)=1:=by omega
   rw[if_pos X];simp[aa,o,f77,C,w0,S,Y,M,B,R,Q,ZK,af,ak,YK,Nat.testBit]
  ·have ZK:¬(D:Int)=1:=by omega
   rw[if_neg X];simp[aa,o,f77,C,w0,S,Y,M,B,R,Q,ZK,af,ak,YK,hf2,hDs,l1,l2,Nat.testBit]
theorem zJ(n m:Int)(I:m.natAbs<K)(H:ah f117=[b]):
  ∃F:Env→Bool→Env,∀Z d,(ab Z 9=.int .i64 n∧ab Z 10=.int .i64 m)→
   bh (ba prog) (fun _=>[9,10]) O K 55 0 true (.loop b) ⟨Z,[],d⟩=some (.exit 0,⟨F Z d,[],d⟩)∧(ab (F Z d) 9=.int .i64 (euc K n m)∧ab (F Z d) 5=ab Z 5∧ab (F Z d) 7=ab Z 7∧ab (F Z d) 4=ab Z 4):=by
 refine bj rfl (fun Z=>ab Z 9=.int .i64 n∧ab Z 10=.int .i64 m) (fun Z X =>ab X 9=.int .i64 (euc K n m)∧ab X 5=ab Z 5∧ab X 7=ab Z 7∧ab X 4=ab Z 4) ?_;rintro Z d ⟨h5,h6⟩;have S:ay [9,10] (ad b) Z ((9,.int .i64 n)::(10,.int .i64 m)::Z)=ay [9,10] (ad b) Z Z:=by simp[ay,h5,h6]
 rw[←S];have V:∀(k:Nat) (x y:Int),y.natAbs<k→∃X,gi [9,10] (ad b) Z 0 (bh (ba prog) (fun _=>[9,10]) O K 55 0 true b) k ⟨ay [9,10] (ad b) Z ((9,.int .i64 x)::(10,.int .i64 y)::Z),[],d⟩=
   some (.exit 0,⟨X,[],d⟩)∧ab X 9=.int .i64 (euc k x y)∧ab X 5=ab Z 5∧ab X 7=ab Z 7∧ab X 4=ab Z 4:=by
  clear S;simp[ah,aE,f117] at H;intro k;induction k with
  |zero=>intro x y h;omega
  |succ k ih=>
   intro x y L;by_cases U:y=0
   ·subst H
    subst U;simp[gi,euc]
   ·have Q:(x.tmod y).natAbs<k:=by rw[Int.natAbs_tmod];have:=Nat.mod_lt x.natAbs (show 0<y.natAbs by omega);omega
    obtain⟨X,R,N,M⟩:=ih y (x.tmod y) Q;subst H;refine⟨X,?_,by rw[N,euc,if_neg U],M⟩;rw[gi];simp[U];simp at R;exact R
 exact V K n m I
theorem QJ:∀(k x y:Nat),0≤euc k (x:Int) (y:Int):=by
 intro k;induction k with
 |zero=>intro x y;unfold euc;omega
 |succ k ih=>
  intro x y;unfold euc;split
  ·omega
  ·rw[wP];exact ih y (x%y)
theorem HE(n:Int)(m:Nat)(Yn:m≠0)(y:(bB n).length≤18)(H:(ai m).length≤18)(mem:Mem):kO prog 117 [.str (bB n),.str (ai m)] mem (.str (aB (mkRat n m))) mem:=by
 have J:aT prog 117=some f117:=by kernel_rfl
 have hn:=jA y;have hm:m<10 ^ 18:=by have h1:=bY m;have h2:10 ^ (ai m).length≤10 ^ 18:=Nat.pow_le_pow_right (by omega) H;omega
 refine cH dO (lv:=fun _=>[9,10]) (K:=m+1) rfl rfl ?_ mem;obtain⟨b,hb⟩:∃b,ah f117=[b]:=⟨_,rfl⟩
 obtain⟨N,hN⟩:=xE (α:=Nat) n.natAbs;rw[←hN] at hn;obtain⟨F,L⟩:=zJ (O:=af ak) (K:=m+1) (N:Int) (m:Int) (by simp) hb;simp[ah,aE,f117] at hb;subst hb;rw[sP n Yn,←hN];have G:=sD (m+1) (N:Int) (m:Int) (by simp);have hg0:=QJ (m+1) N m;generalize euc (m+1) (N:Int) (m:Int)=gz at L G hg0;rw[Int.natAbs_natCast,Int.natAbs_natCast] at G;obtain⟨g,rfl⟩:∃g:Nat,gz=g:=⟨gz.toNat,by omega⟩
 rw[Int.natAbs_natCast] at G;rw[←G];have hgp:0<g:=by rw[G];exact Nat.gcd_pos_of_pos_right _ (by omega)
 have hgn:g∣N:=by rw[G];exact Nat.gcd_dvd_left _ _
 have C:=yq (a:=n) hgp (.inr (by rw[←hN];exact Nat.mod_eq_zero_of_dvd hgn));have hq1:(n / (g:Int)).natAbs≤n.natAbs:=Int.natAbs_ediv_le_natAbs _ _;obtain⟨Z,hZ⟩:=xE (n / (g:Int));rw[←hZ] at hq1 C ⊢;obtain⟨D,I⟩:=xE (m / g);have hDm:D≤m:=by rw[I];exact Nat.div_le_self _ _
 rw[←I];have w1:IntKind.i64.wrap (n.tdiv (g:Int))=Z:=by rw[C.1];exact ae
 have V :IntKind.i64.wrap Z=Z:=ae;have w2:IntKind.i64.wrap ((m:Int).tdiv (g:Int))=(D:Int):=by rw[wO,←I];exact ae
 have U :IntKind.i64.wrap ((m:Int) / (g:Int))=(D:Int):=by rw[←Int.natCast_ediv,←I];exact ae
 have YK:dF Z=true:=by unfold dF;simp;omega
 have o:dF (D:Int)=true:=by unfold dF;simp;omega
 have j:bB (D:Int)=ai D:=rfl;have S :¬g=0:=by omega
 have lZ:(bB Z).length+1≤eR∧(bB Z).length+1+(ai D).length≤eR:=by have h1:=cQ Z;have h2:=aG (u:=Z.natAbs) (k:=20) (by omega) (by omega);have h3:=aG (u:=D) (k:=20) (by omega) (by omega);unfold eR;omega
 obtain⟨l1,l2⟩:=lZ;have R:Lib.atoi (ai m)=some (m:Int):=mZ (m:Int);have Q:¬(m:Int)<0:=by omega
 have w0:IntKind.i64.wrap (-n)= -n:=ae;have YO:n<0→ -n=(N:Int):=by omega
 have Y:¬n<0→n=(N:Int):=by omega
 by_cases B:n<0
 ·have W :IntKind.i64.wrap (-n)=(N:Int):=by rw[w0];exact YO B
  by_cases X:D=1
  ·have M:(D:Int)=1:=by omega
   rw[if_pos X];simp[aa,J,f117,af,ak,y,H,mZ,R,Q,B,W,L,S,C,V,U,M,YK,Nat.testBit]
  ·have M:¬(D:Int)=1:=by omega
   rw[if_neg X];simp[aa,J,f117,af,ak,y,H,mZ,R,Q,B,W,L,S,C,V,U,M,YK,o,j,l1,l2,Nat.testBit]
 ·have e:=Y B
  rw[←e] at L;by_cases X:D=1
  ·have M:(D:Int)=1:=by omega
   rw[if_pos X];simp[aa,J,f117,af,ak,y,H,mZ,R,Q,B, L,S,C,V,U,M,YK,Nat.testBit]
  ·have M:¬(D:Int)=1:=by omega
   rw[if_neg X];simp[aa,J,f117,af,ak,y,H,mZ,R,Q,B, L,S,C,V,U,M,YK,o,j,l1,l2,Nat.testBit]
noncomputable def dM(f:FuncId)(args:List AV):Option AV:=
 match f,args with
 |120,[.str s,.str t]=>match jj s,jj t with
  |some a,some b=>if (ai a.natAbs).length≤10000∧(ai b.natAbs).length≤10000 then some (.str (ai (a.natAbs.gcd b.natAbs))) else none
  |_,_=>none
 |117,[.str s,.str t]=>match jj s,wY t with
  |some n,some m=>if m≠0∧(bB n).length≤18∧(ai m).length≤18 then some (.str (aB (mkRat n m))) else none
  |_,_=>none
 |77,[.int .i64 n,.int .i64 d]=>if d.toNat≠0∧n.natAbs≤4611686018427387904∧0≤d∧d.toNat≤4611686018427387904 then some (.str (aB (mkRat n d.toNat))) else none
 |78,[.str s]=>match ef s with
  |some q=>if s.length≤1000000000 then some (.tuple [.str (bB q.num),.str (ai q.den)]) else none
  |none=>none
 |116,[.str s]=>match ef s with
  |some q=>if s.length≤1000000000 then some (.str (aB (-q))) else none
  |none=>none
 |52,[.str s]=>match ef s with
  |some q=>some (.int .i64 (nQ q))
  |none=>none
 |f,args=>eK f args
theorem Bx:qS prog (af dM):=bH fun f R v h mem=>by
 unfold dM at h;split at h
 ·split at h
  ·rename_i m n U S
   split at h
   next Z=>cases h;rw[bN U,bN S];exact PM m n Z.1 Z.2 mem
   ·cases h
  ·cases h
 ·split at h
  ·rename_i m n U S
   split at h
   next Z=>cases h;rw[bN U,fS S];exact HE m n Z.1 Z.2.1 Z.2.2 mem
   ·cases h
  ·cases h
 ·split at h
  ·rename_i Z
   obtain⟨Q,N,M,L⟩:=Z;cases h;have:=Fo _ _ N Q L mem;rw[Int.toNat_of_nonneg M] at this;exact this
  ·cases h
 ·split at h
  ·rename_i q X
   split at h
   next V=>cases h;rw[aC X] at V ⊢;exact Fp q V mem
   ·cases h
  ·cases h
 ·split at h
  ·rename_i q X
   split at h
   next V=>cases h;rw[aC X] at V ⊢;exact PJ q V mem
   ·cases h
  ·cases h
 ·split at h
  next q X=>cases h;rw[aC X];exact Mv q mem
  ·cases h
 ·have:=Bw.fn _ _ mem ⟨v,none,[]⟩ (by unfold af;simp only;rw[h])
  simpa [y9.mem] using this
theorem AY(n:Int)(d:Nat)(hd:d≠0)(y:(ai n.natAbs).length≤10000)(H:(ai d).length≤10000)(mem:Mem):
  kO prog 70 [.str (bB n),.str (ai d)] mem (.str (aB (mkRat n d))) mem:=by
 have Q:aT prog 70=some f70:=by kernel_rfl
 refine ao Bx ?_ mem;have J:=cQ n;by_cases I:(bB n).length≤9∧(ai d).length≤9
 ·have o:((bB n).length:Int)≤9:=by omega
  have j:((ai d).length:Int)≤9:=by omega
  have q3:(bB n).length≤18:=by omega
  have q4:(ai d).length≤18:=by omega
  simp[aa,Q,f70,o,j,af,dM,aA,bk,hd,q3,q4]
 ·rw[sP n hd]
  have B:=G2 hd;have X:0<n.natAbs.gcd d:=Nat.gcd_pos_of_pos_right _ (by omega);have N:n.natAbs.gcd d∣n.natAbs:=Nat.gcd_dvd_left _ _;have Y:n.natAbs.gcd d∣d:=Nat.gcd_dvd_right _ _;have W:n.natAbs.gcd d≤d:=Nat.le_of_dvd (by omega) Y;obtain⟨g,M⟩:=xE (n.natAbs.gcd d);rw[←M] at X N Y W ⊢;have S:(ai g).length≤10000:=by have:=bw W;omega
  have u:n.natAbs%g=0:=Nat.mod_eq_zero_of_dvd N;have V:bB ((d:Int) / (g:Int))=ai (d / g):=by rw[←Int.natCast_ediv];rfl
  obtain⟨Z,R⟩:=xE (n / (g:Int));obtain⟨D,m⟩:=xE (d / g);rw[←m] at V;rw[←R,←m];have hq1:(ai Z.natAbs).length≤10000:=by have:=bw (Int.natAbs_ediv_le_natAbs n g);rw[←R] at this;omega
  have hq2:(ai D).length≤10000:=by have:=bw (Nat.div_le_self d g);rw[←m] at this;omega
  have hl4:=cQ Z;have L:(bB Z).length+1≤eR:=by unfold eR;omega
  have G:(bB Z).length+1+(ai D).length≤eR:=by unfold eR;omega
  by_cases o:(bB n).length≤9
  ·have j:¬(ai d).length≤9:=fun e=>I ⟨o,e⟩
   have U:((bB n).length:Int)≤9:=by omega
   have F:¬((ai d).length:Int)≤9:=by omega
   by_cases C:D=1
   ·simp[aa,Q,f70,U,F,af,dM,eK,ib,gu,bS,bP,cm,bk,aA,B,y,H,←M,S,X,u,←R,V,fF,C]
   ·simp[aa,Q,f70,U,F,af,dM,eK,ib,gu,bS,bP,cm,bk,aA,B,y,H,←M,S,X,u,←R,V,fF,C,L,G]
  ·have U:¬((bB n).length:Int)≤9:=by omega
   by_cases C:D=1
   ·simp[aa,Q,f70,U,af,dM,eK,ib,gu,bS,bP,cm,bk,aA,B,y,H,←M,S,X,u,←R,V,fF,C]
   ·simp[aa,Q,f70,U,af,dM,eK,ib,gu,bS,bP,cm,bk,aA,B,y,H,←M,S,X,u,←R,V,fF,C,L,G]
theorem zh{y:List UInt8}(hd:y.all isD=true)(H:y.length≤9)(j:Nat):ej (y.take j)<10 ^ 9:=by
 have X:=Dc (o8 hd j);have Z:(y.take j).length≤9:=by rw[List.length_take];omega
 have h3:10 ^ (y.take j).length≤10 ^ 9:=Nat.pow_le_pow_right (by omega) Z;omega
def jN(c:Code):List Nat:=if (ad c).contains 24 then [2,5] else [3,5]
variable{b2:Code}
theorem zz(s y rest:List UInt8)(H:Nat)(hs:s.length≤9)(UV:H≤s.length)(hd:s.drop H=y++rest)(Yc:rest=[]∨∃r,rest=47::r)(J:y.all isD=true)(hK:10<K)(I:ah f76=[b,b2]):
  ∃F:Env→Bool→Env,∀Z d,(ab Z 0=.str s∧ab Z 2=.int .i64 0∧ab Z 5=.int .i64 (H:Int))→
   bh (ba prog) jN O K 57 0 true (.loop b) ⟨Z,[],d⟩=some (.exit 0,⟨F Z d,[],d⟩)∧(ab (F Z d) 2=.int .i64 ((ej y:Nat):Int)∧ab (F Z d) 5=.int .i64 ((H+y.length:Nat):Int)∧ab (F Z d) 0=ab Z 0∧ab (F Z d) 3=ab Z 3∧ab (F Z d) 6=ab Z 6):=by
 have Yg:jN b=[2,5]:=by simp[ah,aE,f76] at I;obtain⟨rfl,rfl⟩:=I;decide
 have m:H+y.length+rest.length=s.length:=by have:=congrArg List.length hd;simp at this;omega
 refine bj Yg (fun Z=>ab Z 0=.str s∧ab Z 2=.int .i64 0∧ab Z 5=.int .i64 (H:Int)) (fun Z S =>ab S 2=.int .i64 ((ej y:Nat):Int)∧ab S 5=.int .i64 ((H+y.length:Nat):Int)∧ab S 0=ab Z 0∧ab S 3=ab Z 3∧ab S 6=ab Z 6) ?_;rintro Z d ⟨h0,h2,h5⟩;have Y:ej (y.take 0)=0:=by rw[List.take_zero];unfold ej;rw[dw]
 have W:ay [2,5] (ad b) Z ((2,.int .i64 ((ej (y.take 0):Nat):Int))::(5,.int .i64 ((H+0:Nat):Int))::Z)=ay [2,5] (ad b) Z Z:=by rw[Y];simp[ay,h2,h5]
 rw[←W];refine bx (α:=Nat) (fun j=>⟨ay [2,5] (ad b) Z ((2,.int .i64 ((ej (y.take j):Nat):Int))::(5,.int .i64 ((H+j:Nat):Int))::Z),[],d⟩)
  (fun j=>y.length-j) (fun j=>j≤y.length) (.exit 0) _ d _ (by simp) ?_ K 0 (Nat.zero_le _) (by simp only[Nat.sub_zero];omega)
 intro j hj;clear W Y;simp[ah,aE,f76] at I;obtain⟨i,L⟩:=xE (H+j);have X:s[i]? =(y++rest)[j]? :=by rw[←hd,List.getElem?_drop,L]
 by_cases Z5:j=y.length
 ·right
  subst Z5;rw[List.take_length,←L];rw[List.getElem?_append_right (Nat.le_refl _),Nat.sub_self] at X;obtain⟨rfl,rfl⟩:=I;rcases Yc with h | ⟨r,h⟩
  ·subst h
   have V:i=s.length:=by simp at m;omega
   have h1:¬i<s.length:=by omega
   have G:¬(i:Int)<(s.length:Int):=by omega
   simp[h0,G]
  ·subst h
   have V:i<s.length:=by simp at m;omega
   have U:(i:Int)<(s.length:Int):=by omega
   have R:s[i]? =some 47:=by simpa using X
   have D :s[i]=47:=(List.getElem?_eq_some_iff.1 R).2;simp[h0,V,U,D]
 ·left
  have C:j<y.length:=by omega
  obtain⟨c,R⟩:∃c,y[j]? =some c:=⟨y[j],by simp[C]⟩
  rw[List.getElem?_append_left C,R] at X;have V:i<s.length:=gL X;have U:(i:Int)<(s.length:Int):=by omega
  have B :s[i]=c:=(List.getElem?_eq_some_iff.1 X).2;have M:=List.all_eq_true.1 J c (List.mem_of_getElem? R);have ZS:=tw M;have ack:48≤c.toNat∧c.toNat≤57:=by unfold isD at M;simp only[Bool.and_eq_true,decide_eq_true_eq] at M;exact M
  have u:¬((c.toNat:Int)=47):=by omega
  have YG:y.take (j+1)=y.take j++[c]:=by rw[List.take_add_one,R];rfl
  have Q:ej (y.take (j+1))=10*ej (y.take j)+(c.toNat-48):=by rw[YG,nT]
  have o:=zh J (by omega) j;obtain⟨v,N⟩:=xE (ej (y.take j));obtain⟨v2,ZJ⟩:=xE (ej (y.take (j+1)));rw[←N] at o Q;rw[←ZJ] at Q;obtain⟨k,hk⟩:=xE (α:=Nat) (c.toNat-48);have w0:IntKind.u8.wrap ((c.toNat:Int)-48)=(k:Int):=by rw[G9 (by omega) (by omega)];omega
  have w1:IntKind.i64.wrap (k:Int)=(k:Int):=ae;have w2:IntKind.i64.wrap (10*(v:Int))=10*(v:Int):=ae;have w3:IntKind.i64.wrap (10*(v:Int)+(k:Int))=(v2:Int):=by rw[ae];omega
  have w4:IntKind.i64.wrap ((i:Int)+1)=((H+(j+1):Nat):Int):=by rw[ae];omega
  rw[←L];refine⟨j+1,?_⟩;refine bt (show j+1≤y.length∧_ from⟨C,by omega⟩) ?_;obtain⟨rfl,rfl⟩:=I;simp[h0,V,U,B,u,←N,←ZJ,w0,w1,w2,w3,w4];try omega
theorem zB(s y:List UInt8)(H:Nat)(hs:s.length≤9)(UV:H≤s.length)(hd:s.drop H=y)(J:y.all isD=true)(hK:10<K)(I:ah f76=[b,b2]):
  ∃F:Env→Bool→Env,∀Z d,(ab Z 0=.str s∧ab Z 3=.int .i64 0∧ab Z 5=.int .i64 (H:Int))→
   bh (ba prog) jN O K 57 0 true (.loop b2) ⟨Z,[],d⟩=some (.exit 2,⟨F Z d,[],d⟩)∧(ab (F Z d) 3=.int .i64 ((ej y:Nat):Int)∧ab (F Z d) 2=ab Z 2∧ab (F Z d) 6=ab Z 6):=by
 have m:jN b2=[3,5]:=by simp[ah,aE,f76] at I;obtain⟨rfl,rfl⟩:=I;decide
 have D':H+y.length=s.length:=by have:=congrArg List.length hd;simp at this;omega
 refine bj m (fun Z=>ab Z 0=.str s∧ab Z 3=.int .i64 0∧ab Z 5=.int .i64 (H:Int)) (fun Z R =>ab R 3=.int .i64 ((ej y:Nat):Int)∧ab R 2=ab Z 2∧ab R 6=ab Z 6) ?_;rintro Z d ⟨h0,h2,h5⟩;have C:ej (y.take 0)=0:=by rw[List.take_zero];unfold ej;rw[dw]
 have B:ay [3,5] (ad b2) Z ((3,.int .i64 ((ej (y.take 0):Nat):Int))::(5,.int .i64 ((H+0:Nat):Int))::Z)=ay [3,5] (ad b2) Z Z:=by rw[C];simp[ay,h2,h5]
 rw[←B];refine bx (α:=Nat) (fun j=>⟨ay [3,5] (ad b2) Z ((3,.int .i64 ((ej (y.take j):Nat):Int))::(5,.int .i64 ((H+j:Nat):Int))::Z),[],d⟩)
  (fun j=>y.length-j) (fun j=>j≤y.length) (.exit 2) _ d _ (by simp) ?_ K 0 (Nat.zero_le _) (by simp only[Nat.sub_zero];omega)
 intro j hj;clear B C;simp[ah,aE,f76] at I;obtain⟨i,Q⟩:=xE (H+j);have X:s[i]? =y[j]? :=by rw[←hd,List.getElem?_drop,Q]
 by_cases Y:j=y.length
 ·right
  subst Y;rw[List.take_length,←Q];obtain⟨rfl,rfl⟩:=I;have W:¬i<s.length:=by omega
  have h1I:¬(i:Int)<(s.length:Int):=by omega
  simp[h0,W]
 ·left
  have u:j<y.length:=by omega
  obtain⟨c,N⟩:∃c,y[j]? =some c:=⟨y[j],by simp[u]⟩
  rw[N] at X;have M:i<s.length:=gL X;have L:(i:Int)<(s.length:Int):=by omega
  have G :s[i]=c:=(List.getElem?_eq_some_iff.1 X).2;have S:=List.all_eq_true.1 J c (List.mem_of_getElem? N);have ZS:=tw S;have ack:48≤c.toNat∧c.toNat≤57:=by unfold isD at S;simp only[Bool.and_eq_true,decide_eq_true_eq] at S;exact S
  have YG:y.take (j+1)=y.take j++[c]:=by rw[List.take_add_one,N];rfl
  have V:ej (y.take (j+1))=10*ej (y.take j)+(c.toNat-48):=by rw[YG,nT]
  have D:=zh J (by omega) j;obtain⟨v,U⟩:=xE (ej (y.take j));obtain⟨v2,o⟩:=xE (ej (y.take (j+1)));rw[←U] at D V;rw[←o] at V;obtain⟨k,hk⟩:=xE (α:=Nat) (c.toNat-48);have w0:IntKind.u8.wrap ((c.toNat:Int)-48)=(k:Int):=by rw[G9 (by omega) (by omega)];omega
  have w1:IntKind.i64.wrap (k:Int)=(k:Int):=ae;have w2:IntKind.i64.wrap (10*(v:Int))=10*(v:Int):=ae;have w3:IntKind.i64.wrap (10*(v:Int)+(k:Int))=(v2:Int):=by rw[ae];omega
  have w4:IntKind.i64.wrap ((i:Int)+1)=((H+(j+1):Nat):Int):=by rw[ae];omega
  rw[←Q];refine⟨j+1,?_⟩;refine bt (show j+1≤y.length∧_ from⟨u,by omega⟩) ?_;obtain⟨rfl,rfl⟩:=I;simp[h0,M,L,G,←U,←o,w0,w1,w2,w3,w4];try omega
theorem HC(q:Rat)(mem:Mem):kO prog 76 [.str (aB q)] mem (if (aB q).length≤9 then .tuple [.int .i64 q.num,.int .i64 q.den,.bool true] else .tuple [.int .i64 0,.int .i64 0,.bool false]) mem:=by
 have m:aT prog 76=some f76:=by kernel_rfl
 refine cH (ax _) (lv:=jN) (K:=11) rfl (by split<;>rfl) ?_ mem;by_cases j:(aB q).length≤9
 ·rw[if_pos j]
  have U:¬(9<((aB q).length:Int)):=by omega
  obtain⟨b,b2,o⟩:∃b b2,ah f76=[b,b2]:=⟨_,_,rfl⟩
  obtain⟨X,V,S⟩:=yg q;obtain⟨s,hs⟩:=xE (aB q);rw[←hs] at j U V ⊢;obtain⟨N,hN⟩:=xE q.num.natAbs;rw[←hN] at V;have D:=dn N;have hvN:=du N;have hpN:=po N;have Y:=ja N;have Yc:X=[]∨∃r,X=47::r:=by rw[S];split<;>simp
  obtain⟨W,M⟩:=xE (α:=Nat) (if q.num<0 then 1 else 0);have Yx:(if q.num<0 then [(45:UInt8)] else []).length=W:=by rw[M];split<;>rfl
  have J:s.drop W=ai N++X:=by rw[V,←Yx,List.drop_left]
  have D':s.length=W+(ai N).length+X.length:=by rw[V,List.length_append,Yx,List.length_append];omega
  obtain⟨F,Q⟩:=zz (O:=cN) (K:=11) s (ai N) X W j (by omega) J Yc D (by omega) o;rw[hvN] at Q;obtain⟨Z,I⟩:=xE (W+(ai N).length);rw[←I] at Q D';have ae2:N<10 ^ 9:=by have h1:=bY N;have h2:10 ^ (ai N).length≤10 ^ 9:=Nat.pow_le_pow_right (by omega) (by omega);omega
  have wn:IntKind.i64.wrap (-(N:Int))= -(N:Int):=ae;have wp:IntKind.i64.wrap (N:Int)=(N:Int):=ae;by_cases L:q.den=1
  ·rw[if_pos L] at S
   subst S;have C:¬Z<s.length:=by simp at D';omega
   simp[ah,aE,f76] at o;obtain⟨rfl,rfl⟩:=o;by_cases G:q.num<0
   ·rw[if_pos G] at M
    subst M;have R:s[0]? =some 45:=by rw[V,if_pos G];rfl
    have e: -(N:Int)=q.num:=by omega
    have B :IntKind.i64.wrap (-(N:Int))=q.num:=by rw[wn,e]
    simp only[Int.natCast_one] at Q;simp[aa,m,f76,U,R,Q,C,B,L]
   ·rw[if_neg G] at M
    subst M;have R:∃c,s[0]? =some c∧isD c=true:=by
     rw[V,if_neg G];cases hx:ai N with
     |nil=>exact absurd hx Y
     |cons c r=>
      rw[hx] at D;simp only[List.all_cons,Bool.and_eq_true] at D;exact⟨c,by simp,D.1⟩
    obtain⟨c,R,ZP⟩:=R;have ZF:=eG ZP;have e:(N:Int)=q.num:=by omega
    have u :IntKind.i64.wrap (N:Int)=q.num:=by rw[wp,e]
    simp only[Int.natCast_zero] at Q;simp[aa,m,f76,U,R,ZF,Q,C,u,L]
  ·rw[if_neg L] at S
   subst S;have C:Z<s.length:=by simp at D';omega
   have H:(Z:Int)<(s.length:Int):=by omega
   have abR:s.drop (Z+1)=ai q.den:=by
    have h1:s.drop Z=47::ai q.den:=by rw[I,←List.drop_drop,J,List.drop_left]
    rw[←List.drop_drop,h1];rfl
   obtain⟨F2,y⟩:=zB (O:=cN) (K:=11) s (ai q.den) (Z+1) j (by omega) abR (dn _) (by omega) o;rw[du] at y;have w1:IntKind.i64.wrap ((Z:Int)+1)=((Z+1:Nat):Int):=by rw[ae];omega
   obtain⟨at2,aec⟩:=xE (Z+1);rw[←aec] at w1 y;simp[ah,aE,f76] at o;obtain⟨rfl,rfl⟩:=o;by_cases G:q.num<0
   ·rw[if_pos G] at M
    subst M;have R:s[0]? =some 45:=by rw[V,if_pos G];rfl
    have e: -(N:Int)=q.num:=by omega
    have B :IntKind.i64.wrap (-(N:Int))=q.num:=by rw[wn,e]
    simp only[Int.natCast_one] at Q;simp[aa,m,f76,U,R,Q,H,w1,y,B]
   ·rw[if_neg G] at M
    subst M;have R:∃c,s[0]? =some c∧isD c=true:=by
     rw[V,if_neg G];cases hx:ai N with
     |nil=>exact absurd hx Y
     |cons c r=>
      rw[hx] at D;simp only[List.all_cons,Bool.and_eq_true] at D;exact⟨c,by simp,D.1⟩
    obtain⟨c,R,ZP⟩:=R;have ZF:=eG ZP;have e:(N:Int)=q.num:=by omega
    have u :IntKind.i64.wrap (N:Int)=q.num:=by rw[wp,e]
    simp only[Int.natCast_zero] at Q;simp[aa,m,f76,U,R,ZF,Q,H,w1,y,u]
 ·rw[if_neg j]
  have U:(9<((aB q).length:Int)):=by omega
  simp[aa,m,f76,U]
noncomputable def ft(f:FuncId)(args:List AV):Option AV:=
 match f,args with
 |76,[.str s]=>match ef s with
  |some q=>some (if (aB q).length≤9 then .tuple [.int .i64 q.num,.int .i64 q.den,.bool true] else .tuple [.int .i64 0,.int .i64 0,.bool false])
  |none=>none
 |70,[.str s,.str t]=>match jj s,wY t with
  |some n,some d=>if d≠0∧(ai n.natAbs).length≤10000∧(ai d).length≤10000 then some (.str (aB (mkRat n d))) else none
  |_,_=>none
 |f,args=>dM f args
theorem oQ:qS prog (af ft):=bH fun f X v h mem=>by
 unfold ft at h;split at h
 ·split at h
  next q V=>cases h;rw[aC V];exact HC q mem
  ·cases h
 ·split at h
  ·rename_i m n U S
   split at h
   next Z=>cases h;rw[bN U,fS S];exact AY m n Z.1 Z.2.1 Z.2.2 mem
   ·cases h
  ·cases h
 ·have:=Bx.fn _ _ mem ⟨v,none,[]⟩ (by unfold af;simp only;rw[h])
  simpa [y9.mem] using this
def ga(q:Rat):Prop:=(ai q.num.natAbs).length≤2000∧(ai q.den).length≤2000
variable{q:Rat}
theorem kE(h:ga q):iK q:=⟨by have:=h.1;omega,by have:=h.2;omega⟩
theorem vZ(h:(aB q).length≤9):q.num.natAbs<10 ^ 9∧q.den<10 ^ 9:=Gs h
theorem Eo(a b:Rat)(y:ga a)(H:ga b)(mem:Mem):
  kO prog 68 [.str (aB a),.str (aB b)] mem (.str (aB (a+b))) mem:=by
 have M:aT prog 68=some f68:=by kernel_rfl
 refine ao oQ ?_ mem;have L:=fJ (kE y);have G:=fJ (kE H);have Z:a.den*b.den≠0:=Nat.mul_ne_zero a.den_nz b.den_nz;have F:=Rat.add_def' a b;obtain⟨X,V⟩:=xE (a.num*(b.den:Int));obtain⟨Y,U⟩:=xE (b.num*(a.den:Int));obtain⟨D,S⟩:=xE (a.den*b.den);rw[←V,←U,←S] at F;rw[←S] at Z;rw[F];by_cases C:(aB a).length≤9∧(aB b).length≤9
 ·obtain⟨R,N⟩:=C
  obtain⟨a1,B⟩:=vZ R;obtain⟨b1,b2⟩:=vZ N;have u:X.natAbs<10 ^ 9*10 ^ 9:=by rw[V];exact fb a1 (by simpa using b2)
  have o:Y.natAbs<10 ^ 9*10 ^ 9:=by rw[U];exact fb b1 (by simpa using B)
  have d1:D<10 ^ 9*10 ^ 9:=by rw[S];exact Nat.mul_lt_mul'' B b2
  have w1:IntKind.i64.wrap (a.num*(b.den:Int))=X:=by rw[←V];exact ae
  have w2:IntKind.i64.wrap (b.num*(a.den:Int))=Y:=by rw[←U];exact ae
  have w3:IntKind.i64.wrap (X+Y)=X+Y:=ae;have w4:IntKind.i64.wrap ((a.den:Int)*(b.den:Int))=(D:Int):=by rw[←Int.natCast_mul,←S];exact ae
  have c1:(X+Y).natAbs≤4611686018427387904:=by omega
  have c2:D≤4611686018427387904:=by omega
  simp[aa,M,f68,af,ft,dM,az,R,N,w1,w2,w3,w4,Z,c1,c2]
 ·have m:(ai a.num.natAbs).length≤5000:=by have:=y.1;omega
  have j:(ai a.den).length≤5000:=by have:=y.2;omega
  have W:(ai b.num.natAbs).length≤5000:=by have:=H.1;omega
  have J:(ai b.den).length≤5000:=by have:=H.2;omega
  have u:(ai X.natAbs).length≤4000:=by rw[V,Int.natAbs_mul,Int.natAbs_natCast];exact dj y.1 H.2
  have o:(ai Y.natAbs).length≤4000:=by rw[U,Int.natAbs_mul,Int.natAbs_natCast];exact dj H.1 y.2
  have I:(ai X.natAbs).length≤10000:=by omega
  have s6:(ai Y.natAbs).length≤10000:=by omega
  have s7:(ai (X+Y).natAbs).length≤10000:=by have h1:=iX u o;have h2:=bw (Int.natAbs_add_le X Y);omega
  have s8:(ai D).length≤10000:=by
   have:(ai D).length≤4000:=by rw[S];exact dj y.2 H.2
   omega
  have Q:bB ((a.den:Int)*(b.den:Int))=ai D:=by rw[←Int.natCast_mul,←S];rfl
  by_cases R:(aB a).length≤9
  ·have N:¬(aB b).length≤9:=fun h=>C ⟨R,h⟩
   simp[aa,M,f68,af,ft,dM,eK,ib,gu,az,aA,cm,bk,L,G,R,N,m,j,W,J,←V,←U,I,s6,s7,s8,Q,Z]
  ·simp[aa,M,f68,af,ft,dM,eK,ib,gu,az,aA,cm,bk,L,G,R,m,j,W,J,←V,←U,I,s6,s7,s8,Q,Z]
theorem xf(a b:Rat)(y:ga a)(H:ga b)(mem:Mem):
  kO prog 36 [.str (aB a),.str (aB b)] mem (.str (aB (a*b))) mem:=by
 have N:aT prog 36=some f36:=by kernel_rfl
 refine ao oQ ?_ mem;have M:=fJ (kE y);have L:=fJ (kE H);have Z:a.den*b.den≠0:=Nat.mul_ne_zero a.den_nz b.den_nz;have G:=Rat.mul_def' a b;obtain⟨X,V⟩:=xE (a.num*b.num);obtain⟨D,U⟩:=xE (a.den*b.den);rw[←V,←U] at G;rw[←U] at Z;rw[G];by_cases F:(aB a).length≤9∧(aB b).length≤9
 ·obtain⟨S,Q⟩:=F
  obtain⟨Y,W⟩:=vZ S;obtain⟨J,b2⟩:=vZ Q;have I:X.natAbs<10 ^ 9*10 ^ 9:=by rw[V];exact fb Y J
  have d1:D<10 ^ 9*10 ^ 9:=by rw[U];exact Nat.mul_lt_mul'' W b2
  have w1:IntKind.i64.wrap (a.num*b.num)=X:=by rw[←V];exact ae
  have w4:IntKind.i64.wrap ((a.den:Int)*(b.den:Int))=(D:Int):=by rw[←Int.natCast_mul,←U];exact ae
  have c1:X.natAbs≤4611686018427387904:=by omega
  have c2:D≤4611686018427387904:=by omega
  simp[aa,N,f36,af,ft,dM,az,S,Q,w1,w4,Z,c1,c2]
 ·have C:(ai a.num.natAbs).length≤5000:=by have:=y.1;omega
  have B:(ai a.den).length≤5000:=by have:=y.2;omega
  have u:(ai b.num.natAbs).length≤5000:=by have:=H.1;omega
  have o:(ai b.den).length≤5000:=by have:=H.2;omega
  have I:(ai X.natAbs).length≤4000:=by rw[V,Int.natAbs_mul];exact dj y.1 H.1
  have m:(ai X.natAbs).length≤10000:=by omega
  have j:(ai D).length≤10000:=by
   have:(ai D).length≤4000:=by rw[U];exact dj y.2 H.2
   omega
  have R:bB ((a.den:Int)*(b.den:Int))=ai D:=by rw[←Int.natCast_mul,←U];rfl
  by_cases S:(aB a).length≤9
  ·have Q:¬(aB b).length≤9:=fun h=>F ⟨S,h⟩
   simp[aa,N,f36,af,ft,dM,eK,az,aA,cm,bk,M,L,S,Q,C,B,u,o,←V,m,j,R,Z]
  ·simp[aa,N,f36,af,ft,dM,eK,az,aA,cm,bk,M,L,S,C,B,u,o,←V,m,j,R,Z]
noncomputable def fV(f:FuncId)(args:List AV):Option AV:=
 match f,args with
 |68,[.str s,.str t]=>match ef s,ef t with
  |some a,some b=>if (ai a.num.natAbs).length≤2000∧(ai a.den).length≤2000∧(ai b.num.natAbs).length≤2000∧(ai b.den).length≤2000 then some (.str (aB (a+b))) else none
  |_,_=>none
 |36,[.str s,.str t]=>match ef s,ef t with
  |some a,some b=>if (ai a.num.natAbs).length≤2000∧(ai a.den).length≤2000∧(ai b.num.natAbs).length≤2000∧(ai b.den).length≤2000 then some (.str (aB (a*b))) else none
  |_,_=>none
 |f,args=>ft f args
theorem qZ:qS prog (af fV):=bH fun f U v h mem=>by
 unfold fV at h;split at h
 ·split at h
  ·rename_i m n X V
   split at h
   next Z=>cases h;rw[aC X,aC V];exact Eo m n ⟨Z.1,Z.2.1⟩ ⟨Z.2.2.1,Z.2.2.2⟩ mem
   ·cases h
  ·cases h
 ·split at h
  ·rename_i m n X V
   split at h
   next Z=>cases h;rw[aC X,aC V];exact xf m n ⟨Z.1,Z.2.1⟩ ⟨Z.2.2.1,Z.2.2.2⟩ mem
   ·cases h
  ·cases h
 ·have:=oQ.fn _ _ mem ⟨v,none,[]⟩ (by unfold af;simp only;rw[h])
  simpa [y9.mem] using this
theorem Ep(a b:Rat)(H:ga a)(y:ga b)(mem:Mem):
  kO prog 81 [.str (aB a),.str (aB b)] mem (.str (aB (a-b))) mem:=by
 have Z:aT prog 81=some f81:=by kernel_rfl
 refine ao qZ ?_ mem;have X:=fJ (kE y);obtain⟨V,U⟩:=H;obtain⟨S,b2⟩:=y;have e:a+ -b=a-b:=(Rat.sub_eq_add_neg a b).symm;simp[aa,Z,f81,af,fV,ft,dM,az,X,V,U,S,b2,e]
theorem PI(a b:Rat)(H:0<b.num)(I:ga a)(y:ga b)(mem:Mem):
  kO prog 80 [.str (aB a),.str (aB b)] mem (.str (aB (a / b))) mem:=by
 have L:aT prog 80=some f80:=by kernel_rfl
 refine ao qZ ?_ mem;have G:=fJ (kE y);obtain⟨F,D⟩:=I;obtain⟨S,b2⟩:=y;have e:a*b⁻¹=a / b:=(Rat.div_def a b).symm;obtain⟨R,Z⟩:=uF H;have X:=Rat.mkRat_self b⁻¹;obtain⟨m,Q⟩:=xE b.num.natAbs;have C:m≠0:=by omega
 have V:bB b.num=ai m:=by rw[fL (by omega),Q]
 rw[←Q] at S Z;rw[R,Z] at X;have N:(ai b⁻¹.num.natAbs).length≤2000:=by rw[R,Int.natAbs_natCast];exact b2
 have M:(ai b⁻¹.den).length≤2000:=by rw[Z];exact S
 obtain⟨w,U⟩:=xE (b⁻¹);rw[←U] at N M X e;have B:(ai m).length≤10000:=by omega
 have u:(ai b.den).length≤10000:=by omega
 simp[aa,L,f80,af,fV,ft,dM,az,bk,cm,G,V,C,B,u,X,F,D,N,M,e]
noncomputable def iD(f:FuncId)(args:List AV):Option AV:=
 match f,args with
 |81,[.str s,.str t]=>match ef s,ef t with
  |some a,some b=>if (ai a.num.natAbs).length≤2000∧(ai a.den).length≤2000∧(ai b.num.natAbs).length≤2000∧(ai b.den).length≤2000 then some (.str (aB (a-b))) else none
  |_,_=>none
 |80,[.str s,.str t]=>match ef s,ef t with
  |some a,some b=>if 0<b.num∧(ai a.num.natAbs).length≤2000∧(ai a.den).length≤2000∧(ai b.num.natAbs).length≤2000∧(ai b.den).length≤2000 then some (.str (aB (a / b))) else none
  |_,_=>none
 |f,args=>fV f args
theorem jS:qS prog (af iD):=bH fun f U v h mem=>by
 unfold iD at h;split at h
 ·split at h
  ·rename_i m n X V
   split at h
   next Z=>cases h;rw[aC X,aC V];exact Ep m n ⟨Z.1,Z.2.1⟩ ⟨Z.2.2.1,Z.2.2.2⟩ mem
   ·cases h
  ·cases h
 ·split at h
  ·rename_i m n X V
   split at h
   next Z=>cases h;rw[aC X,aC V];exact PI m n Z.1 ⟨Z.2.1,Z.2.2.1⟩ ⟨Z.2.2.2.1,Z.2.2.2.2⟩ mem
   ·cases h
  ·cases h
 ·have:=qZ.fn _ _ mem ⟨v,none,[]⟩ (by unfold af;simp only;rw[h])
  simpa [y9.mem] using this
theorem Ds(a b:Rat)(y:ga a)(H:ga b)(mem:Mem):
  kO prog 51 [.str (aB a),.str (aB b)] mem (.int .i64 (nQ (a-b))) mem:=by
 have X:aT prog 51=some f51:=by kernel_rfl
 refine ao jS ?_ mem;obtain⟨V,U⟩:=y;obtain⟨S,b2⟩:=H;obtain⟨c,Z⟩:=xE (a-b);rw[←Z];simp[aa,X,f51,af,iD,fV,ft,dM,az,V,U,S,b2,←Z]
theorem wj(h:(aB q).length≤9):ga q:=by have:=vZ h;have Z:=aG (k:=9) (by omega) this.1;have X:=aG (k:=9) (by omega) this.2;exact⟨by omega,by omega⟩
theorem A4(n:Int)(d:Nat)(hd:d≠0)(y:n.natAbs<10 ^ 8)(hd2:d<10 ^ 8)(mem:Mem):kO prog 27 [.int .i64 n,.int .i64 d] mem (.str (aB (mkRat n d))) mem:=by
 have Z:aT prog 27=some f27:=by kernel_rfl
 have f1:dF n=true:=by unfold dF;simp only[Bool.and_eq_true,decide_eq_true_eq];omega
 have f2:dF (d:Int)=true:=by unfold dF;simp only[Bool.and_eq_true,decide_eq_true_eq];omega
 have S:=aG (k:=8) (by omega) y;have R:=aG (k:=8) (by omega) hd2;have X:bB (d:Int)=ai d:=rfl;have V:(ai n.natAbs).length≤10000:=by omega
 have U:(ai d).length≤10000:=by omega
 refine ao oQ ?_ mem;simp[aa,Z,f27,af,ft,dM,eK,ib,gu,bS,bP,f1,f2,X,aA,bk,hd,V,U]
theorem PR(a b:Rat)(y:(aB a).length≤9)(H:(aB b).length≤9)(mem:Mem):
  kO prog 68 [.str (aB a),.str (aB b)] mem (.str (aB (a+b))) mem:=Eo a b (wj y) (wj H) mem
theorem PT(a b:Rat)(y:(aB a).length≤9)(H:(aB b).length≤9)(mem:Mem):
  kO prog 36 [.str (aB a),.str (aB b)] mem (.str (aB (a*b))) mem:=xf a b (wj y) (wj H) mem
end Go.Proofs
