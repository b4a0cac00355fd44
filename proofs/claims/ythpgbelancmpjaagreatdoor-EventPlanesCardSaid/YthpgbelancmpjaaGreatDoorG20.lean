/- See G38. -/
import Derived.Test.YthpgbelancmpjaaGreatDoorG19
set_option linter.all false
set_option maxRecDepth 100000
set_option maxHeartbeats 40000000
namespace Go.Proofs
open Go.Eng
open Tryz
theorem yG(s:List UInt8)(H:s.length<=1000000000)(mem:Mem):kO prog 102 [.str s] mem (match s.idxOf? 47 with | some i=>.tuple [.str (s.take i),.str (s.drop (i+1))] | none=>.tuple [.str s,.str [49]]) mem:=by
 have V:aZ prog 102=some f102:=by kernel_rfl
 refine dc er (lv:=fun _=>[]) (K:=1) rfl (by split<;>rfl) ?_ mem;have Z:=jG s 47;cases hx:s.idxOf? 47 with
 |none=>
  rw[hx] at Z;simp only at Z;simp[ae,V,f102,ah,ak,Z]
 |some i=>
  rw[hx] at Z;simp only at Z;have U:i<s.length:=by have:=(List.idxOf?_eq_some_iff.1 hx).1;exact this
  have S:¬(i:Int)<0:=by omega
  have R:(i:Int)<=(s.length:Int):=by omega
  have O :i<=s.length:=by omega
  have w1:IntKind.i64.wrap ((i:Int)+1)=((i+1:Nat):Int):=by rw[af];omega
  obtain⟨j,N⟩:=xE (i+1);show _=some (afl.mk (.tuple [.str (s.take i),.str (s.drop (i+1))]) none [])
  rw[<-N] at w1 |-;have M:(j:Int)<=(s.length:Int):=by omega
  have L :j<=s.length:=by omega
  have X:(s.drop j).take (s.length-j)=s.drop j:=B5 (by simp);simp[ae,V,f102,ah,ak,Z,S,R,w1,M,X,Nat.testBit]
theorem FA(q:Rat)(H:(aq q).length<=1000000000)(mem:Mem):kO prog 102 [.str (aq q)] mem (.tuple [.str (bF q.num),.str (ai q.den)]) mem:=by
 have h:=yG (aq q) H mem;by_cases Z:q.den=1
 .have e:aq q=bF q.num:=by unfold aq;rw[if_pos Z]
  have X:(aq q).idxOf? 47=none:=by rw[e];exact EO (iF _)
  rw[X] at h;have:ai q.den=[49]:=by rw[Z];rfl
  rw[this];rw[<-e];exact h
 .have e:aq q=bF q.num++47::ai q.den:=by unfold aq;rw[if_neg Z]
  have X:(aq q).idxOf? 47=some (bF q.num).length:=by rw[e];exact Pm (iF _)
  rw[X] at h;have V:List.drop ((bF q.num).length+1) (aq q)=ai q.den:=by rw[e,List.drop_append];simp
  have U:List.take (bF q.num).length (aq q)=bF q.num:=by rw[e];exact List.take_left' rfl
  simp only[V,U] at h;exact h
theorem Qj(q:Rat)(H:(aq q).length<=1000000000)(mem:Mem):kO prog 107 [.str (aq q)] mem (.str (aq (-q))) mem:=by
 have X:aZ prog 107=some f107:=by kernel_rfl
 refine aA (az _) ?_ mem;by_cases Z:q=0
 .subst Z
  simp[ae,X,f107,ba]
 .have N:¬q.num=0:=fun e=>Z (mO.1 e)
  by_cases S:q.num<0
  .have e:=jl S
   have V:(45::aq (-q)==[48])=false:=by rw[<-e,ba];simpa using Z
   rw[e];have h3:(1:Int)<=((aq (-q)).length:Int)+1:=by omega
   simp[ae,X,f107,V,h3]
  .have e:=mR (q:=q) (by omega)
   obtain⟨c,r,U,R⟩:=kX (q:=q) (by omega);have V:(c::r==[48])=false:=by rw[<-U,ba];simpa using Z
   have O:=fv R;rw[e,U];rw[U] at H;simp only[List.length_cons] at H;have h3:1+(r.length+1)<=9223372036854775807:=by omega
   simp[ae,X,f107,V,O,h3,fM]
theorem uc(q:Rat)(mem:Mem):kO prog 15 [.str (aq q)] mem (.int .i64 (ga q)) mem:=by
 have X:aZ prog 15=some f15:=by kernel_rfl
 refine aA (az _) ?_ mem;by_cases Z:q=0
 .subst Z
  have:ga 0=0:=rfl;simp[ae,X,f15,ba,this]
 .have R:¬q.num=0:=fun e=>Z (mO.1 e)
  by_cases V:q.num<0
  .have e:=jl V
   have U:(45::aq (-q)==[48])=false:=by rw[<-e,ba];simpa using Z
   rw[e];simp[ae,X,f15,U,ga,jz,V]
  .obtain⟨c,r,S,O⟩:=kX (q:=q) (by omega)
   have U:(c::r==[48])=false:=by rw[<-S,ba];simpa using Z
   have N:=fv O;rw[S];simp[ae,X,f15,U,N,ga,jz,V,R]
variable{K:Nat}{O:y9}{b:Code}
theorem DW(n m:Int)(I:m.natAbs<K)(H:ag f145=[b]):
  ∃F:Env->Bool->Env,∀Z d,(ad Z 5=.int .i64 n/\ad Z 6=.int .i64 m)->
   aL (aX prog) (fun _=>[5,6]) O K 36 0 true (.loop b) ⟨Z,[],d⟩=some (.exit 0,⟨F Z d,[],d⟩)/\(ad (F Z d) 5=.int .i64 (euc K n m)/\ad (F Z d) 0=ad Z 0/\ad (F Z d) 1=ad Z 1/\ad (F Z d) 4=ad Z 4):=by
 refine bj rfl (fun Z=>ad Z 5=.int .i64 n/\ad Z 6=.int .i64 m) (fun Z X =>ad X 5=.int .i64 (euc K n m)/\ad X 0=ad Z 0/\ad X 1=ad Z 1/\ad X 4=ad Z 4) ?_;rintro Z d ⟨h5,h6⟩;have S:an [5,6] (aa b) Z ((5,.int .i64 n)::(6,.int .i64 m)::Z)=an [5,6] (aa b) Z Z:=by simp[an,h5,h6]
 rw[<-S];have V:∀(k:Nat) (x y:Int),y.natAbs<k->∃X,fj [5,6] (aa b) Z 0 (aL (aX prog) (fun _=>[5,6]) O K 36 0 true b) k ⟨an [5,6] (aa b) Z ((5,.int .i64 x)::(6,.int .i64 y)::Z),[],d⟩=
   some (.exit 0,⟨X,[],d⟩)/\ad X 5=.int .i64 (euc k x y)/\ad X 0=ad Z 0/\ad X 1=ad Z 1/\ad X 4=ad Z 4:=by
  clear S;simp[ag,aE,f145] at H;intro k;induction k with
  |zero=>intro x y h;omega
  |succ k ih=>
   intro x y G;by_cases U:y=0
   .subst H
    subst U;simp[fj,euc]
   .have N:(x.tmod y).natAbs<k:=by rw[Int.natAbs_tmod];have:=Nat.mod_lt x.natAbs (show 0<y.natAbs by omega);omega
    obtain⟨X,R,M,L⟩:=ih y (x.tmod y) N;subst H;refine⟨X,?_,by rw[M,euc,if_neg U],L⟩;rw[fj];simp[U];simp at R;exact R
 exact V K n m I
theorem Fz(n:Int)(m:Nat)(hn:n.natAbs<=4611686018427387904)(Z0:m≠0)(hm:m<=4611686018427387904)(mem:Mem):kO prog 145 [.int .i64 n,.int .i64 m] mem (.str (aq (mkRat n m))) mem:=by
 have J:aZ prog 145=some f145:=by kernel_rfl
 refine dc er (lv:=fun _=>[5,6]) (K:=m+1) rfl rfl ?_ mem;obtain⟨b,I⟩:∃b,ag f145=[b]:=⟨_,rfl⟩
 obtain⟨N,hN⟩:=xE (α:=Nat) n.natAbs;obtain⟨F,H⟩:=DW (O:=ah ak) (K:=m+1) (N:Int) (m:Int) (by simp) I;simp[ag,aE,f145] at I;subst I;rw[tn n Z0,<-hN];have hgE:∀k (x y:Nat),0<=euc k (x:Int) (y:Int):=by
  intro k;induction k with
  |zero=>intro x y;unfold euc;omega
  |succ k ih=>
   intro x y;unfold euc;split
   .omega
   .rw[xj];exact ih y (x%y)
 have V:=sV (m+1) (N:Int) (m:Int) (by simp);have hg0:=hgE (m+1) N m;generalize euc (m+1) (N:Int) (m:Int)=gz at H V hg0;rw[Int.natAbs_natCast,Int.natAbs_natCast] at V;obtain⟨g,rfl⟩:∃g:Nat,gz=g:=⟨gz.toNat,by omega⟩
 rw[Int.natAbs_natCast] at V;rw[<-V];have hgp:0<g:=by rw[V];exact Nat.gcd_pos_of_pos_right _ (by omega)
 have hgn:g∣N:=by rw[V];exact Nat.gcd_dvd_left _ _
 have hgd:g∣m:=by rw[V];exact Nat.gcd_dvd_right _ _
 have hgm:g<=m:=Nat.le_of_dvd (by omega) hgd;have Y:=yA (a:=n) hgp (.inr (by rw[<-hN];exact Nat.mod_eq_zero_of_dvd hgn));have hq1:(n / (g:Int)).natAbs<=n.natAbs:=Int.natAbs_ediv_le_natAbs _ _;obtain⟨Z,hZ⟩:=xE (n / (g:Int));rw[<-hZ] at hq1 Y |-;obtain⟨D,R⟩:=xE (m / g);have hDm:D<=m:=by rw[R];exact Nat.div_le_self _ _
 rw[<-R];have w0:IntKind.i64.wrap (-n)= -n:=af;have M:(if n< -n then -n else n)=(N:Int):=by split<;>omega
 have ae9 :(if -n<n then n else -n)=(N:Int):=by split<;>omega
 have w1:IntKind.i64.wrap (n.tdiv (g:Int))=Z:=by rw[Y.1];exact af
 have L :IntKind.i64.wrap Z=Z:=af;have w2:IntKind.i64.wrap ((m:Int).tdiv (g:Int))=(D:Int):=by rw[xi,<-R];exact af
 have G :IntKind.i64.wrap ((m:Int) / (g:Int))=(D:Int):=by rw[<-Int.natCast_ediv,<-R];exact af
 have U:dY Z=true:=by unfold dY;simp;omega
 have hf2:dY (D:Int)=true:=by unfold dY;simp;omega
 have hDs:bF (D:Int)=ai D:=rfl;have C :¬g=0:=by omega
 have lZ:(bF Z).length+1<=fM/\(bF Z).length+1+(ai D).length<=fM:=by have h1:=dj Z;have h2:=aN (u:=Z.natAbs) (k:=20) (by omega) (by omega);have h3:=aN (u:=D) (k:=20) (by omega) (by omega);unfold fM;omega
 obtain⟨l1,l2⟩:=lZ;by_cases ZA:m=1
 .have B:g=1:=by omega
  have X:D=1:=by rw[R,ZA,B]
  have o:Z=n:=by rw[hZ,B];exact Int.ediv_one n
  have hfn:dY n=true:=by rw[<-o];exact U
  subst ZA;rw[if_pos X,o];simp[ae,J,f145,ah,ak,hfn]
 .have j:¬(m:Int)=1:=by omega
  by_cases X:D=1
  .have S:(D:Int)=1:=by omega
   rw[if_pos X];simp[ae,J,f145,j,w0,M,H,C,Y,L,G,S,ah,ak,U,Nat.testBit]
  .have S:¬(D:Int)=1:=by omega
   rw[if_neg X];simp[ae,J,f145,j,w0,M,H,C,Y,L,G,S,ah,ak,U,hf2,hDs,l1,l2,Nat.testBit]
theorem Aa(n m:Int)(I:m.natAbs<K)(H:ag f148=[b]):
  ∃F:Env->Bool->Env,∀Z d,(ad Z 9=.int .i64 n/\ad Z 10=.int .i64 m)->
   aL (aX prog) (fun _=>[9,10]) O K 55 0 true (.loop b) ⟨Z,[],d⟩=some (.exit 0,⟨F Z d,[],d⟩)/\(ad (F Z d) 9=.int .i64 (euc K n m)/\ad (F Z d) 5=ad Z 5/\ad (F Z d) 7=ad Z 7/\ad (F Z d) 4=ad Z 4):=by
 refine bj rfl (fun Z=>ad Z 9=.int .i64 n/\ad Z 10=.int .i64 m) (fun Z X =>ad X 9=.int .i64 (euc K n m)/\ad X 5=ad Z 5/\ad X 7=ad Z 7/\ad X 4=ad Z 4) ?_;rintro Z d ⟨h5,h6⟩;have S:an [9,10] (aa b) Z ((9,.int .i64 n)::(10,.int .i64 m)::Z)=an [9,10] (aa b) Z Z:=by simp[an,h5,h6]
 rw[<-S];have V:∀(k:Nat) (x y:Int),y.natAbs<k->∃X,fj [9,10] (aa b) Z 0 (aL (aX prog) (fun _=>[9,10]) O K 55 0 true b) k ⟨an [9,10] (aa b) Z ((9,.int .i64 x)::(10,.int .i64 y)::Z),[],d⟩=
   some (.exit 0,⟨X,[],d⟩)/\ad X 9=.int .i64 (euc k x y)/\ad X 5=ad Z 5/\ad X 7=ad Z 7/\ad X 4=ad Z 4:=by
  clear S;simp[ag,aE,f148] at H;intro k;induction k with
  |zero=>intro x y h;omega
  |succ k ih=>
   intro x y G;by_cases U:y=0
   .subst H
    subst U;simp[fj,euc]
   .have N:(x.tmod y).natAbs<k:=by rw[Int.natAbs_tmod];have:=Nat.mod_lt x.natAbs (show 0<y.natAbs by omega);omega
    obtain⟨X,R,M,L⟩:=ih y (x.tmod y) N;subst H;refine⟨X,?_,by rw[M,euc,if_neg U],L⟩;rw[fj];simp[U];simp at R;exact R
 exact V K n m I
theorem Rj:∀(k x y:Nat),0<=euc k (x:Int) (y:Int):=by
 intro k;induction k with
 |zero=>intro x y;unfold euc;omega
 |succ k ih=>
  intro x y;unfold euc;split
  .omega
  .rw[xj];exact ih y (x%y)
theorem HW(n:Int)(m:Nat)(Z0:m≠0)(H:(bF n).length<=18)(I:(ai m).length<=18)(mem:Mem):kO prog 148 [.str (bF n),.str (ai m)] mem (.str (aq (mkRat n m))) mem:=by
 have hG:aZ prog 148=some f148:=by kernel_rfl
 have hn:=kf H;have hm:m<10 ^ 18:=by have h1:=cq m;have h2:10 ^ (ai m).length<=10 ^ 18:=P3 (by omega) I;omega
 refine dc er (lv:=fun _=>[9,10]) (K:=m+1) rfl rfl ?_ mem;obtain⟨b,hb⟩:∃b,ag f148=[b]:=⟨_,rfl⟩
 obtain⟨N,hN⟩:=xE (α:=Nat) n.natAbs;rw[<-hN] at hn;obtain⟨F,C⟩:=Aa (O:=ah ak) (K:=m+1) (N:Int) (m:Int) (by simp) hb;simp[ag,aE,f148] at hb;subst hb;rw[tn n Z0,<-hN];have B:=sV (m+1) (N:Int) (m:Int) (by simp);have hg0:=Rj (m+1) N m;generalize euc (m+1) (N:Int) (m:Int)=gz at C B hg0;rw[Int.natAbs_natCast,Int.natAbs_natCast] at B;obtain⟨g,rfl⟩:∃g:Nat,gz=g:=⟨gz.toNat,by omega⟩
 rw[Int.natAbs_natCast] at B;rw[<-B];have hgp:0<g:=by rw[B];exact Nat.gcd_pos_of_pos_right _ (by omega)
 have hgn:g∣N:=by rw[B];exact Nat.gcd_dvd_left _ _
 have o:=yA (a:=n) hgp (.inr (by rw[<-hN];exact Nat.mod_eq_zero_of_dvd hgn));have hq1:(n / (g:Int)).natAbs<=n.natAbs:=Int.natAbs_ediv_le_natAbs _ _;obtain⟨Z,hZ⟩:=xE (n / (g:Int));rw[<-hZ] at hq1 o |-;obtain⟨D,hD⟩:=xE (m / g);have hDm:D<=m:=by rw[hD];exact Nat.div_le_self _ _
 rw[<-hD];have w1:IntKind.i64.wrap (n.tdiv (g:Int))=Z:=by rw[o.1];exact af
 have U :IntKind.i64.wrap Z=Z:=af;have w2:IntKind.i64.wrap ((m:Int).tdiv (g:Int))=(D:Int):=by rw[xi,<-hD];exact af
 have S :IntKind.i64.wrap ((m:Int) / (g:Int))=(D:Int):=by rw[<-Int.natCast_ediv,<-hD];exact af
 have R:dY Z=true:=by unfold dY;simp;omega
 have Y:dY (D:Int)=true:=by unfold dY;simp;omega
 have J:bF (D:Int)=ai D:=rfl;have M :¬g=0:=by omega
 have lZ:(bF Z).length+1<=fM/\(bF Z).length+1+(ai D).length<=fM:=by have h1:=dj Z;have h2:=aN (u:=Z.natAbs) (k:=20) (by omega) (by omega);have h3:=aN (u:=D) (k:=20) (by omega) (by omega);unfold fM;omega
 obtain⟨l1,l2⟩:=lZ;have L:Lib.atoi (ai m)=some (m:Int):=nK (m:Int);have G:¬(m:Int)<0:=by omega
 have w0:IntKind.i64.wrap (-n)= -n:=af;have aaf:n<0-> -n=(N:Int):=by omega
 have hpos:¬n<0->n=(N:Int):=by omega
 by_cases j:n<0
 .have w0' :IntKind.i64.wrap (-n)=(N:Int):=by rw[w0];exact aaf j
  by_cases V:D=1
  .have X:(D:Int)=1:=by omega
   rw[if_pos V];simp[ae,hG,f148,ah,ak,H,I,nK,L,G,j,w0',C,M,o,U,S,X,R,Nat.testBit]
  .have X:¬(D:Int)=1:=by omega
   rw[if_neg V];simp[ae,hG,f148,ah,ak,H,I,nK,L,G,j,w0',C,M,o,U,S,X,R,Y,J,l1,l2,Nat.testBit]
 .have e:=hpos j
  rw[<-e] at C;by_cases V:D=1
  .have X:(D:Int)=1:=by omega
   rw[if_pos V];simp[ae,hG,f148,ah,ak,H,I,nK,L,G,j, C,M,o,U,S,X,R,Nat.testBit]
  .have X:¬(D:Int)=1:=by omega
   rw[if_neg V];simp[ae,hG,f148,ah,ak,H,I,nK,L,G,j, C,M,o,U,S,X,R,Y,J,l1,l2,Nat.testBit]
noncomputable def cQ(f:FuncId)(args:List AV):Option AV:=
 match f,args with
 |106,[.str s,.str t]=>match iE s,iE t with
  |some a,some b=>if (ai a.natAbs).length<=10000/\(ai b.natAbs).length<=10000 then some (.str (ai (a.natAbs.gcd b.natAbs))) else none
  |_,_=>none
 |148,[.str s,.str t]=>match iE s,xq t with
  |some n,some m=>if m≠0/\(bF n).length<=18/\(ai m).length<=18 then some (.str (aq (mkRat n m))) else none
  |_,_=>none
 |145,[.int .i64 n,.int .i64 d]=>if d.toNat≠0/\n.natAbs<=4611686018427387904/\0<=d/\d.toNat<=4611686018427387904 then some (.str (aq (mkRat n d.toNat))) else none
 |102,[.str s]=>match eh s with
  |some q=>if s.length<=1000000000 then some (.tuple [.str (bF q.num),.str (ai q.den)]) else none
  |none=>none
 |107,[.str s]=>match eh s with
  |some q=>if s.length<=1000000000 then some (.str (aq (-q))) else none
  |none=>none
 |15,[.str s]=>match eh s with
  |some q=>some (.int .i64 (ga q))
  |none=>none
 |f,args=>dh f args
theorem uS:qS prog (ah cQ):=bM fun f R v h mem=>by
 unfold cQ at h;split at h
 .split at h
  .rename_i m n U S
   split at h
   next Z=>cases h;rw[bE U,bE S];exact Qp m n Z.1 Z.2 mem
   .cases h
  .cases h
 .split at h
  .rename_i m n U S
   split at h
   next Z=>cases h;rw[bE U,gK S];exact HW m n Z.1 Z.2.1 Z.2.2 mem
   .cases h
  .cases h
 .split at h
  .rename_i Z
   obtain⟨N,M,L,G⟩:=Z;cases h;have:=Fz _ _ M N G mem;rw[QQi L] at this;exact this
  .cases h
 .split at h
  .rename_i q X
   split at h
   next V=>cases h;rw[aw X] at V |-;exact FA q V mem
   .cases h
  .cases h
 .split at h
  .rename_i q X
   split at h
   next V=>cases h;rw[aw X] at V |-;exact Qj q V mem
   .cases h
  .cases h
 .split at h
  next q X=>cases h;rw[aw X];exact uc q mem
  .cases h
 .have:=BM.fn _ _ mem ⟨v,none,[]⟩ (by unfold ah;simp only;rw[h])
  simpa [afl.mem] using this
theorem Bd(n:Int)(d:Nat)(hd:d≠0)(I:(ai n.natAbs).length<=10000)(H:(ai d).length<=10000)(mem:Mem):
  kO prog 92 [.str (bF n),.str (ai d)] mem (.str (aq (mkRat n d))) mem:=by
 have N:aZ prog 92=some f92:=by kernel_rfl
 refine aA uS ?_ mem;have hli:=dj n;by_cases hq:(bF n).length<=9/\(ai d).length<=9
 .have m:((bF n).length:Int)<=9:=by omega
  have Y:((ai d).length:Int)<=9:=by omega
  have q3:(bF n).length<=18:=by omega
  have q4:(ai d).length<=18:=by omega
  simp[ae,N,f92,m,Y,ah,cQ,aD,bk,hd,q3,q4]
 .rw[tn n hd]
  have u:=Ho hd;have X:0<n.natAbs.gcd d:=Nat.gcd_pos_of_pos_right _ (by omega);have M:n.natAbs.gcd d∣n.natAbs:=Nat.gcd_dvd_left _ _;have J:n.natAbs.gcd d∣d:=Nat.gcd_dvd_right _ _;have ZJ:n.natAbs.gcd d<=d:=Nat.le_of_dvd (by omega) J;obtain⟨g,L⟩:=xE (n.natAbs.gcd d);rw[<-L] at X M J ZJ |-;have S:(ai g).length<=10000:=by have:=bB ZJ;omega
  have o:n.natAbs%g=0:=Nat.mod_eq_zero_of_dvd M;have V:bF ((d:Int) / (g:Int))=ai (d / g):=by rw[<-Int.natCast_ediv];rfl
  obtain⟨Z,R⟩:=xE (n / (g:Int));obtain⟨D,j⟩:=xE (d / g);rw[<-j] at V;rw[<-R,<-j];have hq1:(ai Z.natAbs).length<=10000:=by have:=bB (Int.natAbs_ediv_le_natAbs n g);rw[<-R] at this;omega
  have hq2:(ai D).length<=10000:=by have:=bB (Nat.div_le_self d g);rw[<-j] at this;omega
  have hl4:=dj Z;have G:(bF Z).length+1<=fM:=by unfold fM;omega
  have F:(bF Z).length+1+(ai D).length<=fM:=by unfold fM;omega
  by_cases m:(bF n).length<=9
  .have Y:¬(ai d).length<=9:=fun e=>hq ⟨m,e⟩
   have U:((bF n).length:Int)<=9:=by omega
   have C:¬((ai d).length:Int)<=9:=by omega
   by_cases B:D=1
   .simp[ae,N,f92,U,C,ah,cQ,dh,eH,ej,bJ,bC,cK,bk,aD,u,I,H,<-L,S,X,o,<-R,V,fy,B]
   .simp[ae,N,f92,U,C,ah,cQ,dh,eH,ej,bJ,bC,cK,bk,aD,u,I,H,<-L,S,X,o,<-R,V,fy,B,G,F]
  .have U:¬((bF n).length:Int)<=9:=by omega
   by_cases B:D=1
   .simp[ae,N,f92,U,ah,cQ,dh,eH,ej,bJ,bC,cK,bk,aD,u,I,H,<-L,S,X,o,<-R,V,fy,B]
   .simp[ae,N,f92,U,ah,cQ,dh,eH,ej,bJ,bC,cK,bk,aD,u,I,H,<-L,S,X,o,<-R,V,fy,B,G,F]
theorem zG{H:List UInt8}(hd:H.all isD=true)(I:H.length<=9)(j:Nat):fg (H.take j)<10 ^ 9:=by
 have X:=Dl (pz hd j);have Z:(H.take j).length<=9:=by rw[SP];omega
 have h3:10 ^ (H.take j).length<=10 ^ 9:=P3 (by omega) Z;omega
def kE(c:Code):List Nat:=if (aa c).contains 24 then [2,5] else [3,5]
variable{b2:Code}
theorem zT(s H rest:List UInt8)(I:Nat)(hs:s.length<=9)(Zy:I<=s.length)(hd:s.drop I=H++rest)(ZC:rest=[]\/∃r,rest=47::r)(P':H.all isD=true)(hK:10<K)(J:ag f144=[b,b2]):
  ∃F:Env->Bool->Env,∀Z d,(ad Z 0=.str s/\ad Z 2=.int .i64 0/\ad Z 5=.int .i64 (I:Int))->
   aL (aX prog) kE O K 57 0 true (.loop b) ⟨Z,[],d⟩=some (.exit 0,⟨F Z d,[],d⟩)/\(ad (F Z d) 2=.int .i64 ((fg H:Nat):Int)/\ad (F Z d) 5=.int .i64 ((I+H.length:Nat):Int)/\ad (F Z d) 0=ad Z 0/\ad (F Z d) 3=ad Z 3/\ad (F Z d) 6=ad Z 6):=by
 have Zz:kE b=[2,5]:=by simp[ag,aE,f144] at J;obtain⟨rfl,rfl⟩:=J;decide
 have G':I+H.length+rest.length=s.length:=by have:=congrArg List.length hd;simp at this;omega
 refine bj Zz (fun Z=>ad Z 0=.str s/\ad Z 2=.int .i64 0/\ad Z 5=.int .i64 (I:Int)) (fun Z R =>ad R 2=.int .i64 ((fg H:Nat):Int)/\ad R 5=.int .i64 ((I+H.length:Nat):Int)/\ad R 0=ad Z 0/\ad R 3=ad Z 3/\ad R 6=ad Z 6) ?_;rintro Z d ⟨h0,h2,h5⟩;have N:fg (H.take 0)=0:=by rw[List.take_zero];unfold fg;rw[dP]
 have hn:an [2,5] (aa b) Z ((2,.int .i64 ((fg (H.take 0):Nat):Int))::(5,.int .i64 ((I+0:Nat):Int))::Z)=an [2,5] (aa b) Z Z:=by rw[N];simp[an,h2,h5]
 rw[<-hn];refine bI (α:=Nat) (fun j=>⟨an [2,5] (aa b) Z ((2,.int .i64 ((fg (H.take j):Nat):Int))::(5,.int .i64 ((I+j:Nat):Int))::Z),[],d⟩)
  (fun j=>H.length-j) (fun j=>j<=H.length) (.exit 0) _ d _ (by simp) ?_ K 0 (Nat.zero_le _) (by simp only[QXQ];omega)
 intro j hj;clear hn N;simp[ag,aE,f144] at J;obtain⟨i,B⟩:=xE (I+j);have X:s[i]? =(H++rest)[j]? :=by rw[<-hd,QQf,B]
 by_cases u:j=H.length
 .right
  subst u;rw[P1,<-B];rw[V1 (L9 _),Nat.sub_self] at X;obtain⟨rfl,rfl⟩:=J;rcases ZC with h | ⟨r,h⟩
  .subst h
   have V:i=s.length:=by simp at G';omega
   have h1:¬i<s.length:=by omega
   have o:¬(i:Int)<(s.length:Int):=by omega
   simp[h0,o]
  .subst h
   have V:i<s.length:=by simp at G';omega
   have S:(i:Int)<(s.length:Int):=by omega
   have M:s[i]? =some 47:=by simpa using X
   have m :s[i]=47:=(O2.1 M).2;simp[h0,V,S,m]
 .left
  have Y:j<H.length:=by omega
  obtain⟨c,M⟩:∃c,H[j]? =some c:=⟨H[j],by simp[Y]⟩
  rw[GT Y,M] at X;have V:i<s.length:=gL X;have S:(i:Int)<(s.length:Int):=by omega
  have acT :s[i]=c:=(O2.1 X).2;have U:=List.all_eq_true.1 P' c (J1 M);have hcd:=tT U;have acO:48<=c.toNat/\c.toNat<=57:=by unfold isD at U;simp only[Es,GE] at U;exact U
  have aey:¬((c.toNat:Int)=47):=by omega
  have Z7:H.take (j+1)=H.take j++[c]:=by rw[List.take_add_one,M];rfl
  have L:fg (H.take (j+1))=10*fg (H.take j)+(c.toNat-48):=by rw[Z7,oC]
  have hvb:=zG P' (by omega) j;obtain⟨v,G⟩:=xE (fg (H.take j));obtain⟨v2,C⟩:=xE (fg (H.take (j+1)));rw[<-G] at hvb L;rw[<-C] at L;obtain⟨k,hk⟩:=xE (α:=Nat) (c.toNat-48);have w0:IntKind.u8.wrap ((c.toNat:Int)-48)=(k:Int):=by rw[Hu (by omega) (by omega)];omega
  have w1:IntKind.i64.wrap (k:Int)=(k:Int):=af;have w2:IntKind.i64.wrap (10*(v:Int))=10*(v:Int):=af;have w3:IntKind.i64.wrap (10*(v:Int)+(k:Int))=(v2:Int):=by rw[af];omega
  have w4:IntKind.i64.wrap ((i:Int)+1)=((I+(j+1):Nat):Int):=by rw[af];omega
  rw[<-B];refine⟨j+1,?_⟩;refine bt (show j+1<=H.length/\_ from⟨Y,by omega⟩) ?_;obtain⟨rfl,rfl⟩:=J;simp[h0,V,S,acT,aey,<-G,<-C,w0,w1,w2,w3,w4];try omega
theorem zU(s H:List UInt8)(I:Nat)(hs:s.length<=9)(Zy:I<=s.length)(hd:s.drop I=H)(Y:H.all isD=true)(hK:10<K)(J:ag f144=[b,b2]):
  ∃F:Env->Bool->Env,∀Z d,(ad Z 0=.str s/\ad Z 3=.int .i64 0/\ad Z 5=.int .i64 (I:Int))->
   aL (aX prog) kE O K 57 0 true (.loop b2) ⟨Z,[],d⟩=some (.exit 2,⟨F Z d,[],d⟩)/\(ad (F Z d) 3=.int .i64 ((fg H:Nat):Int)/\ad (F Z d) 2=ad Z 2/\ad (F Z d) 6=ad Z 6):=by
 have Zz:kE b2=[3,5]:=by simp[ag,aE,f144] at J;obtain⟨rfl,rfl⟩:=J;decide
 have G':I+H.length=s.length:=by have:=congrArg List.length hd;simp at this;omega
 refine bj Zz (fun Z=>ad Z 0=.str s/\ad Z 3=.int .i64 0/\ad Z 5=.int .i64 (I:Int)) (fun Z M =>ad M 3=.int .i64 ((fg H:Nat):Int)/\ad M 2=ad Z 2/\ad M 6=ad Z 6) ?_;rintro Z d ⟨h0,h2,h5⟩;have U:fg (H.take 0)=0:=by rw[List.take_zero];unfold fg;rw[dP]
 have hn:an [3,5] (aa b2) Z ((3,.int .i64 ((fg (H.take 0):Nat):Int))::(5,.int .i64 ((I+0:Nat):Int))::Z)=an [3,5] (aa b2) Z Z:=by rw[U];simp[an,h2,h5]
 rw[<-hn];refine bI (α:=Nat) (fun j=>⟨an [3,5] (aa b2) Z ((3,.int .i64 ((fg (H.take j):Nat):Int))::(5,.int .i64 ((I+j:Nat):Int))::Z),[],d⟩)
  (fun j=>H.length-j) (fun j=>j<=H.length) (.exit 2) _ d _ (by simp) ?_ K 0 (Nat.zero_le _) (by simp only[QXQ];omega)
 intro j hj;clear hn U;simp[ag,aE,f144] at J;obtain⟨i,L⟩:=xE (I+j);have V:s[i]? =H[j]? :=by rw[<-hd,QQf,L]
 by_cases G:j=H.length
 .right
  subst G;rw[P1,<-L];obtain⟨rfl,rfl⟩:=J;have h1:¬i<s.length:=by omega
  have h1I:¬(i:Int)<(s.length:Int):=by omega
  simp[h0,h1]
 .left
  have FS:j<H.length:=by omega
  obtain⟨c,C⟩:∃c,H[j]? =some c:=⟨H[j],by simp[FS]⟩
  rw[C] at V;have B:i<s.length:=gL V;have u:(i:Int)<(s.length:Int):=by omega
  have o :s[i]=c:=(O2.1 V).2;have X:=List.all_eq_true.1 Y c (J1 C);have hcd:=tT X;have acO:48<=c.toNat/\c.toNat<=57:=by unfold isD at X;simp only[Es,GE] at X;exact X
  have Z7:H.take (j+1)=H.take j++[c]:=by rw[List.take_add_one,C];rfl
  have S:fg (H.take (j+1))=10*fg (H.take j)+(c.toNat-48):=by rw[Z7,oC]
  have m:=zG Y (by omega) j;obtain⟨v,R⟩:=xE (fg (H.take j));obtain⟨v2,N⟩:=xE (fg (H.take (j+1)));rw[<-R] at m S;rw[<-N] at S;obtain⟨k,hk⟩:=xE (α:=Nat) (c.toNat-48);have w0:IntKind.u8.wrap ((c.toNat:Int)-48)=(k:Int):=by rw[Hu (by omega) (by omega)];omega
  have w1:IntKind.i64.wrap (k:Int)=(k:Int):=af;have w2:IntKind.i64.wrap (10*(v:Int))=10*(v:Int):=af;have w3:IntKind.i64.wrap (10*(v:Int)+(k:Int))=(v2:Int):=by rw[af];omega
  have w4:IntKind.i64.wrap ((i:Int)+1)=((I+(j+1):Nat):Int):=by rw[af];omega
  rw[<-L];refine⟨j+1,?_⟩;refine bt (show j+1<=H.length/\_ from⟨FS,by omega⟩) ?_;obtain⟨rfl,rfl⟩:=J;simp[h0,B,u,o,<-R,<-N,w0,w1,w2,w3,w4];try omega
theorem HU(q:Rat)(mem:Mem):kO prog 144 [.str (aq q)] mem (if (aq q).length<=9 then .tuple [.int .i64 q.num,.int .i64 q.den,.bool true] else .tuple [.int .i64 0,.int .i64 0,.bool false]) mem:=by
 have I:aZ prog 144=some f144:=by kernel_rfl
 refine dc (az _) (lv:=kE) (K:=11) rfl (by split<;>rfl) ?_ mem;by_cases H:(aq q).length<=9
 .rw[if_pos H]
  have U:¬(9<((aq q).length:Int)):=by omega
  obtain⟨b,b2,J⟩:∃b b2,ag f144=[b,b2]:=⟨_,_,rfl⟩
  obtain⟨X,V,R⟩:=yw q;obtain⟨s,hs⟩:=xE (aq q);rw[<-hs] at H U V |-;obtain⟨N,hN⟩:=xE q.num.natAbs;rw[<-hN] at V;have S:=dI N;have hvN:=dM N;have hpN:=pP N;have hNn:=jN N;have ZC:X=[]\/∃r,X=47::r:=by rw[R];split<;>simp
  obtain⟨st,G⟩:=xE (α:=Nat) (if q.num<0 then 1 else 0);have ZU:(if q.num<0 then [(45:UInt8)] else []).length=st:=by rw[G];split<;>rfl
  have aaQ:s.drop st=ai N++X:=by rw[V,<-ZU,List.drop_left]
  have G':s.length=st+(ai N).length+X.length:=by rw[V,Qs,ZU,Qs];omega
  obtain⟨F,L⟩:=zT (O:=cO) (K:=11) s (ai N) X st H (by omega) aaQ ZC S (by omega) J;rw[hvN] at L;obtain⟨Z,hat⟩:=xE (st+(ai N).length);rw[<-hat] at L G';have afk:N<10 ^ 9:=by have h1:=cq N;have h2:10 ^ (ai N).length<=10 ^ 9:=P3 (by omega) (by omega);omega
  have wn:IntKind.i64.wrap (-(N:Int))= -(N:Int):=af;have wp:IntKind.i64.wrap (N:Int)=(N:Int):=af;by_cases C:q.den=1
  .rw[if_pos C] at R
   subst R;have u:¬Z<s.length:=by simp at G';omega
   simp[ag,aE,f144] at J;obtain⟨rfl,rfl⟩:=J;by_cases B:q.num<0
   .rw[if_pos B] at G
    subst G;have M:s[0]? =some 45:=by rw[V,if_pos B];rfl
    have e: -(N:Int)=q.num:=by omega
    have o :IntKind.i64.wrap (-(N:Int))=q.num:=by rw[wn,e]
    simp only[Int.natCast_one] at L;simp[ae,I,f144,U,M,L,u,o,C]
   .rw[if_neg B] at G
    subst G;have M:∃c,s[0]? =some c/\isD c=true:=by
     rw[V,if_neg B];cases hx:ai N with
     |nil=>exact absurd hx hNn
     |cons c r=>
      rw[hx] at S;simp only[QQg,Es] at S;exact⟨c,by simp,S.1⟩
    obtain⟨c,M,m⟩:=M;have j:=fv m;have e:(N:Int)=q.num:=by omega
    have Y :IntKind.i64.wrap (N:Int)=q.num:=by rw[wp,e]
    simp only[Int.natCast_zero] at L;simp[ae,I,f144,U,M,j,L,u,Y,C]
  .rw[if_neg C] at R
   subst R;have u:Z<s.length:=by simp at G';omega
   have ace:(Z:Int)<(s.length:Int):=by omega
   have aci:s.drop (Z+1)=ai q.den:=by
    have h1:s.drop Z=47::ai q.den:=by rw[hat,<-QXY,aaQ,List.drop_left]
    rw[<-QXY,h1];rfl
   obtain⟨F2,ZM⟩:=zU (O:=cO) (K:=11) s (ai q.den) (Z+1) H (by omega) aci (dI _) (by omega) J;rw[dM] at ZM;have w1:IntKind.i64.wrap ((Z:Int)+1)=((Z+1:Nat):Int):=by rw[af];omega
   obtain⟨at2,aez⟩:=xE (Z+1);rw[<-aez] at w1 ZM;simp[ag,aE,f144] at J;obtain⟨rfl,rfl⟩:=J;by_cases B:q.num<0
   .rw[if_pos B] at G
    subst G;have M:s[0]? =some 45:=by rw[V,if_pos B];rfl
    have e: -(N:Int)=q.num:=by omega
    have o :IntKind.i64.wrap (-(N:Int))=q.num:=by rw[wn,e]
    simp only[Int.natCast_one] at L;simp[ae,I,f144,U,M,L,ace,w1,ZM,o]
   .rw[if_neg B] at G
    subst G;have M:∃c,s[0]? =some c/\isD c=true:=by
     rw[V,if_neg B];cases hx:ai N with
     |nil=>exact absurd hx hNn
     |cons c r=>
      rw[hx] at S;simp only[QQg,Es] at S;exact⟨c,by simp,S.1⟩
    obtain⟨c,M,m⟩:=M;have j:=fv m;have e:(N:Int)=q.num:=by omega
    have Y :IntKind.i64.wrap (N:Int)=q.num:=by rw[wp,e]
    simp only[Int.natCast_zero] at L;simp[ae,I,f144,U,M,j,L,ace,w1,ZM,Y]
 .rw[if_neg H]
  have U:(9<((aq q).length:Int)):=by omega
  simp[ae,I,f144,U]
noncomputable def gm(f:FuncId)(args:List AV):Option AV:=
 match f,args with
 |144,[.str s]=>match eh s with
  |some q=>some (if (aq q).length<=9 then .tuple [.int .i64 q.num,.int .i64 q.den,.bool true] else .tuple [.int .i64 0,.int .i64 0,.bool false])
  |none=>none
 |92,[.str s,.str t]=>match iE s,xq t with
  |some n,some d=>if d≠0/\(ai n.natAbs).length<=10000/\(ai d).length<=10000 then some (.str (aq (mkRat n d))) else none
  |_,_=>none
 |f,args=>cQ f args
theorem pn:qS prog (ah gm):=bM fun f X v h mem=>by
 unfold gm at h;split at h
 .split at h
  next q V=>cases h;rw[aw V];exact HU q mem
  .cases h
 .split at h
  .rename_i m n U S
   split at h
   next Z=>cases h;rw[bE U,gK S];exact Bd m n Z.1 Z.2.1 Z.2.2 mem
   .cases h
  .cases h
 .have:=uS.fn _ _ mem ⟨v,none,[]⟩ (by unfold ah;simp only;rw[h])
  simpa [afl.mem] using this
def dw(q:Rat):Prop:=(ai q.num.natAbs).length<=2000/\(ai q.den).length<=2000
variable{q:Rat}
theorem lD(h:dw q):fI q:=⟨by have:=h.1;omega,by have:=h.2;omega⟩
theorem wK(h:(aq q).length<=9):q.num.natAbs<10 ^ 9/\q.den<10 ^ 9:=GN h
theorem Eu(a b:Rat)(H:dw a)(I:dw b)(mem:Mem):
  kO prog 90 [.str (aq a),.str (aq b)] mem (.str (aq (a+b))) mem:=by
 have G:aZ prog 90=some f90:=by kernel_rfl
 refine aA pn ?_ mem;have F:=gC (lD H);have C:=gC (lD I);have Z:a.den*b.den≠0:=Nat.mul_ne_zero a.den_nz b.den_nz;have N:=Rat.add_def' a b;obtain⟨X,V⟩:=xE (a.num*(b.den:Int));obtain⟨Y,U⟩:=xE (b.num*(a.den:Int));obtain⟨D,S⟩:=xE (a.den*b.den);rw[<-V,<-U,<-S] at N;rw[<-S] at Z;rw[N];by_cases B:(aq a).length<=9/\(aq b).length<=9
 .obtain⟨R,L⟩:=B
  obtain⟨a1,u⟩:=wK R;obtain⟨b1,b2⟩:=wK L;have o:X.natAbs<10 ^ 9*10 ^ 9:=by rw[V];exact fV a1 (by simpa using b2)
  have m:Y.natAbs<10 ^ 9*10 ^ 9:=by rw[U];exact fV b1 (by simpa using u)
  have d1:D<10 ^ 9*10 ^ 9:=by rw[S];exact Nat.mul_lt_mul'' u b2
  have w1:IntKind.i64.wrap (a.num*(b.den:Int))=X:=by rw[<-V];exact af
  have w2:IntKind.i64.wrap (b.num*(a.den:Int))=Y:=by rw[<-U];exact af
  have w3:IntKind.i64.wrap (X+Y)=X+Y:=af;have w4:IntKind.i64.wrap ((a.den:Int)*(b.den:Int))=(D:Int):=by rw[<-Int.natCast_mul,<-S];exact af
  have c1:(X+Y).natAbs<=4611686018427387904:=by omega
  have c2:D<=4611686018427387904:=by omega
  simp[ae,G,f90,ah,gm,cQ,aF,R,L,w1,w2,w3,w4,Z,c1,c2]
 .have j:(ai a.num.natAbs).length<=5000:=by have:=H.1;omega
  have J:(ai a.den).length<=5000:=by have:=H.2;omega
  have s3:(ai b.num.natAbs).length<=5000:=by have:=I.1;omega
  have s4:(ai b.den).length<=5000:=by have:=I.2;omega
  have o:(ai X.natAbs).length<=4000:=by rw[V,QQl,Int.natAbs_natCast];exact dH H.1 I.2
  have m:(ai Y.natAbs).length<=4000:=by rw[U,QQl,Int.natAbs_natCast];exact dH I.1 H.2
  have s5:(ai X.natAbs).length<=10000:=by omega
  have s6:(ai Y.natAbs).length<=10000:=by omega
  have s7:(ai (X+Y).natAbs).length<=10000:=by have h1:=jL o m;have h2:=bB (Int.natAbs_add_le X Y);omega
  have s8:(ai D).length<=10000:=by
   have:(ai D).length<=4000:=by rw[S];exact dH H.2 I.2
   omega
  have M:bF ((a.den:Int)*(b.den:Int))=ai D:=by rw[<-Int.natCast_mul,<-S];rfl
  by_cases R:(aq a).length<=9
  .have L:¬(aq b).length<=9:=fun h=>B ⟨R,h⟩
   simp[ae,G,f90,ah,gm,cQ,dh,eH,ej,aF,aD,cK,bk,F,C,R,L,j,J,s3,s4,<-V,<-U,s5,s6,s7,s8,M,Z]
  .simp[ae,G,f90,ah,gm,cQ,dh,eH,ej,aF,aD,cK,bk,F,C,R,j,J,s3,s4,<-V,<-U,s5,s6,s7,s8,M,Z]
theorem Ev(a b:Rat)(H:dw a)(I:dw b)(mem:Mem):
  kO prog 94 [.str (aq a),.str (aq b)] mem (.str (aq (a*b))) mem:=by
 have L:aZ prog 94=some f94:=by kernel_rfl
 refine aA pn ?_ mem;have G:=gC (lD H);have F:=gC (lD I);have Z:a.den*b.den≠0:=Nat.mul_ne_zero a.den_nz b.den_nz;have R:=Rat.mul_def' a b;obtain⟨X,V⟩:=xE (a.num*b.num);obtain⟨D,U⟩:=xE (a.den*b.den);rw[<-V,<-U] at R;rw[<-U] at Z;rw[R];by_cases C:(aq a).length<=9/\(aq b).length<=9
 .obtain⟨S,M⟩:=C
  obtain⟨J,a2⟩:=wK S;obtain⟨b1,b2⟩:=wK M;have x1:X.natAbs<10 ^ 9*10 ^ 9:=by rw[V];exact fV J b1
  have d1:D<10 ^ 9*10 ^ 9:=by rw[U];exact Nat.mul_lt_mul'' a2 b2
  have w1:IntKind.i64.wrap (a.num*b.num)=X:=by rw[<-V];exact af
  have w4:IntKind.i64.wrap ((a.den:Int)*(b.den:Int))=(D:Int):=by rw[<-Int.natCast_mul,<-U];exact af
  have c1:X.natAbs<=4611686018427387904:=by omega
  have c2:D<=4611686018427387904:=by omega
  simp[ae,L,f94,ah,gm,cQ,aF,S,M,w1,w4,Z,c1,c2]
 .have B:(ai a.num.natAbs).length<=5000:=by have:=H.1;omega
  have u:(ai a.den).length<=5000:=by have:=H.2;omega
  have o:(ai b.num.natAbs).length<=5000:=by have:=I.1;omega
  have m:(ai b.den).length<=5000:=by have:=I.2;omega
  have x1:(ai X.natAbs).length<=4000:=by rw[V,QQl];exact dH H.1 I.1
  have j:(ai X.natAbs).length<=10000:=by omega
  have Y:(ai D).length<=10000:=by
   have:(ai D).length<=4000:=by rw[U];exact dH H.2 I.2
   omega
  have N:bF ((a.den:Int)*(b.den:Int))=ai D:=by rw[<-Int.natCast_mul,<-U];rfl
  by_cases S:(aq a).length<=9
  .have M:¬(aq b).length<=9:=fun h=>C ⟨S,h⟩
   simp[ae,L,f94,ah,gm,cQ,dh,aF,aD,cK,bk,G,F,S,M,B,u,o,m,<-V,j,Y,N,Z]
  .simp[ae,L,f94,ah,gm,cQ,dh,aF,aD,cK,bk,G,F,S,B,u,o,m,<-V,j,Y,N,Z]
noncomputable def iy(f:FuncId)(args:List AV):Option AV:=
 match f,args with
 |90,[.str s,.str t]=>match eh s,eh t with
  |some a,some b=>if (ai a.num.natAbs).length<=2000/\(ai a.den).length<=2000/\(ai b.num.natAbs).length<=2000/\(ai b.den).length<=2000 then some (.str (aq (a+b))) else none
  |_,_=>none
 |94,[.str s,.str t]=>match eh s,eh t with
  |some a,some b=>if (ai a.num.natAbs).length<=2000/\(ai a.den).length<=2000/\(ai b.num.natAbs).length<=2000/\(ai b.den).length<=2000 then some (.str (aq (a*b))) else none
  |_,_=>none
 |f,args=>gm f args
theorem rI:qS prog (ah iy):=bM fun f U v h mem=>by
 unfold iy at h;split at h
 .split at h
  .rename_i m n X V
   split at h
   next Z=>cases h;rw[aw X,aw V];exact Eu m n ⟨Z.1,Z.2.1⟩ ⟨Z.2.2.1,Z.2.2.2⟩ mem
   .cases h
  .cases h
 .split at h
  .rename_i m n X V
   split at h
   next Z=>cases h;rw[aw X,aw V];exact Ev m n ⟨Z.1,Z.2.1⟩ ⟨Z.2.2.1,Z.2.2.2⟩ mem
   .cases h
  .cases h
 .have:=pn.fn _ _ mem ⟨v,none,[]⟩ (by unfold ah;simp only;rw[h])
  simpa [afl.mem] using this
theorem Ew(a b:Rat)(I:dw a)(H:dw b)(mem:Mem):
  kO prog 53 [.str (aq a),.str (aq b)] mem (.str (aq (a-b))) mem:=by
 have Z:aZ prog 53=some f53:=by kernel_rfl
 refine aA rI ?_ mem;have X:=gC (lD H);obtain⟨V,U⟩:=I;obtain⟨S,b2⟩:=H;have e:a+ -b=a-b:=(Rat.sub_eq_add_neg a b).symm;simp[ae,Z,f53,ah,iy,gm,cQ,aF,X,V,U,S,b2,e]
theorem Qi(a b:Rat)(I:0<b.num)(J:dw a)(H:dw b)(mem:Mem):
  kO prog 192 [.str (aq a),.str (aq b)] mem (.str (aq (a / b))) mem:=by
 have L:aZ prog 192=some f192:=by kernel_rfl
 refine aA rI ?_ mem;have G:=gC (lD H);obtain⟨F,C⟩:=J;obtain⟨U,b2⟩:=H;have e:a*b⁻¹=a / b:=(Rat.div_def a b).symm;obtain⟨S,Z⟩:=ve I;have X:=Rat.mkRat_self b⁻¹;obtain⟨m,R⟩:=xE b.num.natAbs;have B:m≠0:=by omega
 have u:bF b.num=ai m:=by rw[gE (by omega),R]
 rw[<-R] at U Z;rw[S,Z] at X;have N:(ai b⁻¹.num.natAbs).length<=2000:=by rw[S,Int.natAbs_natCast];exact b2
 have M:(ai b⁻¹.den).length<=2000:=by rw[Z];exact U
 obtain⟨w,V⟩:=xE (b⁻¹);rw[<-V] at N M X e;have o:(ai m).length<=10000:=by omega
 have j:(ai b.den).length<=10000:=by omega
 simp[ae,L,f192,ah,iy,gm,cQ,aF,bk,cK,G,u,B,o,j,X,F,C,N,M,e]
noncomputable def gP(f:FuncId)(args:List AV):Option AV:=
 match f,args with
 |53,[.str s,.str t]=>match eh s,eh t with
  |some a,some b=>if (ai a.num.natAbs).length<=2000/\(ai a.den).length<=2000/\(ai b.num.natAbs).length<=2000/\(ai b.den).length<=2000 then some (.str (aq (a-b))) else none
  |_,_=>none
 |192,[.str s,.str t]=>match eh s,eh t with
  |some a,some b=>if 0<b.num/\(ai a.num.natAbs).length<=2000/\(ai a.den).length<=2000/\(ai b.num.natAbs).length<=2000/\(ai b.den).length<=2000 then some (.str (aq (a / b))) else none
  |_,_=>none
 |f,args=>iy f args
theorem jr:qS prog (ah gP):=bM fun f U v h mem=>by
 unfold gP at h;split at h
 .split at h
  .rename_i m n X V
   split at h
   next Z=>cases h;rw[aw X,aw V];exact Ew m n ⟨Z.1,Z.2.1⟩ ⟨Z.2.2.1,Z.2.2.2⟩ mem
   .cases h
  .cases h
 .split at h
  .rename_i m n X V
   split at h
   next Z=>cases h;rw[aw X,aw V];exact Qi m n Z.1 ⟨Z.2.1,Z.2.2.1⟩ ⟨Z.2.2.2.1,Z.2.2.2.2⟩ mem
   .cases h
  .cases h
 .have:=rI.fn _ _ mem ⟨v,none,[]⟩ (by unfold ah;simp only;rw[h])
  simpa [afl.mem] using this
theorem nd(a b:Rat)(H:dw a)(I:dw b)(mem:Mem):
  kO prog 56 [.str (aq a),.str (aq b)] mem (.int .i64 (ga (a-b))) mem:=by
 have X:aZ prog 56=some f56:=by kernel_rfl
 refine aA jr ?_ mem;obtain⟨V,U⟩:=H;obtain⟨S,b2⟩:=I;obtain⟨c,Z⟩:=xE (a-b);rw[<-Z];simp[ae,X,f56,ah,gP,iy,gm,cQ,aF,V,U,S,b2,<-Z]
theorem wO(h:(aq q).length<=9):dw q:=by have:=wK h;have Z:=aN (k:=9) (by omega) this.1;have X:=aN (k:=9) (by omega) this.2;exact⟨by omega,by omega⟩
theorem Bg(n:Int)(d:Nat)(hd:d≠0)(H:n.natAbs<10 ^ 8)(hd2:d<10 ^ 8)(mem:Mem):kO prog 37 [.int .i64 n,.int .i64 d] mem (.str (aq (mkRat n d))) mem:=by
 have Z:aZ prog 37=some f37:=by kernel_rfl
 have f1:dY n=true:=by unfold dY;simp only[Es,GE];omega
 have f2:dY (d:Int)=true:=by unfold dY;simp only[Es,GE];omega
 have S:=aN (k:=8) (by omega) H;have R:=aN (k:=8) (by omega) hd2;have X:bF (d:Int)=ai d:=rfl;have V:(ai n.natAbs).length<=10000:=by omega
 have U:(ai d).length<=10000:=by omega
 refine aA pn ?_ mem;simp[ae,Z,f37,ah,gm,cQ,dh,eH,ej,bJ,bC,f1,f2,X,aD,bk,hd,V,U]
theorem Qw(a b:Rat)(H:(aq a).length<=9)(I:(aq b).length<=9)(mem:Mem):
  kO prog 90 [.str (aq a),.str (aq b)] mem (.str (aq (a+b))) mem:=Eu a b (wO H) (wO I) mem
theorem Qx(a b:Rat)(H:(aq a).length<=9)(I:(aq b).length<=9)(mem:Mem):
  kO prog 94 [.str (aq a),.str (aq b)] mem (.str (aq (a*b))) mem:=Ev a b (wO H) (wO I) mem
end Go.Proofs
