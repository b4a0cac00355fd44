/- See H38. -/
import Derived.Test.YthpgbelancmpjaaGreatDoorH19
set_option linter.all false
set_option maxRecDepth 100000
set_option maxHeartbeats 40000000
namespace Go.Proofs
open Go.Eng
open Tryz
theorem yT(s:List UInt8)(H:s.length<=1000000000)(mem:Mem):bz prog 102 [.str s] mem (match s.idxOf? 47 with | some i=>.tuple [.str (s.take i),.str (s.drop (i+1))] | none=>.tuple [.str s,.str [49]]) mem:=by
 have V:bq prog 102=some f102:=by kernel_rfl
 refine dE ep (lv:=fun _=>[]) (K:=1) rfl (by split<;>rfl) ?_ mem;have Z:=jv s 47;cases hx:s.idxOf? 47 with
 |none=>
  rw[hx] at Z;simp only at Z;simp[ad,V,f102,ai,an,Z]
 |some i=>
  rw[hx] at Z;simp only at Z;have U:i<s.length:=by have:=(List.idxOf?_eq_some_iff.1 hx).1;exact this
  have S:¬(i:Int)<0:=by omega
  have R:(i:Int)<=(s.length:Int):=by omega
  have Q :i<=s.length:=by omega
  have w1:IntKind.i64.wrap ((i:Int)+1)=((i+1:Nat):Int):=by rw[af];omega
  obtain⟨j,O⟩:=xE (i+1);show _=some (afw.mk (.tuple [.str (s.take i),.str (s.drop (i+1))]) none [])
  rw[<-O] at w1 |-;have N:(j:Int)<=(s.length:Int):=by omega
  have M :j<=s.length:=by omega
  have X:(s.drop j).take (s.length-j)=s.drop j:=An (by simp);simp[ad,V,f102,ai,an,Z,S,R,w1,N,X,Nat.testBit]
theorem F0(q:Rat)(H:(aJ q).length<=1000000000)(mem:Mem):bz prog 102 [.str (aJ q)] mem (.tuple [.str (bH q.num),.str (aj q.den)]) mem:=by
 have h:=yT (aJ q) H mem;by_cases Z:q.den=1
 .have e:aJ q=bH q.num:=by unfold aJ;rw[if_pos Z]
  have X:(aJ q).idxOf? 47=none:=by rw[e];exact Fm (iq _)
  rw[X] at h;have:aj q.den=[49]:=by rw[Z];rfl
  rw[this];rw[<-e];exact h
 .have e:aJ q=bH q.num++47::aj q.den:=by unfold aJ;rw[if_neg Z]
  have X:(aJ q).idxOf? 47=some (bH q.num).length:=by rw[e];exact OR (iq _)
  rw[X] at h;have V:List.drop ((bH q.num).length+1) (aJ q)=aj q.den:=by rw[e,List.drop_append];simp
  have U:List.take (bH q.num).length (aJ q)=bH q.num:=by rw[e];exact List.take_left' rfl
  simp only[V,U] at h;exact h
theorem PM(q:Rat)(H:(aJ q).length<=1000000000)(mem:Mem):bz prog 107 [.str (aJ q)] mem (.str (aJ (-q))) mem:=by
 have X:bq prog 107=some f107:=by kernel_rfl
 refine az (ar _) ?_ mem;by_cases Z:q=0
 .subst Z
  simp[ad,X,f107,bk]
 .have O:¬q.num=0:=fun e=>Z (qe.1 e)
  by_cases S:q.num<0
  .have e:=iX S
   have V:(45::aJ (-q)==[48])=false:=by rw[<-e,bk];simpa using Z
   rw[e];have h3:(1:Int)<=((aJ (-q)).length:Int)+1:=by omega
   simp[ad,X,f107,V,h3]
  .have e:=nh (q:=q) (by omega)
   obtain⟨c,r,U,R⟩:=kP (q:=q) (by omega);have V:(c::r==[48])=false:=by rw[<-U,bk];simpa using Z
   have Q:=ff R;rw[e,U];rw[U] at H;simp only[List.length_cons] at H;have h3:1+(r.length+1)<=9223372036854775807:=by omega
   simp[ad,X,f107,V,Q,h3,ft]
theorem Bn(q:Rat)(mem:Mem):bz prog 15 [.str (aJ q)] mem (.int .i64 (kU q)) mem:=by
 have X:bq prog 15=some f15:=by kernel_rfl
 refine az (ar _) ?_ mem;by_cases Z:q=0
 .subst Z
  have:kU 0=0:=rfl;simp[ad,X,f15,bk,this]
 .have R:¬q.num=0:=fun e=>Z (qe.1 e)
  by_cases V:q.num<0
  .have e:=iX V
   have U:(45::aJ (-q)==[48])=false:=by rw[<-e,bk];simpa using Z
   rw[e];simp[ad,X,f15,U,kU,jI,V]
  .obtain⟨c,r,S,Q⟩:=kP (q:=q) (by omega)
   have U:(c::r==[48])=false:=by rw[<-S,bk];simpa using Z
   have O:=ff Q;rw[S];simp[ad,X,f15,U,O,kU,jI,V,R]
variable{K:Nat}{O:afu}{b:Code}
theorem Er(n m:Int)(I:m.natAbs<K)(H:ah f145=[b]):
  ∃F:Env->Bool->Env,∀Z d,(aa Z 5=.int .i64 n/\aa Z 6=.int .i64 m)->
   aO (aL prog) (fun _=>[5,6]) O K 36 0 true (.loop b) ⟨Z,[],d⟩=some (.exit 0,⟨F Z d,[],d⟩)/\(aa (F Z d) 5=.int .i64 (euc K n m)/\aa (F Z d) 0=aa Z 0/\aa (F Z d) 1=aa Z 1/\aa (F Z d) 4=aa Z 4):=by
 refine bG rfl (fun Z=>aa Z 5=.int .i64 n/\aa Z 6=.int .i64 m) (fun Z X =>aa X 5=.int .i64 (euc K n m)/\aa X 0=aa Z 0/\aa X 1=aa Z 1/\aa X 4=aa Z 4) ?_;rintro Z d ⟨h5,h6⟩;have S:au [5,6] (ae b) Z ((5,.int .i64 n)::(6,.int .i64 m)::Z)=au [5,6] (ae b) Z Z:=by simp[au,h5,h6]
 rw[<-S];have V:∀(k:Nat) (x y:Int),y.natAbs<k->∃X,ga [5,6] (ae b) Z 0 (aO (aL prog) (fun _=>[5,6]) O K 36 0 true b) k ⟨au [5,6] (ae b) Z ((5,.int .i64 x)::(6,.int .i64 y)::Z),[],d⟩=
   some (.exit 0,⟨X,[],d⟩)/\aa X 5=.int .i64 (euc k x y)/\aa X 0=aa Z 0/\aa X 1=aa Z 1/\aa X 4=aa Z 4:=by
  clear S;simp[ah,aw,f145] at H;intro k;induction k with
  |zero=>intro x y h;omega
  |succ k ih=>
   intro x y G;by_cases U:y=0
   .subst H
    subst U;simp[ga,euc]
   .have Q:(x.tmod y).natAbs<k:=by rw[Int.natAbs_tmod];have:=Nat.mod_lt x.natAbs (show 0<y.natAbs by omega);omega
    obtain⟨X,R,N,M⟩:=ih y (x.tmod y) Q;subst H;refine⟨X,?_,by rw[N,euc,if_neg U],M⟩;rw[ga];simp[U];simp at R;exact R
 exact V K n m I
theorem FZ(n:Int)(m:Nat)(hn:n.natAbs<=4611686018427387904)(H:m≠0)(hm:m<=4611686018427387904)(mem:Mem):bz prog 145 [.int .i64 n,.int .i64 m] mem (.str (aJ (mkRat n m))) mem:=by
 have J:bq prog 145=some f145:=by kernel_rfl
 refine dE ep (lv:=fun _=>[5,6]) (K:=m+1) rfl rfl ?_ mem;obtain⟨b,I⟩:∃b,ah f145=[b]:=⟨_,rfl⟩
 obtain⟨N,hN⟩:=xE (α:=Nat) n.natAbs;obtain⟨F,hF⟩:=Er (O:=ai an) (K:=m+1) (N:Int) (m:Int) (by simp) I;simp[ah,aw,f145] at I;subst I;rw[tz n H,<-hN];have hgE:∀k (x y:Nat),0<=euc k (x:Int) (y:Int):=by
  intro k;induction k with
  |zero=>intro x y;unfold euc;omega
  |succ k ih=>
   intro x y;unfold euc;split
   .omega
   .rw[xu];exact ih y (x%y)
 have V:=sS (m+1) (N:Int) (m:Int) (by simp);have hg0:=hgE (m+1) N m;generalize euc (m+1) (N:Int) (m:Int)=gz at hF V hg0;rw[Int.natAbs_natCast,Int.natAbs_natCast] at V;obtain⟨g,rfl⟩:∃g:Nat,gz=g:=⟨gz.toNat,by omega⟩
 rw[Int.natAbs_natCast] at V;rw[<-V];have hgp:0<g:=by rw[V];exact Nat.gcd_pos_of_pos_right _ (by omega)
 have hgn:g∣N:=by rw[V];exact Nat.gcd_dvd_left _ _
 have hgd:g∣m:=by rw[V];exact Nat.gcd_dvd_right _ _
 have hgm:g<=m:=Nat.le_of_dvd (by omega) hgd;have W:=yM (a:=n) hgp (.inr (by rw[<-hN];exact Nat.mod_eq_zero_of_dvd hgn));have hq1:(n / (g:Int)).natAbs<=n.natAbs:=Int.natAbs_ediv_le_natAbs _ _;obtain⟨Z,hZ⟩:=xE (n / (g:Int));rw[<-hZ] at hq1 W |-;obtain⟨D,R⟩:=xE (m / g);have hDm:D<=m:=by rw[R];exact Nat.div_le_self _ _
 rw[<-R];have w0:IntKind.i64.wrap (-n)= -n:=af;have Q:(if n< -n then -n else n)=(N:Int):=by split<;>omega
 have afi :(if -n<n then n else -n)=(N:Int):=by split<;>omega
 have w1:IntKind.i64.wrap (n.tdiv (g:Int))=Z:=by rw[W.1];exact af
 have M :IntKind.i64.wrap Z=Z:=af;have w2:IntKind.i64.wrap ((m:Int).tdiv (g:Int))=(D:Int):=by rw[xt,<-R];exact af
 have G :IntKind.i64.wrap ((m:Int) / (g:Int))=(D:Int):=by rw[<-Int.natCast_ediv,<-R];exact af
 have U:ef Z=true:=by unfold ef;simp;omega
 have hf2:ef (D:Int)=true:=by unfold ef;simp;omega
 have hDs:bH (D:Int)=aj D:=rfl;have C :¬g=0:=by omega
 have lZ:(bH Z).length+1<=ft/\(bH Z).length+1+(aj D).length<=ft:=by have h1:=du Z;have h2:=ba (u:=Z.natAbs) (k:=20) (by omega) (by omega);have h3:=ba (u:=D) (k:=20) (by omega) (by omega);unfold ft;omega
 obtain⟨l1,l2⟩:=lZ;by_cases B:m=1
 .have o:g=1:=by omega
  have X:D=1:=by rw[R,B,o]
  have j:Z=n:=by rw[hZ,o];exact Int.ediv_one n
  have hfn:ef n=true:=by rw[<-j];exact U
  subst B;rw[if_pos X,j];simp[ad,J,f145,ai,an,hfn]
 .have Y:¬(m:Int)=1:=by omega
  by_cases X:D=1
  .have S:(D:Int)=1:=by omega
   rw[if_pos X];simp[ad,J,f145,Y,w0,Q,hF,C,W,M,G,S,ai,an,U,Nat.testBit]
  .have S:¬(D:Int)=1:=by omega
   rw[if_neg X];simp[ad,J,f145,Y,w0,Q,hF,C,W,M,G,S,ai,an,U,hf2,hDs,l1,l2,Nat.testBit]
theorem Ae(n m:Int)(I:m.natAbs<K)(H:ah f148=[b]):
  ∃F:Env->Bool->Env,∀Z d,(aa Z 9=.int .i64 n/\aa Z 10=.int .i64 m)->
   aO (aL prog) (fun _=>[9,10]) O K 55 0 true (.loop b) ⟨Z,[],d⟩=some (.exit 0,⟨F Z d,[],d⟩)/\(aa (F Z d) 9=.int .i64 (euc K n m)/\aa (F Z d) 5=aa Z 5/\aa (F Z d) 7=aa Z 7/\aa (F Z d) 4=aa Z 4):=by
 refine bG rfl (fun Z=>aa Z 9=.int .i64 n/\aa Z 10=.int .i64 m) (fun Z X =>aa X 9=.int .i64 (euc K n m)/\aa X 5=aa Z 5/\aa X 7=aa Z 7/\aa X 4=aa Z 4) ?_;rintro Z d ⟨h5,h6⟩;have S:au [9,10] (ae b) Z ((9,.int .i64 n)::(10,.int .i64 m)::Z)=au [9,10] (ae b) Z Z:=by simp[au,h5,h6]
 rw[<-S];have V:∀(k:Nat) (x y:Int),y.natAbs<k->∃X,ga [9,10] (ae b) Z 0 (aO (aL prog) (fun _=>[9,10]) O K 55 0 true b) k ⟨au [9,10] (ae b) Z ((9,.int .i64 x)::(10,.int .i64 y)::Z),[],d⟩=
   some (.exit 0,⟨X,[],d⟩)/\aa X 9=.int .i64 (euc k x y)/\aa X 5=aa Z 5/\aa X 7=aa Z 7/\aa X 4=aa Z 4:=by
  clear S;simp[ah,aw,f148] at H;intro k;induction k with
  |zero=>intro x y h;omega
  |succ k ih=>
   intro x y G;by_cases U:y=0
   .subst H
    subst U;simp[ga,euc]
   .have Q:(x.tmod y).natAbs<k:=by rw[Int.natAbs_tmod];have:=Nat.mod_lt x.natAbs (show 0<y.natAbs by omega);omega
    obtain⟨X,R,N,M⟩:=ih y (x.tmod y) Q;subst H;refine⟨X,?_,by rw[N,euc,if_neg U],M⟩;rw[ga];simp[U];simp at R;exact R
 exact V K n m I
theorem Q9:∀(k x y:Nat),0<=euc k (x:Int) (y:Int):=by
 intro k;induction k with
 |zero=>intro x y;unfold euc;omega
 |succ k ih=>
  intro x y;unfold euc;split
  .omega
  .rw[xu];exact ih y (x%y)
theorem H6(n:Int)(m:Nat)(hm0:m≠0)(H:(bH n).length<=18)(I:(aj m).length<=18)(mem:Mem):bz prog 148 [.str (bH n),.str (aj m)] mem (.str (aJ (mkRat n m))) mem:=by
 have hG:bq prog 148=some f148:=by kernel_rfl
 have hn:=jV H;have hm:m<10 ^ 18:=by have h1:=cf m;have h2:10 ^ (aj m).length<=10 ^ 18:=L9 (by omega) I;omega
 refine dE ep (lv:=fun _=>[9,10]) (K:=m+1) rfl rfl ?_ mem;obtain⟨b,hb⟩:∃b,ah f148=[b]:=⟨_,rfl⟩
 obtain⟨N,hN⟩:=xE (α:=Nat) n.natAbs;rw[<-hN] at hn;obtain⟨F,C⟩:=Ae (O:=ai an) (K:=m+1) (N:Int) (m:Int) (by simp) hb;simp[ah,aw,f148] at hb;subst hb;rw[tz n hm0,<-hN];have B:=sS (m+1) (N:Int) (m:Int) (by simp);have hg0:=Q9 (m+1) N m;generalize euc (m+1) (N:Int) (m:Int)=gz at C B hg0;rw[Int.natAbs_natCast,Int.natAbs_natCast] at B;obtain⟨g,rfl⟩:∃g:Nat,gz=g:=⟨gz.toNat,by omega⟩
 rw[Int.natAbs_natCast] at B;rw[<-B];have hgp:0<g:=by rw[B];exact Nat.gcd_pos_of_pos_right _ (by omega)
 have hgn:g∣N:=by rw[B];exact Nat.gcd_dvd_left _ _
 have y:=yM (a:=n) hgp (.inr (by rw[<-hN];exact Nat.mod_eq_zero_of_dvd hgn));have hq1:(n / (g:Int)).natAbs<=n.natAbs:=Int.natAbs_ediv_le_natAbs _ _;obtain⟨Z,hZ⟩:=xE (n / (g:Int));rw[<-hZ] at hq1 y |-;obtain⟨D,hD⟩:=xE (m / g);have hDm:D<=m:=by rw[hD];exact Nat.div_le_self _ _
 rw[<-hD];have w1:IntKind.i64.wrap (n.tdiv (g:Int))=Z:=by rw[y.1];exact af
 have U :IntKind.i64.wrap Z=Z:=af;have w2:IntKind.i64.wrap ((m:Int).tdiv (g:Int))=(D:Int):=by rw[xt,<-hD];exact af
 have S :IntKind.i64.wrap ((m:Int) / (g:Int))=(D:Int):=by rw[<-Int.natCast_ediv,<-hD];exact af
 have R:ef Z=true:=by unfold ef;simp;omega
 have j:ef (D:Int)=true:=by unfold ef;simp;omega
 have Y:bH (D:Int)=aj D:=rfl;have Q :¬g=0:=by omega
 have lZ:(bH Z).length+1<=ft/\(bH Z).length+1+(aj D).length<=ft:=by have h1:=du Z;have h2:=ba (u:=Z.natAbs) (k:=20) (by omega) (by omega);have h3:=ba (u:=D) (k:=20) (by omega) (by omega);unfold ft;omega
 obtain⟨l1,l2⟩:=lZ;have M:Lib.atoi (aj m)=some (m:Int):=n8 (m:Int);have G:¬(m:Int)<0:=by omega
 have w0:IntKind.i64.wrap (-n)= -n:=af;have aaD:n<0-> -n=(N:Int):=by omega
 have W:¬n<0->n=(N:Int):=by omega
 by_cases o:n<0
 .have J :IntKind.i64.wrap (-n)=(N:Int):=by rw[w0];exact aaD o
  by_cases V:D=1
  .have X:(D:Int)=1:=by omega
   rw[if_pos V];simp[ad,hG,f148,ai,an,H,I,n8,M,G,o,J,C,Q,y,U,S,X,R,Nat.testBit]
  .have X:¬(D:Int)=1:=by omega
   rw[if_neg V];simp[ad,hG,f148,ai,an,H,I,n8,M,G,o,J,C,Q,y,U,S,X,R,j,Y,l1,l2,Nat.testBit]
 .have e:=W o
  rw[<-e] at C;by_cases V:D=1
  .have X:(D:Int)=1:=by omega
   rw[if_pos V];simp[ad,hG,f148,ai,an,H,I,n8,M,G,o, C,Q,y,U,S,X,R,Nat.testBit]
  .have X:¬(D:Int)=1:=by omega
   rw[if_neg V];simp[ad,hG,f148,ai,an,H,I,n8,M,G,o, C,Q,y,U,S,X,R,j,Y,l1,l2,Nat.testBit]
noncomputable def cQ(f:FuncId)(args:List AV):Option AV:=
 match f,args with
 |106,[.str s,.str t]=>match im s,im t with
  |some a,some b=>if (aj a.natAbs).length<=10000/\(aj b.natAbs).length<=10000 then some (.str (aj (a.natAbs.gcd b.natAbs))) else none
  |_,_=>none
 |148,[.str s,.str t]=>match im s,xF t with
  |some n,some m=>if m≠0/\(bH n).length<=18/\(aj m).length<=18 then some (.str (aJ (mkRat n m))) else none
  |_,_=>none
 |145,[.int .i64 n,.int .i64 d]=>if d.toNat≠0/\n.natAbs<=4611686018427387904/\0<=d/\d.toNat<=4611686018427387904 then some (.str (aJ (mkRat n d.toNat))) else none
 |102,[.str s]=>match dZ s with
  |some q=>if s.length<=1000000000 then some (.tuple [.str (bH q.num),.str (aj q.den)]) else none
  |none=>none
 |107,[.str s]=>match dZ s with
  |some q=>if s.length<=1000000000 then some (.str (aJ (-q))) else none
  |none=>none
 |15,[.str s]=>match dZ s with
  |some q=>some (.int .i64 (kU q))
  |none=>none
 |f,args=>dq f args
theorem uU:afs prog (ai cQ):=bT fun f R v h mem=>by
 unfold cQ at h;split at h
 .split at h
  .rename_i m n U S
   split at h
   next Z=>cases h;rw[bK U,bK S];exact PU m n Z.1 Z.2 mem
   .cases h
  .cases h
 .split at h
  .rename_i m n U S
   split at h
   next Z=>cases h;rw[bK U,gB S];exact H6 m n Z.1 Z.2.1 Z.2.2 mem
   .cases h
  .cases h
 .split at h
  .rename_i Z
   obtain⟨Q,N,M,G⟩:=Z;cases h;have:=FZ _ _ N Q G mem;rw[QQb M] at this;exact this
  .cases h
 .split at h
  .rename_i q X
   split at h
   next V=>cases h;rw[aF X] at V |-;exact F0 q V mem
   .cases h
  .cases h
 .split at h
  .rename_i q X
   split at h
   next V=>cases h;rw[aF X] at V |-;exact PM q V mem
   .cases h
  .cases h
 .split at h
  next q X=>cases h;rw[aF X];exact Bn q mem
  .cases h
 .have:=Cb.fn _ _ mem ⟨v,none,[]⟩ (by unfold ai;simp only;rw[h])
  simpa [afw.mem] using this
theorem Bm(n:Int)(d:Nat)(hd:d≠0)(I:(aj n.natAbs).length<=10000)(H:(aj d).length<=10000)(mem:Mem):
  bz prog 92 [.str (bH n),.str (aj d)] mem (.str (aJ (mkRat n d))) mem:=by
 have N:bq prog 92=some f92:=by kernel_rfl
 refine az uU ?_ mem;have J:=du n;by_cases hq:(bH n).length<=9/\(aj d).length<=9
 .have j:((bH n).length:Int)<=9:=by omega
  have W:((aj d).length:Int)<=9:=by omega
  have q3:(bH n).length<=18:=by omega
  have q4:(aj d).length<=18:=by omega
  simp[ad,N,f92,j,W,ai,cQ,ax,bu,hd,q3,q4]
 .rw[tz n hd]
  have m:=Hy hd;have X:0<n.natAbs.gcd d:=Nat.gcd_pos_of_pos_right _ (by omega);have M:n.natAbs.gcd d∣n.natAbs:=Nat.gcd_dvd_left _ _;have G:n.natAbs.gcd d∣d:=Nat.gcd_dvd_right _ _;have F:n.natAbs.gcd d<=d:=Nat.le_of_dvd (by omega) G;obtain⟨g,C⟩:=xE (n.natAbs.gcd d);rw[<-C] at X M G F |-;have S:(aj g).length<=10000:=by have:=bI F;omega
  have R:n.natAbs%g=0:=Nat.mod_eq_zero_of_dvd M;have V:bH ((d:Int) / (g:Int))=aj (d / g):=by rw[<-Int.natCast_ediv];rfl
  obtain⟨Z,Q⟩:=xE (n / (g:Int));obtain⟨D,Y⟩:=xE (d / g);rw[<-Y] at V;rw[<-Q,<-Y];have hq1:(aj Z.natAbs).length<=10000:=by have:=bI (Int.natAbs_ediv_le_natAbs n g);rw[<-Q] at this;omega
  have hq2:(aj D).length<=10000:=by have:=bI (Nat.div_le_self d g);rw[<-Y] at this;omega
  have hl4:=du Z;have B:(bH Z).length+1<=ft:=by unfold ft;omega
  have y:(bH Z).length+1+(aj D).length<=ft:=by unfold ft;omega
  by_cases j:(bH n).length<=9
  .have W:¬(aj d).length<=9:=fun e=>hq ⟨j,e⟩
   have U:((bH n).length:Int)<=9:=by omega
   have u:¬((aj d).length:Int)<=9:=by omega
   by_cases o:D=1
   .simp[ad,N,f92,U,u,ai,cQ,dq,ez,eh,bM,bJ,cM,bu,ax,m,I,H,<-C,S,X,R,<-Q,V,fg,o]
   .simp[ad,N,f92,U,u,ai,cQ,dq,ez,eh,bM,bJ,cM,bu,ax,m,I,H,<-C,S,X,R,<-Q,V,fg,o,B,y]
  .have U:¬((bH n).length:Int)<=9:=by omega
   by_cases o:D=1
   .simp[ad,N,f92,U,ai,cQ,dq,ez,eh,bM,bJ,cM,bu,ax,m,I,H,<-C,S,X,R,<-Q,V,fg,o]
   .simp[ad,N,f92,U,ai,cQ,dq,ez,eh,bM,bJ,cM,bu,ax,m,I,H,<-C,S,X,R,<-Q,V,fg,o,B,y]
theorem zK{H:List UInt8}(hd:H.all isD=true)(I:H.length<=9)(j:Nat):eP (H.take j)<10 ^ 9:=by
 have X:=DM (pR hd j);have Z:(H.take j).length<=9:=by rw[M0];omega
 have h3:10 ^ (H.take j).length<=10 ^ 9:=L9 (by omega) Z;omega
def kg(c:Code):List Nat:=if (ae c).contains 24 then [2,5] else [3,5]
variable{b2:Code}
theorem zX(s H rest:List UInt8)(I:Nat)(hs:s.length<=9)(hst:I<=s.length)(hd:s.drop I=H++rest)(W:rest=[]\/∃r,rest=47::r)(I':H.all isD=true)(hK:10<K)(J:ah f144=[b,b2]):
  ∃F:Env->Bool->Env,∀Z d,(aa Z 0=.str s/\aa Z 2=.int .i64 0/\aa Z 5=.int .i64 (I:Int))->
   aO (aL prog) kg O K 57 0 true (.loop b) ⟨Z,[],d⟩=some (.exit 0,⟨F Z d,[],d⟩)/\(aa (F Z d) 2=.int .i64 ((eP H:Nat):Int)/\aa (F Z d) 5=.int .i64 ((I+H.length:Nat):Int)/\aa (F Z d) 0=aa Z 0/\aa (F Z d) 3=aa Z 3/\aa (F Z d) 6=aa Z 6):=by
 have C:kg b=[2,5]:=by simp[ah,aw,f144] at J;obtain⟨rfl,rfl⟩:=J;decide
 have C':I+H.length+rest.length=s.length:=by have:=congrArg List.length hd;simp at this;omega
 refine bG C (fun Z=>aa Z 0=.str s/\aa Z 2=.int .i64 0/\aa Z 5=.int .i64 (I:Int)) (fun Z R =>aa R 2=.int .i64 ((eP H:Nat):Int)/\aa R 5=.int .i64 ((I+H.length:Nat):Int)/\aa R 0=aa Z 0/\aa R 3=aa Z 3/\aa R 6=aa Z 6) ?_;rintro Z d ⟨h0,h2,h5⟩;have Q:eP (H.take 0)=0:=by rw[List.take_zero];unfold eP;rw[dR]
 have hn:au [2,5] (ae b) Z ((2,.int .i64 ((eP (H.take 0):Nat):Int))::(5,.int .i64 ((I+0:Nat):Int))::Z)=au [2,5] (ae b) Z Z:=by rw[Q];simp[au,h2,h5]
 rw[<-hn];refine bZ (α:=Nat) (fun j=>⟨au [2,5] (ae b) Z ((2,.int .i64 ((eP (H.take j):Nat):Int))::(5,.int .i64 ((I+j:Nat):Int))::Z),[],d⟩)
  (fun j=>H.length-j) (fun j=>j<=H.length) (.exit 0) _ d _ (by simp) ?_ K 0 (Nat.zero_le _) (by simp only[QQg];omega)
 intro j hj;clear hn Q;simp[ah,aw,f144] at J;obtain⟨i,B⟩:=xE (I+j);have X:s[i]? =(H++rest)[j]? :=by rw[<-hd,QQJ,B]
 by_cases y:j=H.length
 .right
  subst y;rw[V1,<-B];rw[Ns (Es _),Nat.sub_self] at X;obtain⟨rfl,rfl⟩:=J;rcases W with h | ⟨r,h⟩
  .subst h
   have V:i=s.length:=by simp at C';omega
   have h1:¬i<s.length:=by omega
   have u:¬(i:Int)<(s.length:Int):=by omega
   simp[h0,u]
  .subst h
   have V:i<s.length:=by simp at C';omega
   have S:(i:Int)<(s.length:Int):=by omega
   have N:s[i]? =some 47:=by simpa using X
   have o :s[i]=47:=(Hi.1 N).2;simp[h0,V,S,o]
 .left
  have m:j<H.length:=by omega
  obtain⟨c,N⟩:∃c,H[j]? =some c:=⟨H[j],by simp[m]⟩
  rw[GE m,N] at X;have V:i<s.length:=gL X;have S:(i:Int)<(s.length:Int):=by omega
  have Y :s[i]=c:=(Hi.1 X).2;have U:=List.all_eq_true.1 I' c (Lo N);have hcd:=tW U;have adh:48<=c.toNat/\c.toNat<=57:=by unfold isD at U;simp only[Ar,Cs] at U;exact U
  have ae2:¬((c.toNat:Int)=47):=by omega
  have aax:H.take (j+1)=H.take j++[c]:=by rw[List.take_add_one,N];rfl
  have M:eP (H.take (j+1))=10*eP (H.take j)+(c.toNat-48):=by rw[aax,oP]
  have hvb:=zK I' (by omega) j;obtain⟨v,G⟩:=xE (eP (H.take j));obtain⟨v2,D⟩:=xE (eP (H.take (j+1)));rw[<-G] at hvb M;rw[<-D] at M;obtain⟨k,hk⟩:=xE (α:=Nat) (c.toNat-48);have w0:IntKind.u8.wrap ((c.toNat:Int)-48)=(k:Int):=by rw[HI (by omega) (by omega)];omega
  have w1:IntKind.i64.wrap (k:Int)=(k:Int):=af;have w2:IntKind.i64.wrap (10*(v:Int))=10*(v:Int):=af;have w3:IntKind.i64.wrap (10*(v:Int)+(k:Int))=(v2:Int):=by rw[af];omega
  have w4:IntKind.i64.wrap ((i:Int)+1)=((I+(j+1):Nat):Int):=by rw[af];omega
  rw[<-B];refine⟨j+1,?_⟩;refine bF (show j+1<=H.length/\_ from⟨m,by omega⟩) ?_;obtain⟨rfl,rfl⟩:=J;simp[h0,V,S,Y,ae2,<-G,<-D,w0,w1,w2,w3,w4];try omega
theorem zY(s H:List UInt8)(I:Nat)(hs:s.length<=9)(hst:I<=s.length)(hd:s.drop I=H)(W:H.all isD=true)(hK:10<K)(J:ah f144=[b,b2]):
  ∃F:Env->Bool->Env,∀Z d,(aa Z 0=.str s/\aa Z 3=.int .i64 0/\aa Z 5=.int .i64 (I:Int))->
   aO (aL prog) kg O K 57 0 true (.loop b2) ⟨Z,[],d⟩=some (.exit 2,⟨F Z d,[],d⟩)/\(aa (F Z d) 3=.int .i64 ((eP H:Nat):Int)/\aa (F Z d) 2=aa Z 2/\aa (F Z d) 6=aa Z 6):=by
 have N:kg b2=[3,5]:=by simp[ah,aw,f144] at J;obtain⟨rfl,rfl⟩:=J;decide
 have C':I+H.length=s.length:=by have:=congrArg List.length hd;simp at this;omega
 refine bG N (fun Z=>aa Z 0=.str s/\aa Z 3=.int .i64 0/\aa Z 5=.int .i64 (I:Int)) (fun Z M =>aa M 3=.int .i64 ((eP H:Nat):Int)/\aa M 2=aa Z 2/\aa M 6=aa Z 6) ?_;rintro Z d ⟨h0,h2,h5⟩;have U:eP (H.take 0)=0:=by rw[List.take_zero];unfold eP;rw[dR]
 have Y:au [3,5] (ae b2) Z ((3,.int .i64 ((eP (H.take 0):Nat):Int))::(5,.int .i64 ((I+0:Nat):Int))::Z)=au [3,5] (ae b2) Z Z:=by rw[U];simp[au,h2,h5]
 rw[<-Y];refine bZ (α:=Nat) (fun j=>⟨au [3,5] (ae b2) Z ((3,.int .i64 ((eP (H.take j):Nat):Int))::(5,.int .i64 ((I+j:Nat):Int))::Z),[],d⟩)
  (fun j=>H.length-j) (fun j=>j<=H.length) (.exit 2) _ d _ (by simp) ?_ K 0 (Nat.zero_le _) (by simp only[QQg];omega)
 intro j hj;clear Y U;simp[ah,aw,f144] at J;obtain⟨i,G⟩:=xE (I+j);have V:s[i]? =H[j]? :=by rw[<-hd,QQJ,G]
 by_cases D:j=H.length
 .right
  subst D;rw[V1,<-G];obtain⟨rfl,rfl⟩:=J;have h1:¬i<s.length:=by omega
  have h1I:¬(i:Int)<(s.length:Int):=by omega
  simp[h0,h1]
 .left
  have A':j<H.length:=by omega
  obtain⟨c,C⟩:∃c,H[j]? =some c:=⟨H[j],by simp[A']⟩
  rw[C] at V;have B:i<s.length:=gL V;have y:(i:Int)<(s.length:Int):=by omega
  have u :s[i]=c:=(Hi.1 V).2;have X:=List.all_eq_true.1 W c (Lo C);have hcd:=tW X;have adh:48<=c.toNat/\c.toNat<=57:=by unfold isD at X;simp only[Ar,Cs] at X;exact X
  have o:H.take (j+1)=H.take j++[c]:=by rw[List.take_add_one,C];rfl
  have S:eP (H.take (j+1))=10*eP (H.take j)+(c.toNat-48):=by rw[o,oP]
  have m:=zK W (by omega) j;obtain⟨v,R⟩:=xE (eP (H.take j));obtain⟨v2,Q⟩:=xE (eP (H.take (j+1)));rw[<-R] at m S;rw[<-Q] at S;obtain⟨k,hk⟩:=xE (α:=Nat) (c.toNat-48);have w0:IntKind.u8.wrap ((c.toNat:Int)-48)=(k:Int):=by rw[HI (by omega) (by omega)];omega
  have w1:IntKind.i64.wrap (k:Int)=(k:Int):=af;have w2:IntKind.i64.wrap (10*(v:Int))=10*(v:Int):=af;have w3:IntKind.i64.wrap (10*(v:Int)+(k:Int))=(v2:Int):=by rw[af];omega
  have w4:IntKind.i64.wrap ((i:Int)+1)=((I+(j+1):Nat):Int):=by rw[af];omega
  rw[<-G];refine⟨j+1,?_⟩;refine bF (show j+1<=H.length/\_ from⟨A',by omega⟩) ?_;obtain⟨rfl,rfl⟩:=J;simp[h0,B,y,u,<-R,<-Q,w0,w1,w2,w3,w4];try omega
theorem H5(q:Rat)(mem:Mem):bz prog 144 [.str (aJ q)] mem (if (aJ q).length<=9 then .tuple [.int .i64 q.num,.int .i64 q.den,.bool true] else .tuple [.int .i64 0,.int .i64 0,.bool false]) mem:=by
 have Y:bq prog 144=some f144:=by kernel_rfl
 refine dE (ar _) (lv:=kg) (K:=11) rfl (by split<;>rfl) ?_ mem;by_cases W:(aJ q).length<=9
 .rw[if_pos W]
  have S:¬(9<((aJ q).length:Int)):=by omega
  obtain⟨b,b2,j⟩:∃b b2,ah f144=[b,b2]:=⟨_,_,rfl⟩
  obtain⟨V,U,Q⟩:=yJ q;obtain⟨s,hs⟩:=xE (aJ q);rw[<-hs] at W S U |-;obtain⟨N,hN⟩:=xE q.num.natAbs;rw[<-hN] at U;have R:=dM N;have hvN:=dP N;have hpN:=mZ N;have J:=jC N;have aam:V=[]\/∃r,V=47::r:=by rw[Q];split<;>simp
  obtain⟨I,Z⟩:=xE (α:=Nat) (if q.num<0 then 1 else 0);have H:(if q.num<0 then [(45:UInt8)] else []).length=I:=by rw[Z];split<;>rfl
  have abi:s.drop I=aj N++V:=by rw[U,<-H,List.drop_left]
  have C':s.length=I+(aj N).length+V.length:=by rw[U,Nm,H,Nm];omega
  obtain⟨F,G⟩:=zX (O:=bC) (K:=11) s (aj N) V I W (by omega) abi aam R (by omega) j;rw[hvN] at G;obtain⟨X,hat⟩:=xE (I+(aj N).length);rw[<-hat] at G C';have afr:N<10 ^ 9:=by have h1:=cf N;have h2:10 ^ (aj N).length<=10 ^ 9:=L9 (by omega) (by omega);omega
  have wn:IntKind.i64.wrap (-(N:Int))= -(N:Int):=af;have wp:IntKind.i64.wrap (N:Int)=(N:Int):=af;by_cases D:q.den=1
  .rw[if_pos D] at Q
   subst Q;have B:¬X<s.length:=by simp at C';omega
   simp[ah,aw,f144] at j;obtain⟨rfl,rfl⟩:=j;by_cases C:q.num<0
   .rw[if_pos C] at Z
    subst Z;have M:s[0]? =some 45:=by rw[U,if_pos C];rfl
    have e: -(N:Int)=q.num:=by omega
    have y :IntKind.i64.wrap (-(N:Int))=q.num:=by rw[wn,e]
    simp only[Int.natCast_one] at G;simp[ad,Y,f144,S,M,G,B,y,D]
   .rw[if_neg C] at Z
    subst Z;have M:∃c,s[0]? =some c/\isD c=true:=by
     rw[U,if_neg C];cases hx:aj N with
     |nil=>exact absurd hx J
     |cons c r=>
      rw[hx] at R;simp only[QQX,Ar] at R;exact⟨c,by simp,R.1⟩
    obtain⟨c,M,u⟩:=M;have o:=ff u;have e:(N:Int)=q.num:=by omega
    have m :IntKind.i64.wrap (N:Int)=q.num:=by rw[wp,e]
    simp only[Int.natCast_zero] at G;simp[ad,Y,f144,S,M,o,G,B,m,D]
  .rw[if_neg D] at Q
   subst Q;have B:X<s.length:=by simp at C';omega
   have acJ:(X:Int)<(s.length:Int):=by omega
   have acN:s.drop (X+1)=aj q.den:=by
    have h1:s.drop X=47::aj q.den:=by rw[hat,<-QXQ,abi,List.drop_left]
    rw[<-QXQ,h1];rfl
   obtain⟨F2,J'⟩:=zY (O:=bC) (K:=11) s (aj q.den) (X+1) W (by omega) acN (dM _) (by omega) j;rw[dP] at J';have w1:IntKind.i64.wrap ((X:Int)+1)=((X+1:Nat):Int):=by rw[af];omega
   obtain⟨at2,ae3⟩:=xE (X+1);rw[<-ae3] at w1 J';simp[ah,aw,f144] at j;obtain⟨rfl,rfl⟩:=j;by_cases C:q.num<0
   .rw[if_pos C] at Z
    subst Z;have M:s[0]? =some 45:=by rw[U,if_pos C];rfl
    have e: -(N:Int)=q.num:=by omega
    have y :IntKind.i64.wrap (-(N:Int))=q.num:=by rw[wn,e]
    simp only[Int.natCast_one] at G;simp[ad,Y,f144,S,M,G,acJ,w1,J',y]
   .rw[if_neg C] at Z
    subst Z;have M:∃c,s[0]? =some c/\isD c=true:=by
     rw[U,if_neg C];cases hx:aj N with
     |nil=>exact absurd hx J
     |cons c r=>
      rw[hx] at R;simp only[QQX,Ar] at R;exact⟨c,by simp,R.1⟩
    obtain⟨c,M,u⟩:=M;have o:=ff u;have e:(N:Int)=q.num:=by omega
    have m :IntKind.i64.wrap (N:Int)=q.num:=by rw[wp,e]
    simp only[Int.natCast_zero] at G;simp[ad,Y,f144,S,M,o,G,acJ,w1,J',m]
 .rw[if_neg W]
  have S:(9<((aJ q).length:Int)):=by omega
  simp[ad,Y,f144,S]
noncomputable def fP(f:FuncId)(args:List AV):Option AV:=
 match f,args with
 |144,[.str s]=>match dZ s with
  |some q=>some (if (aJ q).length<=9 then .tuple [.int .i64 q.num,.int .i64 q.den,.bool true] else .tuple [.int .i64 0,.int .i64 0,.bool false])
  |none=>none
 |92,[.str s,.str t]=>match im s,xF t with
  |some n,some d=>if d≠0/\(aj n.natAbs).length<=10000/\(aj d).length<=10000 then some (.str (aJ (mkRat n d))) else none
  |_,_=>none
 |f,args=>cQ f args
theorem pL:afs prog (ai fP):=bT fun f X v h mem=>by
 unfold fP at h;split at h
 .split at h
  next q V=>cases h;rw[aF V];exact H5 q mem
  .cases h
 .split at h
  .rename_i m n U S
   split at h
   next Z=>cases h;rw[bK U,gB S];exact Bm m n Z.1 Z.2.1 Z.2.2 mem
   .cases h
  .cases h
 .have:=uU.fn _ _ mem ⟨v,none,[]⟩ (by unfold ai;simp only;rw[h])
  simpa [afw.mem] using this
def nE(q:Rat):Prop:=(aj q.num.natAbs).length<=2000/\(aj q.den).length<=2000
variable{q:Rat}
theorem lE(h:nE q):lD q:=⟨by have:=h.1;omega,by have:=h.2;omega⟩
theorem wP(h:(aJ q).length<=9):q.num.natAbs<10 ^ 9/\q.den<10 ^ 9:=GZ h
theorem EU(a b:Rat)(H:nE a)(I:nE b)(mem:Mem):
  bz prog 90 [.str (aJ a),.str (aJ b)] mem (.str (aJ (a+b))) mem:=by
 have G:bq prog 90=some f90:=by kernel_rfl
 refine az pL ?_ mem;have F:=gh (lE H);have C:=gh (lE I);have Z:a.den*b.den≠0:=Nat.mul_ne_zero a.den_nz b.den_nz;have Q:=Rat.add_def' a b;obtain⟨X,V⟩:=xE (a.num*(b.den:Int));obtain⟨Y,U⟩:=xE (b.num*(a.den:Int));obtain⟨D,S⟩:=xE (a.den*b.den);rw[<-V,<-U,<-S] at Q;rw[<-S] at Z;rw[Q];by_cases B:(aJ a).length<=9/\(aJ b).length<=9
 .obtain⟨R,M⟩:=B
  obtain⟨a1,y⟩:=wP R;obtain⟨b1,b2⟩:=wP M;have u:X.natAbs<10 ^ 9*10 ^ 9:=by rw[V];exact fE a1 (by simpa using b2)
  have o:Y.natAbs<10 ^ 9*10 ^ 9:=by rw[U];exact fE b1 (by simpa using y)
  have d1:D<10 ^ 9*10 ^ 9:=by rw[S];exact Nat.mul_lt_mul'' y b2
  have w1:IntKind.i64.wrap (a.num*(b.den:Int))=X:=by rw[<-V];exact af
  have w2:IntKind.i64.wrap (b.num*(a.den:Int))=Y:=by rw[<-U];exact af
  have w3:IntKind.i64.wrap (X+Y)=X+Y:=af;have w4:IntKind.i64.wrap ((a.den:Int)*(b.den:Int))=(D:Int):=by rw[<-Int.natCast_mul,<-S];exact af
  have c1:(X+Y).natAbs<=4611686018427387904:=by omega
  have c2:D<=4611686018427387904:=by omega
  simp[ad,G,f90,ai,fP,cQ,aE,R,M,w1,w2,w3,w4,Z,c1,c2]
 .have m:(aj a.num.natAbs).length<=5000:=by have:=H.1;omega
  have j:(aj a.den).length<=5000:=by have:=H.2;omega
  have W:(aj b.num.natAbs).length<=5000:=by have:=I.1;omega
  have J:(aj b.den).length<=5000:=by have:=I.2;omega
  have u:(aj X.natAbs).length<=4000:=by rw[V,QQf,Int.natAbs_natCast];exact dL H.1 I.2
  have o:(aj Y.natAbs).length<=4000:=by rw[U,QQf,Int.natAbs_natCast];exact dL I.1 H.2
  have s5:(aj X.natAbs).length<=10000:=by omega
  have s6:(aj Y.natAbs).length<=10000:=by omega
  have s7:(aj (X+Y).natAbs).length<=10000:=by have h1:=jB u o;have h2:=bI (Int.natAbs_add_le X Y);omega
  have s8:(aj D).length<=10000:=by
   have:(aj D).length<=4000:=by rw[S];exact dL H.2 I.2
   omega
  have N:bH ((a.den:Int)*(b.den:Int))=aj D:=by rw[<-Int.natCast_mul,<-S];rfl
  by_cases R:(aJ a).length<=9
  .have M:¬(aJ b).length<=9:=fun h=>B ⟨R,h⟩
   simp[ad,G,f90,ai,fP,cQ,dq,ez,eh,aE,ax,cM,bu,F,C,R,M,m,j,W,J,<-V,<-U,s5,s6,s7,s8,N,Z]
  .simp[ad,G,f90,ai,fP,cQ,dq,ez,eh,aE,ax,cM,bu,F,C,R,m,j,W,J,<-V,<-U,s5,s6,s7,s8,N,Z]
theorem EV(a b:Rat)(H:nE a)(I:nE b)(mem:Mem):
  bz prog 94 [.str (aJ a),.str (aJ b)] mem (.str (aJ (a*b))) mem:=by
 have M:bq prog 94=some f94:=by kernel_rfl
 refine az pL ?_ mem;have G:=gh (lE H);have F:=gh (lE I);have Z:a.den*b.den≠0:=Nat.mul_ne_zero a.den_nz b.den_nz;have R:=Rat.mul_def' a b;obtain⟨X,V⟩:=xE (a.num*b.num);obtain⟨D,U⟩:=xE (a.den*b.den);rw[<-V,<-U] at R;rw[<-U] at Z;rw[R];by_cases C:(aJ a).length<=9/\(aJ b).length<=9
 .obtain⟨S,N⟩:=C
  obtain⟨Y,W⟩:=wP S;obtain⟨J,b2⟩:=wP N;have x1:X.natAbs<10 ^ 9*10 ^ 9:=by rw[V];exact fE Y J
  have d1:D<10 ^ 9*10 ^ 9:=by rw[U];exact Nat.mul_lt_mul'' W b2
  have w1:IntKind.i64.wrap (a.num*b.num)=X:=by rw[<-V];exact af
  have w4:IntKind.i64.wrap ((a.den:Int)*(b.den:Int))=(D:Int):=by rw[<-Int.natCast_mul,<-U];exact af
  have c1:X.natAbs<=4611686018427387904:=by omega
  have c2:D<=4611686018427387904:=by omega
  simp[ad,M,f94,ai,fP,cQ,aE,S,N,w1,w4,Z,c1,c2]
 .have B:(aj a.num.natAbs).length<=5000:=by have:=H.1;omega
  have y:(aj a.den).length<=5000:=by have:=H.2;omega
  have u:(aj b.num.natAbs).length<=5000:=by have:=I.1;omega
  have o:(aj b.den).length<=5000:=by have:=I.2;omega
  have x1:(aj X.natAbs).length<=4000:=by rw[V,QQf];exact dL H.1 I.1
  have m:(aj X.natAbs).length<=10000:=by omega
  have j:(aj D).length<=10000:=by
   have:(aj D).length<=4000:=by rw[U];exact dL H.2 I.2
   omega
  have Q:bH ((a.den:Int)*(b.den:Int))=aj D:=by rw[<-Int.natCast_mul,<-U];rfl
  by_cases S:(aJ a).length<=9
  .have N:¬(aJ b).length<=9:=fun h=>C ⟨S,h⟩
   simp[ad,M,f94,ai,fP,cQ,dq,aE,ax,cM,bu,G,F,S,N,B,y,u,o,<-V,m,j,Q,Z]
  .simp[ad,M,f94,ai,fP,cQ,dq,aE,ax,cM,bu,G,F,S,B,y,u,o,<-V,m,j,Q,Z]
noncomputable def jQ(f:FuncId)(args:List AV):Option AV:=
 match f,args with
 |90,[.str s,.str t]=>match dZ s,dZ t with
  |some a,some b=>if (aj a.num.natAbs).length<=2000/\(aj a.den).length<=2000/\(aj b.num.natAbs).length<=2000/\(aj b.den).length<=2000 then some (.str (aJ (a+b))) else none
  |_,_=>none
 |94,[.str s,.str t]=>match dZ s,dZ t with
  |some a,some b=>if (aj a.num.natAbs).length<=2000/\(aj a.den).length<=2000/\(aj b.num.natAbs).length<=2000/\(aj b.den).length<=2000 then some (.str (aJ (a*b))) else none
  |_,_=>none
 |f,args=>fP f args
theorem rH:afs prog (ai jQ):=bT fun f U v h mem=>by
 unfold jQ at h;split at h
 .split at h
  .rename_i m n X V
   split at h
   next Z=>cases h;rw[aF X,aF V];exact EU m n ⟨Z.1,Z.2.1⟩ ⟨Z.2.2.1,Z.2.2.2⟩ mem
   .cases h
  .cases h
 .split at h
  .rename_i m n X V
   split at h
   next Z=>cases h;rw[aF X,aF V];exact EV m n ⟨Z.1,Z.2.1⟩ ⟨Z.2.2.1,Z.2.2.2⟩ mem
   .cases h
  .cases h
 .have:=pL.fn _ _ mem ⟨v,none,[]⟩ (by unfold ai;simp only;rw[h])
  simpa [afw.mem] using this
theorem PN(a b:Rat)(I:nE a)(H:nE b)(mem:Mem):
  bz prog 53 [.str (aJ a),.str (aJ b)] mem (.str (aJ (a-b))) mem:=by
 have Z:bq prog 53=some f53:=by kernel_rfl
 refine az rH ?_ mem;have X:=gh (lE H);obtain⟨V,U⟩:=I;obtain⟨S,b2⟩:=H;have e:a+ -b=a-b:=(Rat.sub_eq_add_neg a b).symm;simp[ad,Z,f53,ai,jQ,fP,cQ,aE,X,V,U,S,b2,e]
theorem PL(a b:Rat)(I:0<b.num)(J:nE a)(H:nE b)(mem:Mem):
  bz prog 192 [.str (aJ a),.str (aJ b)] mem (.str (aJ (a / b))) mem:=by
 have F:bq prog 192=some f192:=by kernel_rfl
 refine az rH ?_ mem;have D:=gh (lE H);obtain⟨C,B⟩:=J;obtain⟨R,b2⟩:=H;have e:a*b⁻¹=a / b:=(Rat.div_def a b).symm;obtain⟨Q,Z⟩:=vj I;have X:=Rat.mkRat_self b⁻¹;obtain⟨m,N⟩:=xE b.num.natAbs;have V:m≠0:=by omega
 have U:bH b.num=aj m:=by rw[gj (by omega),N]
 rw[<-N] at R Z;rw[Q,Z] at X;have M:(aj b⁻¹.num.natAbs).length<=2000:=by rw[Q,Int.natAbs_natCast];exact b2
 have G:(aj b⁻¹.den).length<=2000:=by rw[Z];exact R
 obtain⟨w,S⟩:=xE (b⁻¹);rw[<-S] at M G X e;have y:(aj m).length<=10000:=by omega
 have u:(aj b.den).length<=10000:=by omega
 simp[ad,F,f192,ai,jQ,fP,cQ,aE,bu,cM,D,U,V,y,u,X,C,B,M,G,e]
noncomputable def nX(f:FuncId)(args:List AV):Option AV:=
 match f,args with
 |53,[.str s,.str t]=>match dZ s,dZ t with
  |some a,some b=>if (aj a.num.natAbs).length<=2000/\(aj a.den).length<=2000/\(aj b.num.natAbs).length<=2000/\(aj b.den).length<=2000 then some (.str (aJ (a-b))) else none
  |_,_=>none
 |192,[.str s,.str t]=>match dZ s,dZ t with
  |some a,some b=>if 0<b.num/\(aj a.num.natAbs).length<=2000/\(aj a.den).length<=2000/\(aj b.num.natAbs).length<=2000/\(aj b.den).length<=2000 then some (.str (aJ (a / b))) else none
  |_,_=>none
 |f,args=>jQ f args
theorem rI:afs prog (ai nX):=bT fun f U v h mem=>by
 unfold nX at h;split at h
 .split at h
  .rename_i m n X V
   split at h
   next Z=>cases h;rw[aF X,aF V];exact PN m n ⟨Z.1,Z.2.1⟩ ⟨Z.2.2.1,Z.2.2.2⟩ mem
   .cases h
  .cases h
 .split at h
  .rename_i m n X V
   split at h
   next Z=>cases h;rw[aF X,aF V];exact PL m n Z.1 ⟨Z.2.1,Z.2.2.1⟩ ⟨Z.2.2.2.1,Z.2.2.2.2⟩ mem
   .cases h
  .cases h
 .have:=rH.fn _ _ mem ⟨v,none,[]⟩ (by unfold ai;simp only;rw[h])
  simpa [afw.mem] using this
theorem tM(a b:Rat)(H:nE a)(I:nE b)(mem:Mem):
  bz prog 56 [.str (aJ a),.str (aJ b)] mem (.int .i64 (kU (a-b))) mem:=by
 have X:bq prog 56=some f56:=by kernel_rfl
 refine az rI ?_ mem;obtain⟨V,U⟩:=H;obtain⟨S,b2⟩:=I;obtain⟨c,Z⟩:=xE (a-b);rw[<-Z];simp[ad,X,f56,ai,nX,jQ,fP,cQ,aE,V,U,S,b2,<-Z]
theorem wV(h:(aJ q).length<=9):nE q:=by have:=wP h;have Z:=ba (k:=9) (by omega) this.1;have X:=ba (k:=9) (by omega) this.2;exact⟨by omega,by omega⟩
theorem If(n:Int)(d:Nat)(hd:d≠0)(H:n.natAbs<10 ^ 8)(hd2:d<10 ^ 8)(mem:Mem):bz prog 37 [.int .i64 n,.int .i64 d] mem (.str (aJ (mkRat n d))) mem:=by
 have Z:bq prog 37=some f37:=by kernel_rfl
 have f1:ef n=true:=by unfold ef;simp only[Ar,Cs];omega
 have f2:ef (d:Int)=true:=by unfold ef;simp only[Ar,Cs];omega
 have S:=ba (k:=8) (by omega) H;have R:=ba (k:=8) (by omega) hd2;have X:bH (d:Int)=aj d:=rfl;have V:(aj n.natAbs).length<=10000:=by omega
 have U:(aj d).length<=10000:=by omega
 refine az pL ?_ mem;simp[ad,Z,f37,ai,fP,cQ,dq,ez,eh,bM,bJ,f1,f2,X,ax,bu,hd,V,U]
theorem PZ(a b:Rat)(H:(aJ a).length<=9)(I:(aJ b).length<=9)(mem:Mem):
  bz prog 90 [.str (aJ a),.str (aJ b)] mem (.str (aJ (a+b))) mem:=EU a b (wV H) (wV I) mem
theorem P0(a b:Rat)(H:(aJ a).length<=9)(I:(aJ b).length<=9)(mem:Mem):
  bz prog 94 [.str (aJ a),.str (aJ b)] mem (.str (aJ (a*b))) mem:=EV a b (wV H) (wV I) mem
end Go.Proofs
