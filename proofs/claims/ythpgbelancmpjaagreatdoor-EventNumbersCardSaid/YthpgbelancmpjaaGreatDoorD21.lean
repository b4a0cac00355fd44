/- See D38. -/
import Derived.Test.YthpgbelancmpjaaGreatDoorD20
set_option linter.all false
set_option maxRecDepth 100000
set_option maxHeartbeats 40000000
namespace Go.Proofs
open Go.Eng
open Tryz
theorem yp(s:List UInt8)(H:s.length<=1000000000)(mem:Mem):kO prog 102 [.str s] mem (match s.idxOf? 47 with | some i=>.tuple [.str (s.take i),.str (s.drop (i+1))] | none=>.tuple [.str s,.str [49]]) mem:=by
 have V:aX prog 102=some f102:=by kernel_rfl
 refine de ez (lv:=fun _=>[]) (K:=1) rfl (by split<;>rfl) ?_ mem;have Z:=jH s 47;cases hx:s.idxOf? 47 with
 |none=>
  rw[hx] at Z;simp only at Z;simp[aa,V,f102,ag,ak,Z]
 |some i=>
  rw[hx] at Z;simp only at Z;have U:i<s.length:=by have:=(List.idxOf?_eq_some_iff.1 hx).1;exact this
  have S:¬(i:Int)<0:=by omega
  have R:(i:Int)<=(s.length:Int):=by omega
  have L :i<=s.length:=by omega
  have w1:IntKind.i64.wrap ((i:Int)+1)=((i+1:Nat):Int):=by rw[af];omega
  obtain⟨j,O⟩:=xE (i+1);show _=some (afh.mk (.tuple [.str (s.take i),.str (s.drop (i+1))]) none [])
  rw[<-O] at w1 |-;have N:(j:Int)<=(s.length:Int):=by omega
  have M :j<=s.length:=by omega
  have X:(s.drop j).take (s.length-j)=s.drop j:=B5 (by simp);simp[aa,V,f102,ag,ak,Z,S,R,w1,N,X,Nat.testBit]
theorem Fo(q:Rat)(H:(ao q).length<=1000000000)(mem:Mem):kO prog 102 [.str (ao q)] mem (.tuple [.str (bL q.num),.str (ai q.den)]) mem:=by
 have h:=yp (ao q) H mem;by_cases Z:q.den=1
 .have e:ao q=bL q.num:=by unfold ao;rw[if_pos Z]
  have X:(ao q).idxOf? 47=none:=by rw[e];exact EA (iI _)
  rw[X] at h;have:ai q.den=[49]:=by rw[Z];rfl
  rw[this];rw[<-e];exact h
 .have e:ao q=bL q.num++47::ai q.den:=by unfold ao;rw[if_neg Z]
  have X:(ao q).idxOf? 47=some (bL q.num).length:=by rw[e];exact O9 (iI _)
  rw[X] at h;have V:List.drop ((bL q.num).length+1) (ao q)=ai q.den:=by rw[e,List.drop_append];simp
  have U:List.take (bL q.num).length (ao q)=bL q.num:=by rw[e];exact List.take_left' rfl
  simp only[V,U] at h;exact h
theorem P7(q:Rat)(H:(ao q).length<=1000000000)(mem:Mem):kO prog 107 [.str (ao q)] mem (.str (ao (-q))) mem:=by
 have X:aX prog 107=some f107:=by kernel_rfl
 refine aA (az _) ?_ mem;by_cases Z:q=0
 .subst Z
  simp[aa,X,f107,be]
 .have N:¬q.num=0:=fun e=>Z (mQ.1 e)
  by_cases S:q.num<0
  .have e:=jq S
   have V:(45::ao (-q)==[48])=false:=by rw[<-e,be];simpa using Z
   rw[e];have h3:(1:Int)<=((ao (-q)).length:Int)+1:=by omega
   simp[aa,X,f107,V,h3]
  .have e:=mW (q:=q) (by omega)
   obtain⟨c,r,U,R⟩:=kU (q:=q) (by omega);have V:(c::r==[48])=false:=by rw[<-U,be];simpa using Z
   have O:=fy R;rw[e,U];rw[U] at H;simp only[List.length_cons] at H;have h3:1+(r.length+1)<=9223372036854775807:=by omega
   simp[aa,X,f107,V,O,h3,fM]
theorem tY(q:Rat)(mem:Mem):kO prog 15 [.str (ao q)] mem (.int .i64 (gd q)) mem:=by
 have X:aX prog 15=some f15:=by kernel_rfl
 refine aA (az _) ?_ mem;by_cases Z:q=0
 .subst Z
  have:gd 0=0:=rfl;simp[aa,X,f15,be,this]
 .have R:¬q.num=0:=fun e=>Z (mQ.1 e)
  by_cases V:q.num<0
  .have e:=jq V
   have U:(45::ao (-q)==[48])=false:=by rw[<-e,be];simpa using Z
   rw[e];simp[aa,X,f15,U,gd,jB,V]
  .obtain⟨c,r,S,O⟩:=kU (q:=q) (by omega)
   have U:(c::r==[48])=false:=by rw[<-S,be];simpa using Z
   have N:=fy O;rw[S];simp[aa,X,f15,U,N,gd,jB,V,R]
variable{K:Nat}{O:y9}{b:Code}
theorem DI(n m:Int)(I:m.natAbs<K)(H:ah f145=[b]):
  ∃F:Env->Bool->Env,∀Z d,(ae Z 5=.int .i64 n/\ae Z 6=.int .i64 m)->
   aU (bd prog) (fun _=>[5,6]) O K 36 0 true (.loop b) ⟨Z,[],d⟩=some (.exit 0,⟨F Z d,[],d⟩)/\(ae (F Z d) 5=.int .i64 (euc K n m)/\ae (F Z d) 0=ae Z 0/\ae (F Z d) 1=ae Z 1/\ae (F Z d) 4=ae Z 4):=by
 refine bl rfl (fun Z=>ae Z 5=.int .i64 n/\ae Z 6=.int .i64 m) (fun Z X =>ae X 5=.int .i64 (euc K n m)/\ae X 0=ae Z 0/\ae X 1=ae Z 1/\ae X 4=ae Z 4) ?_;rintro Z d ⟨h5,h6⟩;have S:aw [5,6] (ad b) Z ((5,.int .i64 n)::(6,.int .i64 m)::Z)=aw [5,6] (ad b) Z Z:=by simp[aw,h5,h6]
 rw[<-S];have V:∀(k:Nat) (x y:Int),y.natAbs<k->∃X,ga [5,6] (ad b) Z 0 (aU (bd prog) (fun _=>[5,6]) O K 36 0 true b) k ⟨aw [5,6] (ad b) Z ((5,.int .i64 x)::(6,.int .i64 y)::Z),[],d⟩=
   some (.exit 0,⟨X,[],d⟩)/\ae X 5=.int .i64 (euc k x y)/\ae X 0=ae Z 0/\ae X 1=ae Z 1/\ae X 4=ae Z 4:=by
  clear S;simp[ah,aE,f145] at H;intro k;induction k with
  |zero=>intro x y h;omega
  |succ k ih=>
   intro x y G;by_cases U:y=0
   .subst H
    subst U;simp[ga,euc]
   .have N:(x.tmod y).natAbs<k:=by rw[Int.natAbs_tmod];have:=Nat.mod_lt x.natAbs (show 0<y.natAbs by omega);omega
    obtain⟨X,R,M,L⟩:=ih y (x.tmod y) N;subst H;refine⟨X,?_,by rw[M,euc,if_neg U],L⟩;rw[ga];simp[U];simp at R;exact R
 exact V K n m I
theorem Fm(n:Int)(m:Nat)(hn:n.natAbs<=4611686018427387904)(ZC:m≠0)(hm:m<=4611686018427387904)(mem:Mem):kO prog 145 [.int .i64 n,.int .i64 m] mem (.str (ao (mkRat n m))) mem:=by
 have Y:aX prog 145=some f145:=by kernel_rfl
 refine de ez (lv:=fun _=>[5,6]) (K:=m+1) rfl rfl ?_ mem;obtain⟨b,W⟩:∃b,ah f145=[b]:=⟨_,rfl⟩
 obtain⟨N,hN⟩:=xE (α:=Nat) n.natAbs;obtain⟨F,J⟩:=DI (O:=ag ak) (K:=m+1) (N:Int) (m:Int) (by simp) W;simp[ah,aE,f145] at W;subst W;rw[td n ZC,<-hN];have I:∀k (x y:Nat),0<=euc k (x:Int) (y:Int):=by
  intro k;induction k with
  |zero=>intro x y;unfold euc;omega
  |succ k ih=>
   intro x y;unfold euc;split
   .omega
   .rw[wY];exact ih y (x%y)
 have V:=sQ (m+1) (N:Int) (m:Int) (by simp);have H:=I (m+1) N m;generalize euc (m+1) (N:Int) (m:Int)=gz at J V H;rw[Int.natAbs_natCast,Int.natAbs_natCast] at V;obtain⟨g,rfl⟩:∃g:Nat,gz=g:=⟨gz.toNat,by omega⟩
 rw[Int.natAbs_natCast] at V;rw[<-V];have hgp:0<g:=by rw[V];exact Nat.gcd_pos_of_pos_right _ (by omega)
 have hgn:g∣N:=by rw[V];exact Nat.gcd_dvd_left _ _
 have hgd:g∣m:=by rw[V];exact Nat.gcd_dvd_right _ _
 have hgm:g<=m:=Nat.le_of_dvd (by omega) hgd;have j:=yh (a:=n) hgp (.inr (by rw[<-hN];exact Nat.mod_eq_zero_of_dvd hgn));have hq1:(n / (g:Int)).natAbs<=n.natAbs:=Int.natAbs_ediv_le_natAbs _ _;obtain⟨Z,hZ⟩:=xE (n / (g:Int));rw[<-hZ] at hq1 j |-;obtain⟨D,S⟩:=xE (m / g);have hDm:D<=m:=by rw[S];exact Nat.div_le_self _ _
 rw[<-S];have w0:IntKind.i64.wrap (-n)= -n:=af;have R:(if n< -n then -n else n)=(N:Int):=by split<;>omega
 have ae4 :(if -n<n then n else -n)=(N:Int):=by split<;>omega
 have w1:IntKind.i64.wrap (n.tdiv (g:Int))=Z:=by rw[j.1];exact af
 have M :IntKind.i64.wrap Z=Z:=af;have w2:IntKind.i64.wrap ((m:Int).tdiv (g:Int))=(D:Int):=by rw[wW,<-S];exact af
 have L :IntKind.i64.wrap ((m:Int) / (g:Int))=(D:Int):=by rw[<-Int.natCast_ediv,<-S];exact af
 have ZO:dV Z=true:=by unfold dV;simp;omega
 have hf2:dV (D:Int)=true:=by unfold dV;simp;omega
 have hDs:bL (D:Int)=ai D:=rfl;have G :¬g=0:=by omega
 have lZ:(bL Z).length+1<=fM/\(bL Z).length+1+(ai D).length<=fM:=by have h1:=dn Z;have h2:=aN (u:=Z.natAbs) (k:=20) (by omega) (by omega);have h3:=aN (u:=D) (k:=20) (by omega) (by omega);unfold fM;omega
 obtain⟨l1,l2⟩:=lZ;by_cases Zg:m=1
 .have C:g=1:=by omega
  have X:D=1:=by rw[S,Zg,C]
  have B:Z=n:=by rw[hZ,C];exact Int.ediv_one n
  have hfn:dV n=true:=by rw[<-B];exact ZO
  subst Zg;rw[if_pos X,B];simp[aa,Y,f145,ag,ak,hfn]
 .have o:¬(m:Int)=1:=by omega
  by_cases X:D=1
  .have U:(D:Int)=1:=by omega
   rw[if_pos X];simp[aa,Y,f145,o,w0,R,J,G,j,M,L,U,ag,ak,ZO,Nat.testBit]
  .have U:¬(D:Int)=1:=by omega
   rw[if_neg X];simp[aa,Y,f145,o,w0,R,J,G,j,M,L,U,ag,ak,ZO,hf2,hDs,l1,l2,Nat.testBit]
theorem zJ(n m:Int)(I:m.natAbs<K)(H:ah f148=[b]):
  ∃F:Env->Bool->Env,∀Z d,(ae Z 9=.int .i64 n/\ae Z 10=.int .i64 m)->
   aU (bd prog) (fun _=>[9,10]) O K 55 0 true (.loop b) ⟨Z,[],d⟩=some (.exit 0,⟨F Z d,[],d⟩)/\(ae (F Z d) 9=.int .i64 (euc K n m)/\ae (F Z d) 5=ae Z 5/\ae (F Z d) 7=ae Z 7/\ae (F Z d) 4=ae Z 4):=by
 refine bl rfl (fun Z=>ae Z 9=.int .i64 n/\ae Z 10=.int .i64 m) (fun Z X =>ae X 9=.int .i64 (euc K n m)/\ae X 5=ae Z 5/\ae X 7=ae Z 7/\ae X 4=ae Z 4) ?_;rintro Z d ⟨h5,h6⟩;have S:aw [9,10] (ad b) Z ((9,.int .i64 n)::(10,.int .i64 m)::Z)=aw [9,10] (ad b) Z Z:=by simp[aw,h5,h6]
 rw[<-S];have V:∀(k:Nat) (x y:Int),y.natAbs<k->∃X,ga [9,10] (ad b) Z 0 (aU (bd prog) (fun _=>[9,10]) O K 55 0 true b) k ⟨aw [9,10] (ad b) Z ((9,.int .i64 x)::(10,.int .i64 y)::Z),[],d⟩=
   some (.exit 0,⟨X,[],d⟩)/\ae X 9=.int .i64 (euc k x y)/\ae X 5=ae Z 5/\ae X 7=ae Z 7/\ae X 4=ae Z 4:=by
  clear S;simp[ah,aE,f148] at H;intro k;induction k with
  |zero=>intro x y h;omega
  |succ k ih=>
   intro x y G;by_cases U:y=0
   .subst H
    subst U;simp[ga,euc]
   .have N:(x.tmod y).natAbs<k:=by rw[Int.natAbs_tmod];have:=Nat.mod_lt x.natAbs (show 0<y.natAbs by omega);omega
    obtain⟨X,R,M,L⟩:=ih y (x.tmod y) N;subst H;refine⟨X,?_,by rw[M,euc,if_neg U],L⟩;rw[ga];simp[U];simp at R;exact R
 exact V K n m I
theorem Ra:∀(k x y:Nat),0<=euc k (x:Int) (y:Int):=by
 intro k;induction k with
 |zero=>intro x y;unfold euc;omega
 |succ k ih=>
  intro x y;unfold euc;split
  .omega
  .rw[wY];exact ih y (x%y)
theorem HK(n:Int)(m:Nat)(ZC:m≠0)(H:(bL n).length<=18)(I:(ai m).length<=18)(mem:Mem):kO prog 148 [.str (bL n),.str (ai m)] mem (.str (ao (mkRat n m))) mem:=by
 have hG:aX prog 148=some f148:=by kernel_rfl
 have hn:=kf H;have hm:m<10 ^ 18:=by have h1:=cm m;have h2:10 ^ (ai m).length<=10 ^ 18:=P3 (by omega) I;omega
 refine de ez (lv:=fun _=>[9,10]) (K:=m+1) rfl rfl ?_ mem;obtain⟨b,hb⟩:∃b,ah f148=[b]:=⟨_,rfl⟩
 obtain⟨N,hN⟩:=xE (α:=Nat) n.natAbs;rw[<-hN] at hn;obtain⟨F,G⟩:=zJ (O:=ag ak) (K:=m+1) (N:Int) (m:Int) (by simp) hb;simp[ah,aE,f148] at hb;subst hb;rw[td n ZC,<-hN];have C:=sQ (m+1) (N:Int) (m:Int) (by simp);have hg0:=Ra (m+1) N m;generalize euc (m+1) (N:Int) (m:Int)=gz at G C hg0;rw[Int.natAbs_natCast,Int.natAbs_natCast] at C;obtain⟨g,rfl⟩:∃g:Nat,gz=g:=⟨gz.toNat,by omega⟩
 rw[Int.natAbs_natCast] at C;rw[<-C];have hgp:0<g:=by rw[C];exact Nat.gcd_pos_of_pos_right _ (by omega)
 have hgn:g∣N:=by rw[C];exact Nat.gcd_dvd_left _ _
 have B:=yh (a:=n) hgp (.inr (by rw[<-hN];exact Nat.mod_eq_zero_of_dvd hgn));have hq1:(n / (g:Int)).natAbs<=n.natAbs:=Int.natAbs_ediv_le_natAbs _ _;obtain⟨Z,hZ⟩:=xE (n / (g:Int));rw[<-hZ] at hq1 B |-;obtain⟨D,hD⟩:=xE (m / g);have hDm:D<=m:=by rw[hD];exact Nat.div_le_self _ _
 rw[<-hD];have w1:IntKind.i64.wrap (n.tdiv (g:Int))=Z:=by rw[B.1];exact af
 have U :IntKind.i64.wrap Z=Z:=af;have w2:IntKind.i64.wrap ((m:Int).tdiv (g:Int))=(D:Int):=by rw[wW,<-hD];exact af
 have S :IntKind.i64.wrap ((m:Int) / (g:Int))=(D:Int):=by rw[<-Int.natCast_ediv,<-hD];exact af
 have ZO:dV Z=true:=by unfold dV;simp;omega
 have j:dV (D:Int)=true:=by unfold dV;simp;omega
 have Y:bL (D:Int)=ai D:=rfl;have R :¬g=0:=by omega
 have lZ:(bL Z).length+1<=fM/\(bL Z).length+1+(ai D).length<=fM:=by have h1:=dn Z;have h2:=aN (u:=Z.natAbs) (k:=20) (by omega) (by omega);have h3:=aN (u:=D) (k:=20) (by omega) (by omega);unfold fM;omega
 obtain⟨l1,l2⟩:=lZ;have M:Lib.atoi (ai m)=some (m:Int):=nP (m:Int);have L:¬(m:Int)<0:=by omega
 have w0:IntKind.i64.wrap (-n)= -n:=af;have ZP:n<0-> -n=(N:Int):=by omega
 have W:¬n<0->n=(N:Int):=by omega
 by_cases o:n<0
 .have J :IntKind.i64.wrap (-n)=(N:Int):=by rw[w0];exact ZP o
  by_cases V:D=1
  .have X:(D:Int)=1:=by omega
   rw[if_pos V];simp[aa,hG,f148,ag,ak,H,I,nP,M,L,o,J,G,R,B,U,S,X,ZO,Nat.testBit]
  .have X:¬(D:Int)=1:=by omega
   rw[if_neg V];simp[aa,hG,f148,ag,ak,H,I,nP,M,L,o,J,G,R,B,U,S,X,ZO,j,Y,l1,l2,Nat.testBit]
 .have e:=W o
  rw[<-e] at G;by_cases V:D=1
  .have X:(D:Int)=1:=by omega
   rw[if_pos V];simp[aa,hG,f148,ag,ak,H,I,nP,M,L,o, G,R,B,U,S,X,ZO,Nat.testBit]
  .have X:¬(D:Int)=1:=by omega
   rw[if_neg V];simp[aa,hG,f148,ag,ak,H,I,nP,M,L,o, G,R,B,U,S,X,ZO,j,Y,l1,l2,Nat.testBit]
noncomputable def cN(f:FuncId)(args:List AV):Option AV:=
 match f,args with
 |106,[.str s,.str t]=>match iH s,iH t with
  |some a,some b=>if (ai a.natAbs).length<=10000/\(ai b.natAbs).length<=10000 then some (.str (ai (a.natAbs.gcd b.natAbs))) else none
  |_,_=>none
 |148,[.str s,.str t]=>match iH s,xe t with
  |some n,some m=>if m≠0/\(bL n).length<=18/\(ai m).length<=18 then some (.str (ao (mkRat n m))) else none
  |_,_=>none
 |145,[.int .i64 n,.int .i64 d]=>if d.toNat≠0/\n.natAbs<=4611686018427387904/\0<=d/\d.toNat<=4611686018427387904 then some (.str (ao (mkRat n d.toNat))) else none
 |102,[.str s]=>match dY s with
  |some q=>if s.length<=1000000000 then some (.tuple [.str (bL q.num),.str (ai q.den)]) else none
  |none=>none
 |107,[.str s]=>match dY s with
  |some q=>if s.length<=1000000000 then some (.str (ao (-q))) else none
  |none=>none
 |15,[.str s]=>match dY s with
  |some q=>some (.int .i64 (gd q))
  |none=>none
 |f,args=>di f args
theorem uL:qS prog (ag cN):=bP fun f R v h mem=>by
 unfold cN at h;split at h
 .split at h
  .rename_i m n U S
   split at h
   next Z=>cases h;rw[bK U,bK S];exact Qa m n Z.1 Z.2 mem
   .cases h
  .cases h
 .split at h
  .rename_i m n U S
   split at h
   next Z=>cases h;rw[bK U,gN S];exact HK m n Z.1 Z.2.1 Z.2.2 mem
   .cases h
  .cases h
 .split at h
  .rename_i Z
   obtain⟨N,M,L,G⟩:=Z;cases h;have:=Fm _ _ M N G mem;rw[QQd L] at this;exact this
  .cases h
 .split at h
  .rename_i q X
   split at h
   next V=>cases h;rw[au X] at V |-;exact Fo q V mem
   .cases h
  .cases h
 .split at h
  .rename_i q X
   split at h
   next V=>cases h;rw[au X] at V |-;exact P7 q V mem
   .cases h
  .cases h
 .split at h
  next q X=>cases h;rw[au X];exact tY q mem
  .cases h
 .have:=BB.fn _ _ mem ⟨v,none,[]⟩ (by unfold ag;simp only;rw[h])
  simpa [afh.mem] using this
theorem AW(n:Int)(d:Nat)(hd:d≠0)(I:(ai n.natAbs).length<=10000)(H:(ai d).length<=10000)(mem:Mem):
  kO prog 92 [.str (bL n),.str (ai d)] mem (.str (ao (mkRat n d))) mem:=by
 have N:aX prog 92=some f92:=by kernel_rfl
 refine aA uL ?_ mem;have hli:=dn n;by_cases hq:(bL n).length<=9/\(ai d).length<=9
 .have m:((bL n).length:Int)<=9:=by omega
  have Y:((ai d).length:Int)<=9:=by omega
  have q3:(bL n).length<=18:=by omega
  have q4:(ai d).length<=18:=by omega
  simp[aa,N,f92,m,Y,ag,cN,aD,bq,hd,q3,q4]
 .rw[td n hd]
  have u:=G9 hd;have X:0<n.natAbs.gcd d:=Nat.gcd_pos_of_pos_right _ (by omega);have M:n.natAbs.gcd d∣n.natAbs:=Nat.gcd_dvd_left _ _;have W:n.natAbs.gcd d∣d:=Nat.gcd_dvd_right _ _;have J:n.natAbs.gcd d<=d:=Nat.le_of_dvd (by omega) W;obtain⟨g,L⟩:=xE (n.natAbs.gcd d);rw[<-L] at X M W J |-;have S:(ai g).length<=10000:=by have:=bI J;omega
  have o:n.natAbs%g=0:=Nat.mod_eq_zero_of_dvd M;have V:bL ((d:Int) / (g:Int))=ai (d / g):=by rw[<-Int.natCast_ediv];rfl
  obtain⟨Z,R⟩:=xE (n / (g:Int));obtain⟨D,j⟩:=xE (d / g);rw[<-j] at V;rw[<-R,<-j];have hq1:(ai Z.natAbs).length<=10000:=by have:=bI (Int.natAbs_ediv_le_natAbs n g);rw[<-R] at this;omega
  have hq2:(ai D).length<=10000:=by have:=bI (Nat.div_le_self d g);rw[<-j] at this;omega
  have hl4:=dn Z;have G:(bL Z).length+1<=fM:=by unfold fM;omega
  have F:(bL Z).length+1+(ai D).length<=fM:=by unfold fM;omega
  by_cases m:(bL n).length<=9
  .have Y:¬(ai d).length<=9:=fun e=>hq ⟨m,e⟩
   have U:((bL n).length:Int)<=9:=by omega
   have C:¬((ai d).length:Int)<=9:=by omega
   by_cases B:D=1
   .simp[aa,N,f92,U,C,ag,cN,di,eR,eh,bM,bJ,cI,bq,aD,u,I,H,<-L,S,X,o,<-R,V,fz,B]
   .simp[aa,N,f92,U,C,ag,cN,di,eR,eh,bM,bJ,cI,bq,aD,u,I,H,<-L,S,X,o,<-R,V,fz,B,G,F]
  .have U:¬((bL n).length:Int)<=9:=by omega
   by_cases B:D=1
   .simp[aa,N,f92,U,ag,cN,di,eR,eh,bM,bJ,cI,bq,aD,u,I,H,<-L,S,X,o,<-R,V,fz,B]
   .simp[aa,N,f92,U,ag,cN,di,eR,eh,bM,bJ,cI,bq,aD,u,I,H,<-L,S,X,o,<-R,V,fz,B,G,F]
theorem zl{H:List UInt8}(hd:H.all isD=true)(I:H.length<=9)(j:Nat):fl (H.take j)<10 ^ 9:=by
 have X:=C9 (pB hd j);have Z:(H.take j).length<=9:=by rw[S2];omega
 have h3:10 ^ (H.take j).length<=10 ^ 9:=P3 (by omega) Z;omega
def kF(c:Code):List Nat:=if (ad c).contains 24 then [2,5] else [3,5]
variable{b2:Code}
theorem zz(s H rest:List UInt8)(I:Nat)(hs:s.length<=9)(Za:I<=s.length)(hd:s.drop I=H++rest)(Zd:rest=[]\/∃r,rest=47::r)(PP:H.all isD=true)(hK:10<K)(J:ah f144=[b,b2]):
  ∃F:Env->Bool->Env,∀Z d,(ae Z 0=.str s/\ae Z 2=.int .i64 0/\ae Z 5=.int .i64 (I:Int))->
   aU (bd prog) kF O K 57 0 true (.loop b) ⟨Z,[],d⟩=some (.exit 0,⟨F Z d,[],d⟩)/\(ae (F Z d) 2=.int .i64 ((fl H:Nat):Int)/\ae (F Z d) 5=.int .i64 ((I+H.length:Nat):Int)/\ae (F Z d) 0=ae Z 0/\ae (F Z d) 3=ae Z 3/\ae (F Z d) 6=ae Z 6):=by
 have Zi:kF b=[2,5]:=by simp[ah,aE,f144] at J;obtain⟨rfl,rfl⟩:=J;decide
 have F':I+H.length+rest.length=s.length:=by have:=congrArg List.length hd;simp at this;omega
 refine bl Zi (fun Z=>ae Z 0=.str s/\ae Z 2=.int .i64 0/\ae Z 5=.int .i64 (I:Int)) (fun Z R =>ae R 2=.int .i64 ((fl H:Nat):Int)/\ae R 5=.int .i64 ((I+H.length:Nat):Int)/\ae R 0=ae Z 0/\ae R 3=ae Z 3/\ae R 6=ae Z 6) ?_;rintro Z d ⟨h0,h2,h5⟩;have N:fl (H.take 0)=0:=by rw[List.take_zero];unfold fl;rw[dM]
 have hn:aw [2,5] (ad b) Z ((2,.int .i64 ((fl (H.take 0):Nat):Int))::(5,.int .i64 ((I+0:Nat):Int))::Z)=aw [2,5] (ad b) Z Z:=by rw[N];simp[aw,h2,h5]
 rw[<-hn];refine bG (α:=Nat) (fun j=>⟨aw [2,5] (ad b) Z ((2,.int .i64 ((fl (H.take j):Nat):Int))::(5,.int .i64 ((I+j:Nat):Int))::Z),[],d⟩)
  (fun j=>H.length-j) (fun j=>j<=H.length) (.exit 0) _ d _ (by simp) ?_ K 0 (Nat.zero_le _) (by simp only[QQi];omega)
 intro j hj;clear hn N;simp[ah,aE,f144] at J;obtain⟨i,C⟩:=xE (I+j);have X:s[i]? =(H++rest)[j]? :=by rw[<-hd,QQa,C]
 by_cases B:j=H.length
 .right
  subst B;rw[P1,<-C];rw[V1 (L9 _),Nat.sub_self] at X;obtain⟨rfl,rfl⟩:=J;rcases Zd with h | ⟨r,h⟩
  .subst h
   have V:i=s.length:=by simp at F';omega
   have h1:¬i<s.length:=by omega
   have u:¬(i:Int)<(s.length:Int):=by omega
   simp[h0,u]
  .subst h
   have V:i<s.length:=by simp at F';omega
   have S:(i:Int)<(s.length:Int):=by omega
   have M:s[i]? =some 47:=by simpa using X
   have o :s[i]=47:=(Ns.1 M).2;simp[h0,V,S,o]
 .left
  have m:j<H.length:=by omega
  obtain⟨c,M⟩:∃c,H[j]? =some c:=⟨H[j],by simp[m]⟩
  rw[GE m,M] at X;have V:i<s.length:=gL X;have S:(i:Int)<(s.length:Int):=by omega
  have Y :s[i]=c:=(Ns.1 X).2;have U:=List.all_eq_true.1 PP c (J1 M);have hcd:=tS U;have acJ:48<=c.toNat/\c.toNat<=57:=by unfold isD at U;simp only[C0,Es] at U;exact U
  have W:¬((c.toNat:Int)=47):=by omega
  have ZI:H.take (j+1)=H.take j++[c]:=by rw[List.take_add_one,M];rfl
  have L:fl (H.take (j+1))=10*fl (H.take j)+(c.toNat-48):=by rw[ZI,oH]
  have hvb:=zl PP (by omega) j;obtain⟨v,G⟩:=xE (fl (H.take j));obtain⟨v2,D⟩:=xE (fl (H.take (j+1)));rw[<-G] at hvb L;rw[<-D] at L;obtain⟨k,hk⟩:=xE (α:=Nat) (c.toNat-48);have w0:IntKind.u8.wrap ((c.toNat:Int)-48)=(k:Int):=by rw[Hh (by omega) (by omega)];omega
  have w1:IntKind.i64.wrap (k:Int)=(k:Int):=af;have w2:IntKind.i64.wrap (10*(v:Int))=10*(v:Int):=af;have w3:IntKind.i64.wrap (10*(v:Int)+(k:Int))=(v2:Int):=by rw[af];omega
  have w4:IntKind.i64.wrap ((i:Int)+1)=((I+(j+1):Nat):Int):=by rw[af];omega
  rw[<-C];refine⟨j+1,?_⟩;refine bC (show j+1<=H.length/\_ from⟨m,by omega⟩) ?_;obtain⟨rfl,rfl⟩:=J;simp[h0,V,S,Y,W,<-G,<-D,w0,w1,w2,w3,w4];try omega
theorem zB(s H:List UInt8)(I:Nat)(hs:s.length<=9)(Za:I<=s.length)(hd:s.drop I=H)(W:H.all isD=true)(hK:10<K)(J:ah f144=[b,b2]):
  ∃F:Env->Bool->Env,∀Z d,(ae Z 0=.str s/\ae Z 3=.int .i64 0/\ae Z 5=.int .i64 (I:Int))->
   aU (bd prog) kF O K 57 0 true (.loop b2) ⟨Z,[],d⟩=some (.exit 2,⟨F Z d,[],d⟩)/\(ae (F Z d) 3=.int .i64 ((fl H:Nat):Int)/\ae (F Z d) 2=ae Z 2/\ae (F Z d) 6=ae Z 6):=by
 have Zi:kF b2=[3,5]:=by simp[ah,aE,f144] at J;obtain⟨rfl,rfl⟩:=J;decide
 have F':I+H.length=s.length:=by have:=congrArg List.length hd;simp at this;omega
 refine bl Zi (fun Z=>ae Z 0=.str s/\ae Z 3=.int .i64 0/\ae Z 5=.int .i64 (I:Int)) (fun Z M =>ae M 3=.int .i64 ((fl H:Nat):Int)/\ae M 2=ae Z 2/\ae M 6=ae Z 6) ?_;rintro Z d ⟨h0,h2,h5⟩;have U:fl (H.take 0)=0:=by rw[List.take_zero];unfold fl;rw[dM]
 have m:aw [3,5] (ad b2) Z ((3,.int .i64 ((fl (H.take 0):Nat):Int))::(5,.int .i64 ((I+0:Nat):Int))::Z)=aw [3,5] (ad b2) Z Z:=by rw[U];simp[aw,h2,h5]
 rw[<-m];refine bG (α:=Nat) (fun j=>⟨aw [3,5] (ad b2) Z ((3,.int .i64 ((fl (H.take j):Nat):Int))::(5,.int .i64 ((I+j:Nat):Int))::Z),[],d⟩)
  (fun j=>H.length-j) (fun j=>j<=H.length) (.exit 2) _ d _ (by simp) ?_ K 0 (Nat.zero_le _) (by simp only[QQi];omega)
 intro j hj;clear m U;simp[ah,aE,f144] at J;obtain⟨i,L⟩:=xE (I+j);have V:s[i]? =H[j]? :=by rw[<-hd,QQa,L]
 by_cases G:j=H.length
 .right
  subst G;rw[P1,<-L];obtain⟨rfl,rfl⟩:=J;have h1:¬i<s.length:=by omega
  have h1I:¬(i:Int)<(s.length:Int):=by omega
  simp[h0,h1]
 .left
  have Y:j<H.length:=by omega
  obtain⟨c,D⟩:∃c,H[j]? =some c:=⟨H[j],by simp[Y]⟩
  rw[D] at V;have C:i<s.length:=gL V;have B:(i:Int)<(s.length:Int):=by omega
  have u :s[i]=c:=(Ns.1 V).2;have X:=List.all_eq_true.1 W c (J1 D);have hcd:=tS X;have acJ:48<=c.toNat/\c.toNat<=57:=by unfold isD at X;simp only[C0,Es] at X;exact X
  have ZI:H.take (j+1)=H.take j++[c]:=by rw[List.take_add_one,D];rfl
  have S:fl (H.take (j+1))=10*fl (H.take j)+(c.toNat-48):=by rw[ZI,oH]
  have o:=zl W (by omega) j;obtain⟨v,R⟩:=xE (fl (H.take j));obtain⟨v2,N⟩:=xE (fl (H.take (j+1)));rw[<-R] at o S;rw[<-N] at S;obtain⟨k,hk⟩:=xE (α:=Nat) (c.toNat-48);have w0:IntKind.u8.wrap ((c.toNat:Int)-48)=(k:Int):=by rw[Hh (by omega) (by omega)];omega
  have w1:IntKind.i64.wrap (k:Int)=(k:Int):=af;have w2:IntKind.i64.wrap (10*(v:Int))=10*(v:Int):=af;have w3:IntKind.i64.wrap (10*(v:Int)+(k:Int))=(v2:Int):=by rw[af];omega
  have w4:IntKind.i64.wrap ((i:Int)+1)=((I+(j+1):Nat):Int):=by rw[af];omega
  rw[<-L];refine⟨j+1,?_⟩;refine bC (show j+1<=H.length/\_ from⟨Y,by omega⟩) ?_;obtain⟨rfl,rfl⟩:=J;simp[h0,C,B,u,<-R,<-N,w0,w1,w2,w3,w4];try omega
theorem HI(q:Rat)(mem:Mem):kO prog 144 [.str (ao q)] mem (if (ao q).length<=9 then .tuple [.int .i64 q.num,.int .i64 q.den,.bool true] else .tuple [.int .i64 0,.int .i64 0,.bool false]) mem:=by
 have W:aX prog 144=some f144:=by kernel_rfl
 refine de (az _) (lv:=kF) (K:=11) rfl (by split<;>rfl) ?_ mem;by_cases J:(ao q).length<=9
 .rw[if_pos J]
  have U:¬(9<((ao q).length:Int)):=by omega
  obtain⟨b,b2,Y⟩:∃b b2,ah f144=[b,b2]:=⟨_,_,rfl⟩
  obtain⟨X,V,R⟩:=yd q;obtain⟨s,hs⟩:=xE (ao q);rw[<-hs] at J U V |-;obtain⟨N,hN⟩:=xE q.num.natAbs;rw[<-hN] at V;have S:=dH N;have hvN:=dK N;have hpN:=pN N;have I:=jQ N;have Zd:X=[]\/∃r,X=47::r:=by rw[R];split<;>simp
  obtain⟨H,G⟩:=xE (α:=Nat) (if q.num<0 then 1 else 0);have Zx:(if q.num<0 then [(45:UInt8)] else []).length=H:=by rw[G];split<;>rfl
  have aaL:s.drop H=ai N++X:=by rw[V,<-Zx,List.drop_left]
  have F':s.length=H+(ai N).length+X.length:=by rw[V,SP,Zx,SP];omega
  obtain⟨F,L⟩:=zz (O:=cP) (K:=11) s (ai N) X H J (by omega) aaL Zd S (by omega) Y;rw[hvN] at L;obtain⟨Z,hat⟩:=xE (H+(ai N).length);rw[<-hat] at L F';have aff:N<10 ^ 9:=by have h1:=cm N;have h2:10 ^ (ai N).length<=10 ^ 9:=P3 (by omega) (by omega);omega
  have wn:IntKind.i64.wrap (-(N:Int))= -(N:Int):=af;have wp:IntKind.i64.wrap (N:Int)=(N:Int):=af;by_cases D:q.den=1
  .rw[if_pos D] at R
   subst R;have B:¬Z<s.length:=by simp at F';omega
   simp[ah,aE,f144] at Y;obtain⟨rfl,rfl⟩:=Y;by_cases C:q.num<0
   .rw[if_pos C] at G
    subst G;have M:s[0]? =some 45:=by rw[V,if_pos C];rfl
    have e: -(N:Int)=q.num:=by omega
    have u :IntKind.i64.wrap (-(N:Int))=q.num:=by rw[wn,e]
    simp only[Int.natCast_one] at L;simp[aa,W,f144,U,M,L,B,u,D]
   .rw[if_neg C] at G
    subst G;have M:∃c,s[0]? =some c/\isD c=true:=by
     rw[V,if_neg C];cases hx:ai N with
     |nil=>exact absurd hx I
     |cons c r=>
      rw[hx] at S;simp only[QQb,C0] at S;exact⟨c,by simp,S.1⟩
    obtain⟨c,M,o⟩:=M;have m:=fy o;have e:(N:Int)=q.num:=by omega
    have j :IntKind.i64.wrap (N:Int)=q.num:=by rw[wp,e]
    simp only[Int.natCast_zero] at L;simp[aa,W,f144,U,M,m,L,B,j,D]
  .rw[if_neg D] at R
   subst R;have B:Z<s.length:=by simp at F';omega
   have ab8:(Z:Int)<(s.length:Int):=by omega
   have acd:s.drop (Z+1)=ai q.den:=by
    have h1:s.drop Z=47::ai q.den:=by rw[hat,<-QQk,aaL,List.drop_left]
    rw[<-QQk,h1];rfl
   obtain⟨F2,Zn⟩:=zB (O:=cP) (K:=11) s (ai q.den) (Z+1) J (by omega) acd (dH _) (by omega) Y;rw[dK] at Zn;have w1:IntKind.i64.wrap ((Z:Int)+1)=((Z+1:Nat):Int):=by rw[af];omega
   obtain⟨at2,aew⟩:=xE (Z+1);rw[<-aew] at w1 Zn;simp[ah,aE,f144] at Y;obtain⟨rfl,rfl⟩:=Y;by_cases C:q.num<0
   .rw[if_pos C] at G
    subst G;have M:s[0]? =some 45:=by rw[V,if_pos C];rfl
    have e: -(N:Int)=q.num:=by omega
    have u :IntKind.i64.wrap (-(N:Int))=q.num:=by rw[wn,e]
    simp only[Int.natCast_one] at L;simp[aa,W,f144,U,M,L,ab8,w1,Zn,u]
   .rw[if_neg C] at G
    subst G;have M:∃c,s[0]? =some c/\isD c=true:=by
     rw[V,if_neg C];cases hx:ai N with
     |nil=>exact absurd hx I
     |cons c r=>
      rw[hx] at S;simp only[QQb,C0] at S;exact⟨c,by simp,S.1⟩
    obtain⟨c,M,o⟩:=M;have m:=fy o;have e:(N:Int)=q.num:=by omega
    have j :IntKind.i64.wrap (N:Int)=q.num:=by rw[wp,e]
    simp only[Int.natCast_zero] at L;simp[aa,W,f144,U,M,m,L,ab8,w1,Zn,j]
 .rw[if_neg J]
  have U:(9<((ao q).length:Int)):=by omega
  simp[aa,W,f144,U]
noncomputable def gk(f:FuncId)(args:List AV):Option AV:=
 match f,args with
 |144,[.str s]=>match dY s with
  |some q=>some (if (ao q).length<=9 then .tuple [.int .i64 q.num,.int .i64 q.den,.bool true] else .tuple [.int .i64 0,.int .i64 0,.bool false])
  |none=>none
 |92,[.str s,.str t]=>match iH s,xe t with
  |some n,some d=>if d≠0/\(ai n.natAbs).length<=10000/\(ai d).length<=10000 then some (.str (ao (mkRat n d))) else none
  |_,_=>none
 |f,args=>cN f args
theorem po:qS prog (ag gk):=bP fun f X v h mem=>by
 unfold gk at h;split at h
 .split at h
  next q V=>cases h;rw[au V];exact HI q mem
  .cases h
 .split at h
  .rename_i m n U S
   split at h
   next Z=>cases h;rw[bK U,gN S];exact AW m n Z.1 Z.2.1 Z.2.2 mem
   .cases h
  .cases h
 .have:=uL.fn _ _ mem ⟨v,none,[]⟩ (by unfold ag;simp only;rw[h])
  simpa [afh.mem] using this
def dv(q:Rat):Prop:=(ai q.num.natAbs).length<=2000/\(ai q.den).length<=2000
variable{q:Rat}
theorem lE(h:dv q):ek q:=⟨by have:=h.1;omega,by have:=h.2;omega⟩
theorem wo(h:(ao q).length<=9):q.num.natAbs<10 ^ 9/\q.den<10 ^ 9:=Gy h
theorem Ef(a b:Rat)(H:dv a)(I:dv b)(mem:Mem):
  kO prog 90 [.str (ao a),.str (ao b)] mem (.str (ao (a+b))) mem:=by
 have L:aX prog 90=some f90:=by kernel_rfl
 refine aA po ?_ mem;have G:=gD (lE H);have F:=gD (lE I);have Z:a.den*b.den≠0:=Nat.mul_ne_zero a.den_nz b.den_nz;have C:=Rat.add_def' a b;obtain⟨X,V⟩:=xE (a.num*(b.den:Int));obtain⟨Y,U⟩:=xE (b.num*(a.den:Int));obtain⟨D,S⟩:=xE (a.den*b.den);rw[<-V,<-U,<-S] at C;rw[<-S] at Z;rw[C];by_cases B:(ao a).length<=9/\(ao b).length<=9
 .obtain⟨R,M⟩:=B
  obtain⟨a1,u⟩:=wo R;obtain⟨b1,b2⟩:=wo M;have o:X.natAbs<10 ^ 9*10 ^ 9:=by rw[V];exact fU a1 (by simpa using b2)
  have m:Y.natAbs<10 ^ 9*10 ^ 9:=by rw[U];exact fU b1 (by simpa using u)
  have d1:D<10 ^ 9*10 ^ 9:=by rw[S];exact Nat.mul_lt_mul'' u b2
  have w1:IntKind.i64.wrap (a.num*(b.den:Int))=X:=by rw[<-V];exact af
  have w2:IntKind.i64.wrap (b.num*(a.den:Int))=Y:=by rw[<-U];exact af
  have w3:IntKind.i64.wrap (X+Y)=X+Y:=af;have w4:IntKind.i64.wrap ((a.den:Int)*(b.den:Int))=(D:Int):=by rw[<-Int.natCast_mul,<-S];exact af
  have c1:(X+Y).natAbs<=4611686018427387904:=by omega
  have c2:D<=4611686018427387904:=by omega
  simp[aa,L,f90,ag,gk,cN,aB,R,M,w1,w2,w3,w4,Z,c1,c2]
 .have j:(ai a.num.natAbs).length<=5000:=by have:=H.1;omega
  have W:(ai a.den).length<=5000:=by have:=H.2;omega
  have J:(ai b.num.natAbs).length<=5000:=by have:=I.1;omega
  have s4:(ai b.den).length<=5000:=by have:=I.2;omega
  have o:(ai X.natAbs).length<=4000:=by rw[V,QQg,Int.natAbs_natCast];exact dE H.1 I.2
  have m:(ai Y.natAbs).length<=4000:=by rw[U,QQg,Int.natAbs_natCast];exact dE I.1 H.2
  have s5:(ai X.natAbs).length<=10000:=by omega
  have s6:(ai Y.natAbs).length<=10000:=by omega
  have s7:(ai (X+Y).natAbs).length<=10000:=by have h1:=jP o m;have h2:=bI (Int.natAbs_add_le X Y);omega
  have s8:(ai D).length<=10000:=by
   have:(ai D).length<=4000:=by rw[S];exact dE H.2 I.2
   omega
  have N:bL ((a.den:Int)*(b.den:Int))=ai D:=by rw[<-Int.natCast_mul,<-S];rfl
  by_cases R:(ao a).length<=9
  .have M:¬(ao b).length<=9:=fun h=>B ⟨R,h⟩
   simp[aa,L,f90,ag,gk,cN,di,eR,eh,aB,aD,cI,bq,G,F,R,M,j,W,J,s4,<-V,<-U,s5,s6,s7,s8,N,Z]
  .simp[aa,L,f90,ag,gk,cN,di,eR,eh,aB,aD,cI,bq,G,F,R,j,W,J,s4,<-V,<-U,s5,s6,s7,s8,N,Z]
theorem Eg(a b:Rat)(H:dv a)(I:dv b)(mem:Mem):
  kO prog 94 [.str (ao a),.str (ao b)] mem (.str (ao (a*b))) mem:=by
 have M:aX prog 94=some f94:=by kernel_rfl
 refine aA po ?_ mem;have L:=gD (lE H);have G:=gD (lE I);have Z:a.den*b.den≠0:=Nat.mul_ne_zero a.den_nz b.den_nz;have F:=Rat.mul_def' a b;obtain⟨X,V⟩:=xE (a.num*b.num);obtain⟨D,U⟩:=xE (a.den*b.den);rw[<-V,<-U] at F;rw[<-U] at Z;rw[F];by_cases C:(ao a).length<=9/\(ao b).length<=9
 .obtain⟨S,N⟩:=C
  obtain⟨W,J⟩:=wo S;obtain⟨b1,b2⟩:=wo N;have x1:X.natAbs<10 ^ 9*10 ^ 9:=by rw[V];exact fU W b1
  have d1:D<10 ^ 9*10 ^ 9:=by rw[U];exact Nat.mul_lt_mul'' J b2
  have w1:IntKind.i64.wrap (a.num*b.num)=X:=by rw[<-V];exact af
  have w4:IntKind.i64.wrap ((a.den:Int)*(b.den:Int))=(D:Int):=by rw[<-Int.natCast_mul,<-U];exact af
  have c1:X.natAbs<=4611686018427387904:=by omega
  have c2:D<=4611686018427387904:=by omega
  simp[aa,M,f94,ag,gk,cN,aB,S,N,w1,w4,Z,c1,c2]
 .have B:(ai a.num.natAbs).length<=5000:=by have:=H.1;omega
  have u:(ai a.den).length<=5000:=by have:=H.2;omega
  have o:(ai b.num.natAbs).length<=5000:=by have:=I.1;omega
  have m:(ai b.den).length<=5000:=by have:=I.2;omega
  have x1:(ai X.natAbs).length<=4000:=by rw[V,QQg];exact dE H.1 I.1
  have j:(ai X.natAbs).length<=10000:=by omega
  have Y:(ai D).length<=10000:=by
   have:(ai D).length<=4000:=by rw[U];exact dE H.2 I.2
   omega
  have R:bL ((a.den:Int)*(b.den:Int))=ai D:=by rw[<-Int.natCast_mul,<-U];rfl
  by_cases S:(ao a).length<=9
  .have N:¬(ao b).length<=9:=fun h=>C ⟨S,h⟩
   simp[aa,M,f94,ag,gk,cN,di,aB,aD,cI,bq,L,G,S,N,B,u,o,m,<-V,j,Y,R,Z]
  .simp[aa,M,f94,ag,gk,cN,di,aB,aD,cI,bq,L,G,S,B,u,o,m,<-V,j,Y,R,Z]
noncomputable def iD(f:FuncId)(args:List AV):Option AV:=
 match f,args with
 |90,[.str s,.str t]=>match dY s,dY t with
  |some a,some b=>if (ai a.num.natAbs).length<=2000/\(ai a.den).length<=2000/\(ai b.num.natAbs).length<=2000/\(ai b.den).length<=2000 then some (.str (ao (a+b))) else none
  |_,_=>none
 |94,[.str s,.str t]=>match dY s,dY t with
  |some a,some b=>if (ai a.num.natAbs).length<=2000/\(ai a.den).length<=2000/\(ai b.num.natAbs).length<=2000/\(ai b.den).length<=2000 then some (.str (ao (a*b))) else none
  |_,_=>none
 |f,args=>gk f args
theorem rF:qS prog (ag iD):=bP fun f U v h mem=>by
 unfold iD at h;split at h
 .split at h
  .rename_i m n X V
   split at h
   next Z=>cases h;rw[au X,au V];exact Ef m n ⟨Z.1,Z.2.1⟩ ⟨Z.2.2.1,Z.2.2.2⟩ mem
   .cases h
  .cases h
 .split at h
  .rename_i m n X V
   split at h
   next Z=>cases h;rw[au X,au V];exact Eg m n ⟨Z.1,Z.2.1⟩ ⟨Z.2.2.1,Z.2.2.2⟩ mem
   .cases h
  .cases h
 .have:=po.fn _ _ mem ⟨v,none,[]⟩ (by unfold ag;simp only;rw[h])
  simpa [afh.mem] using this
theorem Eh(a b:Rat)(I:dv a)(H:dv b)(mem:Mem):
  kO prog 53 [.str (ao a),.str (ao b)] mem (.str (ao (a-b))) mem:=by
 have Z:aX prog 53=some f53:=by kernel_rfl
 refine aA rF ?_ mem;have X:=gD (lE H);obtain⟨V,U⟩:=I;obtain⟨S,b2⟩:=H;have e:a+ -b=a-b:=(Rat.sub_eq_add_neg a b).symm;simp[aa,Z,f53,ag,iD,gk,cN,aB,X,V,U,S,b2,e]
theorem P6(a b:Rat)(I:0<b.num)(J:dv a)(H:dv b)(mem:Mem):
  kO prog 192 [.str (ao a),.str (ao b)] mem (.str (ao (a / b))) mem:=by
 have L:aX prog 192=some f192:=by kernel_rfl
 refine aA rF ?_ mem;have G:=gD (lE H);obtain⟨F,D⟩:=J;obtain⟨U,b2⟩:=H;have e:a*b⁻¹=a / b:=(Rat.div_def a b).symm;obtain⟨S,Z⟩:=uU I;have X:=Rat.mkRat_self b⁻¹;obtain⟨m,R⟩:=xE b.num.natAbs;have C:m≠0:=by omega
 have B:bL b.num=ai m:=by rw[gF (by omega),R]
 rw[<-R] at U Z;rw[S,Z] at X;have N:(ai b⁻¹.num.natAbs).length<=2000:=by rw[S,Int.natAbs_natCast];exact b2
 have M:(ai b⁻¹.den).length<=2000:=by rw[Z];exact U
 obtain⟨w,V⟩:=xE (b⁻¹);rw[<-V] at N M X e;have u:(ai m).length<=10000:=by omega
 have o:(ai b.den).length<=10000:=by omega
 simp[aa,L,f192,ag,iD,gk,cN,aB,bq,cI,G,B,C,u,o,X,F,D,N,M,e]
noncomputable def gP(f:FuncId)(args:List AV):Option AV:=
 match f,args with
 |53,[.str s,.str t]=>match dY s,dY t with
  |some a,some b=>if (ai a.num.natAbs).length<=2000/\(ai a.den).length<=2000/\(ai b.num.natAbs).length<=2000/\(ai b.den).length<=2000 then some (.str (ao (a-b))) else none
  |_,_=>none
 |192,[.str s,.str t]=>match dY s,dY t with
  |some a,some b=>if 0<b.num/\(ai a.num.natAbs).length<=2000/\(ai a.den).length<=2000/\(ai b.num.natAbs).length<=2000/\(ai b.den).length<=2000 then some (.str (ao (a / b))) else none
  |_,_=>none
 |f,args=>iD f args
theorem ju:qS prog (ag gP):=bP fun f U v h mem=>by
 unfold gP at h;split at h
 .split at h
  .rename_i m n X V
   split at h
   next Z=>cases h;rw[au X,au V];exact Eh m n ⟨Z.1,Z.2.1⟩ ⟨Z.2.2.1,Z.2.2.2⟩ mem
   .cases h
  .cases h
 .split at h
  .rename_i m n X V
   split at h
   next Z=>cases h;rw[au X,au V];exact P6 m n Z.1 ⟨Z.2.1,Z.2.2.1⟩ ⟨Z.2.2.2.1,Z.2.2.2.2⟩ mem
   .cases h
  .cases h
 .have:=rF.fn _ _ mem ⟨v,none,[]⟩ (by unfold ag;simp only;rw[h])
  simpa [afh.mem] using this
theorem nj(a b:Rat)(H:dv a)(I:dv b)(mem:Mem):
  kO prog 56 [.str (ao a),.str (ao b)] mem (.int .i64 (gd (a-b))) mem:=by
 have X:aX prog 56=some f56:=by kernel_rfl
 refine aA ju ?_ mem;obtain⟨V,U⟩:=H;obtain⟨S,b2⟩:=I;obtain⟨c,Z⟩:=xE (a-b);rw[<-Z];simp[aa,X,f56,ag,gP,iD,gk,cN,aB,V,U,S,b2,<-Z]
theorem wF(h:(ao q).length<=9):dv q:=by have:=wo h;have Z:=aN (k:=9) (by omega) this.1;have X:=aN (k:=9) (by omega) this.2;exact⟨by omega,by omega⟩
theorem AZ(n:Int)(d:Nat)(hd:d≠0)(H:n.natAbs<10 ^ 8)(hd2:d<10 ^ 8)(mem:Mem):kO prog 37 [.int .i64 n,.int .i64 d] mem (.str (ao (mkRat n d))) mem:=by
 have Z:aX prog 37=some f37:=by kernel_rfl
 have f1:dV n=true:=by unfold dV;simp only[C0,Es];omega
 have f2:dV (d:Int)=true:=by unfold dV;simp only[C0,Es];omega
 have S:=aN (k:=8) (by omega) H;have R:=aN (k:=8) (by omega) hd2;have X:bL (d:Int)=ai d:=rfl;have V:(ai n.natAbs).length<=10000:=by omega
 have U:(ai d).length<=10000:=by omega
 refine aA po ?_ mem;simp[aa,Z,f37,ag,gk,cN,di,eR,eh,bM,bJ,f1,f2,X,aD,bq,hd,V,U]
theorem Qf(a b:Rat)(H:(ao a).length<=9)(I:(ao b).length<=9)(mem:Mem):
  kO prog 90 [.str (ao a),.str (ao b)] mem (.str (ao (a+b))) mem:=Ef a b (wF H) (wF I) mem
theorem Qg(a b:Rat)(H:(ao a).length<=9)(I:(ao b).length<=9)(mem:Mem):
  kO prog 94 [.str (ao a),.str (ao b)] mem (.str (ao (a*b))) mem:=Eg a b (wF H) (wF I) mem
end Go.Proofs
