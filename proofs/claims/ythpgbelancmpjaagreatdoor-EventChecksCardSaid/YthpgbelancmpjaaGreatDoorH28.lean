/- See H38. -/
import Derived.Test.YthpgbelancmpjaaGreatDoorH27
set_option linter.all false
set_option maxRecDepth 100000
set_option maxHeartbeats 40000000
namespace Go.Eng
theorem lr{T:TypeId->Option TyI}{lv:Code->List Nat}{O:afu}{K N m0 ex cnt res:Nat}{b:Code}{M:Mem}{α:Type}[DecidableEq α]{L L' :List α}{Q:Env->Prop}(H:lv b=[cnt,cnt,cnt])(J:L.length=L'.length)(W:L.length<K)(hs:∀env i x y d,Q env->aa env cnt=.int .i64 ((i:Nat):Int)->L[i]? =some x->L'[i]? =some y->∃X,aO T lv O K N m0 true b ⟨env,M,d⟩=some (if x=y then .normal else .ret,X)/\(x=y->aa X.env cnt=.int .i64 ((i+1:Nat):Int))/\(¬x=y->aa X.env res=.bool false)/\X.mem=M)(Y:∀env d,Q env->aa env cnt=.int .i64 (L.length:Int)->∃S,aO T lv O K N m0 true b ⟨env,M,d⟩=some (.exit ex,⟨S,M,d⟩)/\Q S)(I:∀Z env,Q Z->Q (au [cnt,cnt,cnt] (ae b) Z env)/\aa (au [cnt,cnt,cnt] (ae b) Z env) cnt=aa env cnt):
  ∃G:Env->Bool->Env×Bool,∀env d,(Q env/\aa env cnt=.int .i64 0)->aO T lv O K N m0 true (.loop b) ⟨env,M,d⟩=some (if L=L' then .exit ex else .ret,⟨(G env d).1,M,(G env d).2⟩)/\(¬L=L' ->aa (G env d).1 res=.bool false)/\(L=L' ->Q (G env d).1):=by
 have j:∀(Z:Env) (R:Nat),Q Z->∀(k i:Nat) (env:Env) (d:Bool) (F:Nat),i+k=L.length->k<F->aa env cnt=.int .i64 (i:Int)->
   ∃r:Env×Bool,ga [cnt,cnt,cnt] (ae b) Z R (aO T lv O K N m0 true b) F ⟨au [cnt,cnt,cnt] (ae b) Z env,M,d⟩=some (if L.drop i=L'.drop i then .exit ex else .ret,⟨r.1,M,r.2⟩)/\(¬L.drop i=L'.drop i->aa r.1 res=.bool false)/\(L.drop i=L'.drop i->Q r.1):=by
  intro Z R o k;induction k with
  |zero=>
   intro i env d F hi hF U;obtain⟨F,rfl⟩:∃k,F=k+1:=⟨F-1,by omega⟩
   obtain rfl:i=L.length:=by omega
   obtain⟨D,C⟩:=I Z env o;obtain⟨S,B,u⟩:=Y (au [cnt,cnt,cnt] (ae b) Z env) d D (C.trans U);rw[M6 (Es _),M6 (Nat.le_of_eq J.symm),if_pos rfl];exact⟨(S,d),by rw[ga,B],fun h=>absurd rfl h,fun _=>u⟩
  |succ k ih=>
   intro i env d F hi hF U;obtain⟨F,rfl⟩:∃k,F=k+1:=⟨F-1,by omega⟩
   obtain⟨D,C⟩:=I Z env o;have m:∀{L:List α}{i:Nat},i<L.length->∃x,L[i]? =some x/\L.drop i=x::L.drop (i+1):=fun h=>⟨_,LB h,LU h⟩
   obtain⟨x,hx,ex⟩:=m (L:=L) (i:=i) (by omega);obtain⟨y,hy,ey⟩:=m (L:=L') (i:=i) (by omega);obtain⟨X,t1,t2,t3,t4⟩:=hs (au [cnt,cnt,cnt] (ae b) Z env) i x y d D (C.trans U) hx hy;rw[ex,ey,ga,t1];by_cases V:x=y
   .have t5:=t2 V
    subst V;simp only[if_true,List.cons.injEq,true_and];have hs:nH [cnt,cnt,cnt] (ae b) Z R X =⟨au [cnt,cnt,cnt] (ae b) Z X.env,X.mem,X.afS⟩:=by simp[nH,xv]
    rw[hs,t4];exact ih (i+1) X.env X.afS F (by omega) (by omega) t5
   .have U:¬(x::L.drop (i+1)=y::L'.drop (i+1)):=fun h=>V (List.cons.inj h).1
    rw[if_neg U,if_neg V];refine⟨(X.env,X.afS),?_,fun _=>t3 V,fun h=>absurd h U⟩;rw[<-t4]
 exact dY (β:=Env×Bool) (p:=fun env _=>Q env/\aa env cnt=.int .i64 0) (q:=fun env d r=>aO T lv O K N m0 true (.loop b) ⟨env,M,d⟩=some (if L=L' then .exit ex else .ret,⟨r.1,M,r.2⟩)/\(¬L=L' ->aa r.1 res=.bool false)/\(L=L' ->Q r.1)) fun env d ⟨B,u⟩=>by obtain⟨r,r1,r2⟩:=j env M.length B L.length 0 env d K (by omega) W u;refine⟨r,?_,r2⟩;rw[bw,H];exact r1
end Go.Eng
namespace Go.Proofs
open Go.Eng
open Tryz
def af5(N:Mem)(v:AV)(es n:Nat)(C:List AV):Prop:=(v=.kO/\n=0/\C=[])\/∃b o,v=.slice b 0 n none/\N[b]? =some (.cells o es C)
section
variable {N:Mem}{v:AV}{es n:Nat}{C:List AV}
theorem afO.w(h:afO N v es n C):af5 N v es n C:=by
 rcases h with h | ⟨b,o,Z,_,h3⟩
 .exact .inl h
 .exact .inr ⟨b,o,Z,h3⟩
section
variable (h:af5 N v es n C)
include h
theorem af5.more(Z:Mem):af5 (N++Z) v es n C:=by
 rcases h with h | ⟨b,o,X,h3⟩
 .exact .inl h
 .exact .inr ⟨b,o,X,gU h3 _⟩
theorem af5.ck:v.adM=true:=by rcases h with⟨rfl,_⟩ | ⟨b,o,rfl,_⟩<;>rfl
theorem af5.pos(h0:0<n):∃b o,v=.slice b 0 n none/\N[b]? =some (.cells o es C):=by
 rcases h with⟨_,h,_⟩ | h
 .omega
 .exact h
theorem af5.two:(v=.kO/\n=0)\/∃b,v=.slice b 0 n none:=by
 rcases h with⟨Z,X,_⟩ | ⟨b,_,Z,_⟩
 .exact .inl ⟨Z,X⟩
 .exact .inr ⟨b,Z⟩
end
end
theorem mJ(d:Nat)(a b a' b' :List UInt8):kS (aL prog) (d+2) 108 (.agg [.str a,.str b]) (.agg [.str a',.str b'])=some ((a==a')&&(b==b')):=by have i:=nT d;rw[kS];simp[RV,jJ,TyI.isAgg,i]
variable{L L' :List (List UInt8)}{M:Mem}{n' :Nat}{w:AV}
theorem VJ{n:Nat}{v:AV}(hn:n<=1000)(hn' :n' <=1000)(I:L.length=n)(H :L'.length=n')(hv:af5 M v 1 n (stC L))(hw:af5 M w 1 n' (stC L')):bz prog 73 [v,w] M (.bool (decide (L=L'))) M:=by
 have C:bq prog 73=some f73:=by kernel_rfl
 have w1:=hv.two;have w2:=hw.two;have IR:ao (aL prog) (fun _=>[13,13,13]) (bq prog) bC 1100 73 [v,w] M=some (.bool (decide (L=L')),M):=by
  by_cases V:n=n'
  .subst V
   obtain⟨B,J⟩:∃B,bn f73=B :=⟨_,rfl⟩
   have PP :=cR J (ls:=[[0,0,3,7,0,0,48,112,255]]) (by kernel_rfl);simp only[bn,cU,f73,List.nil_append,List.append_nil] at J;subst J;simp only[lB] at PP;obtain⟨b,u⟩:∃b,ah f73=[b]:=⟨_,rfl⟩
   simp[ah,aw,f73] at u;obtain⟨G,U⟩:=lr (T:=aL prog) (lv:=fun _=>[13,13,13]) (O:=bC) (K:=1100) (N:=26) (m0:=M.length) (ex:=0) (cnt:=13) (res:=4) (b:=b) (M:=M) (L:=L) (L' :=L') (Q:=fun env=>aa env 0=v/\aa env 1=w/\aa env 12=.int .i64 (n:Int)) rfl (by omega) (by omega)
    (fun env i x y d ⟨a0,a1,a12⟩ ac hx hy=>by
     have o:i<n:=by have:=gL hx;omega
     obtain⟨m,o1,rfl,S⟩:=hv.pos (by omega);obtain⟨b2,o2,rfl,R⟩:=hw.pos (by omega);have g1:=gL S;have g2:=gL R;have wi:IntKind.i64.wrap ((i:Int)+1)=((i+1:Nat):Int):=by rw[af];omega
     obtain⟨m1,hm1⟩:=xE (i+1);rw[<-hm1] at wi |-;subst u;by_cases Z:x=y
     .rw[if_pos Z]
      simp[-getElem?_pos,-AV.adM,-AV.known,-AV.cells,-ay,-List.all_eq_true,rS,mS,-bB,-bb,-aN,-AV.aft,-afz.aft,bU,bD,dy,bL,cF,eI,bef,Nat.testBit,a0,a1,a12,ac,o,S,R,wi,g1,g2,aK PP,stC,hx,hy,Z]
     .rw[if_neg Z]
      have hxb:(x==y)=false:=beq_eq_false_iff_ne.2 Z;simp[-getElem?_pos,-AV.adM,-AV.known,-AV.cells,-ay,-List.all_eq_true,rS,mS,-bB,-bb,-aN,-AV.aft,-afz.aft,bU,bD,dy,bL,cF,eI,bef,Nat.testBit,a0,a1,a12,ac,o,S,R,g1,g2,aK PP,stC,hx,hy,Z,hxb])
    (fun env d ⟨a0,a1,a12⟩ ac=>by
     rw[I] at ac;subst u;rcases w1 with⟨rfl,D⟩ | ⟨m,rfl⟩
     .subst D
      simp[a0,a1,a12,ac]
     .simp[a0,a1,a12,ac])
    (fun z' env h=>by subst u;simpa [au] using h)
   have j:=fun env d h=>(U env d h).1
   have Y:=fun env d h=>(U env d h).2.1
   clear U;subst u;by_cases X:L=L'
   .simp only[if_pos X] at j
    rw[decide_eq_true X];clear Y;rcases w1 with⟨rfl,D⟩ | ⟨m,rfl⟩<;>rcases w2 with⟨rfl,W⟩ | ⟨b2,rfl⟩<;>(try subst D)<;>(try subst W)<;>
     simp[-AV.adM,ao,C,f73,j]
   .have Y:=fun env d h=>Y env d h X
    simp only[if_neg X] at j;rw[decide_eq_false X];have n0:0<n:=by
     rcases P1 n with h | h
     .exact absurd ((List.length_eq_zero_iff.1 (I.trans h)).trans (List.length_eq_zero_iff.1 (H.trans h)).symm) X
     .exact h
    rcases w1 with⟨_,D⟩ | ⟨m,rfl⟩
    .omega
    rcases w2 with⟨_,W⟩ | ⟨b2,rfl⟩
    .omega
    simp[-AV.adM,ao,C,f73,j,Y]
  .have X:¬L=L' :=fun h=>V (by rw[<-I,<-H,h])
   rw[decide_eq_false X];have F:¬(n:Int)=(n' :Int):=by omega
   rcases w1 with⟨rfl,D⟩ | ⟨m,rfl⟩<;>rcases w2 with⟨rfl,W⟩ | ⟨b2,rfl⟩<;>(try subst D)<;>(try subst W)
   .omega
   .simp at F;simp[-AV.adM,ao,C,f73,F]
   .simp[-AV.adM,ao,C,f73,V]
   .simp[-AV.adM,ao,C,f73,F]
 exact aX ak (aI _) (ar _) (aQ _) IR
theorem VI{n:Nat}{v:AV}(hn:n<=1000)(hn' :n' <=1000)(I:L.length=n)(H :L'.length=n')(hv:af5 M v 1 n (stC L))(hw:af5 M w 1 n' (stC L')):bz prog 122 [v,w] M (.bool (decide (L=L'))) M:=by
 have C:bq prog 122=some f122:=by kernel_rfl
 have w1:=hv.two;have w2:=hw.two;have IR:ao (aL prog) (fun _=>[13,13,13]) (bq prog) bC 1100 122 [v,w] M=some (.bool (decide (L=L')),M):=by
  by_cases V:n=n'
  .subst V
   obtain⟨B,J⟩:∃B,bn f122=B :=⟨_,rfl⟩
   have PP :=cR J (ls:=[[0,0,3,7,0,0,48,112,255]]) (by kernel_rfl);simp only[bn,cU,f122,List.nil_append,List.append_nil] at J;subst J;simp only[lB] at PP;obtain⟨b,u⟩:∃b,ah f122=[b]:=⟨_,rfl⟩
   simp[ah,aw,f122] at u;obtain⟨G,U⟩:=lr (T:=aL prog) (lv:=fun _=>[13,13,13]) (O:=bC) (K:=1100) (N:=26) (m0:=M.length) (ex:=0) (cnt:=13) (res:=4) (b:=b) (M:=M) (L:=L) (L' :=L') (Q:=fun env=>aa env 0=v/\aa env 1=w/\aa env 12=.int .i64 (n:Int)) rfl (by omega) (by omega)
    (fun env i x y d ⟨a0,a1,a12⟩ ac hx hy=>by
     have o:i<n:=by have:=gL hx;omega
     obtain⟨m,o1,rfl,S⟩:=hv.pos (by omega);obtain⟨b2,o2,rfl,R⟩:=hw.pos (by omega);have g1:=gL S;have g2:=gL R;have wi:IntKind.i64.wrap ((i:Int)+1)=((i+1:Nat):Int):=by rw[af];omega
     obtain⟨m1,hm1⟩:=xE (i+1);rw[<-hm1] at wi |-;subst u;by_cases Z:x=y
     .rw[if_pos Z]
      simp[-getElem?_pos,-AV.adM,-AV.known,-AV.cells,-ay,-List.all_eq_true,rS,mS,-bB,-bb,-aN,-AV.aft,-afz.aft,bU,bD,dy,bL,cF,eI,bef,Nat.testBit,a0,a1,a12,ac,o,S,R,wi,g1,g2,aK PP,stC,hx,hy,Z]
     .rw[if_neg Z]
      have hxb:(x==y)=false:=beq_eq_false_iff_ne.2 Z;simp[-getElem?_pos,-AV.adM,-AV.known,-AV.cells,-ay,-List.all_eq_true,rS,mS,-bB,-bb,-aN,-AV.aft,-afz.aft,bU,bD,dy,bL,cF,eI,bef,Nat.testBit,a0,a1,a12,ac,o,S,R,g1,g2,aK PP,stC,hx,hy,Z,hxb])
    (fun env d ⟨a0,a1,a12⟩ ac=>by
     rw[I] at ac;subst u;rcases w1 with⟨rfl,D⟩ | ⟨m,rfl⟩
     .subst D
      simp[a0,a1,a12,ac]
     .simp[a0,a1,a12,ac])
    (fun z' env h=>by subst u;simpa [au] using h)
   have j:=fun env d h=>(U env d h).1
   have Y:=fun env d h=>(U env d h).2.1
   clear U;subst u;by_cases X:L=L'
   .simp only[if_pos X] at j
    rw[decide_eq_true X];clear Y;rcases w1 with⟨rfl,D⟩ | ⟨m,rfl⟩<;>rcases w2 with⟨rfl,W⟩ | ⟨b2,rfl⟩<;>(try subst D)<;>(try subst W)<;>
     simp[-AV.adM,ao,C,f122,j]
   .have Y:=fun env d h=>Y env d h X
    simp only[if_neg X] at j;rw[decide_eq_false X];have n0:0<n:=by
     rcases P1 n with h | h
     .exact absurd ((List.length_eq_zero_iff.1 (I.trans h)).trans (List.length_eq_zero_iff.1 (H.trans h)).symm) X
     .exact h
    rcases w1 with⟨_,D⟩ | ⟨m,rfl⟩
    .omega
    rcases w2 with⟨_,W⟩ | ⟨b2,rfl⟩
    .omega
    simp[-AV.adM,ao,C,f122,j,Y]
  .have X:¬L=L' :=fun h=>V (by rw[<-I,<-H,h])
   rw[decide_eq_false X];have F:¬(n:Int)=(n' :Int):=by omega
   rcases w1 with⟨rfl,D⟩ | ⟨m,rfl⟩<;>rcases w2 with⟨rfl,W⟩ | ⟨b2,rfl⟩<;>(try subst D)<;>(try subst W)
   .omega
   .simp at F;simp[-AV.adM,ao,C,f122,F]
   .simp[-AV.adM,ao,C,f122,V]
   .simp[-AV.adM,ao,C,f122,F]
 exact aX ak (aI _) (ar _) (aQ _) IR
theorem VG{n:Nat}{L L' :List (List UInt8×List UInt8)}{v:AV}(hn:n<=1000)(hn' :n' <=1000)(I:L.length=n)(H :L'.length=n')(hv:af5 M v 2 n (kC L))(hw:af5 M w 2 n' (kC L')):bz prog 75 [v,w] M (.bool (decide (L=L'))) M:=by
 have C:bq prog 75=some f75:=by kernel_rfl
 have w1:=hv.two;have w2:=hw.two;have IR:ao (aL prog) (fun _=>[13,13,13]) (bq prog) bC 1100 75 [v,w] M=some (.bool (decide (L=L')),M):=by
  by_cases V:n=n'
  .subst V
   obtain⟨B,J⟩:∃B,bn f75=B :=⟨_,rfl⟩
   have PP :=cR J (ls:=[[0,0,3,7,0,0,48,112,255]]) (by kernel_rfl);simp only[bn,cU,f75,List.nil_append,List.append_nil] at J;subst J;simp only[lB] at PP;obtain⟨b,u⟩:∃b,ah f75=[b]:=⟨_,rfl⟩
   simp[ah,aw,f75] at u;obtain⟨G,U⟩:=lr (T:=aL prog) (lv:=fun _=>[13,13,13]) (O:=bC) (K:=1100) (N:=26) (m0:=M.length) (ex:=0) (cnt:=13) (res:=4) (b:=b) (M:=M) (L:=L) (L' :=L') (Q:=fun env=>aa env 0=v/\aa env 1=w/\aa env 12=.int .i64 (n:Int)) rfl (by omega) (by omega)
    (fun env i x y d ⟨a0,a1,a12⟩ ac hx hy=>by
     have o:i<n:=by have:=gL hx;omega
     obtain⟨m,o1,rfl,S⟩:=hv.pos (by omega);obtain⟨b2,o2,rfl,R⟩:=hw.pos (by omega);have g1:=gL S;have g2:=gL R;have x1:=(Ly hx).1;have x2:=(Ly hy).1;have x3:i*2+2<=(kC L).length:=by rw[fU];omega
     have x4:i*2+2<=(kC L').length:=by rw[fU];omega
     have wi:IntKind.i64.wrap ((i:Int)+1)=((i+1:Nat):Int):=by rw[af];omega
     obtain⟨m1,hm1⟩:=xE (i+1);rw[<-hm1] at wi |-;subst u;by_cases Z:x=y
     .rw[if_pos Z]
      simp[-getElem?_pos,-AV.adM,-AV.known,-AV.cells,-ay,-List.all_eq_true,rS,mS,-bB,-bb,-aN,-AV.aft,-afz.aft,bU,bD,dy,bL,cF,eI,bef,Nat.testBit,a0,a1,a12,ac,o,S,R,wi,g1,g2,aK PP,mJ,x1,x2,x3,x4,Z]
     .rw[if_neg Z]
      have hxb:((x.1==y.1)&&(x.2==y.2))=false:=by rw[Bool.eq_false_iff];intro h;rw[Ar,beq_iff_eq,beq_iff_eq] at h;exact Z (Prod.ext h.1 h.2)
      simp[-getElem?_pos,-AV.adM,-AV.known,-AV.cells,-ay,-List.all_eq_true,rS,mS,-bB,-bb,-aN,-AV.aft,-afz.aft,bU,bD,dy,bL,cF,eI,bef,Nat.testBit,a0,a1,a12,ac,o,S,R,g1,g2,aK PP,mJ,x1,x2,x3,x4,Z,hxb])
    (fun env d ⟨a0,a1,a12⟩ ac=>by
     rw[I] at ac;subst u;rcases w1 with⟨rfl,D⟩ | ⟨m,rfl⟩
     .subst D
      simp[a0,a1,a12,ac]
     .simp[a0,a1,a12,ac])
    (fun z' env h=>by subst u;simpa [au] using h)
   have j:=fun env d h=>(U env d h).1
   have Y:=fun env d h=>(U env d h).2.1
   clear U;subst u;by_cases X:L=L'
   .simp only[if_pos X] at j
    rw[decide_eq_true X];clear Y;rcases w1 with⟨rfl,D⟩ | ⟨m,rfl⟩<;>rcases w2 with⟨rfl,W⟩ | ⟨b2,rfl⟩<;>(try subst D)<;>(try subst W)<;>
     simp[-AV.adM,ao,C,f75,j]
   .have Y:=fun env d h=>Y env d h X
    simp only[if_neg X] at j;rw[decide_eq_false X];have n0:0<n:=by
     rcases P1 n with h | h
     .exact absurd ((List.length_eq_zero_iff.1 (I.trans h)).trans (List.length_eq_zero_iff.1 (H.trans h)).symm) X
     .exact h
    rcases w1 with⟨_,D⟩ | ⟨m,rfl⟩
    .omega
    rcases w2 with⟨_,W⟩ | ⟨b2,rfl⟩
    .omega
    simp[-AV.adM,ao,C,f75,j,Y]
  .have X:¬L=L' :=fun h=>V (by rw[<-I,<-H,h])
   rw[decide_eq_false X];have F:¬(n:Int)=(n' :Int):=by omega
   rcases w1 with⟨rfl,D⟩ | ⟨m,rfl⟩<;>rcases w2 with⟨rfl,W⟩ | ⟨b2,rfl⟩<;>(try subst D)<;>(try subst W)
   .omega
   .simp at F;simp[-AV.adM,ao,C,f75,F]
   .simp[-AV.adM,ao,C,f75,V]
   .simp[-AV.adM,ao,C,f75,F]
 exact aX ak (aI _) (ar _) (aQ _) IR
theorem VH{n:Nat}{v:AV}(hn:n<=1000)(hn' :n' <=1000)(I:L.length=n)(H :L'.length=n')(hv:af5 M v 1 n (stC L))(hw:af5 M w 1 n' (stC L')):bz prog 76 [v,w] M (.bool (decide (L=L'))) M:=by
 have C:bq prog 76=some f76:=by kernel_rfl
 have w1:=hv.two;have w2:=hw.two;have IR:ao (aL prog) (fun _=>[5,5,5]) (bq prog) bC 1100 76 [v,w] M=some (.bool (decide (L=L')),M):=by
  by_cases V:n=n'
  .subst V
   obtain⟨B,J⟩:∃B,bn f76=B :=⟨_,rfl⟩
   have PP :=cR J (ls:=[[0,0,3,7,0,0,48,112,255]]) (by kernel_rfl);simp only[bn,cU,f76,List.nil_append,List.append_nil] at J;subst J;simp only[lB] at PP;obtain⟨b,u⟩:∃b,ah f76=[b]:=⟨_,rfl⟩
   simp[ah,aw,f76] at u;obtain⟨G,U⟩:=lr (T:=aL prog) (lv:=fun _=>[5,5,5]) (O:=bC) (K:=1100) (N:=26) (m0:=M.length) (ex:=0) (cnt:=5) (res:=4) (b:=b) (M:=M) (L:=L) (L' :=L') (Q:=fun env=>aa env 0=v/\aa env 1=w) rfl (by omega) (by omega)
    (fun env i x y d ⟨a0,a1⟩ ac hx hy=>by
     have o:i<n:=by have:=gL hx;omega
     obtain⟨m,o1,rfl,S⟩:=hv.pos (by omega);obtain⟨b2,o2,rfl,R⟩:=hw.pos (by omega);have g1:=gL S;have g2:=gL R;have wi:IntKind.i64.wrap ((i:Int)+1)=((i+1:Nat):Int):=by rw[af];omega
     obtain⟨m1,hm1⟩:=xE (i+1);rw[<-hm1] at wi |-;subst u;by_cases Z:x=y
     .rw[if_pos Z]
      simp[-getElem?_pos,-AV.adM,-AV.known,-AV.cells,-ay,-List.all_eq_true,rS,mS,-bB,-bb,-aN,-AV.aft,-afz.aft,bU,bD,dy,bL,cF,eI,bef,Nat.testBit,a0,a1,ac,o,S,R,wi,g1,g2,aK PP,stC,hx,hy,Z]
     .rw[if_neg Z]
      have hxb:(x==y)=false:=beq_eq_false_iff_ne.2 Z;simp[-getElem?_pos,-AV.adM,-AV.known,-AV.cells,-ay,-List.all_eq_true,rS,mS,-bB,-bb,-aN,-AV.aft,-afz.aft,bU,bD,dy,bL,cF,eI,bef,Nat.testBit,a0,a1,ac,o,S,R,g1,g2,aK PP,stC,hx,hy,Z,hxb])
    (fun env d ⟨a0,a1⟩ ac=>by
     rw[I] at ac;subst u;rcases w1 with⟨rfl,D⟩ | ⟨m,rfl⟩
     .subst D
      simp[a0,a1,ac]
     .simp[a0,a1,ac])
    (fun z' env h=>by subst u;simpa [au] using h)
   have j:=fun env d h=>(U env d h).1
   have Y:=fun env d h=>(U env d h).2.1
   clear U;subst u;by_cases X:L=L'
   .simp only[if_pos X] at j
    rw[decide_eq_true X];clear Y;rcases w1 with⟨rfl,D⟩ | ⟨m,rfl⟩<;>rcases w2 with⟨rfl,W⟩ | ⟨b2,rfl⟩<;>(try subst D)<;>(try subst W)<;>
     simp[-AV.adM,ao,C,f76,j]
   .have Y:=fun env d h=>Y env d h X
    simp only[if_neg X] at j;rw[decide_eq_false X];have n0:0<n:=by
     rcases P1 n with h | h
     .exact absurd ((List.length_eq_zero_iff.1 (I.trans h)).trans (List.length_eq_zero_iff.1 (H.trans h)).symm) X
     .exact h
    rcases w1 with⟨_,D⟩ | ⟨m,rfl⟩
    .omega
    rcases w2 with⟨_,W⟩ | ⟨b2,rfl⟩
    .omega
    simp[-AV.adM,ao,C,f76,j,Y]
  .have X:¬L=L' :=fun h=>V (by rw[<-I,<-H,h])
   rw[decide_eq_false X];have F:¬(n:Int)=(n' :Int):=by omega
   rcases w1 with⟨rfl,D⟩ | ⟨m,rfl⟩<;>rcases w2 with⟨rfl,W⟩ | ⟨b2,rfl⟩<;>(try subst D)<;>(try subst W)
   .omega
   .simp at F;simp[-AV.adM,ao,C,f76,F]
   .simp[-AV.adM,ao,C,f76,V]
   .simp[-AV.adM,ao,C,f76,F]
 exact aX ak (aI _) (ar _) (aQ _) IR
end Go.Proofs
namespace Go.Proofs
open Go.Eng
open Tryz
def TxW(N:Mem)(v:AV)(L:List (List UInt8)):Prop:=af5 N v 1 L.length (stC L)/\L.length<=1000
variable{N:Mem}{v:AV}
theorem TxW.more{L:List (List UInt8)}(h:TxW N v L)(Z:Mem):TxW (N++Z) v L:=⟨h.1.more Z,h.2⟩
theorem Zd{L L' :List (List UInt8)}(h:stC L=stC L'):L=L' :=by have:=congrArg (List.map fun v=>match v with | .str s=>s | _=>[]) h;simpa [stC,Function.comp_def] using this
theorem TxW.uniq{L L' :List (List UInt8)}(h:TxW N v L)(h' :TxW N v L'):L' =L:=by
 obtain⟨h,_⟩:=h;obtain⟨h',_⟩:=h';rcases h with⟨rfl,X,_⟩ | ⟨b,o,rfl,X⟩
 .rcases h' with⟨_,Z,_⟩ | ⟨b,o,Z,_⟩
  .rw[List.length_eq_zero_iff.1 X,List.length_eq_zero_iff.1 Z]
  .cases Z
 .rcases h' with⟨Z,_⟩ | ⟨V,U,Z,h3⟩
  .cases Z
  .simp only[AV.slice.injEq,true_and,and_true] at Z
   obtain⟨rfl,_⟩:=Z;rw[X] at h3;simp only[Mp,afz.cells.injEq,true_and] at h3;exact(Zd h3.2).symm
def SfW(N:Mem)(v:AV)(S:List (List (List UInt8))):Prop:=S.length<=1000/\∃Z,Z.length=S.length/\af5 N v 1 S.length Z/\∀(i:Nat) (x:AV) (L:List (List UInt8)),Z[i]? =some x->S[i]? =some L->TxW N x L
variable{S:List (List (List UInt8))}
theorem SfW.more(h:SfW N v S)(Z:Mem):SfW (N++Z) v S:=by obtain⟨X,V,U,R,h3⟩:=h;exact⟨X,V,U,R.more Z,fun i x L a b=>(h3 i x L a b).more Z⟩
variable{x y:AV}
theorem zc{L L' :List (List UInt8)}(h1:TxW N x L)(h2:TxW N y L'):bz prog 72 [x,y] N (.bool (decide (L=L'))) N:=by
 have X:bq prog 72=some f72:=by kernel_rfl
 have Z:afs prog (Ay 122 [x,y] (.bool (decide (L=L'))) (fun M=>M=N)):=Hc fun M V=>by subst V;exact VI h1.2 h2.2 rfl rfl h1.1 h2.1
 refine wz Z ?_;clear Z;simp[ad,X,f72,Ay]
def BJ(M:Mem)(c:Go.Eng.Callee)(a:List AV)(N:Mem)(r:afw):Prop:=∃(x y:AV) (L X :List (List UInt8)),(c=.fn 72\/c=.fn 76)/\a=[x,y]/\(∃Z,N=M++Z)/\TxW M x L/\TxW M y X /\r=⟨.bool (decide (L=X)),none,[]⟩
theorem yX(M:Mem):afs prog (kW (BJ M)):=HA fun c a N r h=>by
 obtain⟨x,y,L,R,U,rfl,⟨Z,rfl⟩,X,V,rfl⟩:=h;have X:=X.more Z;have V:=V.more Z;rcases U with rfl | rfl
 .exact cC (zc X V)
 .exact cC (VH X.2 V.2 rfl rfl X.1 V.1)
theorem yW{M:Mem}{f:FuncId}(hf:f=72\/f=76){L L' :List (List UInt8)}(h1:TxW M x L)(h2:TxW M y L')(Z:Mem):kW (BJ M) (.fn f) [x,y] (M++Z)=some ⟨.bool (decide (L=L')),none,[]⟩:=
 DJ ⟨x,y,L,L',by rcases hf with rfl | rfl;exact .inl rfl;exact .inr rfl,rfl,⟨Z,rfl⟩,h1,h2,rfl⟩ fun r' ⟨_,_,_,_,_,e,_,k1,k2,h⟩=>by simp only[List.cons.injEq,and_true] at e;obtain⟨rfl,rfl⟩:=e;rw[h,h1.uniq k1,h2.uniq k2]
theorem SY{M:Mem}{H :List (List (List UInt8))}{v w:AV}(hv:SfW M v S)(hw:SfW M w H):bz prog 74 [v,w] M (.bool (decide (S=H))) M:=by
 obtain⟨hn,vs,lv,rv,cv⟩:=hv;obtain⟨hn',ws,lw,D,cw⟩:=hw;have hGF:bq prog 74=some f74:=by kernel_rfl
 have R:bq prog 123=some f123:=by kernel_rfl
 have w1:=rv.two;have w2:=D.two;have j:=fun {x y L L'} h1 h2=>yW (M:=M) (.inl rfl) (x:=x) (y:=y) (L:=L) (L' :=L') h1 h2 []
 simp only[List.append_nil] at j;have hO:=yX M;obtain⟨O,C⟩:=xE (kW (BJ M));rw[<-C] at hO;simp only[<-C] at j;clear C;obtain⟨n,G'⟩:=xE S.length;obtain⟨n',B⟩:=xE H.length;rw[<-G'] at hn lv rv w1;rw[<-B] at hn' lw D w2;have IR:ao (aL prog) (fun _=>[17,17,17]) (bq prog) O 1100 123 [v,w,.func 72 []] M=some (.bool (decide (S=H)),M):=by
  by_cases V:n=n'
  .subst V
   obtain⟨b,Y⟩:∃b,ah f123=[b]:=⟨_,rfl⟩
   simp[ah,aw,f123] at Y;obtain⟨G,u⟩:=lr (T:=aL prog) (lv:=fun _=>[17,17,17]) (O:=O) (K:=1100) (N:=32) (m0:=M.length) (ex:=0) (cnt:=17) (res:=6) (b:=b) (M:=M) (L:=S) (L' :=H) (Q:=fun env=>aa env 15=v/\aa env 1=w/\aa env 2=.func 72 []/\aa env 16=.int .i64 (n:Int)) rfl (by omega) (by omega)
    (fun env i x y d ⟨a0,a1,a2,a12⟩ ac hx hy=>by
     have W:i<n:=by have:=gL hx;omega
     obtain⟨b1,o1,rfl,J⟩:=rv.pos (by omega);obtain⟨b2,o2,rfl,I⟩:=D.pos (by omega);obtain⟨vx,o⟩:∃t,vs[i]? =some t:=⟨_,LB (by omega)⟩
     obtain⟨wy,m⟩:∃t,ws[i]? =some t:=⟨_,LB (by omega)⟩
     have e:=j (cv i vx x o hx) (cw i wy y m hy);have wi:IntKind.i64.wrap ((i:Int)+1)=((i+1:Nat):Int):=by rw[af];omega
     obtain⟨m1,hm1⟩:=xE (i+1);rw[<-hm1] at wi |-;subst Y;by_cases Z:x=y
     .rw[if_pos Z]
      rw[decide_eq_true Z] at e;simp[-getElem?_pos,-AV.adM,-AV.known,-AV.cells,-ay,-List.all_eq_true,a0,a1,a2,a12,ac,W,J,I,wi,o,m,e,Z]
     .rw[if_neg Z]
      rw[decide_eq_false Z] at e;simp[-getElem?_pos,-AV.adM,-AV.known,-AV.cells,-ay,-List.all_eq_true,a0,a1,a2,a12,ac,W,J,I,o,m,e,Z])
    (fun env d ⟨a0,a1,a2,a12⟩ ac=>by rw[<-G'] at ac;subst Y;simp[a0,a1,a2,a12,ac])
    (fun z' env h=>by subst Y;simpa [au] using h)
   have X:=fun env d h=>(u env d h).1
   have J':=fun env d h=>(u env d h).2.1
   clear u j;subst Y;by_cases F:S=H
   .simp only[if_pos F] at X
    rw[decide_eq_true F];clear J';rcases w1 with⟨rfl,e1⟩ | ⟨b1,rfl⟩<;>rcases w2 with⟨rfl,e2⟩ | ⟨b2,rfl⟩
    .rw[e1] at X
     simp[-AV.adM,ao,R,f123,X]
    .rw[e1] at X |-
     simp[-AV.adM,ao,R,f123,X]
    .rw[e2] at X |-
     simp[-AV.adM,ao,R,f123,X]
    .simp[-AV.adM,ao,R,f123,X]
   .have J':=fun env d h=>J' env d h F
    simp only[if_neg F] at X;rw[decide_eq_false F];have n0:0<n:=by
     rcases P1 n with h | h
     .exact absurd ((List.length_eq_zero_iff.1 (G'.symm.trans h)).trans (List.length_eq_zero_iff.1 (B.symm.trans h)).symm) F
     .exact h
    rcases w1 with⟨_,e1⟩ | ⟨b1,rfl⟩
    .omega
    rcases w2 with⟨_,e2⟩ | ⟨b2,rfl⟩
    .omega
    simp[-AV.adM,ao,R,f123,X,J']
  .have F:¬S=H :=fun h=>V (by rw[G',B,h])
   rw[decide_eq_false F];clear j;have U:¬(n:Int)=(n' :Int):=by omega
   rcases w1 with⟨rfl,e1⟩ | ⟨b1,rfl⟩<;>rcases w2 with⟨rfl,e2⟩ | ⟨b2,rfl⟩
   .omega
   .rw[e1] at U
    simp at U;simp[-AV.adM,ao,R,f123,U]
   .rw[e2] at V
    simp[-AV.adM,ao,R,f123,V]
   .simp[-AV.adM,ao,R,f123,U]
 have h1:=aX ak (aI _) hO (aQ _) IR;have hO2:afs prog (Ay 123 [v,w,.func 72 []] (.bool (decide (S=H))) (fun N=>N=M)):=Hc fun N hN=>by subst hN;exact h1
 refine wz hO2 ?_;clear hO2 IR h1 j;simp[ad,hGF,f74,Ay]
def EvW(N:Mem)(H:List AV)(c:Evc):Prop:=∃b u s kn,H=c.cells b u s kn/\TxW N b c.B/\TxW N u c.U/\SfW N s c.S/\af5 N kn 2 c.K.length (kC c.K)/\c.K.length<=1000
theorem EvW.more{H:List AV}{c:Evc}(h:EvW N H c)(Z:Mem):EvW (N++Z) H c:=by obtain⟨b,u,s,kn,X,V,h3,U,R,Q⟩:=h;exact⟨b,u,s,kn,X,V.more Z,h3.more Z,U.more Z,R.more Z,Q⟩
def eqC(c c' :Evc):Bool:=evB c c' (decide (c.B=c'.B)) (decide (c.U=c'.U)) (decide (c.S=c'.S)) (decide (c.K=c'.K))
def BF(M:Mem) (b b' u u' s s' kn kn' :AV) (c c' :Evc)(f:Go.Eng.Callee)(a:List AV)(N:Mem)(r:afw):Prop:=(∃Z,N=M++Z)/\((f=.fn 72/\a=[b,b']/\r=⟨.bool (decide (c.B=c'.B)),none,[]⟩)\/(f=.fn 73/\a=[u,u']/\r=⟨.bool (decide (c.U=c'.U)),none,[]⟩)\/(f=.fn 74/\a=[s,s']/\r=⟨.bool (decide (c.S=c'.S)),none,[]⟩)\/(f=.fn 75/\a=[kn,kn']/\r=⟨.bool (decide (c.K=c'.K)),none,[]⟩))
theorem xI{M:Mem}{e H :List AV}{c c' :Evc}(h:EvW M e c)(h' :EvW M H c'):bz prog 26 [.agg e,.agg H] M (.bool (eqC c c')) M:=by
 obtain⟨b,u,s,kn,rfl,R,V,h3,F,D⟩:=h;obtain⟨Q,O,K,U,rfl,C,G,B,o,m⟩:=h';have j:afs prog (kW (BF M b Q u O s K kn U c c')):=HA fun f a N r Y=>by
  obtain⟨⟨Z,rfl⟩,⟨rfl,rfl,rfl⟩ | ⟨rfl,rfl,rfl⟩ | ⟨rfl,rfl,rfl⟩ | ⟨rfl,rfl,rfl⟩⟩:=Y
  .exact cC (zc (R.more Z) (C.more Z))
  .exact cC (VJ (V.more Z).2 (G.more Z).2 rfl rfl (V.more Z).1 (G.more Z).1)
  .exact cC (SY (h3.more Z) (B.more Z))
  .exact cC (VG D m rfl rfl (F.more Z) (o.more Z))
 have X:∀{f:FuncId}{a:List AV}{N:Mem}{r:afw},BF M b Q u O s K kn U c c' (.fn f) a N r->kW (BF M b Q u O s K kn U c c') (.fn f) a N=some r:=fun {f a N r} h=>DJ h fun W h' =>by obtain⟨_,⟨R,_,rfl⟩ | ⟨R,_,rfl⟩ | ⟨R,_,rfl⟩ | ⟨R,_,rfl⟩⟩:=h<;>obtain⟨_,⟨V,_,rfl⟩ | ⟨V,_,rfl⟩ | ⟨V,_,rfl⟩ | ⟨V,_,rfl⟩⟩:=h' <;>first | rfl | (rw[R] at V;cases V)
 exact Px j (fun _=>X ⟨⟨_,rfl⟩,.inl ⟨rfl,rfl,rfl⟩⟩) (fun _=>X ⟨⟨_,rfl⟩,.inr (.inl ⟨rfl,rfl,rfl⟩)⟩) (fun _=>X ⟨⟨_,rfl⟩,.inr (.inr (.inl ⟨rfl,rfl,rfl⟩))⟩) (fun _=>X ⟨⟨_,rfl⟩,.inr (.inr (.inr ⟨rfl,rfl,rfl⟩))⟩)
variable{C:List AV}{es n:Nat}
theorem af5.refs(h:af5 N v es n C)(x:Nat):v.aft (fun b=>decide (b<N.length+x))=true:=by
 rcases h with⟨rfl,_⟩ | ⟨b,o,rfl,h⟩
 .rfl
 .have:=gL h
  simp only[AV.aft,Cs];omega
theorem SfW.row(h:SfW N v S):∃C,af5 N v 1 S.length C:=by obtain⟨_,Z,_,h,_⟩:=h;exact⟨Z,h⟩
theorem af5.kn(h:af5 N v es n C):v.known=true/\v.cells=[v]:=by rcases h with⟨rfl,_⟩ | ⟨b,o,rfl,_⟩<;>exact⟨rfl,rfl⟩
theorem fA(h:af5 N v es n C){t:TypeId}(H:t=48\/t=49\/t=59)(I :Mem):ym (aL prog) t I v=some (.int .i64 (n:Int)):=by rcases h with⟨rfl,rfl,_⟩ | ⟨b,o,rfl,_⟩<;>rcases H with rfl | rfl | rfl<;>simp
noncomputable def bj:Array Oper:=match f27.body with
 |some (.seq _ (.seq _ (.seq (.seq (.region _ ops _) _) _)))=>ops
 |_=> #[]
noncomputable def dG:Array Oper:=match f27.body with
 |some (.seq _ (.seq _ (.seq _ (.seq _ (.seq _ (.seq (.seq (.region _ ops _) _) _))))))=>ops
 |_=> #[]
noncomputable def Cf:List Oper:=(bj.toList.drop 0).take 6
noncomputable def wA:List Oper:=(bj.toList.drop 6).take 7
noncomputable def wB:List Oper:=(bj.toList.drop 13).take 7
noncomputable def wC:List Oper:=(bj.toList.drop 20).take 7
noncomputable def wE:List Oper:=(bj.toList.drop 27).take 7
noncomputable def wF:List Oper:=(bj.toList.drop 34).take 8
noncomputable def wG:List Oper:=(bj.toList.drop 42).take 9
noncomputable def wH:List Oper:=(bj.toList.drop 51).take 8
noncomputable def Cg:List Oper:=(dG.toList.drop 0).take 8
noncomputable def wI:List Oper:=(dG.toList.drop 8).take 9
noncomputable def wJ:List Oper:=(dG.toList.drop 17).take 10
theorem S0:bj.toList=Cf++(wA++(wB++(wC++(wE++(wF++(wG++(wH))))))):=by kernel_rfl
theorem Ta:dG.toList=Cg++(wI++(wJ)):=by kernel_rfl
theorem Tn:(bj[5]?).bind (fun x=>x.dst)=some 19:=by kernel_rfl
theorem To:(bj[12]?).bind (fun x=>x.dst)=some 26:=by kernel_rfl
theorem Tp:(bj[19]?).bind (fun x=>x.dst)=some 33:=by kernel_rfl
theorem Tq:(bj[26]?).bind (fun x=>x.dst)=some 40:=by kernel_rfl
theorem Ts:(bj[33]?).bind (fun x=>x.dst)=some 47:=by kernel_rfl
theorem Tt:(bj[41]?).bind (fun x=>x.dst)=some 55:=by kernel_rfl
theorem Tu:(bj[50]?).bind (fun x=>x.dst)=some 64:=by kernel_rfl
theorem Tv:(dG[7]?).bind (fun x=>x.dst)=some 117:=by kernel_rfl
theorem Tw:(dG[16]?).bind (fun x=>x.dst)=some 126:=by kernel_rfl
abbrev bt(p q r t:Nat) (env:Env):Prop:=aa env 2=.ptr p 0/\aa env 3=.ptr q 0/\aa env 5=.ptr r 0/\aa env 6=.ptr t 0
section
variable {O:afu}{m0:Nat}{ops:Array Oper}{env:Env}{mem:Mem}{d:Bool}{p q r t:Nat}{c c' :Evc}{b u s kn b' u' s' kn' :AV}{f:Bool}(h2:bt p q r t env)(hp:mem[p]? =some (.cells true 0 (c.cells b u s kn)))(hq:mem[q]? =some (.cells true 0 (c'.cells b' u' s' kn')))(hr:mem[r]? =some (.cells true 0 [b,u,s]))(ht:mem[t]? =some (.cells true 0 [b',u',s']))
include h2 hp hq hr ht
theorem Tb:
  ∃Z,cr (aL prog) O 158 m0 ops Cf ⟨env,mem,d⟩=some ⟨Z,mem,d⟩/\bt p q r t Z /\aa Z 19=.bool (!decide (c.k=c'.k)):=by
 obtain⟨h2,h3,X,V⟩:=h2;have e:=fun d=>BH d
 simp only[Evc.cells] at hp hq;simp[Cf,bj,f27,bt,h2,h3,X,V,hp,hq]
theorem Tc(hg:(ops[5]?).bind (fun x=>x.dst)=some 19)(h1:aa env 19=.bool f):
  ∃Z,cr (aL prog) O 158 m0 ops wA ⟨env,mem,d⟩=some ⟨Z,mem,d⟩/\bt p q r t Z /\aa Z 26=.bool (f|| !(c.nm==c'.nm)):=by
 obtain⟨h2,h3,X,V⟩:=h2;have e:=fun d=>BI d
 simp only[Evc.cells] at hp hq;cases f
 .simp[wA,bj,f27,bt,h2,h3,X,V,hp,hq,hg,h1]
 .simp[wA,bj,f27,bt,h2,h3,X,V,hg,h1]
theorem Td(hg:(ops[12]?).bind (fun x=>x.dst)=some 26)(h1:aa env 26=.bool f):
  ∃Z,cr (aL prog) O 158 m0 ops wB ⟨env,mem,d⟩=some ⟨Z,mem,d⟩/\bt p q r t Z /\aa Z 33=.bool (f|| !RW c c'):=by
 obtain⟨h2,h3,X,V⟩:=h2;have e:=fun d=>pe d c.x5 c.x6 c.x7 c.x8 c.x9 c.x10 c.x11 c'.x5 c'.x6 c'.x7 c'.x8 c'.x9 c'.x10 c'.x11
 simp only[Evc.cells] at hp hq;cases f
 .simp[wB,bj,f27,bt,h2,h3,X,V,hp,hq,hg,h1,e,RW,xB]
 .simp[wB,bj,f27,bt,h2,h3,X,V,hg,h1]
theorem Te(hg:(ops[19]?).bind (fun x=>x.dst)=some 33)(h1:aa env 33=.bool f):
  ∃Z,cr (aL prog) O 158 m0 ops wC ⟨env,mem,d⟩=some ⟨Z,mem,d⟩/\bt p q r t Z /\aa Z 40=.bool (f|| !T8 c c'):=by
 obtain⟨h2,h3,X,V⟩:=h2;have e:=fun d=>rh d c.x19 c.x20 c.x21 c.x22 c.x23 c.x24 c'.x19 c'.x20 c'.x21 c'.x22 c'.x23 c'.x24
 simp only[Evc.cells] at hp hq;cases f
 .simp[wC,bj,f27,bt,h2,h3,X,V,hp,hq,hg,h1,e,T8,xB]
 .simp[wC,bj,f27,bt,h2,h3,X,V,hg,h1]
theorem Tf(hg:(ops[26]?).bind (fun x=>x.dst)=some 40)(h1:aa env 40=.bool f):
  ∃Z,cr (aL prog) O 158 m0 ops wE ⟨env,mem,d⟩=some ⟨Z,mem,d⟩/\bt p q r t Z /\aa Z 47=.bool (f|| !Ve c c'):=by
 obtain⟨h2,h3,X,V⟩:=h2;have e:=fun d=>rn d c.t1 c.t2 c.t3 c.t4 c'.t1 c'.t2 c'.t3 c'.t4 c.x29 c.x30 c.x31 c'.x29 c'.x30 c'.x31
 simp only[Evc.cells] at hp hq;cases f
 .simp[wE,bj,f27,bt,h2,h3,X,V,hp,hq,hg,h1,e,Ve,xB]
 .simp[wE,bj,f27,bt,h2,h3,X,V,hg,h1]
theorem Tg(hg:(ops[33]?).bind (fun x=>x.dst)=some 47)(h1:aa env 47=.bool f)(H:O (.fn 76) [b,b'] mem=some ⟨.bool (decide (c.B=c'.B)),none,[]⟩):
  ∃Z,cr (aL prog) O 158 m0 ops wF ⟨env,mem,d⟩=some ⟨Z,mem,d⟩/\bt p q r t Z /\aa Z 55=.bool (f|| !decide (c.B=c'.B)):=by
 obtain⟨h2,h3,X,V⟩:=h2;simp only[Evc.cells] at hp hq;cases f
 .simp[wF,bj,f27,bt,h2,h3,X,V,hr,ht,hg,h1,H]
 .simp[wF,bj,f27,bt,h2,h3,X,V,hg,h1]
theorem Th(hg:(ops[41]?).bind (fun x=>x.dst)=some 55)(h1:aa env 55=.bool f)(I:∀Z,ym (aL prog) 48 Z u=some (.int .i64 c.U.length))(H :∀Z,ym (aL prog) 48 Z u' =some (.int .i64 c'.U.length)):
  ∃X,cr (aL prog) O 158 m0 ops wG ⟨env,mem,d⟩=some ⟨X,mem,d⟩/\bt p q r t X /\aa X 64=.bool (f|| !decide ((c.U.length:Int)=c'.U.length)):=by
 obtain⟨h2,h3,V,R⟩:=h2;simp only[Evc.cells] at hp hq;cases f
 .simp[wG,bj,f27,bt,h2,h3,V,R,hr,ht,hg,h1,-ym,I,H]
 .simp[wG,bj,f27,bt,h2,h3,V,R,hg,h1]
theorem Ti(hg:(ops[50]?).bind (fun x=>x.dst)=some 64)(h1:aa env 64=.bool f)(hS:∀Z,ym (aL prog) 49 Z s=some (.int .i64 c.S.length))(H :∀Z,ym (aL prog) 49 Z s' =some (.int .i64 c'.S.length)):
  ∃X,cr (aL prog) O 158 m0 ops wH ⟨env,mem,d⟩=some ⟨X,mem,d⟩/\bt p q r t X /\aa X 72=.bool (f|| !decide ((c.S.length:Int)=c'.S.length)):=by
 obtain⟨h2,h3,V,U⟩:=h2;simp only[Evc.cells] at hp hq;cases f
 .simp[wH,bj,f27,bt,h2,h3,V,U,hr,ht,hg,h1,-ym,hS,H]
 .simp[wH,bj,f27,bt,h2,h3,V,U,hg,h1]
theorem Tj:
  ∃Z,cr (aL prog) O 158 m0 ops Cg ⟨env,mem,d⟩=some ⟨Z,mem,d⟩/\bt p q r t Z /\aa Z 117=.bool (!xB (c.x12,c.x13,c.x14) (c'.x12,c'.x13,c'.x14)):=by
 obtain⟨h2,h3,X,V⟩:=h2;have e:=fun d=>fH d c.x12 c.x13 c.x14 c'.x12 c'.x13 c'.x14
 simp only[Evc.cells] at hp hq;simp[Cg,dG,f27,bt,h2,h3,X,V,hp,hq,e,xB]
theorem Tk(hg:(ops[7]?).bind (fun x=>x.dst)=some 117)(h1:aa env 117=.bool f):
  ∃Z,cr (aL prog) O 158 m0 ops wI ⟨env,mem,d⟩=some ⟨Z,mem,d⟩/\bt p q r t Z /\aa Z 126=.bool (f|| !xB (c.x16,c.x17,c.x18) (c'.x16,c'.x17,c'.x18)):=by
 obtain⟨h2,h3,X,V⟩:=h2;have e:=fun d=>fH d c.x16 c.x17 c.x18 c'.x16 c'.x17 c'.x18
 simp only[Evc.cells] at hp hq;cases f
 .simp[wI,dG,f27,bt,h2,h3,X,V,hp,hq,hg,h1,e,xB]
 .simp[wI,dG,f27,bt,h2,h3,X,V,hg,h1]
theorem Tl(hg:(ops[16]?).bind (fun x=>x.dst)=some 126)(h1:aa env 126=.bool f)(I:∀Z,ym (aL prog) 59 Z kn=some (.int .i64 c.K.length))(H :∀Z,ym (aL prog) 59 Z kn' =some (.int .i64 c'.K.length)):
  ∃X,cr (aL prog) O 158 m0 ops wJ ⟨env,mem,d⟩=some ⟨X,mem,d⟩/\bt p q r t X /\aa X 136=.bool (f|| !decide ((c.K.length:Int)=c'.K.length)):=by
 obtain⟨h2,h3,V,U⟩:=h2;simp only[Evc.cells] at hp hq;cases f
 .simp[wJ,dG,f27,bt,h2,h3,V,U,hp,hq,hg,h1,-ym,I,H]
 .simp[wJ,dG,f27,bt,h2,h3,V,U,hg,h1]
end
def df1(c c' :Evc):Bool:=((((((((!decide (c.k=c'.k))|| !(c.nm==c'.nm))|| !RW c c')|| !T8 c c')|| !Ve c c')|| !decide (c.B=c'.B))|| !decide ((c.U.length:Int)=c'.U.length))|| !decide ((c.S.length:Int)=c'.S.length))
def df2(c c' :Evc):Bool:=(((!xB (c.x12,c.x13,c.x14) (c'.x12,c'.x13,c'.x14))|| !xB (c.x16,c.x17,c.x18) (c'.x16,c'.x17,c'.x18))|| !decide ((c.K.length:Int)=c'.K.length))
end Go.Proofs
