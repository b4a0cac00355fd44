/- See I36. -/
import Derived.Test.YtgafjliihahjgaaGreatDoorI27
set_option linter.all false
set_option maxRecDepth 100000
set_option maxHeartbeats 40000000
namespace Go.Proofs
open Go.Eng
open Tryz
structure Tryz.ag9 (s:af8)(U:List (List UInt8))(N:Mem)(ev:List AV)(x1 x2 x3 x4 x5:af6):Prop where
 c:∃c:Evc,agU s c/\unE c=U/\∀M',agv N.length [x1,x2,x3,x4,x5] M' ->agO M' ev c
 l:ev.length=32
 ck:ev.all AV.af2=true
 r:aiL (N.length+5) ev
 o:OkN (N.length+5) [x1,x2,x3,x4,x5]
theorem N5(s:af8)(d:agf)(hd:d.Ok)(i:Nat)(y:i<6)(M:Mem)(p t:Nat)(o o' :Bool)(H:M[p]? =some (.cells o 2 (pC s.P)))(I:M[t]? =some (.cells o' 3 (tC s.T))):
  ∃Z X W V S O,kO prog 28 [shB s p t,.agg d.cells,.int .i64 i] M (.agg Z) (M++[X,W,V,S,O])/\ag9 s (bU d i) M Z X W V S O:=by
 obtain⟨Z,X,W,V,S,O,J,⟨_,G⟩,_,⟨h3,_⟩,F,D,⟨C,B,A,z,u⟩,m⟩:=NZ s d hd i y M p t o o' H I;obtain⟨j,Y,R,Q,b5⟩:=m (M.length+5) (L9 _);refine⟨Z,X,W,V,S,O,J,G,h3,List.all_eq_true.2 F,.of (D _ (L9 _)),.of fun x K=>?_⟩;simp only[lM] at K;rcases K with rfl | rfl | rfl | rfl | rfl
 .exact⟨C,j⟩
 .exact⟨B,Y⟩
 .exact⟨A,R⟩
 .exact⟨z,Q⟩
 .exact⟨u,b5⟩
variable{E pv tv:AV}{N N0:Mem}{cs:List Evc}{evs:List (List AV)}{i kc:Nat}
theorem CpI.ext(H:CpI N0 kc pv tv cs N i E evs)(y:cs.length=i)(c:Evc):CpI N0 kc pv tv (cs++[c]) N i E evs:=
 ⟨H.len,H.same,H.cell,H.evl,H.row,fun k e W Z X=>by have:=gL Z;rw[H.evl] at this;rw[Hi (by omega)] at X;exact H.con k e W Z X,H.agR,H.ok⟩
theorem mG(e:agf)(l:List agf):gD (e::l)=e.cells++gD l:=rfl
theorem Qb{α:Type}{a b:Prop}{p q:α->Prop}(y:a)(H:b)(h:∃s,p s/\q s):∃s,a/\b/\p s/\q s:=by obtain⟨s,Z,X⟩:=h;exact⟨s,y,H,Z,X⟩
theorem Mo:∀{ds:List agf} {i:Nat} {d:agf},ds[i]? =some d->((gD ds).drop (i*12)).take 12=d.cells/\i*12+12<=(gD ds).length
 | [],i,d,h=>by simp at h
 |e::l,0,d,h=>by simp at h;subst h;have Z:e.cells.length=12:=rfl;exact⟨by rw[mG,Nat.zero_mul,List.drop_zero,QQa (by omega),GE (by omega)],by rw[mG,Nm];omega⟩
 |e::l,i+1,d,h=>by have Z:e.cells.length=12:=rfl;obtain⟨a,b⟩:=Mo (ds:=l) (i:=i) (d:=d) (by simpa using h);refine⟨?_,by rw[mG,Nm];omega⟩;rw[mG,List.drop_append,Mp (by omega),List.nil_append,Z,show(i+1)*12-12=i*12 by omega];exact a
theorem FP:∀Z:List agf,(gD Z).length=Z.length*12
 | []=>rfl
 |e::l=>by have X:e.cells.length=12:=rfl;rw[mG,Nm,FP l,X,List.length_cons];omega
variable{M Y:Mem}{O:af3}{b p t:Nat}{d:agf}{ds:List agf}{o1 o2:Bool}{s:af8}{w:Code}
theorem LK(hd:∀d∈ds,d.Ok)(h3l:ds.length<=3){K m1:Nat}{o:Bool}(hN0:N0=M++Y)(Q:M[b]? =some (.cells o 12 (gD ds)))(hp:N0[p]? =some (.cells o1 2 (pC s.P)))(ht:N0[t]? =some (.cells o2 3 (tC s.T)))(hkM:M.length<=kc)(hk0:kc<N0.length)(hl:cs.length=i)(I:CpI N0 kc (.slice p 0 s.P.length none) (.slice t 0 s.T.length none) cs N i E evs)(hdd:ds[i]? =some d)(hO:∀(N:Mem)(k:Nat) o o',N[p]? =some (.cells o 2 (pC s.P))->N[t]? =some (.cells o' 3 (tC s.T))->k<6->∀d∈ds,∃G x1 x2 x3 x4 x5,O (.fn 28) [shB s p t,.agg d.cells,.int .i64 k] N=some ⟨.agg G,none,[x1,x2,x3,x4,x5]⟩/\ag9 s (bU d k) N G x1 x2 x3 x4 x5)(hw:ag f9=[w]){H:Env}{dd:Bool}(h16:ad H 16=.slice b 0 ds.length none)(h17:ad H 17=.int .i64 ds.length)(h3:ad H 3=.ptr kc 0):
  ∃N' E' G c C,agU s c/\unE c=bU d i/\aT (aU prog) (fun _=>[18,18,18]) O K 35 M.length true w ⟨au [18,18,18] (ab w) H ((18,.int .i64 (i:Int))::H),N,dd⟩=some (.normal,C)/\mM [18,18,18] (ab w) H m1 C =⟨au [18,18,18] (ab w) H ((18,.int .i64 ((i+1:Nat):Int))::H),N',dd⟩/\
   CpI N0 kc (.slice p 0 s.P.length none) (.slice t 0 s.T.length none) (cs++[c]) N' (i+1) E' (evs++[G]):=by
 have B':=gL hdd;have hll:=I.len;have lb:=gL Q;have lp:=gL hp;have lt:=gL ht;have hl0:M.length<=N0.length:=by rw[hN0,Nm];omega
 have B:kc<N.length:=by omega
 have A:N[b]? =some (.cells o 12 (gD ds)):=by rw[I.same b (by omega) (by omega),hN0,Hi lb];exact Q
 have hpk:p≠kc:=by rintro rfl;have:=I.cell;rw[I.agR p o1 2 _ (.inr (.inl rfl)) hp] at this;cases this
 have htk:t≠kc:=by rintro rfl;have:=I.cell;rw[I.agR t o2 3 _ (.inr (.inr rfl)) ht] at this;cases this
 have z:N[p]? =some (.cells o1 2 (pC s.P)):=by rw[I.same p lp hpk];exact hp
 have u:N[t]? =some (.cells o2 3 (tC s.T)):=by rw[I.same t lt htk];exact ht
 have lpN:=gL z;have ltN:=gL u;obtain⟨r1,r2⟩:=Mo hdd;obtain⟨G,x1,x2,x3,x4,x5,eD,DF⟩:=hO (N++[.cells true 0 d.cells]) i o1 o2 (gU z _) (gU u _) (by omega) d (Lo hdd);obtain⟨c,gc,uc,hc⟩:=DF.c;have lev:=DF.l;have lN1:(N++[af6.cells true 0 d.cells]).length=N.length+1:=by simp
 have F:=DF.r;have oX:=DF.o;rw[lN1] at F oX hc;have adA:∀x∈evs,x.length=32:=fun x hx=>by obtain⟨k,X⟩:=QQg hx;have h1:=gL X;rw[I.evl] at h1;exact(I.con k x _ X (GT (by omega))).l32
 have hfl:evs.flatten.length=i*32:=by rw[UI adA,I.evl]
 have hER:∀m,AV.af7 (fun b=>decide (b<N.length+m)) evs.flatten=true:=fun m=>Ab fun x hx=>by obtain⟨k,X⟩:=QQg hx;have h1:=gL X;rw[I.evl] at h1;exact(I.con k x _ X (GT (by omega))).refs m
 have h:∃W C,W.length=N.length/\((i=0/\W=N)\/∃V,E=.slice V 0 i none/\0<i/\W=N.set V .HS)/\aT (aU prog) (fun _=>[18,18,18]) O K 35 M.length true w ⟨au [18,18,18] (ab w) H ((18,.int .i64 (i:Int))::H),N,dd⟩=some (.normal,C)/\
   mM [18,18,18] (ab w) H m1 C =⟨au [18,18,18] (ab w) H ((18,.int .i64 ((i+1:Nat):Int))::H),W.set kc (.cells true 0 [.slice p 0 s.P.length none,.slice t 0 s.T.length none,.str bC,.slice (N.length+7) 0 (i+1) none])++[.cells true 0 d.cells,x1,x2,x3,x4,x5,.cells true 32 G,.cells true 32 (evs.flatten++G)],dd⟩:=by
  obtain⟨os',A'⟩:∃os',aN f9=os' :=⟨_,rfl⟩
  have aaM :=bP A' (ls:=[[0,1,0,4,0,0,60,124,255,511,1023]]) (by kernel_rfl);simp only[aN,cj,f9,List.nil_append,List.append_nil] at A';subst A';simp only[lB] at aaM;have w1:IntKind.i64.wrap ((i:Int)+1)=((i+1:Nat):Int):=by rw[ai];omega
  have hjl:∀j,(N.length+j<M.length)=False:=fun j=>by rw[eq_iff_iff,iff_false];omega
  have aem:(N.length<M.length)=False:=by rw[eq_iff_iff,iff_false];omega
  have hkm:¬kc<M.length:=by omega
  have cev:=DF.ck;have gev:(∀y:AV,y∈G->y.af2=true)=True:=eq_true (List.all_eq_true.1 cev);have t32:G.take 32=G:=GE (by omega);obtain⟨dc,D⟩:=xE d.cells;have ldc:dc.length=12:=by rw[D];rfl
  have cdc:dc.all AV.af2=true:=by rw[D];rfl
  have gdc:(∀y:AV,y∈dc->y.af2=true)=True:=eq_true (List.all_eq_true.1 cdc);have t12:dc.take 12=dc:=GE (by omega);have rdc:∀f,AV.af7 f dc=true:=fun f=>by rw[D];rfl
  rw[<-D] at r1 eD;rw[<-D];have aen:=F (fun b=>decide (b<N.length+6)) (by intro b Q;simp only[L0];omega);have aeo:=F (fun b=>decide (b<N.length+7)) (by intro b Q;simp only[L0];omega);have aep:=F (fun b=>decide (b<N.length+8)) (by intro b Q;simp only[L0];omega);have oX6:=oX (fun b=>decide (b<N.length+6)) (by intro b Q;simp only[L0];omega);simp only[QQK,List.all_nil,Bool.and_true,Es] at oX6;obtain⟨⟨a1,b1⟩,⟨a2,b2⟩,⟨a3,b3⟩,⟨a4,b4⟩,a5,b5⟩:=oX6;have p2:∀j,(p<N.length+j)=True:=fun j=>by rw[eq_iff_iff,iff_true];omega
  have t2:∀j,(t<N.length+j)=True:=fun j=>by rw[eq_iff_iff,iff_true];omega
  have k2:∀j,(kc<N.length+j)=True:=fun j=>by rw[eq_iff_iff,iff_true];omega
  have k5:∀j,(N.length+j<=kc)=False:=fun j=>by rw[eq_iff_iff,iff_false];omega
  have k3:∀j,(kc=N.length+j)=False:=fun j=>by rw[eq_iff_iff,iff_false];omega
  have k4:(kc=N.length)=False:=by rw[eq_iff_iff,iff_false];omega
  have k6:∀j,(N.length+j=kc)=False:=fun j=>by rw[eq_iff_iff,iff_false];omega
  have k7:(N.length=kc)=False:=by rw[eq_iff_iff,iff_false];omega
  have E_8:=hER 8;have bi:i*12+12<=(gD ds).length:=r2;obtain⟨R,hR⟩:=xE (gD ds);rw[<-hR] at r1 bi A;obtain⟨Fl,hFl⟩:=xE evs.flatten;rw[<-hFl] at hfl E_8 |-;obtain⟨n,hn⟩:=xE ds.length;rw[<-hn] at h16 h17 B';have aat:=I.cell;have hc1:∀Z,(N++Z)[kc]? =some (.cells true 0 [.slice p 0 s.P.length none,.slice t 0 s.T.length none,.str bC,E]):=fun Z=>gU aat _
  simp only[shB] at eD;simp[ag,aH,f9] at hw;have row:=I.row;rw[<-hFl] at row;clear hO hc DF F oX hER I hp ht z u Q aat;subst hw;rcases row with⟨rfl,rfl⟩ | ⟨V,rfl,h0,afX,hkr⟩
  .have:Fl=[]:=M0 (by omega)
   subst this;have hs1:∀Z s,(N++Z).set kc s=N.set kc s++Z:=fun Z s=>List.set_append_left _ _ B
   refine⟨N,?_⟩;have r1' :R.take 12=dc:=by simpa using r1
   have bi' :12<=R.length:=by simpa using bi
   rw[show((0:Nat):Int)=0 from rfl] at eD;have gS:∀x Z,(N.set kc x++Z)[kc]? =some x:=fun x Z=>by rw[Hi (by rw[X3];exact B),X1 B]
   have dS:∀(x:af6) (Z:Mem) (j:Nat),(N.set kc x++Z).drop (N.length+j)=Z.drop j:=fun x Z j=>by rw[List.drop_append,Mp (by rw[X3];omega),X3,Nat.add_sub_cancel_left,List.nil_append]
   refine Qb rfl (.inl ⟨rfl,rfl⟩) ?_;simp[-getElem?_pos,-AV.af2,-AV.known,-AV.cells,-cG,-bJ,-bm,-aJ,-AV.afF,-af6.afF,-List.all_eq_true,vS,rS,mS,wk,bN aaM,fC,fj,jn,fA,dm,od,bef,Nat.testBit,h16,h17,h3,B',A,r1',bi',ldc,cdc,t12,rdc,hc1,hs1,gS,dS,eD,lev,cev,t32,aen,aeo,aep,a1,a2,a3,a4,a5,b1,b2,b3,b4,b5,p2,t2,k2,k3,k4,k5,hkm,aem];rfl
  .have lkr:=gL hkr
   have afE :∀Z,(N++Z)[V]? =some (.cells true 32 Fl):=fun Z=>gU hkr _
   have tF:Fl.take (i*32)=Fl:=GE (by omega);have lF:i*32<=Fl.length:=by omega
   have n1:(i+1)*504<=140737488355328:=by omega
   have n2:i+1<=140737488355328:=by omega
   obtain⟨W,S⟩:=xE (N.set V .HS);have J:W.length=N.length:=by rw[S,X3]
   have hs1:∀Z,(N++Z).set V .HS=W++Z:=fun Z=>by rw[S];exact List.set_append_left _ _ lkr
   have hs2:∀Z s,(W++Z).set kc s=W.set kc s++Z:=fun Z s=>List.set_append_left _ _ (by omega)
   have hkk:V≠kc:=by omega
   have hc2:∀Z,(W++Z)[kc]? =some (.cells true 0 [.slice p 0 s.P.length none,.slice t 0 s.T.length none,.str bC,.slice V 0 i none]):=fun Z=>by
    rw[Hi (by omega),S,X4 hkk];have:=hc1 []
    rwa [List.append_nil] at this
   have q2:∀j,(V<N.length+j)=True:=fun j=>by rw[eq_iff_iff,iff_true];omega
   have q3:∀j,(V=N.length+j)=False:=fun j=>by rw[eq_iff_iff,iff_false];omega
   have q4:(V=N.length)=False:=by rw[eq_iff_iff,iff_false];omega
   have q5:∀j,(N.length+j<=V)=False:=fun j=>by rw[eq_iff_iff,iff_false];omega
   have q6:(kc=V)=False:=by rw[eq_iff_iff,iff_false];omega
   have q7:¬V<M.length:=by omega
   have m2:∀j Z,(W++Z)[N.length+j]? =Z[j]? :=fun j Z=>by rw[<-J];exact iG _ _ _
   refine⟨W,?_⟩;have gS:∀x Z,(W.set kc x++Z)[kc]? =some x:=fun x Z=>by rw[Hi (by rw[X3];omega),X1 (by omega)]
   have dS:∀(x:af6) (Z:Mem) (j:Nat),(W.set kc x++Z).drop (N.length+j)=Z.drop j:=fun x Z j=>by rw[List.drop_append,Mp (by rw[X3];omega),X3,J,Nat.add_sub_cancel_left,List.nil_append]
   have gK:∀Z,(W++Z)[V]? =some .HS:=fun Z=>by rw[Hi (by omega),S,X1 (by omega)]
   have dN:∀(Z:Mem) (j:Nat),(W++Z).drop (N.length+j)=Z.drop j:=fun Z j=>by rw[List.drop_append,Mp (by omega),J,Nat.add_sub_cancel_left,List.nil_append]
   refine Qb J (.inr ⟨V,rfl,h0,S⟩) ?_;simp[-getElem?_pos,-AV.af2,-AV.known,-AV.cells,-cG,-bJ,-bm,-aJ,-AV.afF,-af6.afF,-List.all_eq_true,vS,rS,mS,wk,bN aaM,fC,fj,jn,fA,dm,od,bef,Nat.testBit,h16,h17,h3,B',A,r1,bi,ldc,cdc,t12,rdc,hc1,hc2,hs1,hs2,afE,tF,lF,n1,n2,J,gS,dS,gK,dN,eD,lev,cev,t32,aen,aeo,aep,E_8,a1,a2,a3,a4,a5,b1,b2,b3,b4,b5,p2,t2,k2,k3,k4,k5,q2,q3,q4,q6,q7,hkm,aem,w1]
 obtain⟨W,C,J,S,g1,g2⟩:=h;refine⟨_,.slice (N.length+7) 0 (i+1) none,G,c,C,gc,uc,g1,g2,?_⟩;have hat:∀(x:af6) (Z:Mem) (k:Nat),(W.set kc x++Z)[N.length+k]? =Z[k]? :=fun x Z k=>by rw[Pi (by rw[X3,J];omega),X3,J,Nat.add_sub_cancel_left]
 refine(I.ext hl c).step (Z:=[.cells true 0 d.cells,x1,x2,x3,x4,x5,.cells true 32 G,.cells true 32 (evs.flatten++G)]) hk0 (by rw[<-hl,Pi (L9 _),Nat.sub_self];rfl) _ (N.length+7) ⟨fun h0=>?_,fun V hE=>?_⟩ ⟨by omega,by rw[hat];rfl⟩ (hc _ fun k x X=>?_) ?_
 .rcases S with⟨_,rfl⟩ | ⟨V,_,h1,_⟩
  .rfl
  .omega
 .rcases S with⟨h1,rfl⟩ | ⟨kr',h,_,rfl⟩
  .rcases I.row with⟨_,h⟩ | ⟨_,_,h,_⟩
   .rw[h] at hE;cases hE
   .omega
  .rw[h] at hE;cases hE;rfl
 .rw[QXY,hat]
  match k,X with
  |0,X=>exact X
  |1,X=>exact X
  |2,X=>exact X
  |3,X=>exact X
  |4,X=>exact X
  |k+5,X=>simp at X
 .have e8:=oX (fun b=>decide (b<N.length+8)) (by intro b Q;simp only[L0];omega)
  have r8:=F (fun b=>decide (b<N.length+8)) (by intro b Q;simp only[L0];omega);have f8:=hER 8;have d8:AV.af7 (fun b=>decide (b<N.length+8)) d.cells=true:=rfl;simp only[QQK,List.all_nil,Bool.and_true,Es] at e8;obtain⟨⟨a1,b1⟩,⟨a2,b2⟩,⟨a3,b3⟩,⟨a4,b4⟩,a5,b5⟩:=e8;show List.all _ (fun x=>lH x&&x.afF (fun b=>decide (b<N.length+8)))=true
  simp only[QQK,List.all_nil,MY,tH,jq,d8,a1,a2,a3,a4,a5,b1,b2,b3,b4,b5,r8,f8,Bool.and_self]
def Bh(s:af8)(ds:List agf)(N0:Mem)(kc:Nat)(pv tv:AV)(N:Mem)(i:Nat)(E:AV)(cs:List Evc)(evs:List (List AV)):Prop:=
 CpI N0 kc pv tv cs N i E evs/\cs.length=i/\∀(j:Nat) c,cs[j]? =some c->agU s c/\∃d,ds[j]? =some d/\unE c=bU d j
theorem LJ(hd:∀d∈ds,d.Ok)(H:ds.length<=3){l:AV}(Q:N0=M++Y)(hl:(ds=[]/\l=.y9)\/∃o,M[b]? =some (.cells o 12 (gD ds))/\l=.slice b 0 ds.length none)(hp:N0[p]? =some (.cells o1 2 (pC s.P)))(ht:N0[t]? =some (.cells o2 3 (tC s.T)))(R:M.length<=kc)(y:N0[kc]? =some (.cells true 0 [.slice p 0 s.P.length none,.slice t 0 s.T.length none,.str bC,.y9]))(hO:∀(N:Mem)(k:Nat) o o',N[p]? =some (.cells o 2 (pC s.P))->N[t]? =some (.cells o' 3 (tC s.T))->k<6->∀d∈ds,∃S u m x3 x4 x5,O (.fn 28) [shB s p t,.agg d.cells,.int .i64 k] N=some ⟨.agg S,none,[u,m,x3,x4,x5]⟩/\ag9 s (bU d k) N S u m x3 x4 x5)(hw:ag f9=[w]):
  ∃F:Env->Bool->Env×Mem×(AV×List Evc×List (List AV)),∀Z d,(ad Z 16=l/\ad Z 17=.int .i64 ds.length/\ad Z 3=.ptr kc 0/\ad Z 18=.int .i64 0)->
   aT (aU prog) (fun _=>[18,18,18]) O 20 35 M.length true (.loop w) ⟨Z,N0,d⟩=some (.exit 0,⟨(F Z d).1,(F Z d).2.1,d⟩)/\(Bh s ds N0 kc (.slice p 0 s.P.length none) (.slice t 0 s.T.length none) (F Z d).2.1 ds.length (F Z d).2.2.1 (F Z d).2.2.2.1 (F Z d).2.2.2.2/\ad (F Z d).1 2=ad Z 2/\ad (F Z d).1 3=.ptr kc 0):=by
 have J:=gL y;refine kH (L:=[18,18,18]) rfl (fun Z=>ad Z 16=l/\ad Z 17=.int .i64 ds.length/\ad Z 3=.ptr kc 0/\ad Z 18=.int .i64 0) (fun Z X V (x:AV×List Evc×List (List AV))=>Bh s ds N0 kc (.slice p 0 s.P.length none) (.slice t 0 s.T.length none) V ds.length x.1 x.2.1 x.2.2/\ad X 2=ad Z 2/\ad X 3=.ptr kc 0) ?_;rintro Z d ⟨h16,h17,h3,h18⟩;have hn:au [18,18,18] (ab w) Z ((18,.int .i64 ((0:Nat):Int))::Z)=au [18,18,18] (ab w) Z Z:=by simp[au,h18]
 rw[<-hn];refine kG (α:=Nat×Mem×AV×List Evc×List (List AV)) (fun a=>⟨au [18,18,18] (ab w) Z ((18,.int .i64 (a.1:Int))::Z),a.2.1,d⟩) (fun a=>ds.length-a.1)
  (fun a=>a.1<=ds.length/\Bh s ds N0 kc (.slice p 0 s.P.length none) (.slice t 0 s.T.length none) a.2.1 a.1 a.2.2.1 a.2.2.2.1 a.2.2.2.2) (.exit 0) d (fun X V =>∃x:AV×List Evc×List (List AV),Bh s ds N0 kc (.slice p 0 s.P.length none) (.slice t 0 s.T.length none) V ds.length x.1 x.2.1 x.2.2/\ad X 2=ad Z 2/\ad X 3=.ptr kc 0) (by simp) ?_ 20 (0,N0,.y9,[],[])
  ⟨by simp,⟨L9 _,fun _ _ _=>rfl,y,rfl,.inl ⟨rfl,rfl⟩,fun k e c h=>by simp at h,agA.refl _,fun k x hk h=>absurd (gL h) (Nat.not_lt.2 hk)⟩,rfl,fun j c h=>by simp at h⟩ (by simp only;omega)
 rintro ⟨i,N,E,cs,evs⟩ ⟨hi,I,hcl,hun⟩;simp only at hi I hcl hun;clear hn;by_cases G:i<ds.length
 .left
  rcases hl with⟨rfl,_⟩ | ⟨o,hb,rfl⟩
  .simp at G
  obtain⟨V,E',S,c,s',g1,g2,D,C,B⟩:=LK (K:=20) (m1:=N0.length) (d:=ds[i]) hd H Q hb hp ht R J hcl I (GT G) hO hw h16 h17 h3 (dd:=d);refine⟨(i+1,V,E',cs++[c],evs++[S]),s',D,C,⟨by simp only;omega,B,by simp[hcl],fun j c' W=>?_⟩,by simp only;omega⟩;by_cases A:j<cs.length
  .rw[Hi A] at W
   exact hun j c' W
  .rw[Pi (by omega)] at W
   have:j-cs.length=0:=by have:=gL W;simp at this;omega
   rw[this] at W;simp at W;subst W;have z:j=i:=by omega
   subst z;exact⟨g1,_,GT G,g2⟩
 .right
  have e:i=ds.length:=by omega
  subst e;have:∃X,aT (aU prog) (fun _=>[18,18,18]) O 20 35 M.length true w ⟨au [18,18,18] (ab w) Z ((18,.int .i64 (ds.length:Int))::Z),N,d⟩=some (.exit 0,⟨X,N,d⟩)/\ad X 2=ad Z 2/\ad X 3=.ptr kc 0:=by clear I y hun hO;simp[ag,aH,f9] at hw;subst hw;simp[h17,h3]
  obtain⟨X,D,C,B⟩:=this;exact⟨X,N,D,(E,cs,evs),⟨I,hcl,hun⟩,C,B⟩
theorem OD{a:AV}{n:Nat}{R:List AV}{XP XT:af6}{F:Env->Bool->Env×Mem×(AV×List Evc×List (List AV))}(hw:ag f9=[w])(hl:(n=0/\a=.y9)\/∃o,M[b]? =some (.cells o 12 R)/\R.length=n*12/\a=.slice b 0 n none)(hn:n<=3)(y:pv=.slice (M.length+2) 0 s.P.length none)(H:tv=.slice (M.length+3) 0 s.T.length none)(eM:O (.fn 27) [.agg [.int .u8 s.kind,.int .i8 s.sx,.int .i8 s.sy,.bool s.half]] (M++[.cells true 0 [.int .u8 s.kind,.int .i8 s.sx,.int .i8 s.sy,.bool s.half,a],.cells true 0 [.y9,.y9,.str [],.y9]])=some ⟨.agg [pv,tv],none,[XP,XT]⟩)(S':∀X d,(ad X 16=a/\ad X 17=.int .i64 n/\ad X 3=.ptr (M.length+4) 0/\ad X 18=.int .i64 0)->aT (aU prog) (fun _=>[18,18,18]) O 20 35 M.length true (.loop w) ⟨X,M++[.cells true 0 [.int .u8 s.kind,.int .i8 s.sx,.int .i8 s.sy,.bool s.half,a],.cells true 0 [.y9,.y9,.str [],.y9],XP,XT,.cells true 0 [pv,tv,.str bC,.y9]],d⟩=some (.exit 0,⟨(F X d).1,(F X d).2.1,d⟩))(I:∀X d,(ad X 16=a/\ad X 17=.int .i64 n/\ad X 3=.ptr (M.length+4) 0/\ad X 18=.int .i64 0)->(F X d).2.1[M.length+4]? =some (.cells true 0 [pv,tv,.str bC,(F X d).2.2.1]))(Q:∀X d,(ad X 16=a/\ad X 17=.int .i64 n/\ad X 3=.ptr (M.length+4) 0/\ad X 18=.int .i64 0)->(F X d).2.1[M.length+1]? =some (.cells true 0 [.y9,.y9,.str [],.y9]))(hF4:∀X d,(ad X 16=a/\ad X 17=.int .i64 n/\ad X 3=.ptr (M.length+4) 0/\ad X 18=.int .i64 0)->(F X d).2.2.1.af2=true)(hF5:∀X d,(ad X 16=a/\ad X 17=.int .i64 n/\ad X 3=.ptr (M.length+4) 0/\ad X 18=.int .i64 0)->ad (F X d).1 2=ad X 2)(hF6:∀X d,(ad X 16=a/\ad X 17=.int .i64 n/\ad X 3=.ptr (M.length+4) 0/\ad X 18=.int .i64 0)->ad (F X d).1 3=.ptr (M.length+4) 0)(hF7:∀X d,(ad X 16=a/\ad X 17=.int .i64 n/\ad X 3=.ptr (M.length+4) 0/\ad X 18=.int .i64 0)->M.length+1<(F X d).2.1.length):
  ∃X d,(ad X 16=a/\ad X 17=.int .i64 n/\ad X 3=.ptr (M.length+4) 0/\ad X 18=.int .i64 0)/\bO (aU prog) (fun _=>[18,18,18]) (aS prog) O 20 9 [.agg [.int .u8 s.kind,.int .i8 s.sx,.int .i8 s.sy,.bool s.half,a]] M=some (.agg [pv,tv,.str bC,(F X d).2.2.1],(F X d).2.1.set (M.length+1) (.cells true 0 [pv,tv,.str bC,(F X d).2.2.1])):=by
 have K:aS prog 9=some f9:=by kernel_rfl
 simp[ag,aH,f9] at hw;subst hw;have W:∀j,(M.length+j<M.length)=False:=fun j=>gN _ _
 have V:∀X d,(ad X 16=a/\ad X 17=.int .i64 n/\ad X 3=.ptr (M.length+4) 0/\ad X 18=.int .i64 0)->∀s,((F X d).2.1.set (M.length+1) s)[M.length+1]? =some s:=fun X d h s=>X1 (hF7 X d h)
 have J:pv.af2=true:=by rw[y];rfl
 have G:tv.af2=true:=by rw[H];rfl
 have z:pv.known=true:=by rw[y];rfl
 have u:tv.known=true:=by rw[H];rfl
 have m:[110,97,109,101]=[110,97,109,101]:=rfl;have h3:¬(3:Int)<(n:Int):=by omega
 have h:∃r,bO (aU prog) (fun _=>[18,18,18]) (aS prog) O 20 9 [.agg [.int .u8 s.kind,.int .i8 s.sx,.int .i8 s.sy,.bool s.half,a]] M=some r/\∃X d,(ad X 16=a/\ad X 17=.int .i64 n/\ad X 3=.ptr (M.length+4) 0/\ad X 18=.int .i64 0)/\r=(.agg [pv,tv,.str bC,(F X d).2.2.1],(F X d).2.1.set (M.length+1) (.cells true 0 [pv,tv,.str bC,(F X d).2.2.1])):=by
  clear y H;simp only[bC] at S' I;rcases hl with⟨rfl,rfl⟩ | ⟨o,D,hR,rfl⟩
  .simp[-Bool.exists_bool,-getElem?_pos,-AV.af2,-AV.known,-AV.cells,-cG,-List.all_eq_true,vS,mS,bZ,aF,bO,K,f9,bC,eM,J,G,W,S',I,Q,hF4,hF5,hF6,V]
   refine⟨_,⟨?_,?_,?_,?_⟩,_,rfl,rfl⟩<;>rfl
  .have lb:=gL D
   have C :∀Z,(M++Z)[b]? =some (.cells o 12 R):=fun Z=>gU D _
   have S:n*12<=R.length:=by omega
   simp[-Bool.exists_bool,-getElem?_pos,-AV.af2,-AV.known,-AV.cells,-cG,-List.all_eq_true,vS,mS,bZ,aF,bO,K,f9,bC,eM,J,G,W,C,S,h3,S',I,Q,hF4,hF5,hF6,V];refine⟨_,⟨?_,?_,?_,?_⟩,_,rfl,rfl⟩<;>rfl
 obtain⟨r,B,X,d,A,rfl⟩:=h;exact⟨X,d,A,B⟩
theorem agf.ahC{e:agf}(h:d.cells=e.cells):d=e:=by obtain⟨a,⟨C,B,A⟩,⟨z,u,m⟩,c,j,R,Q,I⟩:=d;obtain⟨H,⟨Z,X,W⟩,⟨V,S,K⟩,y,J,G,F,D⟩:=e;simp only[agf.cells,List.cons.injEq,AV.int.injEq,true_and,and_true,Int.ofNat_inj] at h;obtain⟨rfl,rfl,rfl,rfl,rfl,rfl,rfl,rfl,rfl,rfl,rfl,rfl⟩:=h;rfl
theorem RO(s:af8)(hs:s.Ok)(ds:List agf)(hd:∀d∈ds,d.Ok)(p t:Nat):∃O:af3,adM prog O/\(∀N,O (.fn 27) [.agg [.int .u8 s.kind,.int .i8 s.sx,.int .i8 s.sy,.bool s.half]] N=some ⟨shB s N.length (N.length+1),none,[.cells true 2 (pC s.P),.cells true 3 (tC s.T)]⟩)/\
  ∀(N:Mem) (k:Nat) o J,N[p]? =some (.cells o 2 (pC s.P))->N[t]? =some (.cells J 3 (tC s.T))->k<6->∀d∈ds,∃Z X W V S K,O (.fn 28) [shB s p t,.agg d.cells,.int .i64 k] N=some ⟨.agg Z,none,[X,W,V,S,K]⟩/\ag9 s (bU d k) N Z X W V S K:=by
 classical
 let Q:agf×Nat×Mem->afA->Prop:=fun i r=>∃Z X W V S K,r=⟨.agg Z,none,[X,W,V,S,K]⟩/\kO prog 28 [shB s p t,.agg i.1.cells,.int .i64 i.2.1] i.2.2 (.agg Z) (i.2.2++[X,W,V,S,K])/\ag9 s (bU i.1 i.2.1) i.2.2 Z X W V S K
 let q:agf×Nat×Mem->Prop:=fun i=>i.1∈ds/\i.2.1<6/\∃o J,i.2.2[p]? =some (.cells o 2 (pC s.P))/\i.2.2[t]? =some (.cells J 3 (tC s.T))
 have hQ:∀i,q i->∃r,Q i r:=fun i ⟨D,G,o,J,h3,h4⟩=>by obtain⟨Z,X,W,V,S,K,u,m⟩:=N5 s i.1 (hd _ D) i.2.1 G i.2.2 p t o J h3 h4;exact⟨_,Z,X,W,V,S,K,rfl,u,m⟩
 obtain⟨R,A⟩:∃R:agf×Nat×Mem->afA,∀i,q i->Q i (R i):=
  ⟨fun i=>if h:∃r,Q i r then Classical.choose h else⟨.undef,none,[]⟩,fun i F=>by have h:=hQ i F;simp only[dif_pos h];exact Classical.choose_spec h⟩
 obtain⟨O,I,z⟩:=gd (P:=prog) (ι:=(agf×Nat×Mem) ⊕ Mem) (Sum.elim q fun _=>True) (Sum.elim (fun _=>.fn 28) fun _=>.fn 27)
  (Sum.elim (fun i=>[shB s p t,.agg i.1.cells,.int .i64 i.2.1]) fun _=>[.agg [.int .u8 s.kind,.int .i8 s.sx,.int .i8 s.sy,.bool s.half]]) (Sum.elim (fun i=>i.2.2) id) (Sum.elim R fun N=>⟨shB s N.length (N.length+1),none,[.cells true 2 (pC s.P),.cells true 3 (tC s.T)]⟩)
  (by
   rintro (i | N) F
   .obtain⟨Z,X,W,V,S,K,C,H,_⟩:=A i F
    simp only[Sum.elim_inl];rw[C];exact aC H
   .exact aC (NG s hs N))
  (by
   rintro (i | N) (j | N') F hj D G h3
   .simp only[Sum.elim_inl,List.cons.injEq,AV.agg.injEq,AV.int.injEq,true_and,and_true,Int.ofNat_inj] at G h3 |-
    rw[show i=j from Prod.ext (agf.ahC G.1) (Prod.ext G.2 h3)]
   .simp at D
   .simp at D
   .simp only[Sum.elim_inr,id] at h3 |-
    rw[h3])
 refine⟨O,I,fun N=>z (.inr N) trivial,fun N k o J D G h3 d B=>?_⟩;have F:q (d,k,N):=⟨B,h3,o,J,D,G⟩;obtain⟨Z,X,W,V,S,K,C,_,y⟩:=A _ F;have:=z (.inl (d,k,N)) F;simp only[Sum.elim_inl] at this;rw[C] at this;exact⟨Z,X,W,V,S,K,this,y⟩
theorem NK(s:af8)(hs:s.Ok)(ds:List agf)(hd:∀d∈ds,d.Ok)(H:ds.length<=3)(M:Mem)(a:AV)(hx:(ds=[]/\a=.y9)\/∃b o,M[b]? =some (.cells o 12 (gD ds))/\a=.slice b 0 ds.length none):
  ∃q evs cs V,kO prog 9 [lP s a] M (.agg (bS s (M.length+2) (M.length+3) q cs.length)) (M++V)/\agX s (M.length+2) (M.length+3) q evs cs (M++V)/\OkN (M.length+V.length) V/\(bC::(cs.map unE).flatten).Nodup/\cs.length=ds.length:=by
 obtain⟨O,hOk,eM,hO⟩:=RO s hs ds hd (M.length+2) (M.length+3);have lp:=(jr s).1;have lt:=YJ s;obtain⟨bx,u⟩:=xE (α:=af6) (.cells true 0 [.int .u8 s.kind,.int .i8 s.sx,.int .i8 s.sy,.bool s.half,a]);obtain⟨pv,S⟩:=xE (AV.slice (M.length+2) 0 s.P.length none);obtain⟨tv,K⟩:=xE (AV.slice (M.length+3) 0 s.T.length none);obtain⟨N0,X⟩:=xE (M++[bx,.cells true 0 [.y9,.y9,.str [],.y9],.cells true 2 (pC s.P),.cells true 3 (tC s.T),.cells true 0 [pv,tv,.str bC,.y9]]);have hl0:N0.length=M.length+5:=by rw[X];simp
 have R:N0[M.length+4]? =some (.cells true 0 [pv,tv,.str bC,.y9]):=by rw[X,iG];rfl
 have hz:N0[M.length+1]? =some (.cells true 0 [.y9,.y9,.str [],.y9]):=by rw[X,iG];rfl
 have hp:N0[M.length+2]? =some (.cells true 2 (pC s.P)):=by rw[X,iG];rfl
 have ht:N0[M.length+3]? =some (.cells true 3 (tC s.T)):=by rw[X,iG];rfl
 obtain⟨w,hw⟩:∃w,ag f9=[w]:=⟨_,rfl⟩
 obtain⟨b,hl,hl2,car,rar⟩:∃b,((ds=[]/\a=.y9)\/∃o,M[b]? =some (.cells o 12 (gD ds))/\a=.slice b 0 ds.length none)/\((ds.length=0/\a=.y9)\/∃o,M[b]? =some (.cells o 12 (gD ds))/\(gD ds).length=ds.length*12/\a=.slice b 0 ds.length none)/\a.af2=true/\a.afF (fun b=>decide (b<M.length))=true:=by
  rcases hx with⟨rfl,rfl⟩ | ⟨b,o,Q,rfl⟩
  .exact⟨0,.inl ⟨rfl,rfl⟩,.inl ⟨rfl,rfl⟩,rfl,rfl⟩
  .exact⟨b,.inr ⟨o,Q,rfl⟩,.inr ⟨o,Q,FP ds,rfl⟩,rfl,by simp only[AV.afF,L0];exact(gL Q)⟩
 have abQ :=R;rw[S,K] at abQ;obtain⟨F,A⟩:=LJ hd H X hl hp ht (by omega) abQ hO hw;have hE:∀{N i E cs evs},CpI N0 (M.length+4) (.slice (M.length+2) 0 s.P.length none) (.slice (M.length+3) 0 s.T.length none) cs N i E evs->E.af2=true:=fun I=>by rcases I.row with⟨_,rfl⟩ | ⟨_,rfl,_⟩<;>rfl
 have eM' :=eM (M++[bx,.cells true 0 [.y9,.y9,.str [],.y9]]);rw[show(M++[bx,af6.cells true 0 [.y9,.y9,.str [],.y9]]).length=M.length+2 by simp] at eM';obtain⟨W,d,aaD,hr⟩:=OD (F:=F) (M:=M) (s:=s) (a:=a) (pv:=pv) (tv:=tv) hw hl2 H S K (by rw[<-u,S,K];exact eM') (by rw[<-u,<-X];exact fun W d h=>(A W d h).1) (fun W d h=>by rw[S,K];exact(A W d h).2.1.1.cell) (fun W d h=>by rw[(A W d h).2.1.1.same _ (by omega) (by omega)];exact hz)
  (fun W d h=>hE (A W d h).2.1.1) (fun W d h=>(A W d h).2.2.1) (fun W d h=>(A W d h).2.2.2) (fun W d h=>by have:=(A W d h).2.1.1.len;omega)
 obtain⟨I,G,Z⟩:=(A W d aaD).2.1;have D:=bl ae (al _) hOk (ao _) hr;obtain⟨E,hEe⟩:=xE ((F W d).2.2.1);obtain⟨cs,hcs⟩:=xE ((F W d).2.2.2.1);obtain⟨evs,adA⟩:=xE ((F W d).2.2.2.2);obtain⟨N,hN⟩:=xE ((F W d).2.1);rw[<-hEe,<-hN] at D;rw[<-hEe,<-adA,<-hcs,<-hN,<-S,<-K] at I;rw[<-hcs] at G Z;obtain⟨z,J⟩:=xE (N.set (M.length+1) (.cells true 0 [pv,tv,.str bC,E]));rw[<-J] at D;have hNz:N[M.length+1]? =some (.cells true 0 [.y9,.y9,.str [],.y9]):=by rw[I.same _ (by omega) (by omega)];exact hz
 have hk:agA N z :=by rw[J];exact agA.set hNz (.inl rfl) _
 have adQ :∃V,z =M++V:=by
  refine⟨z.drop M.length,?_⟩;refine List.ext_getElem? fun i=>?_
  by_cases m:i<M.length
  .rw[Hi m,J,X4 (by omega),I.same i (by omega) (by omega),X,Hi m]
  .rw[Pi (by omega),QQc]
   congr 1;omega
 obtain⟨V,B⟩:=adQ;have hv:AV.agg [pv,tv,.str bC,E]=.agg (bS s (M.length+2) (M.length+3) (qOf E) cs.length):=by
  rw[S,K,G];rcases I.row with⟨h0,rfl⟩ | ⟨kr,rfl,h0,_⟩
  .unfold bS evV;rw[if_pos h0]
  .unfold bS evV;rw[if_neg (by omega)];rfl
 rw[hv,B] at D;have afG:z.length=N.length:=by rw[J,X3]
 have hge:M.length+5<=N.length:=by have:=I.len;omega
 have I':∀(k:Nat) x,M.length<=k->z[k]? =some x->lH x=true/\x.afF (fun b=>decide (b<z.length))=true:=by
  intro k x hk hx;rw[afG];have hE' :E.afF (fun b=>decide (b<N.length))=true:=by
   rcases I.row with⟨_,rfl⟩ | ⟨kr,rfl,_,_,hr⟩
   .rfl
   .simp only[AV.afF,L0];exact(gL hr)
  have pvr:pv.afF (fun b=>decide (b<N.length))=true:=by rw[S];simp only[AV.afF,L0];omega
  have tvr:tv.afF (fun b=>decide (b<N.length))=true:=by rw[K];simp only[AV.afF,L0];omega
  have fin:∀y,y=af6.cells true 0 [pv,tv,.str bC,E]->lH y=true/\y.afF (fun b=>decide (b<N.length))=true:=by rintro y rfl;exact⟨rfl,by simp only[tH,AV.af7,SW,pvr,tvr,hE',Bool.and_self]⟩
  by_cases k1:k=M.length+1
  .subst k1
   rw[J,X1 (by omega)] at hx;exact fin x (QQb hx).symm
  rw[J,X4 (by omega)] at hx;by_cases k2:k=M.length+4
  .subst k2
   rw[I.cell] at hx;exact fin x (QQb hx).symm
  by_cases k0:k<N0.length
  .rw[I.same k k0 k2,X] at hx
   obtain⟨j,rfl⟩:∃j,k=M.length+j:=⟨k-M.length,by omega⟩
   rw[iG] at hx
   match j,hx with
   |0,hx=>
    cases hx;have r1:a.afF (fun b=>decide (b<N.length))=true:=AV.agc (fun b hb=>by simp only[L0] at hb |-;omega) a rar;rw[u];exact⟨rfl,by simp only[tH,AV.af7,AV.afF,r1,Bool.and_self]⟩
   |1,_=>omega
   |2,hx=>cases hx;exact⟨rfl,SS _ _⟩
   |3,hx=>cases hx;exact⟨rfl,D6 _ _⟩
   |4,_=>omega
   |j+5,hx=>simp at hx
  .exact I.ok k x (by omega) hx
 have hnd:(bC::(cs.map unE).flatten).Nodup:=by
  match cs,ds,G,Z,H with
  | [],[],_,_,_=>simp
  | [c0],[d0],_,Z,_=>
   obtain⟨_,e0,f0,g0⟩:=Z 0 c0 rfl;cases f0;simpa [g0] using No d0
  | [c0,c1],[d0,d1],_,Z,_=>
   obtain⟨_,e0,f0,g0⟩:=Z 0 c0 rfl;obtain⟨_,e1,f1,g1⟩:=Z 1 c1 rfl;cases f0;cases f1;simpa [g0,g1] using Np d0 d1
  | [c0,c1,c2],[d0,d1,d2],_,Z,_=>
   obtain⟨_,e0,f0,g0⟩:=Z 0 c0 rfl;obtain⟨_,e1,f1,g1⟩:=Z 1 c1 rfl;obtain⟨_,e2,f2,g2⟩:=Z 2 c2 rfl;cases f0;cases f1;cases f2;simpa [g0,g1,g2] using Nq d0 d1 d2
  |_,_::_::_::_::_,_,_,h=>simp at h
  |_::_::_::_::_,[_,_,_],h,_,_=>simp at h
 refine⟨_,evs,cs,V,D,?_,.of fun x hx=>?_,hnd,G⟩
 rotate_left
 .obtain⟨i,m⟩:=QQg hx
  have:=I' (M.length+i) x (by omega) (by rw[B,iG];exact m)
  rwa [B,Nm] at this
 rw[<-B];have aiw:∀(k es:Nat) (C:List AV),es=1\/es=2\/es=3->k<N0.length->N0[k]? =some (.cells true es C)->z[k]? =some (.cells true es C):=fun k es C he hk1 h=>hk k true es C he (by rw[I.same k hk1 (by rintro rfl;rw[R] at h;cases h;omega)];exact h)
 refine⟨⟨true,aiw _ _ _ (.inr (.inl rfl)) (by omega) hp⟩,⟨true,aiw _ _ _ (.inr (.inr rfl)) (by omega) ht⟩,fun IR=>?_,by rw[I.evl,G],by omega,fun c hc=>?_,fun i ev c Q h2=>(I.con i ev c Q h2).upd hk⟩
 .rcases I.row with⟨h0,rfl⟩ | ⟨kr,rfl,h0,hge,hr⟩
  .exact absurd (M0 (by rw[I.evl];exact h0)) IR
  .exact⟨true,show z[kr]? =some (.cells true 32 evs.flatten) by rw[J,X4 (by omega)];exact hr⟩
 .obtain⟨i,m⟩:=QQg hc
  exact(Z i c m).1
end Go.Proofs
