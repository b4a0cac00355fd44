/- See F54. -/
import Derived.Test.YtgafjliihahjgaaGreatDoorF34
set_option linter.all false
set_option maxRecDepth 100000
set_option maxHeartbeats 40000000
namespace Go.Proofs
open Go.Eng
open Tryz
structure Tryz.af4 (s:aeX)(U:List (List UInt8))(N:Mem)(ev:List AV)(x1 x2 x3 x4 x5:aeY):Prop where
 c:∃c:Evc,afN s c∧unE c=U∧∀M',afk N.length [x1,x2,x3,x4,x5] M' →afv M' ev c
 l:ev.length=32
 ck:ev.all AV.aeS=true
 r:ahb (N.length+5) ev
 o:OkN (N.length+5) [x1,x2,x3,x4,x5]
theorem Nw(s:aeX)(d:ae6)(A:d.Ok)(i:Nat)(G:i<6)(M:Mem)(p t:Nat)(o o' :Bool)(H:M[p]? =some (.cells o 2 (pC s.P)))(I:M[t]? =some (.cells o' 3 (tC s.T))):
  ∃Z X W V S O,kO prog 28 [shB s p t,.agg d.cells,.int .i64 i] M (.agg Z) (M++[X,W,V,S,O])∧af4 s (bS d i) M Z X W V S O:=by
 obtain⟨Z,X,W,V,S,O,J,⟨_,F⟩,_,⟨h3,_⟩,D,C,⟨B,z,u,m,j⟩,Y⟩:=Nv s d A i G M p t o o' H I;obtain⟨R,b2,b3,b4,b5⟩:=Y (M.length+5) (Nat.le_refl _);refine⟨Z,X,W,V,S,O,J,F,h3,List.all_eq_true.2 D,.of (C _ (Nat.le_refl _)),.of fun x K=>?_⟩;simp only[lM] at K;rcases K with rfl | rfl | rfl | rfl | rfl
 ·exact⟨B,R⟩
 ·exact⟨z,b2⟩
 ·exact⟨u,b3⟩
 ·exact⟨m,b4⟩
 ·exact⟨j,b5⟩
variable{E pv tv:AV}{N N0:Mem}{cs:List Evc}{evs:List (List AV)}{i kc:Nat}
theorem CpI.ext(H:CpI N0 kc pv tv cs N i E evs)(A:cs.length=i)(c:Evc):CpI N0 kc pv tv (cs++[c]) N i E evs:=
 ⟨H.len,H.same,H.cell,H.evl,H.row,fun k e W Z X=>by have:=gL Z;rw[H.evl] at this;rw[List.getElem?_append_left (by omega)] at X;exact H.con k e W Z X,H.afI,H.ok⟩
theorem kS(e:ae6)(l:List ae6):fU (e::l)=e.cells++fU l:=rfl
theorem PF{α:Type}{a b:Prop}{p q:α→Prop}(A:a)(G:b)(h:∃s,p s∧q s):∃s,a∧b∧p s∧q s:=by obtain⟨s,Z,X⟩:=h;exact⟨s,A,G,Z,X⟩
theorem LF:∀{ds:List ae6} {i:Nat} {d:ae6},ds[i]? =some d→((fU ds).drop (i*12)).take 12=d.cells∧i*12+12≤(fU ds).length
 | [],i,d,h=>by simp at h
 |e::l,0,d,h=>by simp at h;subst h;have Z:e.cells.length=12:=rfl;exact⟨by rw[kS,Nat.zero_mul,List.drop_zero,List.take_append_of_le_length (by omega),List.take_of_length_le (by omega)],by rw[kS,List.length_append];omega⟩
 |e::l,i+1,d,h=>by have Z:e.cells.length=12:=rfl;obtain⟨a,b⟩:=LF (ds:=l) (i:=i) (d:=d) (by simpa using h);refine⟨?_,by rw[kS,List.length_append];omega⟩;rw[kS,List.drop_append,List.drop_of_length_le (by omega),List.nil_append,Z,show(i+1)*12-12=i*12 by omega];exact a
theorem Ei:∀Z:List ae6,(fU Z).length=Z.length*12
 | []=>rfl
 |e::l=>by have X:e.cells.length=12:=rfl;rw[kS,List.length_append,Ei l,X,List.length_cons];omega
variable{M Y:Mem}{O:aeT}{b p t:Nat}{d:ae6}{ds:List ae6}{o1 o2:Bool}{s:aeX}{w:Code}
theorem KS(hd:∀d∈ds,d.Ok)(h3l:ds.length≤3){K m1:Nat}{o:Bool}(hN0:N0=M++Y)(G:M[b]? =some (.cells o 12 (fU ds)))(hp:N0[p]? =some (.cells o1 2 (pC s.P)))(ht:N0[t]? =some (.cells o2 3 (tC s.T)))(hkM:M.length≤kc)(hk0:kc<N0.length)(hl:cs.length=i)(I:CpI N0 kc (.slice p 0 s.P.length none) (.slice t 0 s.T.length none) cs N i E evs)(H:ds[i]? =some d)(hO:∀(N:Mem)(k:Nat) o o',N[p]? =some (.cells o 2 (pC s.P))→N[t]? =some (.cells o' 3 (tC s.T))→k<6→∀d∈ds,∃F x1 x2 x3 x4 x5,O (.fn 28) [shB s p t,.agg d.cells,.int .i64 k] N=some ⟨.agg F,none,[x1,x2,x3,x4,x5]⟩∧af4 s (bS d k) N F x1 x2 x3 x4 x5)(hw:ai f9=[w]){A:Env}{dd:Bool}(h16:ad A 16=.slice b 0 ds.length none)(h17:ad A 17=.int .i64 ds.length)(h3:ad A 3=.ptr kc 0):
  ∃N' E' F c B,afN s c∧unE c=bS d i∧aM (aN prog) (fun _=>[18,18,18]) O K 35 M.length true w ⟨aD [18,18,18] (ab w) A ((18,.int .i64 (i:Int))::A),N,dd⟩=some (.normal,B)∧ic [18,18,18] (ab w) A m1 B =⟨aD [18,18,18] (ab w) A ((18,.int .i64 ((i+1:Nat):Int))::A),N',dd⟩∧
   CpI N0 kc (.slice p 0 s.P.length none) (.slice t 0 s.T.length none) (cs++[c]) N' (i+1) E' (evs++[F]):=by
 have FS:=gL H;have hll:=I.len;have lb:=gL G;have lp:=gL hp;have lt:=gL ht;have hl0:M.length≤N0.length:=by rw[hN0,List.length_append];omega
 have z:kc<N.length:=by omega
 have u:N[b]? =some (.cells o 12 (fU ds)):=by rw[I.same b (by omega) (by omega),hN0,List.getElem?_append_left lb];exact G
 have hpk:p≠kc:=by rintro rfl;have:=I.cell;rw[I.afI p o1 2 _ (.inr (.inl rfl)) hp] at this;cases this
 have htk:t≠kc:=by rintro rfl;have:=I.cell;rw[I.afI t o2 3 _ (.inr (.inr rfl)) ht] at this;cases this
 have hpN:N[p]? =some (.cells o1 2 (pC s.P)):=by rw[I.same p lp hpk];exact hp
 have htN:N[t]? =some (.cells o2 3 (tC s.T)):=by rw[I.same t lt htk];exact ht
 have lpN:=gL hpN;have ltN:=gL htN;obtain⟨r1,r2⟩:=LF H;obtain⟨F,x1,x2,x3,x4,x5,eD,DF⟩:=hO (N++[.cells true 0 d.cells]) i o1 o2 (gU hpN _) (gU htN _) (by omega) d (List.mem_of_getElem? H);obtain⟨c,gc,uc,hc⟩:=DF.c;have lev:=DF.l;have lN1:(N++[aeY.cells true 0 d.cells]).length=N.length+1:=by simp
 have D:=DF.r;have oX:=DF.o;rw[lN1] at D oX hc;have acK:∀x∈evs,x.length=32:=fun x hx=>by obtain⟨k,X⟩:=List.getElem?_of_mem hx;have h1:=gL X;rw[I.evl] at h1;exact(I.con k x _ X (List.getElem?_eq_getElem (by omega))).l32
 have hfl:evs.flatten.length=i*32:=by rw[Uj acK,I.evl]
 have hER:∀m,AV.aeW (fun b=>decide (b<N.length+m)) evs.flatten=true:=fun m=>yO fun x hx=>by obtain⟨k,X⟩:=List.getElem?_of_mem hx;have h1:=gL X;rw[I.evl] at h1;exact(I.con k x _ X (List.getElem?_eq_getElem (by omega))).refs m
 have h:∃W B,W.length=N.length∧((i=0∧W=N)∨∃V,E=.slice V 0 i none∧0<i∧W=N.set V .aeP)∧aM (aN prog) (fun _=>[18,18,18]) O K 35 M.length true w ⟨aD [18,18,18] (ab w) A ((18,.int .i64 (i:Int))::A),N,dd⟩=some (.normal,B)∧
   ic [18,18,18] (ab w) A m1 B =⟨aD [18,18,18] (ab w) A ((18,.int .i64 ((i+1:Nat):Int))::A),W.set kc (.cells true 0 [.slice p 0 s.P.length none,.slice t 0 s.T.length none,.str bk,.slice (N.length+7) 0 (i+1) none])++[.cells true 0 d.cells,x1,x2,x3,x4,x5,.cells true 32 F,.cells true 32 (evs.flatten++F)],dd⟩:=by
  obtain⟨os',Do⟩:∃os',aC f9=os' :=⟨_,rfl⟩
  have Z4 :=be Do (ls:=[[0,1,0,4,0,0,60,124,255,511,1023]]) (by kernel_rfl);simp only[aC,bn,f9,List.nil_append,List.append_nil] at Do;subst Do;simp only[lB] at Z4;have w1:IntKind.i64.wrap ((i:Int)+1)=((i+1:Nat):Int):=by rw[aq];omega
  have hjl:∀j,(N.length+j<M.length)=False:=fun j=>by rw[eq_iff_iff,iff_false];omega
  have aby:(N.length<M.length)=False:=by rw[eq_iff_iff,iff_false];omega
  have hkm:¬kc<M.length:=by omega
  have cev:=DF.ck;have gev:(∀y:AV,y∈F→y.aeS=true)=True:=eq_true (List.all_eq_true.1 cev);have t32:F.take 32=F:=List.take_of_length_le (by omega);obtain⟨dc,C⟩:=xE d.cells;have ldc:dc.length=12:=by rw[C];rfl
  have cdc:dc.all AV.aeS=true:=by rw[C];rfl
  have gdc:(∀y:AV,y∈dc→y.aeS=true)=True:=eq_true (List.all_eq_true.1 cdc);have t12:dc.take 12=dc:=List.take_of_length_le (by omega);have rdc:∀f,AV.aeW f dc=true:=fun f=>by rw[C];rfl
  rw[←C] at r1 eD;rw[←C];have adp:=D (fun b=>decide (b<N.length+6)) (by intro b G;simp only[decide_eq_true_eq];omega);have adq:=D (fun b=>decide (b<N.length+7)) (by intro b G;simp only[decide_eq_true_eq];omega);have adr:=D (fun b=>decide (b<N.length+8)) (by intro b G;simp only[decide_eq_true_eq];omega);have oX6:=oX (fun b=>decide (b<N.length+6)) (by intro b G;simp only[decide_eq_true_eq];omega);simp only[List.all_cons,List.all_nil,Bool.and_true,Bool.and_eq_true] at oX6;obtain⟨⟨a1,b1⟩,⟨a2,b2⟩,⟨a3,b3⟩,⟨a4,b4⟩,a5,b5⟩:=oX6;have p2:∀j,(p<N.length+j)=True:=fun j=>by rw[eq_iff_iff,iff_true];omega
  have t2:∀j,(t<N.length+j)=True:=fun j=>by rw[eq_iff_iff,iff_true];omega
  have k2:∀j,(kc<N.length+j)=True:=fun j=>by rw[eq_iff_iff,iff_true];omega
  have k5:∀j,(N.length+j≤kc)=False:=fun j=>by rw[eq_iff_iff,iff_false];omega
  have k3:∀j,(kc=N.length+j)=False:=fun j=>by rw[eq_iff_iff,iff_false];omega
  have k4:(kc=N.length)=False:=by rw[eq_iff_iff,iff_false];omega
  have k6:∀j,(N.length+j=kc)=False:=fun j=>by rw[eq_iff_iff,iff_false];omega
  have k7:(N.length=kc)=False:=by rw[eq_iff_iff,iff_false];omega
  have E_8:=hER 8;have bi:i*12+12≤(fU ds).length:=r2;obtain⟨R,hR⟩:=xE (fU ds);rw[←hR] at r1 bi u;obtain⟨Fl,hFl⟩:=xE evs.flatten;rw[←hFl] at hfl E_8 ⊢;obtain⟨n,hn⟩:=xE ds.length;rw[←hn] at h16 h17 FS;have aaf:=I.cell;have hc1:∀Z,(N++Z)[kc]? =some (.cells true 0 [.slice p 0 s.P.length none,.slice t 0 s.T.length none,.str bk,E]):=fun Z=>gU aaf _
  simp only[shB] at eD;simp[ai,aG,f9] at hw;have row:=I.row;rw[←hFl] at row;clear hO hc DF D oX hER I hp ht hpN htN G aaf;subst hw;rcases row with⟨rfl,rfl⟩ | ⟨V,rfl,h0,aeM,hkr⟩
  ·have:Fl=[]:=List.eq_nil_of_length_eq_zero (by omega)
   subst this;have hs1:∀Z s,(N++Z).set kc s=N.set kc s++Z:=fun Z s=>List.set_append_left _ _ z
   refine⟨N,?_⟩;have r1' :R.take 12=dc:=by simpa using r1
   have bi' :12≤R.length:=by simpa using bi
   rw[show((0:Nat):Int)=0 from rfl] at eD;have gS:∀x Z,(N.set kc x++Z)[kc]? =some x:=fun x Z=>by rw[List.getElem?_append_left (by rw[List.length_set];exact z),List.getElem?_set_self z]
   have dS:∀(x:aeY) (Z:Mem) (j:Nat),(N.set kc x++Z).drop (N.length+j)=Z.drop j:=fun x Z j=>by rw[List.drop_append,List.drop_of_length_le (by rw[List.length_set];omega),List.length_set,Nat.add_sub_cancel_left,List.nil_append]
   refine PF rfl (.inl ⟨rfl,rfl⟩) ?_;simp[-getElem?_pos,-AV.aeS,-AV.known,-AV.cells,-bL,-bl,-aW,-aB,-AV.aeR,-aeY.aeR,-List.all_eq_true,vS,rS,mS,oP,aF Z4,bX,bK,dH,cj,bR,gd,bef,Nat.testBit,h16,h17,h3,FS,u,r1',bi',ldc,cdc,t12,rdc,hc1,hs1,gS,dS,eD,lev,cev,t32,adp,adq,adr,a1,a2,a3,a4,a5,b1,b2,b3,b4,b5,p2,t2,k2,k3,k4,k5,hkm,aby];rfl
  ·have lkr:=gL hkr
   have aev :∀Z,(N++Z)[V]? =some (.cells true 32 Fl):=fun Z=>gU hkr _
   have tF:Fl.take (i*32)=Fl:=List.take_of_length_le (by omega);have lF:i*32≤Fl.length:=by omega
   have n1:(i+1)*504≤140737488355328:=by omega
   have n2:i+1≤140737488355328:=by omega
   obtain⟨W,S⟩:=xE (N.set V .aeP);have J:W.length=N.length:=by rw[S,List.length_set]
   have hs1:∀Z,(N++Z).set V .aeP=W++Z:=fun Z=>by rw[S];exact List.set_append_left _ _ lkr
   have hs2:∀Z s,(W++Z).set kc s=W.set kc s++Z:=fun Z s=>List.set_append_left _ _ (by omega)
   have hkk:V≠kc:=by omega
   have hc2:∀Z,(W++Z)[kc]? =some (.cells true 0 [.slice p 0 s.P.length none,.slice t 0 s.T.length none,.str bk,.slice V 0 i none]):=fun Z=>by
    rw[List.getElem?_append_left (by omega),S,List.getElem?_set_ne hkk];have:=hc1 []
    rwa [List.append_nil] at this
   have q2:∀j,(V<N.length+j)=True:=fun j=>by rw[eq_iff_iff,iff_true];omega
   have q3:∀j,(V=N.length+j)=False:=fun j=>by rw[eq_iff_iff,iff_false];omega
   have q4:(V=N.length)=False:=by rw[eq_iff_iff,iff_false];omega
   have q5:∀j,(N.length+j≤V)=False:=fun j=>by rw[eq_iff_iff,iff_false];omega
   have q6:(kc=V)=False:=by rw[eq_iff_iff,iff_false];omega
   have q7:¬V<M.length:=by omega
   have m2:∀j Z,(W++Z)[N.length+j]? =Z[j]? :=fun j Z=>by rw[←J];exact fV _ _ _
   refine⟨W,?_⟩;have gS:∀x Z,(W.set kc x++Z)[kc]? =some x:=fun x Z=>by rw[List.getElem?_append_left (by rw[List.length_set];omega),List.getElem?_set_self (by omega)]
   have dS:∀(x:aeY) (Z:Mem) (j:Nat),(W.set kc x++Z).drop (N.length+j)=Z.drop j:=fun x Z j=>by rw[List.drop_append,List.drop_of_length_le (by rw[List.length_set];omega),List.length_set,J,Nat.add_sub_cancel_left,List.nil_append]
   have gK:∀Z,(W++Z)[V]? =some .aeP:=fun Z=>by rw[List.getElem?_append_left (by omega),S,List.getElem?_set_self (by omega)]
   have dN:∀(Z:Mem) (j:Nat),(W++Z).drop (N.length+j)=Z.drop j:=fun Z j=>by rw[List.drop_append,List.drop_of_length_le (by omega),J,Nat.add_sub_cancel_left,List.nil_append]
   refine PF J (.inr ⟨V,rfl,h0,S⟩) ?_;simp[-getElem?_pos,-AV.aeS,-AV.known,-AV.cells,-bL,-bl,-aW,-aB,-AV.aeR,-aeY.aeR,-List.all_eq_true,vS,rS,mS,oP,aF Z4,bX,bK,dH,cj,bR,gd,bef,Nat.testBit,h16,h17,h3,FS,u,r1,bi,ldc,cdc,t12,rdc,hc1,hc2,hs1,hs2,aev,tF,lF,n1,n2,J,gS,dS,gK,dN,eD,lev,cev,t32,adp,adq,adr,E_8,a1,a2,a3,a4,a5,b1,b2,b3,b4,b5,p2,t2,k2,k3,k4,k5,q2,q3,q4,q6,q7,hkm,aby,w1]
 obtain⟨W,B,J,S,g1,g2⟩:=h;refine⟨_,.slice (N.length+7) 0 (i+1) none,F,c,B,gc,uc,g1,g2,?_⟩;have hat:∀(x:aeY) (Z:Mem) (k:Nat),(W.set kc x++Z)[N.length+k]? =Z[k]? :=fun x Z k=>by rw[List.getElem?_append_right (by rw[List.length_set,J];omega),List.length_set,J,Nat.add_sub_cancel_left]
 refine(I.ext hl c).step (Z:=[.cells true 0 d.cells,x1,x2,x3,x4,x5,.cells true 32 F,.cells true 32 (evs.flatten++F)]) hk0 (by rw[←hl,List.getElem?_append_right (Nat.le_refl _),Nat.sub_self];rfl) _ (N.length+7) ⟨fun h0=>?_,fun V hE=>?_⟩ ⟨by omega,by rw[hat];rfl⟩ (hc _ fun k x X=>?_) ?_
 ·rcases S with⟨_,rfl⟩ | ⟨V,_,h1,_⟩
  ·rfl
  ·omega
 ·rcases S with⟨h1,rfl⟩ | ⟨kr',h,_,rfl⟩
  ·rcases I.row with⟨_,h⟩ | ⟨_,_,h,_⟩
   ·rw[h] at hE;cases hE
   ·omega
  ·rw[h] at hE;cases hE;rfl
 ·rw[Nat.add_assoc,hat]
  match k,X with
  |0,X=>exact X
  |1,X=>exact X
  |2,X=>exact X
  |3,X=>exact X
  |4,X=>exact X
  |k+5,X=>simp at X
 ·have e8:=oX (fun b=>decide (b<N.length+8)) (by intro b G;simp only[decide_eq_true_eq];omega)
  have r8:=D (fun b=>decide (b<N.length+8)) (by intro b G;simp only[decide_eq_true_eq];omega);have f8:=hER 8;have d8:AV.aeW (fun b=>decide (b<N.length+8)) d.cells=true:=rfl;simp only[List.all_cons,List.all_nil,Bool.and_true,Bool.and_eq_true] at e8;obtain⟨⟨a1,b1⟩,⟨a2,b2⟩,⟨a3,b3⟩,⟨a4,b4⟩,a5,b5⟩:=e8;show List.all _ (fun x=>iO x&&x.aeR (fun b=>decide (b<N.length+8)))=true
  simp only[List.all_cons,List.all_nil,Mi,rO,gm,d8,a1,a2,a3,a4,a5,b1,b2,b3,b4,b5,r8,f8,Bool.and_self]
def zZ(s:aeX)(ds:List ae6)(N0:Mem)(kc:Nat)(pv tv:AV)(N:Mem)(i:Nat)(E:AV)(cs:List Evc)(evs:List (List AV)):Prop:=
 CpI N0 kc pv tv cs N i E evs∧cs.length=i∧∀(j:Nat) c,cs[j]? =some c→afN s c∧∃d,ds[j]? =some d∧unE c=bS d j
theorem KR(hd:∀d∈ds,d.Ok)(G:ds.length≤3){l:AV}(H:N0=M++Y)(hl:(ds=[]∧l=.y9)∨∃o,M[b]? =some (.cells o 12 (fU ds))∧l=.slice b 0 ds.length none)(hp:N0[p]? =some (.cells o1 2 (pC s.P)))(ht:N0[t]? =some (.cells o2 3 (tC s.T)))(R:M.length≤kc)(A:N0[kc]? =some (.cells true 0 [.slice p 0 s.P.length none,.slice t 0 s.T.length none,.str bk,.y9]))(hO:∀(N:Mem)(k:Nat) o o',N[p]? =some (.cells o 2 (pC s.P))→N[t]? =some (.cells o' 3 (tC s.T))→k<6→∀d∈ds,∃S x1 x2 x3 x4 x5,O (.fn 28) [shB s p t,.agg d.cells,.int .i64 k] N=some ⟨.agg S,none,[x1,x2,x3,x4,x5]⟩∧af4 s (bS d k) N S x1 x2 x3 x4 x5)(hw:ai f9=[w]):
  ∃F:Env→Bool→Env×Mem×(AV×List Evc×List (List AV)),∀Z d,(ad Z 16=l∧ad Z 17=.int .i64 ds.length∧ad Z 3=.ptr kc 0∧ad Z 18=.int .i64 0)→
   aM (aN prog) (fun _=>[18,18,18]) O 20 35 M.length true (.loop w) ⟨Z,N0,d⟩=some (.exit 0,⟨(F Z d).1,(F Z d).2.1,d⟩)∧(zZ s ds N0 kc (.slice p 0 s.P.length none) (.slice t 0 s.T.length none) (F Z d).2.1 ds.length (F Z d).2.2.1 (F Z d).2.2.2.1 (F Z d).2.2.2.2∧ad (F Z d).1 2=ad Z 2∧ad (F Z d).1 3=.ptr kc 0):=by
 have J:=gL A;refine kV (L:=[18,18,18]) rfl (fun Z=>ad Z 16=l∧ad Z 17=.int .i64 ds.length∧ad Z 3=.ptr kc 0∧ad Z 18=.int .i64 0) (fun Z X V (x:AV×List Evc×List (List AV))=>zZ s ds N0 kc (.slice p 0 s.P.length none) (.slice t 0 s.T.length none) V ds.length x.1 x.2.1 x.2.2∧ad X 2=ad Z 2∧ad X 3=.ptr kc 0) ?_;rintro Z d ⟨h16,h17,h3,h18⟩;have hn:aD [18,18,18] (ab w) Z ((18,.int .i64 ((0:Nat):Int))::Z)=aD [18,18,18] (ab w) Z Z:=by simp[aD,h18]
 rw[←hn];refine kG (α:=Nat×Mem×AV×List Evc×List (List AV)) (fun a=>⟨aD [18,18,18] (ab w) Z ((18,.int .i64 (a.1:Int))::Z),a.2.1,d⟩) (fun a=>ds.length-a.1)
  (fun a=>a.1≤ds.length∧zZ s ds N0 kc (.slice p 0 s.P.length none) (.slice t 0 s.T.length none) a.2.1 a.1 a.2.2.1 a.2.2.2.1 a.2.2.2.2) (.exit 0) d (fun X V =>∃x:AV×List Evc×List (List AV),zZ s ds N0 kc (.slice p 0 s.P.length none) (.slice t 0 s.T.length none) V ds.length x.1 x.2.1 x.2.2∧ad X 2=ad Z 2∧ad X 3=.ptr kc 0) (by simp) ?_ 20 (0,N0,.y9,[],[])
  ⟨by simp,⟨Nat.le_refl _,fun _ _ _=>rfl,A,rfl,.inl ⟨rfl,rfl⟩,fun k e c h=>by simp at h,afq.refl _,fun k x hk h=>absurd (gL h) (Nat.not_lt.2 hk)⟩,rfl,fun j c h=>by simp at h⟩ (by simp only;omega)
 rintro ⟨i,N,E,cs,evs⟩ ⟨hi,I,hcl,hun⟩;simp only at hi I hcl hun;clear hn;by_cases D:i<ds.length
 ·left
  rcases hl with⟨rfl,_⟩ | ⟨o,hb,rfl⟩
  ·simp at D
  obtain⟨V,E',S,c,s',g1,g2,C,B,z⟩:=KS (K:=20) (m1:=N0.length) (d:=ds[i]) hd G H hb hp ht R J hcl I (List.getElem?_eq_getElem D) hO hw h16 h17 h3 (dd:=d);refine⟨(i+1,V,E',cs++[c],evs++[S]),s',C,B,⟨by simp only;omega,z,by simp[hcl],fun j c' W=>?_⟩,by simp only;omega⟩;by_cases u:j<cs.length
  ·rw[List.getElem?_append_left u] at W
   exact hun j c' W
  ·rw[List.getElem?_append_right (by omega)] at W
   have:j-cs.length=0:=by have:=gL W;simp at this;omega
   rw[this] at W;simp at W;subst W;have m:j=i:=by omega
   subst m;exact⟨g1,_,List.getElem?_eq_getElem D,g2⟩
 ·right
  have e:i=ds.length:=by omega
  subst e;have:∃X,aM (aN prog) (fun _=>[18,18,18]) O 20 35 M.length true w ⟨aD [18,18,18] (ab w) Z ((18,.int .i64 (ds.length:Int))::Z),N,d⟩=some (.exit 0,⟨X,N,d⟩)∧ad X 2=ad Z 2∧ad X 3=.ptr kc 0:=by clear I A hun hO;simp[ai,aG,f9] at hw;subst hw;simp[h17,h3]
  obtain⟨X,C,B,z⟩:=this;exact⟨X,N,C,(E,cs,evs),⟨I,hcl,hun⟩,B,z⟩
theorem N9{a:AV}{n:Nat}{R:List AV}{XP XT:aeY}{F:Env→Bool→Env×Mem×(AV×List Evc×List (List AV))}(hw:ai f9=[w])(hl:(n=0∧a=.y9)∨∃o,M[b]? =some (.cells o 12 R)∧R.length=n*12∧a=.slice b 0 n none)(hn:n≤3)(A:pv=.slice (M.length+2) 0 s.P.length none)(G:tv=.slice (M.length+3) 0 s.T.length none)(eM:O (.fn 27) [.agg [.int .u8 s.kind,.int .i8 s.sx,.int .i8 s.sy,.bool s.half]] (M++[.cells true 0 [.int .u8 s.kind,.int .i8 s.sx,.int .i8 s.sy,.bool s.half,a],.cells true 0 [.y9,.y9,.str [],.y9]])=some ⟨.agg [pv,tv],none,[XP,XT]⟩)(J':∀X d,(ad X 16=a∧ad X 17=.int .i64 n∧ad X 3=.ptr (M.length+4) 0∧ad X 18=.int .i64 0)→aM (aN prog) (fun _=>[18,18,18]) O 20 35 M.length true (.loop w) ⟨X,M++[.cells true 0 [.int .u8 s.kind,.int .i8 s.sx,.int .i8 s.sy,.bool s.half,a],.cells true 0 [.y9,.y9,.str [],.y9],XP,XT,.cells true 0 [pv,tv,.str bk,.y9]],d⟩=some (.exit 0,⟨(F X d).1,(F X d).2.1,d⟩))(Z5:∀X d,(ad X 16=a∧ad X 17=.int .i64 n∧ad X 3=.ptr (M.length+4) 0∧ad X 18=.int .i64 0)→(F X d).2.1[M.length+4]? =some (.cells true 0 [pv,tv,.str bk,(F X d).2.2.1]))(H:∀X d,(ad X 16=a∧ad X 17=.int .i64 n∧ad X 3=.ptr (M.length+4) 0∧ad X 18=.int .i64 0)→(F X d).2.1[M.length+1]? =some (.cells true 0 [.y9,.y9,.str [],.y9]))(I:∀X d,(ad X 16=a∧ad X 17=.int .i64 n∧ad X 3=.ptr (M.length+4) 0∧ad X 18=.int .i64 0)→(F X d).2.2.1.aeS=true)(hF5:∀X d,(ad X 16=a∧ad X 17=.int .i64 n∧ad X 3=.ptr (M.length+4) 0∧ad X 18=.int .i64 0)→ad (F X d).1 2=ad X 2)(hF6:∀X d,(ad X 16=a∧ad X 17=.int .i64 n∧ad X 3=.ptr (M.length+4) 0∧ad X 18=.int .i64 0)→ad (F X d).1 3=.ptr (M.length+4) 0)(hF7:∀X d,(ad X 16=a∧ad X 17=.int .i64 n∧ad X 3=.ptr (M.length+4) 0∧ad X 18=.int .i64 0)→M.length+1<(F X d).2.1.length):
  ∃X d,(ad X 16=a∧ad X 17=.int .i64 n∧ad X 3=.ptr (M.length+4) 0∧ad X 18=.int .i64 0)∧cB (aN prog) (fun _=>[18,18,18]) (aK prog) O 20 9 [.agg [.int .u8 s.kind,.int .i8 s.sx,.int .i8 s.sy,.bool s.half,a]] M=some (.agg [pv,tv,.str bk,(F X d).2.2.1],(F X d).2.1.set (M.length+1) (.cells true 0 [pv,tv,.str bk,(F X d).2.2.1])):=by
 have K:aK prog 9=some f9:=by kernel_rfl
 simp[ai,aG,f9] at hw;subst hw;have W:∀j,(M.length+j<M.length)=False:=fun j=>oH _ _
 have V:∀X d,(ad X 16=a∧ad X 17=.int .i64 n∧ad X 3=.ptr (M.length+4) 0∧ad X 18=.int .i64 0)→∀s,((F X d).2.1.set (M.length+1) s)[M.length+1]? =some s:=fun X d h s=>List.getElem?_set_self (hF7 X d h)
 have J:pv.aeS=true:=by rw[A];rfl
 have D:tv.aeS=true:=by rw[G];rfl
 have m:pv.known=true:=by rw[A];rfl
 have k2:tv.known=true:=by rw[G];rfl
 have b1:[110,97,109,101]=[110,97,109,101]:=rfl;have h3:¬(3:Int)<(n:Int):=by omega
 have h:∃r,cB (aN prog) (fun _=>[18,18,18]) (aK prog) O 20 9 [.agg [.int .u8 s.kind,.int .i8 s.sx,.int .i8 s.sy,.bool s.half,a]] M=some r∧∃X d,(ad X 16=a∧ad X 17=.int .i64 n∧ad X 3=.ptr (M.length+4) 0∧ad X 18=.int .i64 0)∧r=(.agg [pv,tv,.str bk,(F X d).2.2.1],(F X d).2.1.set (M.length+1) (.cells true 0 [pv,tv,.str bk,(F X d).2.2.1])):=by
  clear A G;simp only[bk] at J' Z5;rcases hl with⟨rfl,rfl⟩ | ⟨o,C,hR,rfl⟩
  ·simp[-Bool.exists_bool,-getElem?_pos,-AV.aeS,-AV.known,-AV.cells,-bL,-List.all_eq_true,vS,mS,bW,aE,cB,K,f9,bk,eM,J,D,W,J',Z5,H,I,hF5,hF6,V]
   refine⟨_,⟨?_,?_,?_,?_⟩,_,rfl,rfl⟩<;>rfl
  ·have lb:=gL C
   have B :∀Z,(M++Z)[b]? =some (.cells o 12 R):=fun Z=>gU C _
   have S:n*12≤R.length:=by omega
   simp[-Bool.exists_bool,-getElem?_pos,-AV.aeS,-AV.known,-AV.cells,-bL,-List.all_eq_true,vS,mS,bW,aE,cB,K,f9,bk,eM,J,D,W,B,S,h3,J',Z5,H,I,hF5,hF6,V];refine⟨_,⟨?_,?_,?_,?_⟩,_,rfl,rfl⟩<;>rfl
 obtain⟨r,z,X,d,u,rfl⟩:=h;exact⟨X,d,u,z⟩
theorem ae6.agy{e:ae6}(h:d.cells=e.cells):d=e:=by obtain⟨a,⟨B,z,u⟩,⟨m,j,R⟩,c,I,H,G,A⟩:=d;obtain⟨a',⟨Z,X,W⟩,⟨V,S,K⟩,c',J,F,D,C⟩:=e;simp only[ae6.cells,List.cons.injEq,AV.int.injEq,true_and,and_true,Int.ofNat_inj] at h;obtain⟨rfl,rfl,rfl,rfl,rfl,rfl,rfl,rfl,rfl,rfl,rfl,rfl⟩:=h;rfl
theorem Q9(s:aeX)(hs:s.Ok)(ds:List ae6)(A:∀d∈ds,d.Ok)(p t:Nat):∃O:aeT,HS prog O∧(∀N,O (.fn 27) [.agg [.int .u8 s.kind,.int .i8 s.sx,.int .i8 s.sy,.bool s.half]] N=some ⟨shB s N.length (N.length+1),none,[.cells true 2 (pC s.P),.cells true 3 (tC s.T)]⟩)∧
  ∀(N:Mem) (k:Nat) o J,N[p]? =some (.cells o 2 (pC s.P))→N[t]? =some (.cells J 3 (tC s.T))→k<6→∀d∈ds,∃Z X W V S K,O (.fn 28) [shB s p t,.agg d.cells,.int .i64 k] N=some ⟨.agg Z,none,[X,W,V,S,K]⟩∧af4 s (bS d k) N Z X W V S K:=by
 classical
 let Q:ae6×Nat×Mem→aeQ→Prop:=fun i r=>∃Z X W V S K,r=⟨.agg Z,none,[X,W,V,S,K]⟩∧kO prog 28 [shB s p t,.agg i.1.cells,.int .i64 i.2.1] i.2.2 (.agg Z) (i.2.2++[X,W,V,S,K])∧af4 s (bS i.1 i.2.1) i.2.2 Z X W V S K
 let q:ae6×Nat×Mem→Prop:=fun i=>i.1∈ds∧i.2.1<6∧∃o J,i.2.2[p]? =some (.cells o 2 (pC s.P))∧i.2.2[t]? =some (.cells J 3 (tC s.T))
 have hQ:∀i,q i→∃r,Q i r:=fun i ⟨C,F,o,J,h3,h4⟩=>by obtain⟨Z,X,W,V,S,K,I,H⟩:=Nw s i.1 (A _ C) i.2.1 F i.2.2 p t o J h3 h4;exact⟨_,Z,X,W,V,S,K,rfl,I,H⟩
 obtain⟨R,u⟩:∃R:ae6×Nat×Mem→aeQ,∀i,q i→Q i (R i):=
  ⟨fun i=>if h:∃r,Q i r then Classical.choose h else⟨.undef,none,[]⟩,fun i D=>by have h:=hQ i D;simp only[dif_pos h];exact Classical.choose_spec h⟩
 obtain⟨O,G,m⟩:=ko (P:=prog) (ι:=(ae6×Nat×Mem) ⊕ Mem) (Sum.elim q fun _=>True) (Sum.elim (fun _=>.fn 28) fun _=>.fn 27)
  (Sum.elim (fun i=>[shB s p t,.agg i.1.cells,.int .i64 i.2.1]) fun _=>[.agg [.int .u8 s.kind,.int .i8 s.sx,.int .i8 s.sy,.bool s.half]]) (Sum.elim (fun i=>i.2.2) id) (Sum.elim R fun N=>⟨shB s N.length (N.length+1),none,[.cells true 2 (pC s.P),.cells true 3 (tC s.T)]⟩)
  (by
   rintro (i | N) D
   ·obtain⟨Z,X,W,V,S,K,B,e2,_⟩:=u i D
    simp only[Sum.elim_inl];rw[B];exact aI e2
   ·exact aI (Nb s hs N))
  (by
   rintro (i | N) (j | N') D hj C F h3
   ·simp only[Sum.elim_inl,List.cons.injEq,AV.agg.injEq,AV.int.injEq,true_and,and_true,Int.ofNat_inj] at F h3 ⊢
    rw[show i=j from Prod.ext (ae6.agy F.1) (Prod.ext F.2 h3)]
   ·simp at C
   ·simp at C
   ·simp only[Sum.elim_inr,id] at h3 ⊢
    rw[h3])
 refine⟨O,G,fun N=>m (.inr N) trivial,fun N k o J C F h3 d z=>?_⟩;have D:q (d,k,N):=⟨z,h3,o,J,C,F⟩;obtain⟨Z,X,W,V,S,K,B,_,e3⟩:=u _ D;have:=m (.inl (d,k,N)) D;simp only[Sum.elim_inl] at this;rw[B] at this;exact⟨Z,X,W,V,S,K,this,e3⟩
theorem Ng(s:aeX)(hs:s.Ok)(ds:List ae6)(hd:∀d∈ds,d.Ok)(G:ds.length≤3)(M:Mem)(a:AV)(A:(ds=[]∧a=.y9)∨∃b o,M[b]? =some (.cells o 12 (fU ds))∧a=.slice b 0 ds.length none):
  ∃q evs cs V,kO prog 9 [iH s a] M (.agg (dv s (M.length+2) (M.length+3) q cs.length)) (M++V)∧afK s (M.length+2) (M.length+3) q evs cs (M++V)∧OkN (M.length+V.length) V∧(bk::(cs.map unE).flatten).Nodup∧cs.length=ds.length:=by
 obtain⟨O,hOk,eM,hO⟩:=Q9 s hs ds hd (M.length+2) (M.length+3);have lp:=(fR s).1;have lt:=Vj s;obtain⟨bx,R⟩:=xE (α:=aeY) (.cells true 0 [.int .u8 s.kind,.int .i8 s.sx,.int .i8 s.sy,.bool s.half,a]);obtain⟨pv,S⟩:=xE (AV.slice (M.length+2) 0 s.P.length none);obtain⟨tv,K⟩:=xE (AV.slice (M.length+3) 0 s.T.length none);obtain⟨N0,X⟩:=xE (M++[bx,.cells true 0 [.y9,.y9,.str [],.y9],.cells true 2 (pC s.P),.cells true 3 (tC s.T),.cells true 0 [pv,tv,.str bk,.y9]]);have hl0:N0.length=M.length+5:=by rw[X];simp
 have aaf:N0[M.length+4]? =some (.cells true 0 [pv,tv,.str bk,.y9]):=by rw[X,fV];rfl
 have hz:N0[M.length+1]? =some (.cells true 0 [.y9,.y9,.str [],.y9]):=by rw[X,fV];rfl
 have hp:N0[M.length+2]? =some (.cells true 2 (pC s.P)):=by rw[X,fV];rfl
 have ht:N0[M.length+3]? =some (.cells true 3 (tC s.T)):=by rw[X,fV];rfl
 obtain⟨w,hw⟩:∃w,ai f9=[w]:=⟨_,rfl⟩
 obtain⟨b,hl,hl2,car,rar⟩:∃b,((ds=[]∧a=.y9)∨∃o,M[b]? =some (.cells o 12 (fU ds))∧a=.slice b 0 ds.length none)∧((ds.length=0∧a=.y9)∨∃o,M[b]? =some (.cells o 12 (fU ds))∧(fU ds).length=ds.length*12∧a=.slice b 0 ds.length none)∧a.aeS=true∧a.aeR (fun b=>decide (b<M.length))=true:=by
  rcases A with⟨rfl,rfl⟩ | ⟨b,o,h1,rfl⟩
  ·exact⟨0,.inl ⟨rfl,rfl⟩,.inl ⟨rfl,rfl⟩,rfl,rfl⟩
  ·exact⟨b,.inr ⟨o,h1,rfl⟩,.inr ⟨o,h1,Ei ds,rfl⟩,rfl,by simp only[AV.aeR,decide_eq_true_eq];exact(gL h1)⟩
 have abf :=aaf;rw[S,K] at abf;obtain⟨F,u⟩:=KR hd G X hl hp ht (by omega) abf hO hw;have hE:∀{N i E cs evs},CpI N0 (M.length+4) (.slice (M.length+2) 0 s.P.length none) (.slice (M.length+3) 0 s.T.length none) cs N i E evs→E.aeS=true:=fun I=>by rcases I.row with⟨_,rfl⟩ | ⟨_,rfl,_⟩<;>rfl
 have eM' :=eM (M++[bx,.cells true 0 [.y9,.y9,.str [],.y9]]);rw[show(M++[bx,aeY.cells true 0 [.y9,.y9,.str [],.y9]]).length=M.length+2 by simp] at eM';obtain⟨W,d,aat,hr⟩:=N9 (F:=F) (M:=M) (s:=s) (a:=a) (pv:=pv) (tv:=tv) hw hl2 G S K (by rw[←R,S,K];exact eM') (by rw[←R,←X];exact fun W d h=>(u W d h).1) (fun W d h=>by rw[S,K];exact(u W d h).2.1.1.cell) (fun W d h=>by rw[(u W d h).2.1.1.same _ (by omega) (by omega)];exact hz)
  (fun W d h=>hE (u W d h).2.1.1) (fun W d h=>(u W d h).2.2.1) (fun W d h=>(u W d h).2.2.2) (fun W d h=>by have:=(u W d h).2.1.1.len;omega)
 obtain⟨I,D,Z⟩:=(u W d aat).2.1;have B:=bZ ae (ar _) hOk (au _) hr;obtain⟨E,hEe⟩:=xE ((F W d).2.2.1);obtain⟨cs,hcs⟩:=xE ((F W d).2.2.2.1);obtain⟨evs,acK⟩:=xE ((F W d).2.2.2.2);obtain⟨N,hN⟩:=xE ((F W d).2.1);rw[←hEe,←hN] at B;rw[←hEe,←acK,←hcs,←hN,←S,←K] at I;rw[←hcs] at D Z;obtain⟨m,J⟩:=xE (N.set (M.length+1) (.cells true 0 [pv,tv,.str bk,E]));rw[←J] at B;have hNz:N[M.length+1]? =some (.cells true 0 [.y9,.y9,.str [],.y9]):=by rw[I.same _ (by omega) (by omega)];exact hz
 have hk:afq N m :=by rw[J];exact afq.set hNz (.inl rfl) _
 have acZ :∃V,m =M++V:=by
  refine⟨m.drop M.length,?_⟩;refine List.ext_getElem? fun i=>?_
  by_cases H:i<M.length
  ·rw[List.getElem?_append_left H,J,List.getElem?_set_ne (by omega),I.same i (by omega) (by omega),X,List.getElem?_append_left H]
  ·rw[List.getElem?_append_right (by omega),List.getElem?_drop]
   congr 1;omega
 obtain⟨V,z⟩:=acZ;have hv:AV.agg [pv,tv,.str bk,E]=.agg (dv s (M.length+2) (M.length+3) (qOf E) cs.length):=by
  rw[S,K,D];rcases I.row with⟨h0,rfl⟩ | ⟨kr,rfl,h0,_⟩
  ·unfold dv evV;rw[if_pos h0]
  ·unfold dv evV;rw[if_neg (by omega)];rfl
 rw[hv,z] at B;have aew:m.length=N.length:=by rw[J,List.length_set]
 have hge:M.length+5≤N.length:=by have:=I.len;omega
 have PP:∀(k:Nat) x,M.length≤k→m[k]? =some x→iO x=true∧x.aeR (fun b=>decide (b<m.length))=true:=by
  intro k x hk A;rw[aew];have hE' :E.aeR (fun b=>decide (b<N.length))=true:=by
   rcases I.row with⟨_,rfl⟩ | ⟨kr,rfl,_,_,hr⟩
   ·rfl
   ·simp only[AV.aeR,decide_eq_true_eq];exact(gL hr)
  have pvr:pv.aeR (fun b=>decide (b<N.length))=true:=by rw[S];simp only[AV.aeR,decide_eq_true_eq];omega
  have tvr:tv.aeR (fun b=>decide (b<N.length))=true:=by rw[K];simp only[AV.aeR,decide_eq_true_eq];omega
  have fin:∀y,y=aeY.cells true 0 [pv,tv,.str bk,E]→iO y=true∧y.aeR (fun b=>decide (b<N.length))=true:=by rintro y rfl;exact⟨rfl,by simp only[rO,AV.aeW,EJ,pvr,tvr,hE',Bool.and_self]⟩
  by_cases k1:k=M.length+1
  ·subst k1
   rw[J,List.getElem?_set_self (by omega)] at A;exact fin x (Option.some.inj A).symm
  rw[J,List.getElem?_set_ne (by omega)] at A;by_cases k2:k=M.length+4
  ·subst k2
   rw[I.cell] at A;exact fin x (Option.some.inj A).symm
  by_cases k0:k<N0.length
  ·rw[I.same k k0 k2,X] at A
   obtain⟨j,rfl⟩:∃j,k=M.length+j:=⟨k-M.length,by omega⟩
   rw[fV] at A
   match j,A with
   |0,A=>
    cases A;have r1:a.aeR (fun b=>decide (b<N.length))=true:=AV.ae2 (fun b hb=>by simp only[decide_eq_true_eq] at hb ⊢;omega) a rar;rw[R];exact⟨rfl,by simp only[rO,AV.aeW,AV.aeR,r1,Bool.and_self]⟩
   |1,_=>omega
   |2,A=>cases A;exact⟨rfl,R4 _ _⟩
   |3,A=>cases A;exact⟨rfl,CQ _ _⟩
   |4,_=>omega
   |j+5,A=>simp at A
  ·exact I.ok k x (by omega) A
 have hnd:(bk::(cs.map unE).flatten).Nodup:=by
  match cs,ds,D,Z,G with
  | [],[],_,_,_=>simp
  | [c0],[d0],_,Z,_=>
   obtain⟨_,e0,f0,g0⟩:=Z 0 c0 rfl;cases f0;simpa [g0] using MH d0
  | [c0,c1],[d0,d1],_,Z,_=>
   obtain⟨_,e0,f0,g0⟩:=Z 0 c0 rfl;obtain⟨_,e1,f1,g1⟩:=Z 1 c1 rfl;cases f0;cases f1;simpa [g0,g1] using MI d0 d1
  | [c0,c1,c2],[d0,d1,d2],_,Z,_=>
   obtain⟨_,e0,f0,g0⟩:=Z 0 c0 rfl;obtain⟨_,e1,f1,g1⟩:=Z 1 c1 rfl;obtain⟨_,e2,f2,g2⟩:=Z 2 c2 rfl;cases f0;cases f1;cases f2;simpa [g0,g1,g2] using MJ d0 d1 d2
  |_,_::_::_::_::_,_,_,h=>simp at h
  |_::_::_::_::_,[_,_,_],h,_,_=>simp at h
 refine⟨_,evs,cs,V,B,?_,.of fun x A=>?_,hnd,D⟩
 rotate_left
 ·obtain⟨i,H⟩:=List.getElem?_of_mem A
  have:=PP (M.length+i) x (by omega) (by rw[z,fV];exact H)
  rwa [z,List.length_append] at this
 rw[←z];have ads:∀(k es:Nat) (C:List AV),es=1∨es=2∨es=3→k<N0.length→N0[k]? =some (.cells true es C)→m[k]? =some (.cells true es C):=fun k es C he hk1 h=>hk k true es C he (by rw[I.same k hk1 (by rintro rfl;rw[aaf] at h;cases h;omega)];exact h)
 refine⟨⟨true,ads _ _ _ (.inr (.inl rfl)) (by omega) hp⟩,⟨true,ads _ _ _ (.inr (.inr rfl)) (by omega) ht⟩,fun S'=>?_,by rw[I.evl,D],by omega,fun c hc=>?_,fun i ev c h1 h2=>(I.con i ev c h1 h2).upd hk⟩
 ·rcases I.row with⟨h0,rfl⟩ | ⟨kr,rfl,h0,hge,hr⟩
  ·exact absurd (List.eq_nil_of_length_eq_zero (by rw[I.evl];exact h0)) S'
  ·exact⟨true,show m[kr]? =some (.cells true 32 evs.flatten) by rw[J,List.getElem?_set_ne (by omega)];exact hr⟩
 ·obtain⟨i,H⟩:=List.getElem?_of_mem hc
  exact(Z i c H).1
end Go.Proofs
