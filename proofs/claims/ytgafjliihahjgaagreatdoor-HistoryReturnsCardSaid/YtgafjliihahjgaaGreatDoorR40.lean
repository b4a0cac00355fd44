/- See R54. -/
import Derived.Test.YtgafjliihahjgaaGreatDoorR39
set_option linter.all false
set_option maxRecDepth 100000
set_option maxHeartbeats 40000000
namespace Go.Proofs
open Go.Eng
open Tryz
structure Tryz.afE (s:aeE) (U:List (List UInt8)) (N:Mem) (ev:List AV) (x1 x2 x3 x4 x5:aeD):Prop where
 c:∃c:Evc,aWg s c∧unE c=U∧∀M',aeZ N.length [x1,x2,x3,x4,x5] M' →afi M' ev c
 l:ev.length=32
 ck:ev.all AV.kS=true
 r:afU (N.length+5) ev
 o:OkN (N.length+5) [x1,x2,x3,x4,x5]
theorem Lp(s:aeE)(d:aeN)(hd:d.Ok)(i:Nat)(hi:i<6)(M:Mem)(p t:Nat)(o o' :Bool)(hp:M[p]? =some (.cells o 2 (pC s.P)))(ht:M[t]? =some (.cells o' 3 (tC s.T))):
  ∃ev x1 x2 x3 x4 x5,kF prog 28 [shB s p t,.agg d.cells,.int .i64 i] M (.agg ev) (M++[x1,x2,x3,x4,x5])∧afE s (bJ d i) M ev x1 x2 x3 x4 x5:=by
 obtain⟨ev,x1,x2,x3,x4,x5,h1,⟨_,h2⟩,_,⟨h3,_⟩,h4,h5,⟨a1,a2,a3,a4,a5⟩,h7⟩:=Ln s d hd i hi M p t o o' hp ht;obtain⟨b1,b2,b3,b4,b5⟩:=h7 (M.length+5) (Nat.le_refl _);refine⟨ev,x1,x2,x3,x4,x5,h1,h2,h3,List.all_eq_true.2 h4,.of (h5 _ (Nat.le_refl _)),.of fun x hx=>?_⟩;simp only[List.mem_cons,List.not_mem_nil,or_false] at hx;rcases hx with rfl | rfl | rfl | rfl | rfl
 ·exact⟨a1,b1⟩
 ·exact⟨a2,b2⟩
 ·exact⟨a3,b3⟩
 ·exact⟨a4,b4⟩
 ·exact⟨a5,b5⟩
variable{E pv tv:AV}{N N0:Mem}{cs:List Evc}{evs:List (List AV)}{i kc:Nat}
theorem CpI.ext(H:CpI N0 kc pv tv cs N i E evs)(hi:cs.length=i)(c:Evc):CpI N0 kc pv tv (cs++[c]) N i E evs:=
 ⟨H.len,H.same,H.cell,H.evl,H.row,fun k e c' h1 h2=>by have:=(gL h1);rw[H.evl] at this;rw[List.getElem?_append_left (by omega)] at h2;exact H.con k e c' h1 h2,H.afq,H.ok⟩
theorem kL(e:aeN)(l:List aeN):fO (e::l)=e.cells++fO l:=rfl
theorem Nl{α:Type}{a b:Prop}{p q:α→Prop}(ha:a)(hb:b)(h:∃s,p s∧q s):∃s,a∧b∧p s∧q s:=by obtain⟨s,h1,h2⟩:=h;exact⟨s,ha,hb,h1,h2⟩
theorem JQ:∀{ds:List aeN}{i:Nat}{d:aeN},ds[i]? =some d→((fO ds).drop (i*12)).take 12=d.cells∧i*12+12≤(fO ds).length
 | [],i,d,h=>by simp at h
 |e::l,0,d,h=>by simp at h;subst h;have h1:e.cells.length=12:=rfl;exact⟨by rw[kL,Nat.zero_mul,List.drop_zero,List.take_append_of_le_length (by omega),List.take_of_length_le (by omega)],by rw[kL,List.length_append];omega⟩
 |e::l,i+1,d,h=>by have h1:e.cells.length=12:=rfl;obtain⟨a,b⟩:=JQ (ds:=l) (i:=i) (d:=d) (by simpa using h);refine⟨?_,by rw[kL,List.length_append];omega⟩;rw[kL,List.drop_append,List.drop_of_length_le (by omega),List.nil_append,h1,show(i+1)*12-12=i*12 by omega];exact a
theorem Dd:∀ds:List aeN,(fO ds).length=ds.length*12
 | []=>rfl
 |e::l=>by have h1:e.cells.length=12:=rfl;rw[kL,List.length_append,Dd l,h1,List.length_cons];omega
variable{M Y:Mem}{O:adM}{b p t:Nat}{d:aeN}{ds:List aeN}{o1 o2:Bool}{s:aeE}{w:Code}
theorem I8(hd:∀d∈ds,d.Ok)(h3l:ds.length≤3){K m1:Nat}{o:Bool}(Y4:N0=M++Y)(hb:M[b]? =some (.cells o 12 (fO ds)))(hp:N0[p]? =some (.cells o1 2 (pC s.P)))(ht:N0[t]? =some (.cells o2 3 (tC s.T)))(hkM:M.length≤kc)(hk0:kc<N0.length)(hl:cs.length=i)(I:CpI N0 kc (.slice p 0 s.P.length none) (.slice t 0 s.T.length none) cs N i E evs)(hdd:ds[i]? =some d)(hO:∀(N:Mem) (k:Nat) o o',N[p]? =some (.cells o 2 (pC s.P))→N[t]? =some (.cells o' 3 (tC s.T))→k<6→∀d∈ds,∃ev x1 x2 x3 x4 x5,O (.fn 28) [shB s p t,.agg d.cells,.int .i64 k] N=some ⟨.agg ev,none,[x1,x2,x3,x4,x5]⟩∧afE s (bJ d k) N ev x1 x2 x3 x4 x5)(hw:ai f9=[w]){z':Env}{dd:Bool}(h16:ab z' 16=.slice b 0 ds.length none)(h17:ab z' 17=.int .i64 ds.length)(h3:ab z' 3=.ptr kc 0):
  ∃N' E' ev c s',aWg s c∧unE c=bJ d i∧aN (aM prog) (fun _=>[18,18,18]) O K 35 M.length true w ⟨aD [18,18,18] (aa w) z' ((18,.int .i64 (i:Int))::z'),N,dd⟩=some (.normal,s')∧iV [18,18,18] (aa w) z' m1 s' =⟨aD [18,18,18] (aa w) z' ((18,.int .i64 ((i+1:Nat):Int))::z'),N',dd⟩∧
   CpI N0 kc (.slice p 0 s.P.length none) (.slice t 0 s.T.length none) (cs++[c]) N' (i+1) E' (evs++[ev]):=by
 have A':=(gL hdd);have hll:=I.len;have lb:=(gL hb);have lp:=(gL hp);have lt:=(gL ht);have hl0:M.length≤N0.length:=by rw[Y4,List.length_append];omega
 have hkN:kc<N.length:=by omega
 have hbN:N[b]? =some (.cells o 12 (fO ds)):=by rw[I.same b (by omega) (by omega),Y4,List.getElem?_append_left lb];exact hb
 have hpk:p≠kc:=by rintro rfl;have:=I.cell;rw[I.afq p o1 2 _ (.inr (.inl rfl)) hp] at this;cases this
 have htk:t≠kc:=by rintro rfl;have:=I.cell;rw[I.afq t o2 3 _ (.inr (.inr rfl)) ht] at this;cases this
 have hpN:N[p]? =some (.cells o1 2 (pC s.P)):=by rw[I.same p lp hpk];exact hp
 have htN:N[t]? =some (.cells o2 3 (tC s.T)):=by rw[I.same t lt htk];exact ht
 have lpN:=(gL hpN);have ltN:=(gL htN);obtain⟨r1,r2⟩:=JQ hdd;obtain⟨ev,x1,x2,x3,x4,x5,eD,DF⟩:=hO (N++[.cells true 0 d.cells]) i o1 o2 (by rw[List.getElem?_append_left lpN];exact hpN) (by rw[List.getElem?_append_left ltN];exact htN) (by omega) d (List.mem_of_getElem? hdd);obtain⟨c,gc,uc,hc⟩:=DF.c;have lev:=DF.l;have lN1:(N++[aeD.cells true 0 d.cells]).length=N.length+1:=by simp
 have rev:=DF.r;have oX:=DF.o;rw[lN1] at rev oX hc;have aaF:∀x∈evs,x.length=32:=fun x hx=>by obtain⟨k,hk⟩:=List.getElem?_of_mem hx;have h1:=(gL hk);rw[I.evl] at h1;exact(I.con k x _ hk (List.getElem?_eq_getElem (by omega))).l32
 have hfl:evs.flatten.length=i*32:=by rw[Np aaF,I.evl]
 have hER:∀m,AV.aeB (fun b=>decide (b<N.length+m)) evs.flatten=true:=fun m=>qM fun x hx=>by obtain⟨k,hk⟩:=List.getElem?_of_mem hx;have h1:=(gL hk);rw[I.evl] at h1;exact(I.con k x _ hk (List.getElem?_eq_getElem (by omega))).refs m
 have h:∃N2 s',N2.length=N.length∧((i=0∧N2=N)∨∃kr,E=.slice kr 0 i none∧0<i∧N2=N.set kr .kO)∧aN (aM prog) (fun _=>[18,18,18]) O K 35 M.length true w ⟨aD [18,18,18] (aa w) z' ((18,.int .i64 (i:Int))::z'),N,dd⟩=some (.normal,s')∧
   iV [18,18,18] (aa w) z' m1 s' =⟨aD [18,18,18] (aa w) z' ((18,.int .i64 ((i+1:Nat):Int))::z'),N2.set kc (.cells true 0 [.slice p 0 s.P.length none,.slice t 0 s.T.length none,.str ar,.slice (N.length+7) 0 (i+1) none])++[.cells true 0 d.cells,x1,x2,x3,x4,x5,.cells true 32 ev,.cells true 32 (evs.flatten++ev)],dd⟩:=by
  have XU :=bj (rfl:aG f9=_) (ls:=[[0,1,0,4,0,0,60,124,255,511,1023]]) (by kernel_rfl);simp only[aG,bF,f9,List.nil_append,List.append_nil,List.map_cons,List.map_nil,List.cons.injEq,and_true] at XU;have w1:IntKind.i64.wrap ((i:Int)+1)=((i+1:Nat):Int):=by rw[al (by omega) (by omega)];omega
  have Yj:∀j,(N.length+j<M.length)=False:=fun j=>by rw[eq_iff_iff,iff_false];omega
  have YJ:(N.length<M.length)=False:=by rw[eq_iff_iff,iff_false];omega
  have hkm:¬kc<M.length:=by omega
  have Zd:=DF.ck;have gev:(∀y:AV,y∈ev→y.kS=true)=True:=eq_true (List.all_eq_true.1 Zd);have t32:ev.take 32=ev:=List.take_of_length_le (by omega);obtain⟨dc,hdc⟩:∃dc,dc=d.cells:=⟨_,rfl⟩
  have ldc:dc.length=12:=by rw[hdc];rfl
  have cdc:dc.all AV.kS=true:=by rw[hdc];rfl
  have gdc:(∀y:AV,y∈dc→y.kS=true)=True:=eq_true (List.all_eq_true.1 cdc);have t12:dc.take 12=dc:=List.take_of_length_le (by omega);have rdc:∀f,AV.aeB f dc=true:=fun f=>by rw[hdc];rfl
  rw[←hdc] at r1 eD;rw[←hdc];have acP:=rev (fun b=>decide (b<N.length+6)) (by intro b hb;simp only[decide_eq_true_eq];omega);have acQ:=rev (fun b=>decide (b<N.length+7)) (by intro b hb;simp only[decide_eq_true_eq];omega);have acR:=rev (fun b=>decide (b<N.length+8)) (by intro b hb;simp only[decide_eq_true_eq];omega);have oX6:=oX (fun b=>decide (b<N.length+6)) (by intro b hb;simp only[decide_eq_true_eq];omega);simp only[List.all_cons,List.all_nil,Bool.and_true,Bool.and_eq_true] at oX6;obtain⟨⟨a1,b1⟩,⟨a2,b2⟩,⟨a3,b3⟩,⟨a4,b4⟩,a5,b5⟩:=oX6;have p2:∀j,(p<N.length+j)=True:=fun j=>by rw[eq_iff_iff,iff_true];omega
  have t2:∀j,(t<N.length+j)=True:=fun j=>by rw[eq_iff_iff,iff_true];omega
  have k2:∀j,(kc<N.length+j)=True:=fun j=>by rw[eq_iff_iff,iff_true];omega
  have k5:∀j,(N.length+j≤kc)=False:=fun j=>by rw[eq_iff_iff,iff_false];omega
  have k3:∀j,(kc=N.length+j)=False:=fun j=>by rw[eq_iff_iff,iff_false];omega
  have k4:(kc=N.length)=False:=by rw[eq_iff_iff,iff_false];omega
  have k6:∀j,(N.length+j=kc)=False:=fun j=>by rw[eq_iff_iff,iff_false];omega
  have k7:(N.length=kc)=False:=by rw[eq_iff_iff,iff_false];omega
  have E_8:=hER 8;have bi:i*12+12≤(fO ds).length:=r2;obtain⟨R,hR⟩:∃R,R=fO ds:=⟨_,rfl⟩
  rw[←hR] at r1 bi hbN;obtain⟨Fl,hFl⟩:∃Fl,Fl=evs.flatten:=⟨_,rfl⟩
  rw[←hFl] at hfl E_8 ⊢;obtain⟨n,hn⟩:∃n,n=ds.length:=⟨_,rfl⟩
  rw[←hn] at h16 h17 A';have XR:=I.cell;have hc1:∀Z,(N++Z)[kc]? =some (.cells true 0 [.slice p 0 s.P.length none,.slice t 0 s.T.length none,.str ar,E]):=fun Z=>by rw[List.getElem?_append_left hkN];exact XR
  simp only[shB] at eD;simp[ai,aK,f9] at hw;have row:=I.row;rw[←hFl] at row;clear hO hc DF rev oX hER I hp ht hpN htN hb XR;subst hw;rcases row with⟨rfl,rfl⟩ | ⟨kr,rfl,h0,aev,hkr⟩
  ·have:Fl=[]:=List.eq_nil_of_length_eq_zero (by omega)
   subst this;have hs1:∀Z s,(N++Z).set kc s=N.set kc s++Z:=fun Z s=>List.set_append_left _ _ hkN
   refine⟨N,?_⟩;have r1' :R.take 12=dc:=by simpa using r1
   have bi' :12≤R.length:=by simpa using bi
   rw[show((0:Nat):Int)=0 from rfl] at eD;have gS:∀x Z,(N.set kc x++Z)[kc]? =some x:=fun x Z=>by rw[List.getElem?_append_left (by rw[List.length_set];exact hkN),List.getElem?_set_self hkN]
   have dS:∀(x:aeD) (Z:Mem) (j:Nat),(N.set kc x++Z).drop (N.length+j)=Z.drop j:=fun x Z j=>by rw[List.drop_append,List.drop_of_length_le (by rw[List.length_set];omega),List.length_set,Nat.add_sub_cancel_left,List.nil_append]
   refine Nl rfl (.inl ⟨rfl,rfl⟩) ?_;simp[-getElem?_pos,-AV.kS,-AV.known,-AV.cells,-bk,-bp,-aZ,-aE,-AV.y9,-aeD.y9,-List.all_eq_true,vS,rS,mS,fq,aY XU,cO,cd,fz,cY,bW,iT,bef,Nat.testBit,h16,h17,h3,A',hbN,r1',bi',ldc,cdc,t12,rdc,hc1,hs1,gS,dS,eD,lev,Zd,t32,acP,acQ,acR,a1,a2,a3,a4,a5,b1,b2,b3,b4,b5,p2,t2,k2,k3,k4,k5,hkm,YJ];rfl
  ·have lkr:=(gL hkr)
   have ad1 :∀Z,(N++Z)[kr]? =some (.cells true 32 Fl):=fun Z=>by rw[List.getElem?_append_left lkr];exact hkr
   have tF:Fl.take (i*32)=Fl:=List.take_of_length_le (by omega);have lF:i*32≤Fl.length:=by omega
   have n1:(i+1)*504≤140737488355328:=by omega
   have n2:i+1≤140737488355328:=by omega
   obtain⟨N2,Yv⟩:∃N2,N2=N.set kr .kO:=⟨_,rfl⟩
   have lN2:N2.length=N.length:=by rw[Yv,List.length_set]
   have hs1:∀Z,(N++Z).set kr .kO=N2++Z:=fun Z=>by rw[Yv];exact List.set_append_left _ _ lkr
   have ZC:∀Z s,(N2++Z).set kc s=N2.set kc s++Z:=fun Z s=>List.set_append_left _ _ (by omega)
   have hkk:kr≠kc:=by omega
   have hc2:∀Z,(N2++Z)[kc]? =some (.cells true 0 [.slice p 0 s.P.length none,.slice t 0 s.T.length none,.str ar,.slice kr 0 i none]):=fun Z=>by
    rw[List.getElem?_append_left (by omega),Yv,List.getElem?_set_ne hkk];have:=hc1 []
    rwa [List.append_nil] at this
   have q2:∀j,(kr<N.length+j)=True:=fun j=>by rw[eq_iff_iff,iff_true];omega
   have q3:∀j,(kr=N.length+j)=False:=fun j=>by rw[eq_iff_iff,iff_false];omega
   have q4:(kr=N.length)=False:=by rw[eq_iff_iff,iff_false];omega
   have q5:∀j,(N.length+j≤kr)=False:=fun j=>by rw[eq_iff_iff,iff_false];omega
   have q6:(kc=kr)=False:=by rw[eq_iff_iff,iff_false];omega
   have q7:¬kr<M.length:=by omega
   have m2:∀j Z,(N2++Z)[N.length+j]? =Z[j]? :=fun j Z=>by rw[←lN2];exact dC _ _ _
   refine⟨N2,?_⟩;have gS:∀x Z,(N2.set kc x++Z)[kc]? =some x:=fun x Z=>by rw[List.getElem?_append_left (by rw[List.length_set];omega),List.getElem?_set_self (by omega)]
   have dS:∀(x:aeD) (Z:Mem) (j:Nat),(N2.set kc x++Z).drop (N.length+j)=Z.drop j:=fun x Z j=>by rw[List.drop_append,List.drop_of_length_le (by rw[List.length_set];omega),List.length_set,lN2,Nat.add_sub_cancel_left,List.nil_append]
   have gK:∀Z,(N2++Z)[kr]? =some .kO:=fun Z=>by rw[List.getElem?_append_left (by omega),Yv,List.getElem?_set_self (by omega)]
   have dN:∀(Z:Mem) (j:Nat),(N2++Z).drop (N.length+j)=Z.drop j:=fun Z j=>by rw[List.drop_append,List.drop_of_length_le (by omega),lN2,Nat.add_sub_cancel_left,List.nil_append]
   refine Nl lN2 (.inr ⟨kr,rfl,h0,Yv⟩) ?_;simp[-getElem?_pos,-AV.kS,-AV.known,-AV.cells,-bk,-bp,-aZ,-aE,-AV.y9,-aeD.y9,-List.all_eq_true,vS,rS,mS,fq,aY XU,cO,cd,fz,cY,bW,iT,bef,Nat.testBit,h16,h17,h3,A',hbN,r1,bi,ldc,cdc,t12,rdc,hc1,hc2,hs1,ZC,ad1,tF,lF,n1,n2,lN2,gS,dS,gK,dN,eD,lev,Zd,t32,acP,acQ,acR,E_8,a1,a2,a3,a4,a5,b1,b2,b3,b4,b5,p2,t2,k2,k3,k4,k5,q2,q3,q4,q6,q7,hkm,YJ,w1]
 obtain⟨N2,s',lN2,Yv,g1,g2⟩:=h;refine⟨_,.slice (N.length+7) 0 (i+1) none,ev,c,s',gc,uc,g1,g2,?_⟩;have ZO:∀(x:aeD) (Z:Mem) (k:Nat),(N2.set kc x++Z)[N.length+k]? =Z[k]? :=fun x Z k=>by rw[List.getElem?_append_right (by rw[List.length_set,lN2];omega),List.length_set,lN2,Nat.add_sub_cancel_left]
 refine(I.ext hl c).step (Z:=[.cells true 0 d.cells,x1,x2,x3,x4,x5,.cells true 32 ev,.cells true 32 (evs.flatten++ev)]) hk0 (by rw[←hl,List.getElem?_append_right (Nat.le_refl _),Nat.sub_self];rfl) _ (N.length+7) ⟨fun h0=>?_,fun kr hE=>?_⟩ ⟨by omega,by rw[ZO];rfl⟩ (hc _ fun k x hk=>?_) ?_
 ·rcases Yv with⟨_,rfl⟩ | ⟨kr,_,h1,_⟩
  ·rfl
  ·omega
 ·rcases Yv with⟨h1,rfl⟩ | ⟨kr',h,_,rfl⟩
  ·rcases I.row with⟨_,h⟩ | ⟨_,_,h,_⟩
   ·rw[h] at hE;cases hE
   ·omega
  ·rw[h] at hE;cases hE;rfl
 ·rw[Nat.add_assoc,ZO]
  match k,hk with
  |0,hk=>exact hk
  |1,hk=>exact hk
  |2,hk=>exact hk
  |3,hk=>exact hk
  |4,hk=>exact hk
  |k+5,hk=>simp at hk
 ·have e8:=oX (fun b=>decide (b<N.length+8)) (by intro b hb;simp only[decide_eq_true_eq];omega)
  have r8:=rev (fun b=>decide (b<N.length+8)) (by intro b hb;simp only[decide_eq_true_eq];omega);have f8:=hER 8;have d8:AV.aeB (fun b=>decide (b<N.length+8)) d.cells=true:=rfl;simp only[List.all_cons,List.all_nil,Bool.and_true,Bool.and_eq_true] at e8;obtain⟨⟨a1,b1⟩,⟨a2,b2⟩,⟨a3,b3⟩,⟨a4,b4⟩,a5,b5⟩:=e8;show List.all _ (fun x=>gm x&&x.y9 (fun b=>decide (b<N.length+8)))=true
  simp only[List.all_cons,List.all_nil,jI,fg,ef,d8,a1,a2,a3,a4,a5,b1,b2,b3,b4,b5,r8,f8,Bool.and_self]
def yN(s:aeE) (ds:List aeN) (N0:Mem) (kc:Nat) (pv tv:AV) (N:Mem) (i:Nat) (E:AV) (cs:List Evc) (evs:List (List AV)):Prop:=
 CpI N0 kc pv tv cs N i E evs∧cs.length=i∧∀(j:Nat) c,cs[j]? =some c→aWg s c∧∃d,ds[j]? =some d∧unE c=bJ d j
theorem I7(hd:∀d∈ds,d.Ok)(h3l:ds.length≤3){l:AV}(Y4:N0=M++Y)(hl:(ds=[]∧l=.kK)∨∃o,M[b]? =some (.cells o 12 (fO ds))∧l=.slice b 0 ds.length none)(hp:N0[p]? =some (.cells o1 2 (pC s.P)))(ht:N0[t]? =some (.cells o2 3 (tC s.T)))(hkM:M.length≤kc)(XR:N0[kc]? =some (.cells true 0 [.slice p 0 s.P.length none,.slice t 0 s.T.length none,.str ar,.kK]))(hO:∀(N:Mem) (k:Nat) o o',N[p]? =some (.cells o 2 (pC s.P))→N[t]? =some (.cells o' 3 (tC s.T))→k<6→∀d∈ds,∃ev x1 x2 x3 x4 x5,O (.fn 28) [shB s p t,.agg d.cells,.int .i64 k] N=some ⟨.agg ev,none,[x1,x2,x3,x4,x5]⟩∧afE s (bJ d k) N ev x1 x2 x3 x4 x5)(hw:ai f9=[w]):
  ∃F:Env→Bool→Env×Mem×(AV×List Evc×List (List AV)),∀z' d,(ab z' 16=l∧ab z' 17=.int .i64 ds.length∧ab z' 3=.ptr kc 0∧ab z' 18=.int .i64 0)→
   aN (aM prog) (fun _=>[18,18,18]) O 20 35 M.length true (.loop w) ⟨z',N0,d⟩=some (.exit 0,⟨(F z' d).1,(F z' d).2.1,d⟩)∧(yN s ds N0 kc (.slice p 0 s.P.length none) (.slice t 0 s.T.length none) (F z' d).2.1 ds.length (F z' d).2.2.1 (F z' d).2.2.2.1 (F z' d).2.2.2.2∧ab (F z' d).1 2=ab z' 2∧ab (F z' d).1 3=.ptr kc 0):=by
 have hk0:=(gL XR);refine iz (L:=[18,18,18]) rfl (fun z'=>ab z' 16=l∧ab z' 17=.int .i64 ds.length∧ab z' 3=.ptr kc 0∧ab z' 18=.int .i64 0) (fun z' AC N' (x:AV×List Evc×List (List AV))=>yN s ds N0 kc (.slice p 0 s.P.length none) (.slice t 0 s.T.length none) N' ds.length x.1 x.2.1 x.2.2∧ab AC 2=ab z' 2∧ab AC 3=.ptr kc 0) ?_;rintro z' d ⟨h16,h17,h3,h18⟩;have hn:aD [18,18,18] (aa w) z' ((18,.int .i64 ((0:Nat):Int))::z')=aD [18,18,18] (aa w) z' z':=by simp[aD,h18]
 rw[←hn];refine iE (α:=Nat×Mem×AV×List Evc×List (List AV)) (fun a=>⟨aD [18,18,18] (aa w) z' ((18,.int .i64 (a.1:Int))::z'),a.2.1,d⟩) (fun a=>ds.length-a.1)
  (fun a=>a.1≤ds.length∧yN s ds N0 kc (.slice p 0 s.P.length none) (.slice t 0 s.T.length none) a.2.1 a.1 a.2.2.1 a.2.2.2.1 a.2.2.2.2) (.exit 0) d (fun AC N' =>∃x:AV×List Evc×List (List AV),yN s ds N0 kc (.slice p 0 s.P.length none) (.slice t 0 s.T.length none) N' ds.length x.1 x.2.1 x.2.2∧ab AC 2=ab z' 2∧ab AC 3=.ptr kc 0) (by simp) ?_ 20 (0,N0,.kK,[],[])
  ⟨by simp,⟨Nat.le_refl _,fun _ _ _=>rfl,XR,rfl,.inl ⟨rfl,rfl⟩,fun k e c h=>by simp at h,ae5.refl _,fun k x hk h=>absurd (gL h) (Nat.not_lt.2 hk)⟩,rfl,fun j c h=>by simp at h⟩ (by simp only;omega)
 rintro ⟨i,N,E,cs,evs⟩ ⟨hi,I,Y3,YX⟩;simp only at hi I Y3 YX;clear hn;by_cases A':i<ds.length
 ·left
  rcases hl with⟨rfl,_⟩ | ⟨o,hb,rfl⟩
  ·simp at A'
  obtain⟨N',E',ev,c,s',g1,g2,k1,k2,k3⟩:=I8 (K:=20) (m1:=N0.length) (d:=ds[i]) hd h3l Y4 hb hp ht hkM hk0 Y3 I (List.getElem?_eq_getElem A') hO hw h16 h17 h3 (dd:=d);refine⟨(i+1,N',E',cs++[c],evs++[ev]),s',k1,k2,⟨by simp only;omega,k3,by simp[Y3],fun j c' hj=>?_⟩,by simp only;omega⟩;by_cases hji:j<cs.length
  ·rw[List.getElem?_append_left hji] at hj
   exact YX j c' hj
  ·rw[List.getElem?_append_right (by omega)] at hj
   have:j-cs.length=0:=by have:=(gL hj);simp at this;omega
   rw[this] at hj;simp at hj;subst hj;have hj2:j=i:=by omega
   subst hj2;exact⟨g1,_,List.getElem?_eq_getElem A',g2⟩
 ·right
  have e:i=ds.length:=by omega
  subst e;have:∃AC,aN (aM prog) (fun _=>[18,18,18]) O 20 35 M.length true w ⟨aD [18,18,18] (aa w) z' ((18,.int .i64 (ds.length:Int))::z'),N,d⟩=some (.exit 0,⟨AC,N,d⟩)∧ab AC 2=ab z' 2∧ab AC 3=.ptr kc 0:=by clear I XR YX hO;simp[ai,aK,f9] at hw;subst hw;simp[h17,h3]
  obtain⟨AC,k1,k2,k3⟩:=this;exact⟨AC,N,k1,(E,cs,evs),⟨I,Y3,YX⟩,k2,k3⟩
theorem LS{a:AV}{n:Nat}{R:List AV}{XP XT:aeD}{F:Env→Bool→Env×Mem×(AV×List Evc×List (List AV))}(hw:ai f9=[w])(hl:(n=0∧a=.kK)∨∃o,M[b]? =some (.cells o 12 R)∧R.length=n*12∧a=.slice b 0 n none)(hn:n≤3)(hpv:pv=.slice (M.length+2) 0 s.P.length none)(htv:tv=.slice (M.length+3) 0 s.T.length none)(eM:O (.fn 27) [.agg [.int .u8 s.kind,.int .i8 s.sx,.int .i8 s.sy,.bool s.half]] (M++[.cells true 0 [.int .u8 s.kind,.int .i8 s.sx,.int .i8 s.sy,.bool s.half,a],.cells true 0 [.kK,.kK,.str [],.kK]])=some ⟨.agg [pv,tv],none,[XP,XT]⟩)(I':∀z' d,(ab z' 16=a∧ab z' 17=.int .i64 n∧ab z' 3=.ptr (M.length+4) 0∧ab z' 18=.int .i64 0)→aN (aM prog) (fun _=>[18,18,18]) O 20 35 M.length true (.loop w) ⟨z',M++[.cells true 0 [.int .u8 s.kind,.int .i8 s.sx,.int .i8 s.sy,.bool s.half,a],.cells true 0 [.kK,.kK,.str [],.kK],XP,XT,.cells true 0 [pv,tv,.str ar,.kK]],d⟩=some (.exit 0,⟨(F z' d).1,(F z' d).2.1,d⟩))(T':∀z' d,(ab z' 16=a∧ab z' 17=.int .i64 n∧ab z' 3=.ptr (M.length+4) 0∧ab z' 18=.int .i64 0)→(F z' d).2.1[M.length+4]? =some (.cells true 0 [pv,tv,.str ar,(F z' d).2.2.1]))(Yh:∀z' d,(ab z' 16=a∧ab z' 17=.int .i64 n∧ab z' 3=.ptr (M.length+4) 0∧ab z' 18=.int .i64 0)→(F z' d).2.1[M.length+1]? =some (.cells true 0 [.kK,.kK,.str [],.kK]))(hF4:∀z' d,(ab z' 16=a∧ab z' 17=.int .i64 n∧ab z' 3=.ptr (M.length+4) 0∧ab z' 18=.int .i64 0)→(F z' d).2.2.1.kS=true)(hF5:∀z' d,(ab z' 16=a∧ab z' 17=.int .i64 n∧ab z' 3=.ptr (M.length+4) 0∧ab z' 18=.int .i64 0)→ab (F z' d).1 2=ab z' 2)(hF6:∀z' d,(ab z' 16=a∧ab z' 17=.int .i64 n∧ab z' 3=.ptr (M.length+4) 0∧ab z' 18=.int .i64 0)→ab (F z' d).1 3=.ptr (M.length+4) 0)(hF7:∀z' d,(ab z' 16=a∧ab z' 17=.int .i64 n∧ab z' 3=.ptr (M.length+4) 0∧ab z' 18=.int .i64 0)→M.length+1<(F z' d).2.1.length):
  ∃z' d,(ab z' 16=a∧ab z' 17=.int .i64 n∧ab z' 3=.ptr (M.length+4) 0∧ab z' 18=.int .i64 0)∧aU (aM prog) (fun _=>[18,18,18]) (aT prog) O 20 9 [.agg [.int .u8 s.kind,.int .i8 s.sx,.int .i8 s.sy,.bool s.half,a]] M=some (.agg [pv,tv,.str ar,(F z' d).2.2.1],(F z' d).2.1.set (M.length+1) (.cells true 0 [pv,tv,.str ar,(F z' d).2.2.1])):=by
 have hG:aT prog 9=some f9:=by kernel_rfl
 simp[ai,aK,f9] at hw;subst hw;have Yj:∀j,(M.length+j<M.length)=False:=fun j=>dz _ _
 have hF8:∀z' d,(ab z' 16=a∧ab z' 17=.int .i64 n∧ab z' 3=.ptr (M.length+4) 0∧ab z' 18=.int .i64 0)→∀s,((F z' d).2.1.set (M.length+1) s)[M.length+1]? =some s:=fun z' d h s=>List.getElem?_set_self (hF7 z' d h)
 have c1:pv.kS=true:=by rw[hpv];rfl
 have c2:tv.kS=true:=by rw[htv];rfl
 have k1:pv.known=true:=by rw[hpv];rfl
 have k2:tv.known=true:=by rw[htv];rfl
 have b1:[110,97,109,101]=[110,97,109,101]:=rfl;have h3:¬(3:Int)<(n:Int):=by omega
 have h:∃r,aU (aM prog) (fun _=>[18,18,18]) (aT prog) O 20 9 [.agg [.int .u8 s.kind,.int .i8 s.sx,.int .i8 s.sy,.bool s.half,a]] M=some r∧∃z' d,(ab z' 16=a∧ab z' 17=.int .i64 n∧ab z' 3=.ptr (M.length+4) 0∧ab z' 18=.int .i64 0)∧r=(.agg [pv,tv,.str ar,(F z' d).2.2.1],(F z' d).2.1.set (M.length+1) (.cells true 0 [pv,tv,.str ar,(F z' d).2.2.1])):=by
  clear hpv htv;simp only[ar] at I' T';rcases hl with⟨rfl,rfl⟩ | ⟨o,hb,hR,rfl⟩
  ·simp[-Bool.exists_bool,-getElem?_pos,-AV.kS,-AV.known,-AV.cells,-bk,-List.all_eq_true,vS,mS,cM,aR,aU,hG,f9,ar,eM,c1,c2,Yj,I',T',Yh,hF4,hF5,hF6,hF8]
   refine⟨_,⟨?_,?_,?_,?_⟩,_,rfl,rfl⟩<;>rfl
  ·have lb:=(gL hb)
   have UV :∀Z,(M++Z)[b]? =some (.cells o 12 R):=fun Z=>by rw[List.getElem?_append_left lb];exact hb
   have hR2:n*12≤R.length:=by omega
   simp[-Bool.exists_bool,-getElem?_pos,-AV.kS,-AV.known,-AV.cells,-bk,-List.all_eq_true,vS,mS,cM,aR,aU,hG,f9,ar,eM,c1,c2,Yj,UV,hR2,h3,I',T',Yh,hF4,hF5,hF6,hF8];refine⟨_,⟨?_,?_,?_,?_⟩,_,rfl,rfl⟩<;>rfl
 obtain⟨r,h1,z',d,h2,rfl⟩:=h;exact⟨z',d,h2,h1⟩
theorem aeN.af9{e:aeN}(h:d.cells=e.cells):d=e:=by obtain⟨a,⟨a1,a2,a3⟩,⟨b1,b2,b3⟩,c,k1,k2,k3,k4⟩:=d;obtain⟨a',⟨a1',a2',a3'⟩,⟨b1',b2',b3'⟩,c',k1',k2',k3',k4'⟩:=e;simp only[aeN.cells,List.cons.injEq,AV.int.injEq,true_and,and_true,Int.ofNat_inj] at h;obtain⟨rfl,rfl,rfl,rfl,rfl,rfl,rfl,rfl,rfl,rfl,rfl,rfl⟩:=h;rfl
theorem OW(s:aeE)(hs:s.Ok)(ds:List aeN)(hd:∀d∈ds,d.Ok)(p t:Nat):∃O:adM,kP prog O∧(∀N,O (.fn 27) [.agg [.int .u8 s.kind,.int .i8 s.sx,.int .i8 s.sy,.bool s.half]] N=some ⟨shB s N.length (N.length+1),none,[.cells true 2 (pC s.P),.cells true 3 (tC s.T)]⟩)∧
  ∀(N:Mem) (k:Nat) o o',N[p]? =some (.cells o 2 (pC s.P))→N[t]? =some (.cells o' 3 (tC s.T))→k<6→∀d∈ds,∃ev x1 x2 x3 x4 x5,O (.fn 28) [shB s p t,.agg d.cells,.int .i64 k] N=some ⟨.agg ev,none,[x1,x2,x3,x4,x5]⟩∧afE s (bJ d k) N ev x1 x2 x3 x4 x5:=by
 classical
 let Q:aeN×Nat×Mem→HS→Prop:=fun i r=>∃ev x1 x2 x3 x4 x5,r=⟨.agg ev,none,[x1,x2,x3,x4,x5]⟩∧kF prog 28 [shB s p t,.agg i.1.cells,.int .i64 i.2.1] i.2.2 (.agg ev) (i.2.2++[x1,x2,x3,x4,x5])∧afE s (bJ i.1 i.2.1) i.2.2 ev x1 x2 x3 x4 x5
 let q:aeN×Nat×Mem→Prop:=fun i=>i.1∈ds∧i.2.1<6∧∃o o',i.2.2[p]? =some (.cells o 2 (pC s.P))∧i.2.2[t]? =some (.cells o' 3 (tC s.T))
 have hQ:∀i,q i→∃r,Q i r:=fun i ⟨h1,h2,o,o',h3,h4⟩=>by obtain⟨ev,x1,x2,x3,x4,x5,g1,g2⟩:=Lp s i.1 (hd _ h1) i.2.1 h2 i.2.2 p t o o' h3 h4;exact⟨_,ev,x1,x2,x3,x4,x5,rfl,g1,g2⟩
 obtain⟨R,hR⟩:∃R:aeN×Nat×Mem→HS,∀i,q i→Q i (R i):=
  ⟨fun i=>if h:∃r,Q i r then Classical.choose h else⟨.undef,none,[]⟩,fun i hi=>by have h:=hQ i hi;simp only[dif_pos h];exact Classical.choose_spec h⟩
 obtain⟨O,hO,hf⟩:=jY (P:=prog) (ι:=(aeN×Nat×Mem) ⊕ Mem) (Sum.elim q fun _=>True) (Sum.elim (fun _=>.fn 28) fun _=>.fn 27)
  (Sum.elim (fun i=>[shB s p t,.agg i.1.cells,.int .i64 i.2.1]) fun _=>[.agg [.int .u8 s.kind,.int .i8 s.sx,.int .i8 s.sy,.bool s.half]]) (Sum.elim (fun i=>i.2.2) id) (Sum.elim R fun N=>⟨shB s N.length (N.length+1),none,[.cells true 2 (pC s.P),.cells true 3 (tC s.T)]⟩)
  (by
   rintro (i | N) hi
   ·obtain⟨ev,x1,x2,x3,x4,x5,e1,e2,_⟩:=hR i hi
    simp only[Sum.elim_inl];rw[e1];exact af e2
   ·exact af (K7 s hs N))
  (by
   rintro (i | N) (j | N') hi hj h1 h2 h3
   ·simp only[Sum.elim_inl,List.cons.injEq,AV.agg.injEq,AV.int.injEq,true_and,and_true,Int.ofNat_inj] at h2 h3 ⊢
    rw[show i=j from Prod.ext (aeN.af9 h2.1) (Prod.ext h2.2 h3)]
   ·simp at h1
   ·simp at h1
   ·simp only[Sum.elim_inr,id] at h3 ⊢
    rw[h3])
 refine⟨O,hO,fun N=>hf (.inr N) trivial,fun N k o o' h1 h2 h3 d hdd=>?_⟩;have hi:q (d,k,N):=⟨hdd,h3,o,o',h1,h2⟩;obtain⟨ev,x1,x2,x3,x4,x5,e1,_,e3⟩:=hR _ hi;have:=hf (.inl (d,k,N)) hi;simp only[Sum.elim_inl] at this;rw[e1] at this;exact⟨ev,x1,x2,x3,x4,x5,this,e3⟩
theorem Lb(s:aeE)(hs:s.Ok)(ds:List aeN)(hd:∀d∈ds,d.Ok)(h3l:ds.length≤3)(M:Mem)(a:AV)(hx:(ds=[]∧a=.kK)∨∃b o,M[b]? =some (.cells o 12 (fO ds))∧a=.slice b 0 ds.length none):
  ∃q evs cs new,kF prog 9 [iA s a] M (.agg (aP s (M.length+2) (M.length+3) q cs.length)) (M++new)∧ae2 s (M.length+2) (M.length+3) q evs cs (M++new)∧OkN (M.length+new.length) new∧(ar::(cs.map unE).flatten).Nodup∧cs.length=ds.length:=by
 obtain⟨O,hOk,eM,hO⟩:=OW s hs ds hd (M.length+2) (M.length+3);have lp:=(fI s).1;have lt:=MT s;obtain⟨bx,ZQ⟩:∃x:aeD,x=.cells true 0 [.int .u8 s.kind,.int .i8 s.sx,.int .i8 s.sy,.bool s.half,a]:=⟨_,rfl⟩
 obtain⟨pv,hpv⟩:∃pv,pv=AV.slice (M.length+2) 0 s.P.length none:=⟨_,rfl⟩
 obtain⟨tv,htv⟩:∃tv,tv=AV.slice (M.length+3) 0 s.T.length none:=⟨_,rfl⟩
 obtain⟨N0,Y4⟩:∃N0,N0=M++[bx,.cells true 0 [.kK,.kK,.str [],.kK],.cells true 2 (pC s.P),.cells true 3 (tC s.T),.cells true 0 [pv,tv,.str ar,.kK]]:=⟨_,rfl⟩
 have hl0:N0.length=M.length+5:=by rw[Y4];simp
 have XR:N0[M.length+4]? =some (.cells true 0 [pv,tv,.str ar,.kK]):=by rw[Y4,dC];rfl
 have hz:N0[M.length+1]? =some (.cells true 0 [.kK,.kK,.str [],.kK]):=by rw[Y4,dC];rfl
 have hp:N0[M.length+2]? =some (.cells true 2 (pC s.P)):=by rw[Y4,dC];rfl
 have ht:N0[M.length+3]? =some (.cells true 3 (tC s.T)):=by rw[Y4,dC];rfl
 obtain⟨w,hw⟩:∃w,ai f9=[w]:=⟨_,rfl⟩
 obtain⟨b,hl,YU,car,rar⟩:∃b,((ds=[]∧a=.kK)∨∃o,M[b]? =some (.cells o 12 (fO ds))∧a=.slice b 0 ds.length none)∧((ds.length=0∧a=.kK)∨∃o,M[b]? =some (.cells o 12 (fO ds))∧(fO ds).length=ds.length*12∧a=.slice b 0 ds.length none)∧a.kS=true∧a.y9 (fun b=>decide (b<M.length))=true:=by
  rcases hx with⟨rfl,rfl⟩ | ⟨b,o,h1,rfl⟩
  ·exact⟨0,.inl ⟨rfl,rfl⟩,.inl ⟨rfl,rfl⟩,rfl,rfl⟩
  ·exact⟨b,.inr ⟨o,h1,rfl⟩,.inr ⟨o,h1,Dd ds,rfl⟩,rfl,by simp only[AV.y9,decide_eq_true_eq];exact(gL h1)⟩
 have aay :=XR;rw[hpv,htv] at aay;obtain⟨F,hF⟩:=I7 hd h3l Y4 hl hp ht (by omega) aay hO hw;have hE:∀{N i E cs evs},CpI N0 (M.length+4) (.slice (M.length+2) 0 s.P.length none) (.slice (M.length+3) 0 s.T.length none) cs N i E evs→E.kS=true:=fun I=>by rcases I.row with⟨_,rfl⟩ | ⟨_,rfl,_⟩<;>rfl
 have eM' :=eM (M++[bx,.cells true 0 [.kK,.kK,.str [],.kK]]);rw[show(M++[bx,aeD.cells true 0 [.kK,.kK,.str [],.kK]]).length=M.length+2 by simp] at eM';obtain⟨z',d,Yu,hr⟩:=LS (F:=F) (M:=M) (s:=s) (a:=a) (pv:=pv) (tv:=tv) hw YU h3l hpv htv (by rw[←ZQ,hpv,htv];exact eM') (by rw[←ZQ,←Y4];exact fun z' d h=>(hF z' d h).1) (fun z' d h=>by rw[hpv,htv];exact(hF z' d h).2.1.1.cell) (fun z' d h=>by rw[(hF z' d h).2.1.1.same _ (by omega) (by omega)];exact hz)
  (fun z' d h=>hE (hF z' d h).2.1.1) (fun z' d h=>(hF z' d h).2.2.1) (fun z' d h=>(hF z' d h).2.2.2) (fun z' d h=>by have:=(hF z' d h).2.1.1.len;omega)
 obtain⟨I,Y3,YX⟩:=(hF z' d Yu).2.1;have Yz:=aO ae (aq _) hOk (au _) hr;obtain⟨E,hEe⟩:∃E,E=(F z' d).2.2.1:=⟨_,rfl⟩
 obtain⟨cs,YO⟩:∃x,x=(F z' d).2.2.2.1:=⟨_,rfl⟩
 obtain⟨evs,aaF⟩:∃x,x=(F z' d).2.2.2.2:=⟨_,rfl⟩
 obtain⟨N,hN⟩:∃x,x=(F z' d).2.1:=⟨_,rfl⟩
 rw[←hEe,←hN] at Yz;rw[←hEe,←aaF,←YO,←hN,←hpv,←htv] at I;rw[←YO] at Y3 YX;obtain⟨N',ZR⟩:∃x,x=N.set (M.length+1) (.cells true 0 [pv,tv,.str ar,E]):=⟨_,rfl⟩
 rw[←ZR] at Yz;have hNz:N[M.length+1]? =some (.cells true 0 [.kK,.kK,.str [],.kK]):=by rw[I.same _ (by omega) (by omega)];exact hz
 have hk:ae5 N N' :=by rw[ZR];exact ae5.set hNz (.inl rfl) _
 have aaM :∃new,N' =M++new:=by
  refine⟨N'.drop M.length,?_⟩;refine List.ext_getElem? fun i=>?_
  by_cases hi:i<M.length
  ·rw[List.getElem?_append_left hi,ZR,List.getElem?_set_ne (by omega),I.same i (by omega) (by omega),Y4,List.getElem?_append_left hi]
  ·rw[List.getElem?_append_right (by omega),List.getElem?_drop]
   congr 1;omega
 obtain⟨new,Yx⟩:=aaM;have hv:AV.agg [pv,tv,.str ar,E]=.agg (aP s (M.length+2) (M.length+3) (qOf E) cs.length):=by
  rw[hpv,htv,Y3];rcases I.row with⟨h0,rfl⟩ | ⟨kr,rfl,h0,_⟩
  ·unfold aP evV;rw[if_pos h0]
  ·unfold aP evV;rw[if_neg (by omega)];rfl
 rw[hv,Yx] at Yz;have ab7:N'.length=N.length:=by rw[ZR,List.length_set]
 have hge:M.length+5≤N.length:=by have:=I.len;omega
 have H':∀(k:Nat) x,M.length≤k→N'[k]? =some x→gm x=true∧x.y9 (fun b=>decide (b<N'.length))=true:=by
  intro k x hk hx;rw[ab7];have Yb :E.y9 (fun b=>decide (b<N.length))=true:=by
   rcases I.row with⟨_,rfl⟩ | ⟨kr,rfl,_,_,hr⟩
   ·rfl
   ·simp only[AV.y9,decide_eq_true_eq];exact(gL hr)
  have pvr:pv.y9 (fun b=>decide (b<N.length))=true:=by rw[hpv];simp only[AV.y9,decide_eq_true_eq];omega
  have tvr:tv.y9 (fun b=>decide (b<N.length))=true:=by rw[htv];simp only[AV.y9,decide_eq_true_eq];omega
  have Zg:∀y,y=aeD.cells true 0 [pv,tv,.str ar,E]→gm y=true∧y.y9 (fun b=>decide (b<N.length))=true:=by rintro y rfl;exact⟨rfl,by simp only[fg,AV.aeB,wQ,pvr,tvr,Yb,Bool.and_self]⟩
  by_cases k1:k=M.length+1
  ·subst k1
   rw[ZR,List.getElem?_set_self (by omega)] at hx;exact Zg x (Option.some.inj hx).symm
  rw[ZR,List.getElem?_set_ne (by omega)] at hx;by_cases k2:k=M.length+4
  ·subst k2
   rw[I.cell] at hx;exact Zg x (Option.some.inj hx).symm
  by_cases k0:k<N0.length
  ·rw[I.same k k0 k2,Y4] at hx
   obtain⟨j,rfl⟩:∃j,k=M.length+j:=⟨k-M.length,by omega⟩
   rw[dC] at hx
   match j,hx with
   |0,hx=>
    cases hx;have r1:a.y9 (fun b=>decide (b<N.length))=true:=AV.aeH (fun b hb=>by simp only[decide_eq_true_eq] at hb ⊢;omega) a rar;rw[ZQ];exact⟨rfl,by simp only[fg,AV.aeB,AV.y9,r1,Bool.and_self]⟩
   |1,_=>omega
   |2,hx=>cases hx;exact⟨rfl,wM _ _⟩
   |3,hx=>cases hx;exact⟨rfl,wW _ _⟩
   |4,_=>omega
   |j+5,hx=>simp at hx
  ·exact I.ok k x (by omega) hx
 have Z0:(ar::(cs.map unE).flatten).Nodup:=by
  match cs,ds,Y3,YX,h3l with
  | [],[],_,_,_=>simp
  | [c0],[d0],_,YX,_=>
   obtain⟨_,e0,f0,g0⟩:=YX 0 c0 rfl;cases f0;simpa [g0] using KN d0
  | [c0,c1],[d0,d1],_,YX,_=>
   obtain⟨_,e0,f0,g0⟩:=YX 0 c0 rfl;obtain⟨_,e1,f1,g1⟩:=YX 1 c1 rfl;cases f0;cases f1;simpa [g0,g1] using KO d0 d1
  | [c0,c1,c2],[d0,d1,d2],_,YX,_=>
   obtain⟨_,e0,f0,g0⟩:=YX 0 c0 rfl;obtain⟨_,e1,f1,g1⟩:=YX 1 c1 rfl;obtain⟨_,e2,f2,g2⟩:=YX 2 c2 rfl;cases f0;cases f1;cases f2;simpa [g0,g1,g2] using KP d0 d1 d2
  |_,_::_::_::_::_,_,_,h=>simp at h
  |_::_::_::_::_,[_,_,_],h,_,_=>simp at h
 refine⟨_,evs,cs,new,Yz,?_,.of fun x hx=>?_,Z0,Y3⟩
 rotate_left
 ·obtain⟨i,hi⟩:=List.getElem?_of_mem hx
  have:=H' (M.length+i) x (by omega) (by rw[Yx,dC];exact hi)
  rwa [Yx,List.length_append] at this
 rw[←Yx];have agF:∀(k es:Nat) (C:List AV),es=1∨es=2∨es=3→k<N0.length→N0[k]? =some (.cells true es C)→N'[k]? =some (.cells true es C):=fun k es C he Zn h=>hk k true es C he (by rw[I.same k Zn (by rintro rfl;rw[XR] at h;cases h;omega)];exact h)
 refine⟨⟨true,agF _ _ _ (.inr (.inl rfl)) (by omega) hp⟩,⟨true,agF _ _ _ (.inr (.inr rfl)) (by omega) ht⟩,fun PP=>?_,by rw[I.evl,Y3],by omega,fun c hc=>?_,fun i ev c h1 h2=>(I.con i ev c h1 h2).upd hk⟩
 ·rcases I.row with⟨h0,rfl⟩ | ⟨kr,rfl,h0,hge,hr⟩
  ·exact absurd (List.eq_nil_of_length_eq_zero (by rw[I.evl];exact h0)) PP
  ·exact⟨true,show N'[kr]? =some (.cells true 32 evs.flatten) by rw[ZR,List.getElem?_set_ne (by omega)];exact hr⟩
 ·obtain⟨i,hi⟩:=List.getElem?_of_mem hc
  exact(YX i c hi).1
end Go.Proofs
