/- See P53. -/
import Derived.Test.YtmhkeaphiadacaaGreatDoorP39
set_option linter.all false
set_option maxRecDepth 100000
set_option maxHeartbeats 40000000
namespace Go.Proofs
open Go.Eng
open Tryz
structure Tryz.abo (s:aaf) (U:List (List UInt8)) (N:Mem) (ev:List AV) (x1 x2 x3 x4 x5:aae):Prop where
 c:∃c:Evc,Tryz.Good s c∧unE c=U∧∀M',aaz N.length [x1,x2,x3,x4,x5] M' →aaI M' ev c
 l:ev.length=32
 ck:ev.all AV.qK=true
 r:aaZ (N.length+5) ev
 o:OkN (N.length+5) [x1,x2,x3,x4,x5]
theorem LK(s:aaf)(d:aao)(hd:d.Ok)(i:Nat)(hi:i<6)(M:Mem)(p t:Nat)(o o' :Bool)(hp:M[p]? =some (.cells o 2 (pC s.P)))(ht:M[t]? =some (.cells o' 3 (tC s.T))):
  ∃ev x1 x2 x3 x4 x5,mB prog 9 [shB s p t,.agg d.cells,.int .i64 i] M (.agg ev) (M++[x1,x2,x3,x4,x5])∧abo s (bI d i) M ev x1 x2 x3 x4 x5:=by
 obtain⟨ev,x1,x2,x3,x4,x5,h1,⟨_,h2⟩,_,⟨h3,_⟩,h4,h5,⟨a1,a2,a3,a4,a5⟩,h7⟩:=LJ s d hd i hi M p t o o' hp ht;obtain⟨b1,b2,b3,b4,b5⟩:=h7 (M.length+5) (Nat.le_refl _);refine⟨ev,x1,x2,x3,x4,x5,h1,h2,h3,List.all_eq_true.2 h4,.of (h5 _ (Nat.le_refl _)),.of fun x hx=>?_⟩;simp only[List.mem_cons,List.not_mem_nil,or_false] at hx;rcases hx with rfl | rfl | rfl | rfl | rfl
 ·exact⟨a1,b1⟩
 ·exact⟨a2,b2⟩
 ·exact⟨a3,b3⟩
 ·exact⟨a4,b4⟩
 ·exact⟨a5,b5⟩
variable{E pv tv:AV}{N N0:Mem}{cs:List Evc}{evs:List (List AV)}{i kc:Nat}
theorem CpI.ext(H:CpI N0 kc pv tv cs N i E evs)(hi:cs.length=i)(c:Evc):CpI N0 kc pv tv (cs++[c]) N i E evs:=
 ⟨H.len,H.same,H.cell,H.evl,H.row,fun k e c' h1 h2=>by have:=(List.getElem?_eq_some_iff.1 h1).1;rw[H.evl] at this;rw[List.getElem?_append_left (by omega)] at h2;exact H.con k e c' h1 h2,H.aa3,H.ok⟩
theorem kz(e:aao)(l:List aao):gN (e::l)=e.cells++gN l:=rfl
theorem zo{α:Type}{a b:Prop}{p q:α→Prop}(ha:a)(hb:b)(h:∃s,p s∧q s):∃s,a∧b∧p s∧q s:=by obtain⟨s,h1,h2⟩:=h;exact⟨s,ha,hb,h1,h2⟩
theorem Kg:∀{ds:List aao}{i:Nat}{d:aao},ds[i]? =some d→((gN ds).drop (i*12)).take 12=d.cells∧i*12+12≤(gN ds).length
 | [],i,d,h=>by simp at h
 |e::l,0,d,h=>by simp at h;subst h;have h1:e.cells.length=12:=rfl;exact⟨by rw[kz,Nat.zero_mul,List.drop_zero,List.take_append_of_le_length (by omega),List.take_of_length_le (by omega)],by rw[kz,List.length_append];omega⟩
 |e::l,i+1,d,h=>by have h1:e.cells.length=12:=rfl;obtain⟨a,b⟩:=Kg (ds:=l) (i:=i) (d:=d) (by simpa using h);refine⟨?_,by rw[kz,List.length_append];omega⟩;rw[kz,List.drop_append,List.drop_of_length_le (by omega),List.nil_append,h1,show(i+1)*12-12=i*12 by omega];exact a
theorem Dl:∀ds:List aao,(gN ds).length=ds.length*12
 | []=>rfl
 |e::l=>by have h1:e.cells.length=12:=rfl;rw[kz,List.length_append,Dl l,h1,List.length_cons];omega
variable{M Y:Mem}{O:aac}{b p t:Nat}{d:aao}{ds:List aao}{o1 o2:Bool}{s:aaf}{w:Code}
theorem Jr(hd:∀d∈ds,d.Ok)(h3l:ds.length≤3){K m1:Nat}{o:Bool}(Xq:N0=M++Y)(hb:M[b]? =some (.cells o 12 (gN ds)))(hp:N0[p]? =some (.cells o1 2 (pC s.P)))(ht:N0[t]? =some (.cells o2 3 (tC s.T)))(hkM:M.length≤kc)(hk0:kc<N0.length)(hl:cs.length=i)(I:CpI N0 kc (.slice p 0 s.P.length none) (.slice t 0 s.T.length none) cs N i E evs)(hdd:ds[i]? =some d)(hO:∀(N:Mem) (k:Nat) o o',N[p]? =some (.cells o 2 (pC s.P))→N[t]? =some (.cells o' 3 (tC s.T))→k<6→∀d∈ds,∃ev x1 x2 x3 x4 x5,O (.fn 9) [shB s p t,.agg d.cells,.int .i64 k] N=some ⟨.agg ev,none,[x1,x2,x3,x4,x5]⟩∧abo s (bI d k) N ev x1 x2 x3 x4 x5)(hw:aj f8=[w]){y':Env}{dd:Bool}(h16:aa y' 16=.slice b 0 ds.length none)(h17:aa y' 17=.int .i64 ds.length)(h3:aa y' 3=.ptr kc 0):
  ∃N' E' ev c s',Tryz.Good s c∧unE c=bI d i∧aQ (aC prog) (fun _=>[18,18,18]) O K 35 M.length true w ⟨az [18,18,18] (ab w) y' ((18,.int .i64 (i:Int))::y'),N,dd⟩=some (.normal,s')∧qV [18,18,18] (ab w) y' m1 s' =⟨az [18,18,18] (ab w) y' ((18,.int .i64 ((i+1:Nat):Int))::y'),N',dd⟩∧
   CpI N0 kc (.slice p 0 s.P.length none) (.slice t 0 s.T.length none) (cs++[c]) N' (i+1) E' (evs++[ev]):=by
 have AC:=(List.getElem?_eq_some_iff.1 hdd).1;have hll:=I.len;have lb:=(List.getElem?_eq_some_iff.1 hb).1;have lp:=(List.getElem?_eq_some_iff.1 hp).1;have lt:=(List.getElem?_eq_some_iff.1 ht).1;have hl0:M.length≤N0.length:=by rw[Xq,List.length_append];omega
 have hkN:kc<N.length:=by omega
 have hbN:N[b]? =some (.cells o 12 (gN ds)):=by rw[I.same b (by omega) (by omega),Xq,List.getElem?_append_left lb];exact hb
 have hpk:p≠kc:=by rintro rfl;have:=I.cell;rw[I.aa3 p o1 2 _ (.inr (.inl rfl)) hp] at this;cases this
 have htk:t≠kc:=by rintro rfl;have:=I.cell;rw[I.aa3 t o2 3 _ (.inr (.inr rfl)) ht] at this;cases this
 have hpN:N[p]? =some (.cells o1 2 (pC s.P)):=by rw[I.same p lp hpk];exact hp
 have htN:N[t]? =some (.cells o2 3 (tC s.T)):=by rw[I.same t lt htk];exact ht
 have lpN:=(List.getElem?_eq_some_iff.1 hpN).1;have ltN:=(List.getElem?_eq_some_iff.1 htN).1;obtain⟨r1,r2⟩:=Kg hdd;obtain⟨ev,x1,x2,x3,x4,x5,eD,DF⟩:=hO (N++[.cells true 0 d.cells]) i o1 o2 (by rw[List.getElem?_append_left lpN];exact hpN) (by rw[List.getElem?_append_left ltN];exact htN) (by omega) d (List.mem_of_getElem? hdd);obtain⟨c,gc,uc,hc⟩:=DF.c;have lev:=DF.l;have lN1:(N++[aae.cells true 0 d.cells]).length=N.length+1:=by simp
 have rev:=DF.r;have oX:=DF.o;rw[lN1] at rev oX hc;have Zj:∀x∈evs,x.length=32:=fun x hx=>by obtain⟨k,hk⟩:=List.getElem?_of_mem hx;have h1:=(List.getElem?_eq_some_iff.1 hk).1;rw[I.evl] at h1;exact(I.con k x _ hk (List.getElem?_eq_getElem (by omega))).l32
 have YV:evs.flatten.length=i*32:=by rw[NP Zj,I.evl]
 have hER:∀m,AV.aaa (fun b=>decide (b<N.length+m)) evs.flatten=true:=fun m=>dI fun x hx=>by obtain⟨k,hk⟩:=List.getElem?_of_mem hx;have h1:=(List.getElem?_eq_some_iff.1 hk).1;rw[I.evl] at h1;exact(I.con k x _ hk (List.getElem?_eq_getElem (by omega))).refs m
 have h:∃N2 s',N2.length=N.length∧((i=0∧N2=N)∨∃kr,E=.slice kr 0 i none∧0<i∧N2=N.set kr .qF)∧aQ (aC prog) (fun _=>[18,18,18]) O K 35 M.length true w ⟨az [18,18,18] (ab w) y' ((18,.int .i64 (i:Int))::y'),N,dd⟩=some (.normal,s')∧
   qV [18,18,18] (ab w) y' m1 s' =⟨az [18,18,18] (ab w) y' ((18,.int .i64 ((i+1:Nat):Int))::y'),N2.set kc (.cells true 0 [.slice p 0 s.P.length none,.slice t 0 s.T.length none,.str bm,.slice (N.length+7) 0 (i+1) none])++[.cells true 0 d.cells,x1,x2,x3,x4,x5,.cells true 32 ev,.cells true 32 (evs.flatten++ev)],dd⟩:=by
  have WM :=bH (rfl:aP f8=_) (ls:=[[0,1,0,4,0,0,60,124,255,511,1023]]) (by kernel_rfl);simp only[aP,bQ,f8,List.nil_append,List.append_nil,List.map_cons,List.map_nil,List.cons.injEq,and_true] at WM;have w1:IntKind.i64.wrap ((i:Int)+1)=((i+1:Nat):Int):=by rw[ai (by omega) (by omega)];omega
  have WB:∀j,(N.length+j<M.length)=False:=fun j=>by rw[eq_iff_iff,iff_false];omega
  have Z0:(N.length<M.length)=False:=by rw[eq_iff_iff,iff_false];omega
  have hkm:¬kc<M.length:=by omega
  have cev:=DF.ck;have gev:(∀y:AV,y∈ev→y.qK=true)=True:=eq_true (List.all_eq_true.1 cev);have t32:ev.take 32=ev:=List.take_of_length_le (by omega);obtain⟨dc,hdc⟩:∃dc,dc=d.cells:=⟨_,rfl⟩
  have ldc:dc.length=12:=by rw[hdc];rfl
  have cdc:dc.all AV.qK=true:=by rw[hdc];rfl
  have gdc:(∀y:AV,y∈dc→y.qK=true)=True:=eq_true (List.all_eq_true.1 cdc);have t12:dc.take 12=dc:=List.take_of_length_le (by omega);have rdc:∀f,AV.aaa f dc=true:=fun f=>by rw[hdc];rfl
  rw[←hdc] at r1 eD;rw[←hdc];have rev6:=rev (fun b=>decide (b<N.length+6)) (by intro b hb;simp only[decide_eq_true_eq];omega);have rev7:=rev (fun b=>decide (b<N.length+7)) (by intro b hb;simp only[decide_eq_true_eq];omega);have rev8:=rev (fun b=>decide (b<N.length+8)) (by intro b hb;simp only[decide_eq_true_eq];omega);have oX6:=oX (fun b=>decide (b<N.length+6)) (by intro b hb;simp only[decide_eq_true_eq];omega);simp only[List.all_cons,List.all_nil,Bool.and_true,Bool.and_eq_true] at oX6;obtain⟨⟨a1,b1⟩,⟨a2,b2⟩,⟨a3,b3⟩,⟨a4,b4⟩,a5,b5⟩:=oX6;have p2:∀j,(p<N.length+j)=True:=fun j=>by rw[eq_iff_iff,iff_true];omega
  have t2:∀j,(t<N.length+j)=True:=fun j=>by rw[eq_iff_iff,iff_true];omega
  have k2:∀j,(kc<N.length+j)=True:=fun j=>by rw[eq_iff_iff,iff_true];omega
  have k5:∀j,(N.length+j≤kc)=False:=fun j=>by rw[eq_iff_iff,iff_false];omega
  have k3:∀j,(kc=N.length+j)=False:=fun j=>by rw[eq_iff_iff,iff_false];omega
  have k4:(kc=N.length)=False:=by rw[eq_iff_iff,iff_false];omega
  have k6:∀j,(N.length+j=kc)=False:=fun j=>by rw[eq_iff_iff,iff_false];omega
  have k7:(N.length=kc)=False:=by rw[eq_iff_iff,iff_false];omega
  have E_8:=hER 8;have bi:i*12+12≤(gN ds).length:=r2;obtain⟨R,hR⟩:∃R,R=gN ds:=⟨_,rfl⟩
  rw[←hR] at r1 bi hbN;obtain⟨Fl,hFl⟩:∃Fl,Fl=evs.flatten:=⟨_,rfl⟩
  rw[←hFl] at YV E_8 ⊢;obtain⟨n,hn⟩:∃n,n=ds.length:=⟨_,rfl⟩
  rw[←hn] at h16 h17 AC;have WK:=I.cell;have hc1:∀Z,(N++Z)[kc]? =some (.cells true 0 [.slice p 0 s.P.length none,.slice t 0 s.T.length none,.str bm,E]):=fun Z=>by rw[List.getElem?_append_left hkN];exact WK
  simp only[shB] at eD;simp[aj,aD,f8] at hw;have row:=I.row;rw[←hFl] at row;clear hO hc DF rev oX hER I hp ht hpN htN hb WK;subst hw;rcases row with⟨rfl,rfl⟩ | ⟨kr,rfl,h0,hkr0,ZL⟩
  ·have:Fl=[]:=List.eq_nil_of_length_eq_zero (by omega)
   subst this;have Zn:∀Z s,(N++Z).set kc s=N.set kc s++Z:=fun Z s=>List.set_append_left _ _ hkN
   refine⟨N,?_⟩;have r1' :R.take 12=dc:=by simpa using r1
   have bi' :12≤R.length:=by simpa using bi
   rw[show((0:Nat):Int)=0 from rfl] at eD;have gS:∀x Z,(N.set kc x++Z)[kc]? =some x:=fun x Z=>by rw[List.getElem?_append_left (by rw[List.length_set];exact hkN),List.getElem?_set_self hkN]
   have dS:∀(x:aae) (Z:Mem) (j:Nat),(N.set kc x++Z).drop (N.length+j)=Z.drop j:=fun x Z j=>by rw[List.drop_append,List.drop_of_length_le (by rw[List.length_set];omega),List.length_set,Nat.add_sub_cancel_left,List.nil_append]
   refine zo rfl (.inl ⟨rfl,rfl⟩) ?_;simp[-getElem?_pos,-AV.qK,-AV.known,-AV.cells,-eI,-bD,-bh,-ay,-AV.HK,-aae.HK,-List.all_eq_true,vS,rS,mS,fa,br WM,cO,eB,fg,cY,cj,iT,bef,Nat.testBit,h16,h17,h3,AC,hbN,r1',bi',ldc,cdc,t12,rdc,hc1,Zn,gS,dS,eD,lev,cev,t32,rev6,rev7,rev8,a1,a2,a3,a4,a5,b1,b2,b3,b4,b5,p2,t2,k2,k3,k4,k5,hkm,Z0];rfl
  ·have lkr:=(List.getElem?_eq_some_iff.1 ZL).1
   have hkr' :∀Z,(N++Z)[kr]? =some (.cells true 32 Fl):=fun Z=>by rw[List.getElem?_append_left lkr];exact ZL
   have tF:Fl.take (i*32)=Fl:=List.take_of_length_le (by omega);have lF:i*32≤Fl.length:=by omega
   have n1:(i+1)*504≤140737488355328:=by omega
   have n2:i+1≤140737488355328:=by omega
   obtain⟨N2,Xp⟩:∃N2,N2=N.set kr .qF:=⟨_,rfl⟩
   have Zm:N2.length=N.length:=by rw[Xp,List.length_set]
   have Zn:∀Z,(N++Z).set kr .qF=N2++Z:=fun Z=>by rw[Xp];exact List.set_append_left _ _ lkr
   have Yj:∀Z s,(N2++Z).set kc s=N2.set kc s++Z:=fun Z s=>List.set_append_left _ _ (by omega)
   have hkk:kr≠kc:=by omega
   have hc2:∀Z,(N2++Z)[kc]? =some (.cells true 0 [.slice p 0 s.P.length none,.slice t 0 s.T.length none,.str bm,.slice kr 0 i none]):=fun Z=>by
    rw[List.getElem?_append_left (by omega),Xp,List.getElem?_set_ne hkk];have:=hc1 []
    rwa [List.append_nil] at this
   have q2:∀j,(kr<N.length+j)=True:=fun j=>by rw[eq_iff_iff,iff_true];omega
   have q3:∀j,(kr=N.length+j)=False:=fun j=>by rw[eq_iff_iff,iff_false];omega
   have q4:(kr=N.length)=False:=by rw[eq_iff_iff,iff_false];omega
   have q5:∀j,(N.length+j≤kr)=False:=fun j=>by rw[eq_iff_iff,iff_false];omega
   have q6:(kc=kr)=False:=by rw[eq_iff_iff,iff_false];omega
   have q7:¬kr<M.length:=by omega
   have m2:∀j Z,(N2++Z)[N.length+j]? =Z[j]? :=fun j Z=>by rw[←Zm];exact dO _ _ _
   refine⟨N2,?_⟩;have gS:∀x Z,(N2.set kc x++Z)[kc]? =some x:=fun x Z=>by rw[List.getElem?_append_left (by rw[List.length_set];omega),List.getElem?_set_self (by omega)]
   have dS:∀(x:aae) (Z:Mem) (j:Nat),(N2.set kc x++Z).drop (N.length+j)=Z.drop j:=fun x Z j=>by rw[List.drop_append,List.drop_of_length_le (by rw[List.length_set];omega),List.length_set,Zm,Nat.add_sub_cancel_left,List.nil_append]
   have gK:∀Z,(N2++Z)[kr]? =some .qF:=fun Z=>by rw[List.getElem?_append_left (by omega),Xp,List.getElem?_set_self (by omega)]
   have dN:∀(Z:Mem) (j:Nat),(N2++Z).drop (N.length+j)=Z.drop j:=fun Z j=>by rw[List.drop_append,List.drop_of_length_le (by omega),Zm,Nat.add_sub_cancel_left,List.nil_append]
   refine zo Zm (.inr ⟨kr,rfl,h0,Xp⟩) ?_;simp[-getElem?_pos,-AV.qK,-AV.known,-AV.cells,-eI,-bD,-bh,-ay,-AV.HK,-aae.HK,-List.all_eq_true,vS,rS,mS,fa,br WM,cO,eB,fg,cY,cj,iT,bef,Nat.testBit,h16,h17,h3,AC,hbN,r1,bi,ldc,cdc,t12,rdc,hc1,hc2,Zn,Yj,hkr',tF,lF,n1,n2,Zm,gS,dS,gK,dN,eD,lev,cev,t32,rev6,rev7,rev8,E_8,a1,a2,a3,a4,a5,b1,b2,b3,b4,b5,p2,t2,k2,k3,k4,k5,q2,q3,q4,q6,q7,hkm,Z0,w1]
 obtain⟨N2,s',Zm,Xp,g1,g2⟩:=h;refine⟨_,.slice (N.length+7) 0 (i+1) none,ev,c,s',gc,uc,g1,g2,?_⟩;have hat:∀(x:aae) (Z:Mem) (k:Nat),(N2.set kc x++Z)[N.length+k]? =Z[k]? :=fun x Z k=>by rw[List.getElem?_append_right (by rw[List.length_set,Zm];omega),List.length_set,Zm,Nat.add_sub_cancel_left]
 refine(I.ext hl c).step (Z:=[.cells true 0 d.cells,x1,x2,x3,x4,x5,.cells true 32 ev,.cells true 32 (evs.flatten++ev)]) hk0 (by rw[←hl,List.getElem?_append_right (Nat.le_refl _),Nat.sub_self];rfl) _ (N.length+7) ⟨fun h0=>?_,fun kr hE=>?_⟩ ⟨by omega,by rw[hat];rfl⟩ (hc _ fun k x hk=>?_) ?_
 ·rcases Xp with⟨_,rfl⟩ | ⟨kr,_,h1,_⟩
  ·rfl
  ·omega
 ·rcases Xp with⟨h1,rfl⟩ | ⟨kr',h,_,rfl⟩
  ·rcases I.row with⟨_,h⟩ | ⟨_,_,h,_⟩
   ·rw[h] at hE;cases hE
   ·omega
  ·rw[h] at hE;cases hE;rfl
 ·rw[Nat.add_assoc,hat]
  match k,hk with
  |0,hk=>exact hk
  |1,hk=>exact hk
  |2,hk=>exact hk
  |3,hk=>exact hk
  |4,hk=>exact hk
  |k+5,hk=>simp at hk
 ·have e8:=oX (fun b=>decide (b<N.length+8)) (by intro b hb;simp only[decide_eq_true_eq];omega)
  have r8:=rev (fun b=>decide (b<N.length+8)) (by intro b hb;simp only[decide_eq_true_eq];omega);have f8:=hER 8;have d8:AV.aaa (fun b=>decide (b<N.length+8)) d.cells=true:=rfl;simp only[List.all_cons,List.all_nil,Bool.and_true,Bool.and_eq_true] at e8;obtain⟨⟨a1,b1⟩,⟨a2,b2⟩,⟨a3,b3⟩,⟨a4,b4⟩,a5,b5⟩:=e8;show List.all _ (fun x=>fj x&&x.HK (fun b=>decide (b<N.length+8)))=true
  simp only[List.all_cons,List.all_nil,gw,du,dm,d8,a1,a2,a3,a4,a5,b1,b2,b3,b4,b5,r8,f8,Bool.and_self]
def zg(s:aaf) (ds:List aao) (N0:Mem) (kc:Nat) (pv tv:AV) (N:Mem) (i:Nat) (E:AV) (cs:List Evc) (evs:List (List AV)):Prop:=
 CpI N0 kc pv tv cs N i E evs∧cs.length=i∧∀(j:Nat) c,cs[j]? =some c→Tryz.Good s c∧∃d,ds[j]? =some d∧unE c=bI d j
theorem Jq(hd:∀d∈ds,d.Ok)(h3l:ds.length≤3){l:AV}(Xq:N0=M++Y)(hl:(ds=[]∧l=.kO)∨∃o,M[b]? =some (.cells o 12 (gN ds))∧l=.slice b 0 ds.length none)(hp:N0[p]? =some (.cells o1 2 (pC s.P)))(ht:N0[t]? =some (.cells o2 3 (tC s.T)))(hkM:M.length≤kc)(WK:N0[kc]? =some (.cells true 0 [.slice p 0 s.P.length none,.slice t 0 s.T.length none,.str bm,.kO]))(hO:∀(N:Mem) (k:Nat) o o',N[p]? =some (.cells o 2 (pC s.P))→N[t]? =some (.cells o' 3 (tC s.T))→k<6→∀d∈ds,∃ev x1 x2 x3 x4 x5,O (.fn 9) [shB s p t,.agg d.cells,.int .i64 k] N=some ⟨.agg ev,none,[x1,x2,x3,x4,x5]⟩∧abo s (bI d k) N ev x1 x2 x3 x4 x5)(hw:aj f8=[w]):
  ∃F:Env→Bool→Env×Mem×(AV×List Evc×List (List AV)),∀y' d,(aa y' 16=l∧aa y' 17=.int .i64 ds.length∧aa y' 3=.ptr kc 0∧aa y' 18=.int .i64 0)→
   aQ (aC prog) (fun _=>[18,18,18]) O 20 35 M.length true (.loop w) ⟨y',N0,d⟩=some (.exit 0,⟨(F y' d).1,(F y' d).2.1,d⟩)∧(zg s ds N0 kc (.slice p 0 s.P.length none) (.slice t 0 s.T.length none) (F y' d).2.1 ds.length (F y' d).2.2.1 (F y' d).2.2.2.1 (F y' d).2.2.2.2∧aa (F y' d).1 2=aa y' 2∧aa (F y' d).1 3=.ptr kc 0):=by
 have hk0:=(List.getElem?_eq_some_iff.1 WK).1;refine kF (L:=[18,18,18]) rfl (fun y'=>aa y' 16=l∧aa y' 17=.int .i64 ds.length∧aa y' 3=.ptr kc 0∧aa y' 18=.int .i64 0) (fun y' z' N' (x:AV×List Evc×List (List AV))=>zg s ds N0 kc (.slice p 0 s.P.length none) (.slice t 0 s.T.length none) N' ds.length x.1 x.2.1 x.2.2∧aa z' 2=aa y' 2∧aa z' 3=.ptr kc 0) ?_;rintro y' d ⟨h16,h17,h3,h18⟩;have hn:az [18,18,18] (ab w) y' ((18,.int .i64 ((0:Nat):Int))::y')=az [18,18,18] (ab w) y' y':=by simp[az,h18]
 rw[←hn];refine jS (α:=Nat×Mem×AV×List Evc×List (List AV)) (fun a=>⟨az [18,18,18] (ab w) y' ((18,.int .i64 (a.1:Int))::y'),a.2.1,d⟩) (fun a=>ds.length-a.1)
  (fun a=>a.1≤ds.length∧zg s ds N0 kc (.slice p 0 s.P.length none) (.slice t 0 s.T.length none) a.2.1 a.1 a.2.2.1 a.2.2.2.1 a.2.2.2.2) (.exit 0) d (fun z' N' =>∃x:AV×List Evc×List (List AV),zg s ds N0 kc (.slice p 0 s.P.length none) (.slice t 0 s.T.length none) N' ds.length x.1 x.2.1 x.2.2∧aa z' 2=aa y' 2∧aa z' 3=.ptr kc 0) (by simp) ?_ 20 (0,N0,.kO,[],[])
  ⟨by simp,⟨Nat.le_refl _,fun _ _ _=>rfl,WK,rfl,.inl ⟨rfl,rfl⟩,fun k e c h=>by simp at h,aaH.refl _,fun k x hk h=>absurd (List.getElem?_eq_some_iff.1 h).1 (Nat.not_lt.2 hk)⟩,rfl,fun j c h=>by simp at h⟩ (by simp only;omega)
 rintro ⟨i,N,E,cs,evs⟩ ⟨hi,I,Xh,XM⟩;simp only at hi I Xh XM;clear hn;by_cases AC:i<ds.length
 ·left
  rcases hl with⟨rfl,_⟩ | ⟨o,hb,rfl⟩
  ·simp at AC
  obtain⟨N',E',ev,c,s',g1,g2,k1,k2,k3⟩:=Jr (K:=20) (m1:=N0.length) (d:=ds[i]) hd h3l Xq hb hp ht hkM hk0 Xh I (List.getElem?_eq_getElem AC) hO hw h16 h17 h3 (dd:=d);refine⟨(i+1,N',E',cs++[c],evs++[ev]),s',k1,k2,⟨by simp only;omega,k3,by simp[Xh],fun j c' hj=>?_⟩,by simp only;omega⟩;by_cases hji:j<cs.length
  ·rw[List.getElem?_append_left hji] at hj
   exact XM j c' hj
  ·rw[List.getElem?_append_right (by omega)] at hj
   have:j-cs.length=0:=by have:=(List.getElem?_eq_some_iff.1 hj).1;simp at this;omega
   rw[this] at hj;simp at hj;subst hj;have hj2:j=i:=by omega
   subst hj2;exact⟨g1,_,List.getElem?_eq_getElem AC,g2⟩
 ·right
  have e:i=ds.length:=by omega
  subst e;have:∃z',aQ (aC prog) (fun _=>[18,18,18]) O 20 35 M.length true w ⟨az [18,18,18] (ab w) y' ((18,.int .i64 (ds.length:Int))::y'),N,d⟩=some (.exit 0,⟨z',N,d⟩)∧aa z' 2=aa y' 2∧aa z' 3=.ptr kc 0:=by clear I WK XM hO;simp[aj,aD,f8] at hw;subst hw;simp[h17,h3]
  obtain⟨z',k1,k2,k3⟩:=this;exact⟨z',N,k1,(E,cs,evs),⟨I,Xh,XM⟩,k2,k3⟩
theorem Mz{a:AV}{n:Nat}{R:List AV}{XP XT:aae}{F:Env→Bool→Env×Mem×(AV×List Evc×List (List AV))}(hw:aj f8=[w])(hl:(n=0∧a=.kO)∨∃o,M[b]? =some (.cells o 12 R)∧R.length=n*12∧a=.slice b 0 n none)(hn:n≤3)(YW:pv=.slice (M.length+2) 0 s.P.length none)(Yi:tv=.slice (M.length+3) 0 s.T.length none)(eM:O (.fn 33) [.agg [.int .u8 s.kind,.int .i8 s.sx,.int .i8 s.sy,.bool s.half]] (M++[.cells true 0 [.int .u8 s.kind,.int .i8 s.sx,.int .i8 s.sy,.bool s.half,a],.cells true 0 [.kO,.kO,.str [],.kO]])=some ⟨.agg [pv,tv],none,[XP,XT]⟩)(H1:∀y' d,(aa y' 16=a∧aa y' 17=.int .i64 n∧aa y' 3=.ptr (M.length+4) 0∧aa y' 18=.int .i64 0)→aQ (aC prog) (fun _=>[18,18,18]) O 20 35 M.length true (.loop w) ⟨y',M++[.cells true 0 [.int .u8 s.kind,.int .i8 s.sx,.int .i8 s.sy,.bool s.half,a],.cells true 0 [.kO,.kO,.str [],.kO],XP,XT,.cells true 0 [pv,tv,.str bm,.kO]],d⟩=some (.exit 0,⟨(F y' d).1,(F y' d).2.1,d⟩))(P':∀y' d,(aa y' 16=a∧aa y' 17=.int .i64 n∧aa y' 3=.ptr (M.length+4) 0∧aa y' 18=.int .i64 0)→(F y' d).2.1[M.length+4]? =some (.cells true 0 [pv,tv,.str bm,(F y' d).2.2.1]))(Xv:∀y' d,(aa y' 16=a∧aa y' 17=.int .i64 n∧aa y' 3=.ptr (M.length+4) 0∧aa y' 18=.int .i64 0)→(F y' d).2.1[M.length+1]? =some (.cells true 0 [.kO,.kO,.str [],.kO]))(hF4:∀y' d,(aa y' 16=a∧aa y' 17=.int .i64 n∧aa y' 3=.ptr (M.length+4) 0∧aa y' 18=.int .i64 0)→(F y' d).2.2.1.qK=true)(hF5:∀y' d,(aa y' 16=a∧aa y' 17=.int .i64 n∧aa y' 3=.ptr (M.length+4) 0∧aa y' 18=.int .i64 0)→aa (F y' d).1 2=aa y' 2)(hF6:∀y' d,(aa y' 16=a∧aa y' 17=.int .i64 n∧aa y' 3=.ptr (M.length+4) 0∧aa y' 18=.int .i64 0)→aa (F y' d).1 3=.ptr (M.length+4) 0)(hF7:∀y' d,(aa y' 16=a∧aa y' 17=.int .i64 n∧aa y' 3=.ptr (M.length+4) 0∧aa y' 18=.int .i64 0)→M.length+1<(F y' d).2.1.length):
  ∃y' d,(aa y' 16=a∧aa y' 17=.int .i64 n∧aa y' 3=.ptr (M.length+4) 0∧aa y' 18=.int .i64 0)∧aK (aC prog) (fun _=>[18,18,18]) (aO prog) O 20 8 [.agg [.int .u8 s.kind,.int .i8 s.sx,.int .i8 s.sy,.bool s.half,a]] M=some (.agg [pv,tv,.str bm,(F y' d).2.2.1],(F y' d).2.1.set (M.length+1) (.cells true 0 [pv,tv,.str bm,(F y' d).2.2.1])):=by
 have hG:aO prog 8=some f8:=by kernel_rfl
 simp[aj,aD,f8] at hw;subst hw;have WB:∀j,(M.length+j<M.length)=False:=fun j=>bK _ _
 have hF8:∀y' d,(aa y' 16=a∧aa y' 17=.int .i64 n∧aa y' 3=.ptr (M.length+4) 0∧aa y' 18=.int .i64 0)→∀s,((F y' d).2.1.set (M.length+1) s)[M.length+1]? =some s:=fun y' d h s=>List.getElem?_set_self (hF7 y' d h)
 have c1:pv.qK=true:=by rw[YW];rfl
 have c2:tv.qK=true:=by rw[Yi];rfl
 have k1:pv.known=true:=by rw[YW];rfl
 have k2:tv.known=true:=by rw[Yi];rfl
 have b1:[110,97,109,101]=[110,97,109,101]:=rfl;have h3:¬(3:Int)<(n:Int):=by omega
 have h:∃r,aK (aC prog) (fun _=>[18,18,18]) (aO prog) O 20 8 [.agg [.int .u8 s.kind,.int .i8 s.sx,.int .i8 s.sy,.bool s.half,a]] M=some r∧∃y' d,(aa y' 16=a∧aa y' 17=.int .i64 n∧aa y' 3=.ptr (M.length+4) 0∧aa y' 18=.int .i64 0)∧r=(.agg [pv,tv,.str bm,(F y' d).2.2.1],(F y' d).2.1.set (M.length+1) (.cells true 0 [pv,tv,.str bm,(F y' d).2.2.1])):=by
  clear YW Yi;simp only[bm] at H1 P';rcases hl with⟨rfl,rfl⟩ | ⟨o,hb,hR,rfl⟩
  ·simp[-Bool.exists_bool,-getElem?_pos,-AV.qK,-AV.known,-AV.cells,-eI,-List.all_eq_true,vS,mS,bO,aL,aK,hG,f8,bm,eM,c1,c2,WB,H1,P',Xv,hF4,hF5,hF6,hF8]
   refine⟨_,⟨?_,?_,?_,?_⟩,_,rfl,rfl⟩<;>rfl
  ·have lb:=(List.getElem?_eq_some_iff.1 hb).1
   have J' :∀Z,(M++Z)[b]? =some (.cells o 12 R):=fun Z=>by rw[List.getElem?_append_left lb];exact hb
   have hR2:n*12≤R.length:=by omega
   simp[-Bool.exists_bool,-getElem?_pos,-AV.qK,-AV.known,-AV.cells,-eI,-List.all_eq_true,vS,mS,bO,aL,aK,hG,f8,bm,eM,c1,c2,WB,J',hR2,h3,H1,P',Xv,hF4,hF5,hF6,hF8];refine⟨_,⟨?_,?_,?_,?_⟩,_,rfl,rfl⟩<;>rfl
 obtain⟨r,h1,y',d,h2,rfl⟩:=h;exact⟨y',d,h2,h1⟩
theorem aao.abR{e:aao}(h:d.cells=e.cells):d=e:=by obtain⟨a,⟨a1,a2,a3⟩,⟨b1,b2,b3⟩,c,k1,k2,k3,k4⟩:=d;obtain⟨a',⟨a1',a2',a3'⟩,⟨XG,Xz,b3'⟩,c',k1',k2',k3',k4'⟩:=e;simp only[aao.cells,List.cons.injEq,AV.int.injEq,true_and,and_true,Int.ofNat_inj] at h;obtain⟨rfl,rfl,rfl,rfl,rfl,rfl,rfl,rfl,rfl,rfl,rfl,rfl⟩:=h;rfl
theorem O3(s:aaf)(hs:s.Ok)(ds:List aao)(hd:∀d∈ds,d.Ok)(p t:Nat):∃O:aac,qS prog O∧(∀N,O (.fn 33) [.agg [.int .u8 s.kind,.int .i8 s.sx,.int .i8 s.sy,.bool s.half]] N=some ⟨shB s N.length (N.length+1),none,[.cells true 2 (pC s.P),.cells true 3 (tC s.T)]⟩)∧
  ∀(N:Mem) (k:Nat) o o',N[p]? =some (.cells o 2 (pC s.P))→N[t]? =some (.cells o' 3 (tC s.T))→k<6→∀d∈ds,∃ev x1 x2 x3 x4 x5,O (.fn 9) [shB s p t,.agg d.cells,.int .i64 k] N=some ⟨.agg ev,none,[x1,x2,x3,x4,x5]⟩∧abo s (bI d k) N ev x1 x2 x3 x4 x5:=by
 classical
 let Q:aao×Nat×Mem→HS→Prop:=fun i r=>∃ev x1 x2 x3 x4 x5,r=⟨.agg ev,none,[x1,x2,x3,x4,x5]⟩∧mB prog 9 [shB s p t,.agg i.1.cells,.int .i64 i.2.1] i.2.2 (.agg ev) (i.2.2++[x1,x2,x3,x4,x5])∧abo s (bI i.1 i.2.1) i.2.2 ev x1 x2 x3 x4 x5
 let q:aao×Nat×Mem→Prop:=fun i=>i.1∈ds∧i.2.1<6∧∃o o',i.2.2[p]? =some (.cells o 2 (pC s.P))∧i.2.2[t]? =some (.cells o' 3 (tC s.T))
 have hQ:∀i,q i→∃r,Q i r:=fun i ⟨h1,h2,o,o',h3,h4⟩=>by obtain⟨ev,x1,x2,x3,x4,x5,g1,g2⟩:=LK s i.1 (hd _ h1) i.2.1 h2 i.2.2 p t o o' h3 h4;exact⟨_,ev,x1,x2,x3,x4,x5,rfl,g1,g2⟩
 obtain⟨R,hR⟩:∃R:aao×Nat×Mem→HS,∀i,q i→Q i (R i):=
  ⟨fun i=>if h:∃r,Q i r then Classical.choose h else⟨.undef,none,[]⟩,fun i hi=>by have h:=hQ i hi;simp only[dif_pos h];exact Classical.choose_spec h⟩
 obtain⟨O,hO,hf⟩:=vt (P:=prog) (ι:=(aao×Nat×Mem) ⊕ Mem) (Sum.elim q fun _=>True) (Sum.elim (fun _=>.fn 9) fun _=>.fn 33)
  (Sum.elim (fun i=>[shB s p t,.agg i.1.cells,.int .i64 i.2.1]) fun _=>[.agg [.int .u8 s.kind,.int .i8 s.sx,.int .i8 s.sy,.bool s.half]]) (Sum.elim (fun i=>i.2.2) id) (Sum.elim R fun N=>⟨shB s N.length (N.length+1),none,[.cells true 2 (pC s.P),.cells true 3 (tC s.T)]⟩)
  (by
   rintro (i | N) hi
   ·obtain⟨ev,x1,x2,x3,x4,x5,e1,e2,_⟩:=hR i hi
    simp only[Sum.elim_inl];rw[e1];exact ak e2
   ·exact ak (Lp s hs N))
  (by
   rintro (i | N) (j | N') hi hj h1 h2 h3
   ·simp only[Sum.elim_inl,List.cons.injEq,AV.agg.injEq,AV.int.injEq,true_and,and_true,Int.ofNat_inj] at h2 h3 ⊢
    rw[show i=j from Prod.ext (aao.abR h2.1) (Prod.ext h2.2 h3)]
   ·simp at h1
   ·simp at h1
   ·simp only[Sum.elim_inr,id] at h3 ⊢
    rw[h3])
 refine⟨O,hO,fun N=>hf (.inr N) trivial,fun N k o o' h1 h2 h3 d hdd=>?_⟩;have hi:q (d,k,N):=⟨hdd,h3,o,o',h1,h2⟩;obtain⟨ev,x1,x2,x3,x4,x5,e1,_,e3⟩:=hR _ hi;have:=hf (.inl (d,k,N)) hi;simp only[Sum.elim_inl] at this;rw[e1] at this;exact⟨ev,x1,x2,x3,x4,x5,this,e3⟩
theorem zR(s:aaf)(hs:s.Ok)(ds:List aao)(hd:∀d∈ds,d.Ok)(h3l:ds.length≤3)(M:Mem)(a:AV)(hx:(ds=[]∧a=.kO)∨∃b o,M[b]? =some (.cells o 12 (gN ds))∧a=.slice b 0 ds.length none):
  ∃q evs cs new,mB prog 8 [kM s a] M (.agg (cI s (M.length+2) (M.length+3) q cs.length)) (M++new)∧aaE s (M.length+2) (M.length+3) q evs cs (M++new)∧OkN (M.length+new.length) new∧(bm::(cs.map unE).flatten).Nodup∧cs.length=ds.length:=by
 obtain⟨O,hOk,eM,hO⟩:=O3 s hs ds hd (M.length+2) (M.length+3);have lp:=(iO s).1;have lt:=Si s;obtain⟨bx,YS⟩:∃x:aae,x=.cells true 0 [.int .u8 s.kind,.int .i8 s.sx,.int .i8 s.sy,.bool s.half,a]:=⟨_,rfl⟩
 obtain⟨pv,YW⟩:∃pv,pv=AV.slice (M.length+2) 0 s.P.length none:=⟨_,rfl⟩
 obtain⟨tv,Yi⟩:∃tv,tv=AV.slice (M.length+3) 0 s.T.length none:=⟨_,rfl⟩
 obtain⟨N0,Xq⟩:∃N0,N0=M++[bx,.cells true 0 [.kO,.kO,.str [],.kO],.cells true 2 (pC s.P),.cells true 3 (tC s.T),.cells true 0 [pv,tv,.str bm,.kO]]:=⟨_,rfl⟩
 have hl0:N0.length=M.length+5:=by rw[Xq];simp
 have WK:N0[M.length+4]? =some (.cells true 0 [pv,tv,.str bm,.kO]):=by rw[Xq,dO];rfl
 have hz:N0[M.length+1]? =some (.cells true 0 [.kO,.kO,.str [],.kO]):=by rw[Xq,dO];rfl
 have hp:N0[M.length+2]? =some (.cells true 2 (pC s.P)):=by rw[Xq,dO];rfl
 have ht:N0[M.length+3]? =some (.cells true 3 (tC s.T)):=by rw[Xq,dO];rfl
 obtain⟨w,hw⟩:∃w,aj f8=[w]:=⟨_,rfl⟩
 obtain⟨b,hl,WZ,car,rar⟩:∃b,((ds=[]∧a=.kO)∨∃o,M[b]? =some (.cells o 12 (gN ds))∧a=.slice b 0 ds.length none)∧((ds.length=0∧a=.kO)∨∃o,M[b]? =some (.cells o 12 (gN ds))∧(gN ds).length=ds.length*12∧a=.slice b 0 ds.length none)∧a.qK=true∧a.HK (fun b=>decide (b<M.length))=true:=by
  rcases hx with⟨rfl,rfl⟩ | ⟨b,o,h1,rfl⟩
  ·exact⟨0,.inl ⟨rfl,rfl⟩,.inl ⟨rfl,rfl⟩,rfl,rfl⟩
  ·exact⟨b,.inr ⟨o,h1,rfl⟩,.inr ⟨o,h1,Dl ds,rfl⟩,rfl,by simp only[AV.HK,decide_eq_true_eq];exact(List.getElem?_eq_some_iff.1 h1).1⟩
 have hcell' :=WK;rw[YW,Yi] at hcell';obtain⟨F,hF⟩:=Jq hd h3l Xq hl hp ht (by omega) hcell' hO hw;have hE:∀{N i E cs evs},CpI N0 (M.length+4) (.slice (M.length+2) 0 s.P.length none) (.slice (M.length+3) 0 s.T.length none) cs N i E evs→E.qK=true:=fun I=>by rcases I.row with⟨_,rfl⟩ | ⟨_,rfl,_⟩<;>rfl
 have eM' :=eM (M++[bx,.cells true 0 [.kO,.kO,.str [],.kO]]);rw[show(M++[bx,aae.cells true 0 [.kO,.kO,.str [],.kO]]).length=M.length+2 by simp] at eM';obtain⟨y',d,Xa,hr⟩:=Mz (F:=F) (M:=M) (s:=s) (a:=a) (pv:=pv) (tv:=tv) hw WZ h3l YW Yi (by rw[←YS,YW,Yi];exact eM') (by rw[←YS,←Xq];exact fun y' d h=>(hF y' d h).1) (fun y' d h=>by rw[YW,Yi];exact(hF y' d h).2.1.1.cell) (fun y' d h=>by rw[(hF y' d h).2.1.1.same _ (by omega) (by omega)];exact hz)
  (fun y' d h=>hE (hF y' d h).2.1.1) (fun y' d h=>(hF y' d h).2.2.1) (fun y' d h=>(hF y' d h).2.2.2) (fun y' d h=>by have:=(hF y' d h).2.1.1.len;omega)
 obtain⟨I,Xh,XM⟩:=(hF y' d Xa).2.1;have W6:=bn af (aw _) hOk (ax _) hr;obtain⟨E,hEe⟩:∃E,E=(F y' d).2.2.1:=⟨_,rfl⟩
 obtain⟨cs,XJ⟩:∃x,x=(F y' d).2.2.2.1:=⟨_,rfl⟩
 obtain⟨evs,Zj⟩:∃x,x=(F y' d).2.2.2.2:=⟨_,rfl⟩
 obtain⟨N,hN⟩:∃x,x=(F y' d).2.1:=⟨_,rfl⟩
 rw[←hEe,←hN] at W6;rw[←hEe,←Zj,←XJ,←hN,←YW,←Yi] at I;rw[←XJ] at Xh XM;obtain⟨N',YH⟩:∃x,x=N.set (M.length+1) (.cells true 0 [pv,tv,.str bm,E]):=⟨_,rfl⟩
 rw[←YH] at W6;have hNz:N[M.length+1]? =some (.cells true 0 [.kO,.kO,.str [],.kO]):=by rw[I.same _ (by omega) (by omega)];exact hz
 have hk:aaH N N' :=by rw[YH];exact aaH.set hNz (.inl rfl) _
 have hpre' :∃new,N' =M++new:=by
  refine⟨N'.drop M.length,?_⟩;refine List.ext_getElem? fun i=>?_
  by_cases hi:i<M.length
  ·rw[List.getElem?_append_left hi,YH,List.getElem?_set_ne (by omega),I.same i (by omega) (by omega),Xq,List.getElem?_append_left hi]
  ·rw[List.getElem?_append_right (by omega),List.getElem?_drop]
   congr 1;omega
 obtain⟨new,Xc⟩:=hpre';have hv:AV.agg [pv,tv,.str bm,E]=.agg (cI s (M.length+2) (M.length+3) (qOf E) cs.length):=by
  rw[YW,Yi,Xh];rcases I.row with⟨h0,rfl⟩ | ⟨kr,rfl,h0,_⟩
  ·unfold cI evV;rw[if_pos h0]
  ·unfold cI evV;rw[if_neg (by omega)];rfl
 rw[hv,Xc] at W6;have lenN:N'.length=N.length:=by rw[YH,List.length_set]
 have hge:M.length+5≤N.length:=by have:=I.len;omega
 have G':∀(k:Nat) x,M.length≤k→N'[k]? =some x→fj x=true∧x.HK (fun b=>decide (b<N'.length))=true:=by
  intro k x hk hx;rw[lenN];have WX :E.HK (fun b=>decide (b<N.length))=true:=by
   rcases I.row with⟨_,rfl⟩ | ⟨kr,rfl,_,_,hr⟩
   ·rfl
   ·simp only[AV.HK,decide_eq_true_eq];exact(List.getElem?_eq_some_iff.1 hr).1
  have pvr:pv.HK (fun b=>decide (b<N.length))=true:=by rw[YW];simp only[AV.HK,decide_eq_true_eq];omega
  have tvr:tv.HK (fun b=>decide (b<N.length))=true:=by rw[Yi];simp only[AV.HK,decide_eq_true_eq];omega
  have YD:∀y,y=aae.cells true 0 [pv,tv,.str bm,E]→fj y=true∧y.HK (fun b=>decide (b<N.length))=true:=by rintro y rfl;exact⟨rfl,by simp only[du,AV.aaa,jV,pvr,tvr,WX,Bool.and_self]⟩
  by_cases k1:k=M.length+1
  ·subst k1
   rw[YH,List.getElem?_set_self (by omega)] at hx;exact YD x (Option.some.inj hx).symm
  rw[YH,List.getElem?_set_ne (by omega)] at hx;by_cases k2:k=M.length+4
  ·subst k2
   rw[I.cell] at hx;exact YD x (Option.some.inj hx).symm
  by_cases k0:k<N0.length
  ·rw[I.same k k0 k2,Xq] at hx
   obtain⟨j,rfl⟩:∃j,k=M.length+j:=⟨k-M.length,by omega⟩
   rw[dO] at hx
   match j,hx with
   |0,hx=>
    cases hx;have r1:a.HK (fun b=>decide (b<N.length))=true:=AV.aak (fun b hb=>by simp only[decide_eq_true_eq] at hb ⊢;omega) a rar;rw[YS];exact⟨rfl,by simp only[du,AV.aaa,AV.HK,r1,Bool.and_self]⟩
   |1,_=>omega
   |2,hx=>cases hx;exact⟨rfl,P8 _ _⟩
   |3,hx=>cases hx;exact⟨rfl,BB _ _⟩
   |4,_=>omega
   |j+5,hx=>simp at hx
  ·exact I.ok k x (by omega) hx
 have Y3:(bm::(cs.map unE).flatten).Nodup:=by
  match cs,ds,Xh,XM,h3l with
  | [],[],_,_,_=>simp
  | [c0],[d0],_,XM,_=>
   obtain⟨_,e0,f0,g0⟩:=XM 0 c0 rfl;cases f0;simpa [g0] using K7 d0
  | [c0,c1],[d0,d1],_,XM,_=>
   obtain⟨_,e0,f0,g0⟩:=XM 0 c0 rfl;obtain⟨_,e1,f1,g1⟩:=XM 1 c1 rfl;cases f0;cases f1;simpa [g0,g1] using K8 d0 d1
  | [c0,c1,c2],[d0,d1,d2],_,XM,_=>
   obtain⟨_,e0,f0,g0⟩:=XM 0 c0 rfl;obtain⟨_,e1,f1,g1⟩:=XM 1 c1 rfl;obtain⟨_,e2,f2,g2⟩:=XM 2 c2 rfl;cases f0;cases f1;cases f2;simpa [g0,g1,g2] using K9 d0 d1 d2
  |_,_::_::_::_::_,_,_,h=>simp at h
  |_::_::_::_::_,[_,_,_],h,_,_=>simp at h
 refine⟨_,evs,cs,new,W6,?_,.of fun x hx=>?_,Y3,Xh⟩
 rotate_left
 ·obtain⟨i,hi⟩:=List.getElem?_of_mem hx
  have:=G' (M.length+i) x (by omega) (by rw[Xc,dO];exact hi)
  rwa [Xc,List.length_append] at this
 rw[←Xc];have row1:∀(k es:Nat) (C:List AV),es=1∨es=2∨es=3→k<N0.length→N0[k]? =some (.cells true es C)→N'[k]? =some (.cells true es C):=fun k es C he hk1 h=>hk k true es C he (by rw[I.same k hk1 (by rintro rfl;rw[WK] at h;cases h;omega)];exact h)
 refine⟨⟨true,row1 _ _ _ (.inr (.inl rfl)) (by omega) hp⟩,⟨true,row1 _ _ _ (.inr (.inr rfl)) (by omega) ht⟩,fun H'=>?_,by rw[I.evl,Xh],by omega,fun c hc=>?_,fun i ev c h1 h2=>(I.con i ev c h1 h2).upd hk⟩
 ·rcases I.row with⟨h0,rfl⟩ | ⟨kr,rfl,h0,hge,hr⟩
  ·exact absurd (List.eq_nil_of_length_eq_zero (by rw[I.evl];exact h0)) H'
  ·exact⟨true,show N'[kr]? =some (.cells true 32 evs.flatten) by rw[YH,List.getElem?_set_ne (by omega)];exact hr⟩
 ·obtain⟨i,hi⟩:=List.getElem?_of_mem hc
  exact(XM i c hi).1
end Go.Proofs
