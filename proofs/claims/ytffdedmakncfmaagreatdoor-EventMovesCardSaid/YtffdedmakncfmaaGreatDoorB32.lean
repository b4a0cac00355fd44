/- See B54. -/
import Derived.Test.YtffdedmakncfmaaGreatDoorB05
import Derived.Test.YtffdedmakncfmaaGreatDoorB18
set_option linter.all false
set_option maxRecDepth 100000
set_option maxHeartbeats 40000000
namespace Go.Proofs
open Go.Eng
open Tryz
theorem xo(a:Int):∀(N:List (Int×Int)) (i:Nat),(qe N a=none→jz (ba prog) 3 (.int .i64 a) (N.map nxE) i=some none)∧∀b,qe N a=some b→∃q,jz (ba prog) 3 (.int .i64 a) (N.map nxE) i=some (some (q,.int .i64 b))
 | [],i=>⟨fun _=>rfl,fun b h=>by cases h⟩
 |p::N,i=>by
  have e:jy (ba prog) 20 3 (.int .i64 a) (.int .i64 p.1)=some (decide (a=p.1)):=by simp[jy]
  simp only[List.map_cons,jz,nxE,e,qe];have Z:=xo a N (i+1);by_cases h:a=p.1
  ·simp only[h,decide_true,if_true]
   exact⟨fun h=>(by cases h),fun b X=>⟨i,(by cases X;rfl)⟩⟩
  ·simp only[h,decide_false,if_false]
   exact Z
theorem T1(d:Nat)(x y:Int):jy (ba prog) (d+1) 3 (.int .i64 x) (.int .i64 y)=some (decide (x=y)):=by rw[jy];simp
theorem T2(a b c d:Int):jy (ba prog) 20 102 (.agg [.int .i64 a,.int .i64 b]) (.agg [.int .i64 c,.int .i64 d])=some (decide (a=c)&&decide (b=d)):=by have r:List.range' 0 2=[0,1]:=rfl;have i:=T1 18;rw[jy];simp only[Kj,Gg,r,VH];simp[jm,TyI.isAgg,i]
theorem xp(a:Int×Int):∀(N:List Sd) (i:Nat),(QY N a=none→jz (ba prog) 102 (.agg [.int .i64 a.1,.int .i64 a.2]) (N.map sdE) i=some none)∧∀b,QY N a=some b→∃q,jz (ba prog) 102 (.agg [.int .i64 a.1,.int .i64 a.2]) (N.map sdE) i=some (some (q,.int .i64 b))
 | [],i=>⟨fun _=>rfl,fun b h=>by cases h⟩
 |p::N,i=>by
  have e:=T2 a.1 a.2 p.1.1 p.1.2;simp only[List.map_cons,jz,sdE,e,QY];have Z:=xp a N (i+1);by_cases h:a.1=p.1.1∧a.2=p.1.2
  ·rw[if_pos h]
   simp only[h.1,h.2,decide_true,Bool.and_true];exact⟨fun h=>(by cases h),fun b X=>⟨i,(by cases X;rfl)⟩⟩
  ·rw[if_neg h]
   have V:(decide (a.1=p.1.1)&&decide (a.2=p.1.2))=false:=by rw[←Bool.not_eq_true];simpa using h
   rw[V];exact Z
def ouO(l:List Int):AV:=match l with
 | []=>.qF
 |_=>.slice 6 0 l.length none
def ouM(y:Mem)(l:List Int):Mem:=match l with
 | []=>y
 |_=>y++[.cells true 1 (iZ l)]
theorem za(n:Nat):∀N:List (Int×Int),(N.map nxE).flatMap (fun e=>e.1.refs n++e.2.refs n)=[]
 | []=>rfl
 |p::N=>by simp[nxE,AV.refs,za n N]
theorem rQ(n:Nat):∀N:List Sd,(N.map sdE).flatMap (fun e=>e.1.refs n++e.2.refs n)=[]
 | []=>rfl
 |p::N=>by simp[sdE,AV.refs,AV.afm,rQ n N]
theorem mE(n:Nat)(N:List (Int×Int)):afb.refs n (.map (N.map nxE))=[]:=za n N
theorem mF(n:Nat)(N:List Sd):afb.refs n (.afH (N.map sdE))=[]:=rQ n N
theorem yi(n:Nat)(o:Bool)(e:Nat)(cs:List AV):afb.refs n (.cells o e cs)=AV.afm n cs:=rfl
theorem CQ(f:Nat→Option Nat)(o:Bool)(e:Nat)(cs:List AV):afb.ren f (.cells o e cs)=.cells o e (AV.afp f cs):=rfl
theorem uS(n:Nat):afb.refs n .qK=[]:=rfl
variable{K:Nat}
theorem Bp(ks:List Sd)(N:List (Int×Int))(first:Int)(y:List Int)(W Y:Nat)(hc:wU N first N.length first []=some y)(hN:N≠[])(hl:N.length≤1000000)(hK:N.length<K){b1 b:Code}(I:ah f235=[b1,b])(H:Mem)(J:H=[.afH (ks.map sdE),.qK,.qK,.cells true 0 [.slice 1 0 W none,.slice 2 0 Y none],.map (N.map nxE),.qK]):
  ∃F:Env→Bool→Env,∀X d,(ab X 6=.map 4∧ab X 7=.int .i64 first∧ab X 13=.qF∧ab X 14=.int .i64 first)→
   bh (ba prog) (fun _=>[13,14]) cN K 93 3 true (.loop b) ⟨X,H,d⟩=some (.exit 2,⟨F X d,H++[.cells true 1 (iZ y)],d⟩)∧ab (F X d) 13=.slice 6 0 y.length none:=by
 refine bj rfl (fun X=>ab X 6=.map 4∧ab X 7=.int .i64 first∧ab X 13=.qF∧ab X 14=.int .i64 first) (fun _ D =>ab D 13=.slice 6 0 y.length none) ?_;rintro X d ⟨h6,h7,h13,h14⟩;simp[ah,aE,f235] at I;obtain⟨_,I⟩:=I;have R:H.length=6:=by rw[J];rfl
 rw[R];have C:ay [13,14] (ad b) X ((13,ouO [])::(14,.int .i64 first)::X)=ay [13,14] (ad b) X X:=by simp[ay,h13,h14,ouO]
 rw[←C];have V:H=ouM H []:=rfl;conv=>congr;ext D;lhs;lhs;rw[V]
 refine bx (α:=List Int×Int) (fun x=>⟨ay [13,14] (ad b) X ((13,ouO x.1)::(14,.int .i64 x.2)::X),ouM H x.1,d⟩) (fun x=>N.length-x.1.length) (fun x=>∃n,x.1.length+n=N.length∧wU N first n x.2 x.1=some y) (.exit 2) _ d _ (by simp) ?_ K ([],first) ⟨N.length,by simp,hc⟩ (by simpa using hK);rintro ⟨Z,a⟩ ⟨n,Zg,hw⟩;clear C V;simp only at Zg hw;cases n with
 |zero=>
  right;simp only[wU,Option.some.injEq] at hw;subst hw;cases Z with
  |nil=>exact absurd (List.eq_nil_of_length_eq_zero (by simpa using Zg.symm)) hN
  |cons x Z=>
   have u:¬((Z.length:Int)+1<N.length):=by simp at Zg;omega
   subst I J;simp[ouO,ouM,h6,u]
 |succ n=>
  left;rw[wU] at hw;cases hlk:qe N a with
  |none=>rw[hlk] at hw;cases hw
  |some c=>
   rw[hlk] at hw;simp only at hw;split at hw
   ·cases hw
   ·rename_i Q
    obtain⟨q,O⟩:=(xo a N 0).2 c hlk;refine⟨(Z++[a],c),?_⟩;have U:(Z.length:Int)<N.length:=by omega
    subst I J;have B:0<N.length:=by omega
    have o:n+1≤1000000:=by omega
    have M:wU N first n c (Z++[a])=some y:=hw
    cases Z with
    |nil=>
     by_cases S:a=first
     ·subst S
      simp[-afb.refs,-afb.ren,ouO,ouM,h6,h7,B,kS,jI,lU,O,mE,mF,oY,fH,mG,Ak,yk,qd,fD,iZ,yi,CQ,uS];exact⟨⟨n,by simp at Zg;omega,M⟩,by omega⟩
     ·simp[-afb.refs,-afb.ren,ouO,ouM,h6,h7,B,S,kS,jI,lU,O,mE,mF,oY,fH,mG,Ak,yk,qd,fD,iZ,yi,CQ,uS]
      exact⟨⟨n,by simp at Zg;omega,M⟩,by omega⟩
    |cons x Z=>
     have S:¬a=first:=fun e=>Q ⟨e,by simp⟩
     have m:Z.length+1<N.length:=by simp at Zg;omega
     have U:(Z.length:Int)+1<N.length:=by omega
     have j:iZ (x::Z)++[.int .i64 a]=iZ (x::(Z++[a])):=by simp[iZ]
     have D':(iZ (x::Z)).length=Z.length+1:=by simp[iZ]
     have Zy:(iZ (x::Z)).take (Z.length+1)=iZ (x::Z):=List.take_of_length_le (by omega);have L:(Z.length+1+1)*8≤140737488355328:=by omega
     have G:Z.length≤140737488355326:=by omega
     simp[-afb.refs,-afb.ren,ouO,ouM,h6,h7,S,U,kS,jI,lU,O,mE,mF,oY,fH,mG,Ak,yk,qd,fD,yi,CQ,uS,GU,CR,Zy,L,G,j,D'];exact⟨⟨n,by simp at Zg;omega,by simpa using M⟩,by omega⟩
theorem R8{P:Program}{T:TypeId→Option TyI}{O:ae3}{tp:Bool}{N m0:Nat}{lv:Code→List Nat}{Q:Exit→St→Prop}(y:P.follows .mixedOrders=true)(hT:cW P T)(H:qS P O){c:Code}{s:XS}(hs:cK c=true)(h:∃e Z,bh T lv O K N m0 tp c s=some (e,Z)∧Q e ⟨Z.env,Z.mem⟩):AWP P tp N m0 c ⟨s.env,s.mem⟩ Q:=by obtain⟨e,Z,X,V⟩:=h;exact vV y hT H hs X V
def Vk(ks:List Sd)(y H:Nat)(seen:List Nat):Mem:=[.afH (ks.map sdE),.qK,.qK,.cells true 0 [.slice 1 0 y none,.slice 2 0 H none],.map ((cS ks seen).map nxE),.qK]
def ouV(ks:List Sd)(seen:List Nat)(t:Nat):AV:=if t=7 then .int .i64 (AH (-1) (cS ks seen)) else .undef
theorem tE(ks:List Sd)(seen:List Nat)(j:Nat):cS ks (seen++[j])=cS ks seen++(match bAt ks j with | some p=>[p] | none=>[]):=by unfold cS;rw[List.filterMap_append];congr 1;simp only[List.filterMap_cons,List.filterMap_nil];cases bAt ks j<;>rfl
theorem HB(ks:List Sd)(I:List Int)(y H:Nat)(Yf:uQ ks=true)(hc:B0 (sW ks)=some I):
  kO prog 235 [.agg [.slice 1 0 y none,.slice 2 0 H none],.map 0] [.afH (ks.map sdE),.qK,.qK] (.tuple [.slice 3 0 I.length none,.bool true]) [.afH (ks.map sdE),.qK,.qK,.cells true 1 (iZ I)]:=by
 obtain⟨o,N,Y,ok4⟩:=Lw Yf;have hT:=aI prog;refine afJ.intro hT (fn:=f235) (by kernel_rfl) rfl rfl (Nat.le_of_ble_eq_true rfl) ?_;refine xM ?_;refine vV aj hT (ax _) (lv:=fun _=>[]) (K:=1) (s:=⟨dv 0 [.agg [.slice 1 0 y none,.slice 2 0 H none],.map 0],[.afH (ks.map sdE),.qK,.qK],false⟩) rfl (s' :=⟨[(5,.bool false),(4,.qF),(2,.ptr 3 0),(0,.agg [.slice 1 0 y none,.slice 2 0 H none]),(1,.map 0)],[.afH (ks.map sdE),.qK,.qK,.cells true 0 [.slice 1 0 y none,.slice 2 0 H none]],false⟩) (e:=.normal) (by simp) ?_;refine xM ?_;refine vV aj hT (ax _) (lv:=fun _=>[]) (K:=1) (s:=⟨_,_,false⟩) rfl (s' :=⟨[(6,.map 4),(17,.map 4),(5,.bool false),(4,.qF),(2,.ptr 3 0),(0,.agg [.slice 1 0 y none,.slice 2 0 H none]),(1,.map 0)],[.afH (ks.map sdE),.qK,.qK,.cells true 0 [.slice 1 0 y none,.slice 2 0 H none],.map []],false⟩) (e:=.normal) (by simp) ?_;refine xM ?_;refine vV aj hT (ax _) (lv:=fun _=>[]) (K:=1) (s:=⟨_,_,false⟩) rfl (s' :=⟨[(7,.int .i64 (-1)),(6,.map 4),(17,.map 4),(5,.bool false),(4,.qF),(2,.ptr 3 0),(0,.agg [.slice 1 0 y none,.slice 2 0 H none]),(1,.map 0)],[.afH (ks.map sdE),.qK,.qK,.cells true 0 [.slice 1 0 y none,.slice 2 0 H none],.map []],false⟩) (e:=.normal) (by simp) ?_;refine xM ?_;show AWP _ _ _ _ _ ⟨[(7,.int .i64 (-1)),(6,.map 4),(17,.map 4),(5,.bool false),(4,.qF),(2,.ptr 3 0),(0,.agg [.slice 1 0 y none,.slice 2 0 H none]),(1,.map 0)],[.afH (ks.map sdE),.qK,.qK,.cells true 0 [.slice 1 0 y none,.slice 2 0 H none],.map []]⟩ _
 refine NH aj hT (ax _) (lv:=fun _=>[]) (K:=1) (b:=0) (es:=ks.map sdE) (s:=⟨[(7,.int .i64 (-1)),(6,.map 4),(17,.map 4),(5,.bool false),(4,.qF),(2,.ptr 3 0),(0,.agg [.slice 1 0 y none,.slice 2 0 H none]),(1,.map 0)],[.afH (ks.map sdE),.qK,.qK,.cells true 0 [.slice 1 0 y none,.slice 2 0 H none],.map []],false⟩) (s1:=⟨[(18,.map 0),(7,.int .i64 (-1)),(6,.map 4),(17,.map 4),(5,.bool false),(4,.qF),(2,.ptr 3 0),(0,.agg [.slice 1 0 y none,.slice 2 0 H none]),(1,.map 0)],[.afH (ks.map sdE),.qK,.qK,.cells true 0 [.slice 1 0 y none,.slice 2 0 H none],.map []],false⟩)
  rfl rfl rfl rfl (Kk) rfl rfl rfl rfl rfl rfl rfl rfl rfl rfl rfl rfl ?_ ?_ ?_ ?_ rfl rfl [7] _ (ouV ks) (Vk ks y H) (fun seen=>seen.Nodup∧∀j∈seen,j<ks.length) rfl ?_ ?_ ?_ ?_ ?_ ?_ ?_
 ·decide
 ·decide
 ·rfl
 ·simp
 ·decide
 ·rfl
 ·rintro seen ⟨_,_⟩
  refine⟨rfl,rfl,rfl,fun x hx=>?_⟩;simp only[Vk,lM] at hx;rcases hx with rfl | rfl | rfl | rfl | rfl | rfl
  ·exact mF _ _
  ·rfl
  ·rfl
  ·rfl
  ·exact mE _ _
  ·rfl
 ·intro seen t _ M
  simp only[List.mem_singleton] at M;subst M;rfl
 ·refine⟨⟨List.nodup_nil,fun j R=>(by cases R)⟩,rfl,fun t M=>?_⟩
  simp only[List.mem_singleton] at M;subst M;rfl
 ·rintro seen env ⟨i1,i2⟩ hs hv PP
  have V:=hv 7 (by simp);have Q:=hs 6 (by decide);simp[] at Q;simp only[ouV,if_true] at V;have W:=L6 i1 i2 (fun j R=>PP j (by simpa using R));have J:=Rm Y (seen:=seen);have L:=Td W J;have Z:∀a,qe (cS ks seen) a=qe (sW ks) a:=QX W (G8 N)
  have u:(cS ks seen).length=(sW ks).length:=W.length_eq;have hw:∀n a l,wU (cS ks seen) (AH (-1) (cS ks seen)) n a l=wU (sW ks) (AH (-1) (sW ks)) n a l:=by
   intro n;induction n with
   |zero=>intro a l;rfl
   |succ n ih=>intro a l;simp only[wU,Z,ih];rw[L]
  have G :wU (cS ks seen) (AH (-1) (cS ks seen)) (cS ks seen).length (AH (-1) (cS ks seen)) []=some I:=by rw[hw,u];rw[L];exact hc
  have hN:cS ks seen≠[]:=fun e=>o (by rw[e] at u;exact List.eq_nil_of_length_eq_zero u.symm)
  have hNl:(cS ks seen).length≤1000000:=by rw[u];have:(sW ks).length≤(List.range ks.length).length:=List.length_filterMap_le _ _;rw[List.length_range] at this;omega
  obtain⟨b1,b,X⟩:∃b1 b,ah f235=[b1,b]:=⟨_,_,rfl⟩
  obtain⟨F,hF⟩:=Bp (K:=(cS ks seen).length+1) ks (cS ks seen) _ I y H G hN hNl (by omega) X _ rfl;simp[ah,aE,f235] at X;obtain⟨_,X⟩:=X;subst X;show AWP _ _ _ _ _ _ _
  refine R8 aj hT (ax _) (lv:=fun _=>[13,14]) (K:=(cS ks seen).length+1) (s:=⟨_,_,false⟩) rfl ?_;show∃e B,bh (ba prog) (fun _=>[13,14]) cN ((cS ks seen).length+1) 93 3 true _ _=some (e,B)∧_
  simp[-afb.refs,-afb.ren,Q,V,hF];have Z1:0<I.length:=by have:=zj G;have:0<(cS ks seen).length:=List.length_pos_iff.2 hN;omega
  refine⟨_,_,⟨rfl,rfl⟩,.inr rfl,[6],rfl,.inl ⟨rfl,?_⟩⟩;have e2:decide (0<I.length)=true:=by simpa using Z1
  rw[e2];simp[AV.ren,AV.afp,rho,af0,CR,List.idxOf?,List.findIdx?,List.findIdx?.go]
 ·rintro seen env j k v ⟨i1,i2⟩ hs hv R hns
  have V:=hv 7 (by simp);have D:=hs 1 (by decide);have Q:=hs 6 (by decide);simp[] at D Q;simp only[ouV,if_true] at V;rw[List.getElem?_map] at R;simp only[Option.map_eq_some_iff] at R;obtain⟨s,hs1,hs2⟩:=R;have hkv:=Prod.mk.inj hs2;obtain⟨hk,hvv⟩:=hkv;subst hk hvv;have hjl:=gL hs1;have H1:(seen++[j]).Nodup∧∀i∈seen++[j],i<ks.length:=by
   constructor
   ·rw[List.nodup_append];exact⟨i1,by simp,fun a ha b X=>by simp at X;subst X;rintro rfl;exact hns ha⟩
   ·intro i hi
    rcases List.mem_append.1 hi with h | h
    ·exact i2 i h
    ·simp at h;subst h;exact hjl
  have U :(seen++[j]).Nodup∧∀i,i∈seen∨i=j→i<ks.length:=⟨H1.1,fun i hi=>H1.2 i (by simpa using hi)⟩
  cases Z:QY ks (s.1.2,s.1.1) with
  |some t=>
   have X:bAt ks j=none:=by simp[bAt,hs1,Z]
   have S:cS ks (seen++[j])=cS ks seen:=by rw[tE,X];simp
   obtain⟨q,C⟩:=(xp (s.1.2,s.1.1) ks 0).2 t Z;rw[show(List.length _+1:Nat)=6 from rfl];simp[-afb.refs,-afb.ren,Vk,ouV,D,C,S,kS,jI,lU,Ld,jm,th,tn,bW,qd,List.range'];exact⟨_,_,⟨rfl,rfl⟩,.inr rfl,U,by simpa using V,rfl⟩
  |none=>
   have X:bAt ks j=some s.1:=by simp[bAt,hs1,Z]
   have S:cS ks (seen++[j])=cS ks seen++[s.1]:=by rw[tE,X]
   have L:AH (-1) (cS ks (seen++[j]))=if AH (-1) (cS ks seen)<0∨s.1.1<AH (-1) (cS ks seen) then s.1.1 else AH (-1) (cS ks seen):=by rw[S,N2];rfl
   have C:=(xp (s.1.2,s.1.1) ks 0).1 Z;have hfr:=G7 N hns X;have O:=(xo s.1.1 (cS ks seen) 0).1 hfr;rw[show(List.length _+1:Nat)=6 from rfl];unfold Vk ouV;rw[L,S];obtain⟨m,hm⟩:=xE (AH (-1) (cS ks seen));rw[←hm] at V ⊢;clear L;by_cases c1:m<0
   ·simp[-afb.refs,-afb.ren,D,Q,V,C,O,c1,kS,eZ,jI,lU,Ld,jm,th,tn,bW,qd,List.range']
    exact⟨_,_,⟨rfl,rfl⟩,.inl rfl,U,rfl,rfl⟩
   ·by_cases c2:s.1.1<m
    ·simp[-afb.refs,-afb.ren,D,Q,V,C,O,c1,c2,kS,eZ,jI,lU,Ld,jm,th,tn,bW,qd,List.range']
     exact⟨_,_,⟨rfl,rfl⟩,.inl rfl,U,rfl,rfl⟩
    ·simp[-afb.refs,-afb.ren,D,Q,V,C,O,c1,c2,kS,eZ,jI,lU,Ld,jm,th,tn,bW,qd,List.range']
     exact⟨_,_,⟨rfl,rfl⟩,.inl rfl,U,V,rfl⟩
def Vp:List (AV×AV)→Option (List Sd)
 | []=>some []
 |(.agg [.int .i64 a,.int .i64 b],.int .i64 t)::l=>match Vp l with
  |some r=>some (((a,b),t)::r)
  |none=>none
 |_=>none
theorem E5:∀{es:List (AV×AV)} {ks:List Sd},Vp es=some ks→es=ks.map sdE
 | [],ks,h=>by cases h;rfl
 |e::es,ks,h=>by
  unfold Vp at h;split at h
  next Z=>cases Z
  ·rename_i a b t l Z
   cases Z;split at h
   ·rename_i r X
    cases h;rw[E5 X];rfl
   ·cases h
  ·cases h
def Q0(M:Mem)(b:Nat):Option (List (AV×AV)):=match M[b]? with
 |some (.map es)=>some es
 |some (.afH es)=>some es
 |_=>none
theorem TC(n:Nat)(s:Sd):(sdE s).1.under n=true∧(sdE s).2.under n=true:=by simp[sdE,AV.under,AV.afd]
theorem Oh(f:Nat→Option Nat)(s:Sd):((sdE s).1.ren f,(sdE s).2.ren f)=sdE s:=by simp[sdE,AV.ren,AV.afp]
theorem yz(M:Mem)(ks:List Sd)(y:List Int)(b b1 I J W:Nat)(hb1:b1<M.length)(YL:I<M.length)(H:Q0 M b=some (ks.map sdE))(Y:uQ ks=true)(hc:B0 (sW ks)=some y):
  kO prog 235 [.agg [.slice b1 0 J none,.slice I 0 W none],.map b] M (.tuple [.slice M.length 0 y.length none,.bool true]) (M++[.cells true 1 (iZ y)]):=by
 have S:b<M.length:=by
  unfold Q0 at H;split at H
  next es h=>exact(gL h)
  next es h=>exact(gL h)
  ·cases H
 have:=kO.frame (M:=M) (new:=[.cells true 1 (iZ y)]) [b,b1,I] (m:=[.afH (ks.map sdE),.qK,.qK]) rfl (by intro k V;simp at V;rcases V with rfl | rfl | rfl<;>assumption) (by rfl) (fun i s Z=>by
  match i with
  |0=>
   simp at Z;subst Z;refine⟨ks.map sdE,?_,rfl,fun j e X=>?_⟩
   ·unfold Q0 at H
    split at H
    next es h=>cases H;exact .inr h
    next es h=>cases H;exact .inl h
    ·cases H
   ·rw[List.getElem?_map] at X
    simp only[Option.map_eq_some_iff] at X;obtain⟨R,U,rfl⟩:=X;refine⟨TC _ _,?_⟩;rw[Oh,List.getElem?_map,U];rfl
  |1=>simp at Z;subst Z;trivial
  |2=>simp at Z;subst Z;trivial
  |i+3=>simp at Z) rfl (HB ks y J W Y hc)
 simpa [AV.afp,AV.ren,eL,afb.ren,CR] using this
def M9(c:Go.Eng.Callee)(args:List AV)(M:Mem):Option y9:=match c,args with
 |.fn 235,[.agg [.slice b1 0 _ none,.slice b2 0 _ none],.map b]=>match Q0 M b with
  |some es=>match Vp es with
   |some ks=>match B0 (sW ks) with
    |some cyc=>if uQ ks&&(decide (b1<M.length)&&decide (b2<M.length)) then some ⟨.tuple [.slice M.length 0 cyc.length none,.bool true],none,[.cells true 1 (iZ cyc)]⟩ else none
    |none=>none
   |none=>none
  |none=>none
 |_,_=>none
theorem Qc:qS prog M9:=by
 refine bZ fun c U M r h=>?_
 unfold M9 at h;split at h
 ·split at h
  ·rename_i es S
   split at h
   ·rename_i R Q
    split at h
    ·rename_i X V
     split at h
     ·rename_i Z
      simp only[Bool.and_eq_true,decide_eq_true_eq] at Z;cases h;refine aw (yz M R X _ _ _ _ _ Z.2.1 Z.2.2 ?_ Z.1 V);rw[S,E5 Q]
     ·cases h
    ·cases h
   ·cases h
  ·cases h
 ·cases h
noncomputable def Oz:ae3:=ae3.or M9 (af be)
theorem Nb:qS prog Oz:=qS.or Qc cO
end Go.Proofs
