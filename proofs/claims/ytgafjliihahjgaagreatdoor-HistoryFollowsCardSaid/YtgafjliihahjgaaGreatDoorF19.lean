/- See F54. -/
import Derived.Test.YtgafjliihahjgaaGreatDoorF11
import Derived.Test.YtgafjliihahjgaaGreatDoorF05
import Derived.Test.YtgafjliihahjgaaGreatDoorF09
set_option linter.all false
set_option maxRecDepth 100000
set_option maxHeartbeats 40000000
namespace Go.Proofs
open Go.Eng
open Tryz
theorem xa(a:Int):∀(N:List (Int×Int))(i:Nat),(pE N a=none→jn (aN prog) 3 (.int .i64 a) (N.map nxE) i=some none)∧∀b,pE N a=some b→∃q,jn (aN prog) 3 (.int .i64 a) (N.map nxE) i=some (some (q,.int .i64 b))
 | [],i=>⟨fun _=>rfl,fun b h=>by cases h⟩
 |p::N,i=>by
  have e:lz (aN prog) 20 3 (.int .i64 a) (.int .i64 p.1)=some (decide (a=p.1)):=by simp[lz]
  simp only[List.map_cons,jn,nxE,e,pE];have Z:=xa a N (i+1);by_cases h:a=p.1
  ·simp only[h,decide_true,if_true]
   exact⟨fun h=>(by cases h),fun b X=>⟨i,(by cases X;rfl)⟩⟩
  ·simp only[h,decide_false,if_false]
   exact Z
theorem VN(d:Nat)(x y:Int):lz (aN prog) (d+1) 3 (.int .i64 x) (.int .i64 y)=some (decide (x=y)):=by rw[lz];simp
theorem VO(a b c d:Int):lz (aN prog) 20 119 (.agg [.int .i64 a,.int .i64 b]) (.agg [.int .i64 c,.int .i64 d])=some (decide (a=c)&&decide (b=d)):=by have r:List.range' 0 2=[0,1]:=rfl;have i:=VN 18;rw[lz];simp only[K9,Ot,r,X8];simp[jt,TyI.isAgg,i]
theorem xb(a:Int×Int):∀(N:List Sd)(i:Nat),(RW N a=none→jn (aN prog) 119 (.agg [.int .i64 a.1,.int .i64 a.2]) (N.map sdE) i=some none)∧∀b,RW N a=some b→∃q,jn (aN prog) 119 (.agg [.int .i64 a.1,.int .i64 a.2]) (N.map sdE) i=some (some (q,.int .i64 b))
 | [],i=>⟨fun _=>rfl,fun b h=>by cases h⟩
 |p::N,i=>by
  have e:=VO a.1 a.2 p.1.1 p.1.2;simp only[List.map_cons,jn,sdE,e,RW];have Z:=xb a N (i+1);by_cases h:a.1=p.1.1∧a.2=p.1.2
  ·rw[if_pos h]
   simp only[h.1,h.2,decide_true,Bool.and_true];exact⟨fun h=>(by cases h),fun b X=>⟨i,(by cases X;rfl)⟩⟩
  ·rw[if_neg h]
   have W:(decide (a.1=p.1.1)&&decide (a.2=p.1.2))=false:=by rw[←Bool.not_eq_true];simpa using h
   rw[W];exact Z
def ouO(l:List Int):AV:=match l with
 | []=>.y9
 |_=>.slice 6 0 l.length none
def ouM(M0:Mem)(l:List Int):Mem:=match l with
 | []=>M0
 |_=>M0++[.cells true 1 (iZ l)]
theorem yN(n:Nat):∀N:List (Int×Int),(N.map nxE).flatMap (fun e=>e.1.refs n++e.2.refs n)=[]
 | []=>rfl
 |p::N=>by simp[nxE,AV.refs,yN n N]
theorem rI(n:Nat):∀N:List Sd,(N.map sdE).flatMap (fun e=>e.1.refs n++e.2.refs n)=[]
 | []=>rfl
 |p::N=>by simp[sdE,AV.refs,AV.afc,rI n N]
theorem mL(n:Nat)(N:List (Int×Int)):aeY.refs n (.map (N.map nxE))=[]:=yN n N
theorem mM(n:Nat)(N:List Sd):aeY.refs n (.afr (N.map sdE))=[]:=rI n N
theorem xM(n:Nat)(o:Bool)(e:Nat)(cs:List AV):aeY.refs n (.cells o e cs)=AV.afc n cs:=rfl
theorem CD(f:Nat→Option Nat)(o:Bool)(e:Nat)(cs:List AV):aeY.ren f (.cells o e cs)=.cells o e (AV.ae3 f cs):=rfl
theorem uP(n:Nat):aeY.refs n .aeP=[]:=rfl
variable{K:Nat}
theorem Bv(ks:List Sd)(N:List (Int×Int))(first:Int)(A:List Int)(I R:Nat)(hc:wG N first N.length first []=some A)(Y:N≠[])(hl:N.length≤1000000)(hK:N.length<K){b1 b:Code}(G:ai f161=[b1,b])(M0:Mem)(H:M0=[.afr (ks.map sdE),.aeP,.aeP,.cells true 0 [.slice 1 0 I none,.slice 2 0 R none],.map (N.map nxE),.aeP]):
  ∃F:Env→Bool→Env,∀X d,(ad X 6=.map 4∧ad X 7=.int .i64 first∧ad X 13=.y9∧ad X 14=.int .i64 first)→
   aM (aN prog) (fun _=>[13,14]) bM K 93 3 true (.loop b) ⟨X,M0,d⟩=some (.exit 2,⟨F X d,M0++[.cells true 1 (iZ A)],d⟩)∧ad (F X d) 13=.slice 6 0 A.length none:=by
 refine cD rfl (fun X=>ad X 6=.map 4∧ad X 7=.int .i64 first∧ad X 13=.y9∧ad X 14=.int .i64 first) (fun _ z =>ad z 13=.slice 6 0 A.length none) ?_;rintro X d ⟨h6,h7,h13,h14⟩;simp[ai,aG,f161] at G;obtain⟨_,G⟩:=G;have O:M0.length=6:=by rw[H];rfl
 rw[O];have u:aD [13,14] (ab b) X ((13,ouO [])::(14,.int .i64 first)::X)=aD [13,14] (ab b) X X:=by simp[aD,h13,h14,ouO]
 rw[←u];have W:M0=ouM M0 []:=rfl;conv=>congr;ext z;lhs;lhs;rw[W]
 refine dh (α:=List Int×Int) (fun x=>⟨aD [13,14] (ab b) X ((13,ouO x.1)::(14,.int .i64 x.2)::X),ouM M0 x.1,d⟩) (fun x=>N.length-x.1.length) (fun x=>∃n,x.1.length+n=N.length∧wG N first n x.2 x.1=some A) (.exit 2) _ d _ (by simp) ?_ K ([],first) ⟨N.length,by simp,hc⟩ (by simpa using hK);rintro ⟨Z,a⟩ ⟨n,hn1,hw⟩;clear u W;simp only at hn1 hw;cases n with
 |zero=>
  right;simp only[wG,Option.some.injEq] at hw;subst hw;cases Z with
  |nil=>exact absurd (List.eq_nil_of_length_eq_zero (by simpa using hn1.symm)) Y
  |cons x Z=>
   have j:¬((Z.length:Int)+1<N.length):=by simp at hn1;omega
   subst G H;simp[ouO,ouM,h6,j]
 |succ n=>
  left;rw[wG] at hw;cases hlk:pE N a with
  |none=>rw[hlk] at hw;cases hw
  |some c=>
   rw[hlk] at hw;simp only at hw;split at hw
   ·cases hw
   ·rename_i M
    obtain⟨q,hq⟩:=(xa a N 0).2 c hlk;refine⟨(Z++[a],c),?_⟩;have V:(Z.length:Int)<N.length:=by omega
    subst G H;have m:0<N.length:=by omega
    have hln:n+1≤1000000:=by omega
    have J:wG N first n c (Z++[a])=some A:=hw
    cases Z with
    |nil=>
     by_cases S:a=first
     ·subst S
      simp[-aeY.refs,-aeY.ren,ouO,ouM,h6,h7,m,kR,jz,lG,hq,mL,mM,jk,fZ,iy,xP,wA,pB,gJ,iZ,xM,CD,uP];exact⟨⟨n,by simp at hn1;omega,J⟩,by omega⟩
     ·simp[-aeY.refs,-aeY.ren,ouO,ouM,h6,h7,m,S,kR,jz,lG,hq,mL,mM,jk,fZ,iy,xP,wA,pB,gJ,iZ,xM,CD,uP]
      exact⟨⟨n,by simp at hn1;omega,J⟩,by omega⟩
    |cons x Z=>
     have S:¬a=first:=fun e=>M ⟨e,by simp⟩
     have hlN:Z.length+1<N.length:=by simp at hn1;omega
     have V:(Z.length:Int)+1<N.length:=by omega
     have hz:iZ (x::Z)++[.int .i64 a]=iZ (x::(Z++[a])):=by simp[iZ]
     have H':(iZ (x::Z)).length=Z.length+1:=by simp[iZ]
     have D:(iZ (x::Z)).take (Z.length+1)=iZ (x::Z):=List.take_of_length_le (by omega);have C:(Z.length+1+1)*8≤140737488355328:=by omega
     have B:Z.length≤140737488355326:=by omega
     simp[-aeY.refs,-aeY.ren,ouO,ouM,h6,h7,S,V,kR,jz,lG,hq,mL,mM,jk,fZ,iy,xP,wA,pB,gJ,xM,CD,uP,Hd,CE,D,C,B,hz,H'];exact⟨⟨n,by simp at hn1;omega,by simpa using J⟩,by omega⟩
theorem TY{P:Program}{T:TypeId→Option TyI}{O:aeT}{tp:Bool}{N m0:Nat}{lv:Code→List Nat}{Q:Exit→St→Prop}(A:P.follows .mixedOrders=true)(hT:cW P T)(G:HS P O){c:Code}{s:XS}(hs:dK c=true)(h:∃e Z,aM T lv O K N m0 tp c s=some (e,Z)∧Q e ⟨Z.env,Z.mem⟩):AWP P tp N m0 c ⟨s.env,s.mem⟩ Q:=by obtain⟨e,Z,X,W⟩:=h;exact vM A hT G hs X W
def W3(ks:List Sd)(A G:Nat)(seen:List Nat):Mem:=[.afr (ks.map sdE),.aeP,.aeP,.cells true 0 [.slice 1 0 A none,.slice 2 0 G none],.map ((cT ks seen).map nxE),.aeP]
def ouV(ks:List Sd)(seen:List Nat)(t:Nat):AV:=if t=7 then .int .i64 (Am (-1) (cT ks seen)) else .undef
theorem tG(ks:List Sd)(seen:List Nat)(j:Nat):cT ks (seen++[j])=cT ks seen++(match bAt ks j with | some p=>[p] | none=>[]):=by unfold cT;rw[List.filterMap_append];congr 1;simp only[List.filterMap_cons,List.filterMap_nil];cases bAt ks j<;>rfl
theorem Ib(ks:List Sd)(H:List Int)(A G:Nat)(hok:uN ks=true)(hc:BR (sM ks)=some H):
  kO prog 161 [.agg [.slice 1 0 A none,.slice 2 0 G none],.map 0] [.afr (ks.map sdE),.aeP,.aeP] (.tuple [.slice 3 0 H.length none,.bool true]) [.afr (ks.map sdE),.aeP,.aeP,.cells true 1 (iZ H)]:=by
 obtain⟨ok1,B,ok3,ok4⟩:=Mh hok;have hT:=ar prog;refine afu.intro hT (fn:=f161) (by kernel_rfl) rfl rfl (Nat.le_of_ble_eq_true rfl) ?_;refine xt ?_;refine vM ae hT (al _) (lv:=fun _=>[]) (K:=1) (s:=⟨dX 0 [.agg [.slice 1 0 A none,.slice 2 0 G none],.map 0],[.afr (ks.map sdE),.aeP,.aeP],false⟩) rfl (s' :=⟨[(5,.bool false),(4,.y9),(2,.ptr 3 0),(0,.agg [.slice 1 0 A none,.slice 2 0 G none]),(1,.map 0)],[.afr (ks.map sdE),.aeP,.aeP,.cells true 0 [.slice 1 0 A none,.slice 2 0 G none]],false⟩) (e:=.normal) (by simp) ?_;refine xt ?_;refine vM ae hT (al _) (lv:=fun _=>[]) (K:=1) (s:=⟨_,_,false⟩) rfl (s' :=⟨[(6,.map 4),(17,.map 4),(5,.bool false),(4,.y9),(2,.ptr 3 0),(0,.agg [.slice 1 0 A none,.slice 2 0 G none]),(1,.map 0)],[.afr (ks.map sdE),.aeP,.aeP,.cells true 0 [.slice 1 0 A none,.slice 2 0 G none],.map []],false⟩) (e:=.normal) (by simp) ?_;refine xt ?_;refine vM ae hT (al _) (lv:=fun _=>[]) (K:=1) (s:=⟨_,_,false⟩) rfl (s' :=⟨[(7,.int .i64 (-1)),(6,.map 4),(17,.map 4),(5,.bool false),(4,.y9),(2,.ptr 3 0),(0,.agg [.slice 1 0 A none,.slice 2 0 G none]),(1,.map 0)],[.afr (ks.map sdE),.aeP,.aeP,.cells true 0 [.slice 1 0 A none,.slice 2 0 G none],.map []],false⟩) (e:=.normal) (by simp) ?_;refine xt ?_;show AWP _ _ _ _ _ ⟨[(7,.int .i64 (-1)),(6,.map 4),(17,.map 4),(5,.bool false),(4,.y9),(2,.ptr 3 0),(0,.agg [.slice 1 0 A none,.slice 2 0 G none]),(1,.map 0)],[.afr (ks.map sdE),.aeP,.aeP,.cells true 0 [.slice 1 0 A none,.slice 2 0 G none],.map []]⟩ _
 refine Ou ae hT (al _) (lv:=fun _=>[]) (K:=1) (b:=0) (es:=ks.map sdE) (s:=⟨[(7,.int .i64 (-1)),(6,.map 4),(17,.map 4),(5,.bool false),(4,.y9),(2,.ptr 3 0),(0,.agg [.slice 1 0 A none,.slice 2 0 G none]),(1,.map 0)],[.afr (ks.map sdE),.aeP,.aeP,.cells true 0 [.slice 1 0 A none,.slice 2 0 G none],.map []],false⟩) (s1:=⟨[(18,.map 0),(7,.int .i64 (-1)),(6,.map 4),(17,.map 4),(5,.bool false),(4,.y9),(2,.ptr 3 0),(0,.agg [.slice 1 0 A none,.slice 2 0 G none]),(1,.map 0)],[.afr (ks.map sdE),.aeP,.aeP,.cells true 0 [.slice 1 0 A none,.slice 2 0 G none],.map []],false⟩)
  rfl rfl rfl rfl (La) rfl rfl rfl rfl rfl rfl rfl rfl rfl rfl rfl rfl ?_ ?_ ?_ ?_ rfl rfl [7] _ (ouV ks) (W3 ks A G) (fun seen=>seen.Nodup∧∀j∈seen,j<ks.length) rfl ?_ ?_ ?_ ?_ ?_ ?_ ?_
 ·decide
 ·decide
 ·rfl
 ·simp
 ·decide
 ·rfl
 ·rintro seen ⟨_,_⟩
  refine⟨rfl,rfl,rfl,fun x hx=>?_⟩;simp only[W3,lM] at hx;rcases hx with rfl | rfl | rfl | rfl | rfl | rfl
  ·exact mM _ _
  ·rfl
  ·rfl
  ·rfl
  ·exact mL _ _
  ·rfl
 ·intro seen t _ z
  simp only[List.mem_singleton] at z;subst z;rfl
 ·refine⟨⟨List.nodup_nil,fun j M=>(by cases M)⟩,rfl,fun t z=>?_⟩
  simp only[List.mem_singleton] at z;subst z;rfl
 ·rintro seen env ⟨i1,i2⟩ hs hv PP
  have V:=hv 7 (by simp);have J:=hs 6 (by decide);simp[] at J;simp only[ouV,if_true] at V;have hp:=MM i1 i2 (fun j M=>PP j (by simpa using M));have hge:=Sk ok3 (seen:=seen);have W:=UJ hp hge;have Z:∀a,pE (cT ks seen) a=pE (sM ks) a:=RV hp (Ho B)
  have H':(cT ks seen).length=(sM ks).length:=hp.length_eq;have hw:∀n a l,wG (cT ks seen) (Am (-1) (cT ks seen)) n a l=wG (sM ks) (Am (-1) (sM ks)) n a l:=by
   intro n;induction n with
   |zero=>intro a l;rfl
   |succ n ih=>intro a l;simp only[wG,Z,ih];rw[W]
  have u :wG (cT ks seen) (Am (-1) (cT ks seen)) (cT ks seen).length (Am (-1) (cT ks seen)) []=some H:=by rw[hw,H'];rw[W];exact hc
  have hN:cT ks seen≠[]:=fun e=>ok1 (by rw[e] at H';exact List.eq_nil_of_length_eq_zero H'.symm)
  have hNl:(cT ks seen).length≤1000000:=by rw[H'];have:(sM ks).length≤(List.range ks.length).length:=List.length_filterMap_le _ _;rw[List.length_range] at this;omega
  obtain⟨b1,b,X⟩:∃b1 b,ai f161=[b1,b]:=⟨_,_,rfl⟩
  obtain⟨F,hF⟩:=Bv (K:=(cT ks seen).length+1) ks (cT ks seen) _ H A G u hN hNl (by omega) X _ rfl;simp[ai,aG,f161] at X;obtain⟨_,X⟩:=X;subst X;show AWP _ _ _ _ _ _ _
  refine TY ae hT (al _) (lv:=fun _=>[13,14]) (K:=(cT ks seen).length+1) (s:=⟨_,_,false⟩) rfl ?_;show∃e I,aM (aN prog) (fun _=>[13,14]) bM ((cT ks seen).length+1) 93 3 true _ _=some (e,I)∧_
  simp[-aeY.refs,-aeY.ren,J,V,hF];have hcl:0<H.length:=by have:=yU u;have:0<(cT ks seen).length:=List.length_pos_iff.2 hN;omega
  refine⟨_,_,⟨rfl,rfl⟩,.inr rfl,[6],rfl,.inl ⟨rfl,?_⟩⟩;have e2:decide (0<H.length)=true:=by simpa using hcl
  rw[e2];simp[AV.ren,AV.ae3,rho,afI,CE,List.idxOf?,List.findIdx?,List.findIdx?.go]
 ·rintro seen env j k v ⟨i1,i2⟩ hs hv M hns
  have V:=hv 7 (by simp);have Y:=hs 1 (by decide);have J:=hs 6 (by decide);simp[] at Y J;simp only[ouV,if_true] at V;rw[List.getElem?_map] at M;simp only[Option.map_eq_some_iff] at M;obtain⟨s,D,hs2⟩:=M;have hkv:=Prod.mk.inj hs2;obtain⟨hk,hvv⟩:=hkv;subst hk hvv;have hjl:=gL D;have R:(seen++[j]).Nodup∧∀i∈seen++[j],i<ks.length:=by
   constructor
   ·rw[List.nodup_append];exact⟨i1,by simp,fun a ha b X=>by simp at X;subst X;rintro rfl;exact hns ha⟩
   ·intro i hi
    rcases List.mem_append.1 hi with h | h
    ·exact i2 i h
    ·simp at h;subst h;exact hjl
  have S :(seen++[j]).Nodup∧∀i,i∈seen∨i=j→i<ks.length:=⟨R.1,fun i hi=>R.2 i (by simpa using hi)⟩
  cases Z:RW ks (s.1.2,s.1.1) with
  |some t=>
   have X:bAt ks j=none:=by simp[bAt,D,Z]
   have O:cT ks (seen++[j])=cT ks seen:=by rw[tG,X];simp
   obtain⟨q,hq⟩:=(xb (s.1.2,s.1.1) ks 0).2 t Z;rw[show(List.length _+1:Nat)=6 from rfl];simp[-aeY.refs,-aeY.ren,W3,ouV,Y,hq,O,kR,jz,lG,LZ,jt,th,tl,bW,pB,List.range'];exact⟨_,_,⟨rfl,rfl⟩,.inr rfl,S,by simpa using V,rfl⟩
  |none=>
   have X:bAt ks j=some s.1:=by simp[bAt,D,Z]
   have O:cT ks (seen++[j])=cT ks seen++[s.1]:=by rw[tG,X]
   have W:Am (-1) (cT ks (seen++[j]))=if Am (-1) (cT ks seen)<0∨s.1.1<Am (-1) (cT ks seen) then s.1.1 else Am (-1) (cT ks seen):=by rw[O,OW];rfl
   have hq:=(xb (s.1.2,s.1.1) ks 0).1 Z;have hfr:=Hn B hns X;have C:=(xa s.1.1 (cT ks seen) 0).1 hfr;rw[show(List.length _+1:Nat)=6 from rfl];unfold W3 ouV;rw[W,O];obtain⟨m,hm⟩:=xE (Am (-1) (cT ks seen));rw[←hm] at V ⊢;clear W;by_cases c1:m<0
   ·simp[-aeY.refs,-aeY.ren,Y,J,V,hq,C,c1,kR,fA,jz,lG,LZ,jt,th,tl,bW,pB,List.range']
    exact⟨_,_,⟨rfl,rfl⟩,.inl rfl,S,rfl,rfl⟩
   ·by_cases c2:s.1.1<m
    ·simp[-aeY.refs,-aeY.ren,Y,J,V,hq,C,c1,c2,kR,fA,jz,lG,LZ,jt,th,tl,bW,pB,List.range']
     exact⟨_,_,⟨rfl,rfl⟩,.inl rfl,S,rfl,rfl⟩
    ·simp[-aeY.refs,-aeY.ren,Y,J,V,hq,C,c1,c2,kR,fA,jz,lG,LZ,jt,th,tl,bW,pB,List.range']
     exact⟨_,_,⟨rfl,rfl⟩,.inl rfl,S,V,rfl⟩
def Xb:List (AV×AV)→Option (List Sd)
 | []=>some []
 |(.agg [.int .i64 a,.int .i64 b],.int .i64 t)::l=>match Xb l with
  |some r=>some (((a,b),t)::r)
  |none=>none
 |_=>none
theorem EO:∀{es:List (AV×AV)}{ks:List Sd},Xb es=some ks→es=ks.map sdE
 | [],ks,h=>by cases h;rfl
 |e::es,ks,h=>by
  unfold Xb at h;split at h
  next Z=>cases Z
  ·rename_i a b t l Z
   cases Z;split at h
   ·rename_i r X
    cases h;rw[EO X];rfl
   ·cases h
  ·cases h
def RY(M:Mem)(b:Nat):Option (List (AV×AV)):=match M[b]? with
 |some (.map es)=>some es
 |some (.afr es)=>some es
 |_=>none
theorem Vf(n:Nat)(s:Sd):(sdE s).1.under n=true∧(sdE s).2.under n=true:=by simp[sdE,AV.under,AV.afa]
theorem Pb(f:Nat→Option Nat)(s:Sd):((sdE s).1.ren f,(sdE s).2.ren f)=sdE s:=by simp[sdE,AV.ren,AV.ae3]
theorem xX(M:Mem)(ks:List Sd)(A:List Int)(b b1 H R Y:Nat)(hb1:b1<M.length)(hb2:H<M.length)(G:RY M b=some (ks.map sdE))(I:uN ks=true)(hc:BR (sM ks)=some A):
  kO prog 161 [.agg [.slice b1 0 R none,.slice H 0 Y none],.map b] M (.tuple [.slice M.length 0 A.length none,.bool true]) (M++[.cells true 1 (iZ A)]):=by
 have V:b<M.length:=by
  unfold RY at G;split at G
  next es h=>exact(gL h)
  next es h=>exact(gL h)
  ·cases G
 have:=kO.frame (M:=M) (new:=[.cells true 1 (iZ A)]) [b,b1,H] (m:=[.afr (ks.map sdE),.aeP,.aeP]) rfl (by intro k X;simp at X;rcases X with rfl | rfl | rfl<;>assumption) (by rfl) (fun i s Z=>by
  match i with
  |0=>
   simp at Z;subst Z;refine⟨ks.map sdE,?_,rfl,fun j e he=>?_⟩
   ·unfold RY at G
    split at G
    next es h=>cases G;exact .inr h
    next es h=>cases G;exact .inl h
    ·cases G
   ·rw[List.getElem?_map] at he
    simp only[Option.map_eq_some_iff] at he;obtain⟨S,W,rfl⟩:=he;refine⟨Vf _ _,?_⟩;rw[Pb,List.getElem?_map,W];rfl
  |1=>simp at Z;subst Z;trivial
  |2=>simp at Z;subst Z;trivial
  |i+3=>simp at Z) rfl (Ib ks A R Y I hc)
 simpa [AV.ae3,AV.ren,dL,aeY.ren,CE] using this
def NV(c:Go.Eng.Callee)(args:List AV)(M:Mem):Option aeQ:=match c,args with
 |.fn 161,[.agg [.slice b1 0 _ none,.slice b2 0 _ none],.map b]=>match RY M b with
  |some es=>match Xb es with
   |some ks=>match BR (sM ks) with
    |some cyc=>if uN ks&&(decide (b1<M.length)&&decide (b2<M.length)) then some ⟨.tuple [.slice M.length 0 cyc.length none,.bool true],none,[.cells true 1 (iZ cyc)]⟩ else none
    |none=>none
   |none=>none
  |none=>none
 |_,_=>none
theorem QZ:HS prog NV:=by
 refine dE fun c O M r h=>?_
 unfold NV at h;split at h
 ·split at h
  ·rename_i es X
   split at h
   ·rename_i J W
    split at h
    ·rename_i V S
     split at h
     ·rename_i Z
      simp only[Bool.and_eq_true,decide_eq_true_eq] at Z;cases h;refine aI (xX M J V _ _ _ _ _ Z.2.1 Z.2.2 ?_ Z.1 S);rw[X,EO W]
     ·cases h
    ·cases h
   ·cases h
  ·cases h
 ·cases h
noncomputable def Ps:aeT:=aeT.or NV (af aj)
theorem NY:HS prog Ps:=HS.or QZ bj
end Go.Proofs
