/- See R54. -/
import Derived.Test.YtgafjliihahjgaaGreatDoorR16
import Derived.Test.YtgafjliihahjgaaGreatDoorR08
import Derived.Test.YtgafjliihahjgaaGreatDoorR14
set_option linter.all false
set_option maxRecDepth 100000
set_option maxHeartbeats 40000000
namespace Go.Proofs
open Go.Eng
open Tryz
theorem vQ(a:Int):∀(N:List (Int×Int)) (i:Nat),(oV N a=none→jj (aM prog) 3 (.int .i64 a) (N.map nxE) i=some none)∧∀b,oV N a=some b→∃q,jj (aM prog) 3 (.int .i64 a) (N.map nxE) i=some (some (q,.int .i64 b))
 | [],i=>⟨fun _=>rfl,fun b h=>by cases h⟩
 |p::N,i=>by
  have e:lz (aM prog) 20 3 (.int .i64 a) (.int .i64 p.1)=some (decide (a=p.1)):=by simp[lz]
  simp only[List.map_cons,jj,nxE,e,oV];have ih:=vQ a N (i+1);by_cases h:a=p.1
  ·simp only[h,decide_true,if_true]
   exact⟨fun h=>(by cases h),fun b hb=>⟨i,(by cases hb;rfl)⟩⟩
  ·simp only[h,decide_false,if_false]
   exact ih
theorem TE(d:Nat)(x y:Int):lz (aM prog) (d+1) 3 (.int .i64 x) (.int .i64 y)=some (decide (x=y)):=by rw[lz];simp
theorem TF(a b c d:Int):lz (aM prog) 20 119 (.agg [.int .i64 a,.int .i64 b]) (.agg [.int .i64 c,.int .i64 d])=some (decide (a=c)&&decide (b=d)):=by have r:List.range' 0 2=[0,1]:=rfl;have i:=TE 18;rw[lz];simp only[Jl,L8,r,VW];simp[jn,TyI.isAgg,i]
theorem vR(a:Int×Int):∀(N:List Sd) (i:Nat),(PM N a=none→jj (aM prog) 119 (.agg [.int .i64 a.1,.int .i64 a.2]) (N.map sdE) i=some none)∧∀b,PM N a=some b→∃q,jj (aM prog) 119 (.agg [.int .i64 a.1,.int .i64 a.2]) (N.map sdE) i=some (some (q,.int .i64 b))
 | [],i=>⟨fun _=>rfl,fun b h=>by cases h⟩
 |p::N,i=>by
  have e:=TF a.1 a.2 p.1.1 p.1.2;simp only[List.map_cons,jj,sdE,e,PM];have ih:=vR a N (i+1);by_cases h:a.1=p.1.1∧a.2=p.1.2
  ·rw[if_pos h]
   simp only[h.1,h.2,decide_true,Bool.and_true];exact⟨fun h=>(by cases h),fun b hb=>⟨i,(by cases hb;rfl)⟩⟩
  ·rw[if_neg h]
   have e2:(decide (a.1=p.1.1)&&decide (a.2=p.1.2))=false:=by rw[←Bool.not_eq_true];simpa using h
   rw[e2];exact ih
def ouO(l:List Int):AV:=match l with
 | []=>.kK
 |_=>.slice 6 0 l.length none
def ouM(M0:Mem) (l:List Int):Mem:=match l with
 | []=>M0
 |_=>M0++[.cells true 1 (iZ l)]
theorem xG(n:Nat):∀N:List (Int×Int),(N.map nxE).flatMap (fun e=>e.1.refs n++e.2.refs n)=[]
 | []=>rfl
 |p::N=>by simp[nxE,AV.refs,xG n N]
theorem qL(n:Nat):∀N:List Sd,(N.map sdE).flatMap (fun e=>e.1.refs n++e.2.refs n)=[]
 | []=>rfl
 |p::N=>by simp[sdE,AV.refs,AV.aeR,qL n N]
theorem mz(n:Nat)(N:List (Int×Int)):aeD.refs n (.map (N.map nxE))=[]:=xG n N
theorem mA(n:Nat)(N:List Sd):aeD.refs n (.ae8 (N.map sdE))=[]:=qL n N
theorem wR(n:Nat)(o:Bool)(e:Nat)(cs:List AV):aeD.refs n (.cells o e cs)=AV.aeR n cs:=rfl
theorem Br(f:Nat→Option Nat)(o:Bool)(e:Nat)(cs:List AV):aeD.ren f (.cells o e cs)=.cells o e (AV.aeM f cs):=rfl
theorem tU(n:Nat):aeD.refs n .kO=[]:=rfl
variable{K:Nat}
theorem Ak(ks:List Sd)(N:List (Int×Int))(first:Int)(cyc:List Int)(n1 n2:Nat)(hc:vt N first N.length first []=some cyc)(hN:N≠[])(hl:N.length≤1000000)(hK:N.length<K){b1 b:Code}(hb:ai f161=[b1,b])(M0:Mem)(hM:M0=[.ae8 (ks.map sdE),.kO,.kO,.cells true 0 [.slice 1 0 n1 none,.slice 2 0 n2 none],.map (N.map nxE),.kO]):
  ∃F:Env→Bool→Env,∀z' d,(ab z' 6=.map 4∧ab z' 7=.int .i64 first∧ab z' 13=.kK∧ab z' 14=.int .i64 first)→
   aN (aM prog) (fun _=>[13,14]) bq K 93 3 true (.loop b) ⟨z',M0,d⟩=some (.exit 2,⟨F z' d,M0++[.cells true 1 (iZ cyc)],d⟩)∧ab (F z' d) 13=.slice 6 0 cyc.length none:=by
 refine cv rfl (fun z'=>ab z' 6=.map 4∧ab z' 7=.int .i64 first∧ab z' 13=.kK∧ab z' 14=.int .i64 first) (fun _ AC =>ab AC 13=.slice 6 0 cyc.length none) ?_;rintro z' d ⟨h6,h7,h13,h14⟩;simp[ai,aK,f161] at hb;obtain⟨_,hb⟩:=hb;have hml:M0.length=6:=by rw[hM];rfl
 rw[hml];have hn:aD [13,14] (aa b) z' ((13,ouO [])::(14,.int .i64 first)::z')=aD [13,14] (aa b) z' z':=by simp[aD,h13,h14,ouO]
 rw[←hn];have hM2:M0=ouM M0 []:=rfl;conv=>congr;ext AC;lhs;lhs;rw[hM2]
 refine cV (α:=List Int×Int) (fun x=>⟨aD [13,14] (aa b) z' ((13,ouO x.1)::(14,.int .i64 x.2)::z'),ouM M0 x.1,d⟩) (fun x=>N.length-x.1.length) (fun x=>∃n,x.1.length+n=N.length∧vt N first n x.2 x.1=some cyc) (.exit 2) _ d _ (by simp) ?_ K ([],first) ⟨N.length,by simp,hc⟩ (by simpa using hK);rintro ⟨out,a⟩ ⟨n,Za,hw⟩;clear hn hM2;simp only at Za hw;cases n with
 |zero=>
  right;simp only[vt,Option.some.injEq] at hw;subst hw;cases out with
  |nil=>exact absurd (List.eq_nil_of_length_eq_zero (by simpa using Za.symm)) hN
  |cons x out=>
   have A':¬((out.length:Int)+1<N.length):=by simp at Za;omega
   subst hb hM;simp[ouO,ouM,h6,A']
 |succ n=>
  left;rw[vt] at hw;cases hlk:oV N a with
  |none=>rw[hlk] at hw;cases hw
  |some c=>
   rw[hlk] at hw;simp only at hw;split at hw
   ·cases hw
   ·rename_i hna
    obtain⟨q,hq⟩:=(vQ a N 0).2 c hlk;refine⟨(out++[a],c),?_⟩;have hlI:(out.length:Int)<N.length:=by omega
    subst hb hM;have hp:0<N.length:=by omega
    have hln:n+1≤1000000:=by omega
    have h0:vt N first n c (out++[a])=some cyc:=hw
    cases out with
    |nil=>
     by_cases hf:a=first
     ·subst hf
      simp[-aeD.refs,-aeD.ren,ouO,ouM,h6,h7,hp,kJ,ju,lE,hq,mz,mA,dy,fS,fA,tW,om,oS,gD,iZ,wR,Br,tU];exact⟨⟨n,by simp at Za;omega,h0⟩,by omega⟩
     ·simp[-aeD.refs,-aeD.ren,ouO,ouM,h6,h7,hp,hf,kJ,ju,lE,hq,mz,mA,dy,fS,fA,tW,om,oS,gD,iZ,wR,Br,tU]
      exact⟨⟨n,by simp at Za;omega,h0⟩,by omega⟩
    |cons x out=>
     have hf:¬a=first:=fun e=>hna ⟨e,by simp⟩
     have hlN:out.length+1<N.length:=by simp at Za;omega
     have hlI:(out.length:Int)+1<N.length:=by omega
     have hz:iZ (x::out)++[.int .i64 a]=iZ (x::(out++[a])):=by simp[iZ]
     have F':(iZ (x::out)).length=out.length+1:=by simp[iZ]
     have htk:(iZ (x::out)).take (out.length+1)=iZ (x::out):=List.take_of_length_le (by omega);have Zn:(out.length+1+1)*8≤140737488355328:=by omega
     have hk2:out.length≤140737488355326:=by omega
     simp[-aeD.refs,-aeD.ren,ouO,ouM,h6,h7,hf,hlI,kJ,ju,lE,hq,mz,mA,dy,fS,fA,tW,om,oS,gD,wR,Br,tU,Fw,Bs,htk,Zn,hk2,hz,F'];exact⟨⟨n,by simp at Za;omega,by simpa using h0⟩,by omega⟩
theorem RF{P:Program}{T:TypeId→Option TyI}{O:adM}{tp:Bool}{N m0:Nat}{lv:Code→List Nat}{Q:Exit→St→Prop}(hm:P.follows .mixedOrders=true)(hT:cJ P T)(hO:kP P O){c:Code}{s:XS}(hs:dv c=true)(h:∃e s',aN T lv O K N m0 tp c s=some (e,s')∧Q e ⟨s'.env,s'.mem⟩):AWP P tp N m0 c ⟨s.env,s.mem⟩ Q:=by obtain⟨e,s',h1,h2⟩:=h;exact uN hm hT hO hs h1 h2
def UT(ks:List Sd) (n1 n2:Nat) (seen:List Nat):Mem:=[.ae8 (ks.map sdE),.kO,.kO,.cells true 0 [.slice 1 0 n1 none,.slice 2 0 n2 none],.map ((cG ks seen).map nxE),.kO]
def ouV(ks:List Sd) (seen:List Nat) (t:Nat):AV:=if t=7 then .int .i64 (y7 (-1) (cG ks seen)) else .undef
theorem sk(ks:List Sd)(seen:List Nat)(j:Nat):cG ks (seen++[j])=cG ks seen++(match bAt ks j with | some p=>[p] | none=>[]):=by unfold cG;rw[List.filterMap_append];congr 1;simp only[List.filterMap_cons,List.filterMap_nil];cases bAt ks j<;>rfl
theorem Gf(ks:List Sd)(cyc:List Int)(n1 n2:Nat)(XW:tS ks=true)(hc:AJ (rK ks)=some cyc):
  kF prog 161 [.agg [.slice 1 0 n1 none,.slice 2 0 n2 none],.map 0] [.ae8 (ks.map sdE),.kO,.kO] (.tuple [.slice 3 0 cyc.length none,.bool true]) [.ae8 (ks.map sdE),.kO,.kO,.cells true 1 (iZ cyc)]:=by
 obtain⟨ok1,ok2,ok3,ok4⟩:=Kr XW;have hT:=aq prog;refine afb.intro hT (fn:=f161) (by kernel_rfl) rfl rfl (Nat.le_of_ble_eq_true rfl) ?_;refine wC ?_;refine uN ae hT (ah _) (lv:=fun _=>[]) (K:=1) (s:=⟨dL 0 [.agg [.slice 1 0 n1 none,.slice 2 0 n2 none],.map 0],[.ae8 (ks.map sdE),.kO,.kO],false⟩) rfl (s' :=⟨[(5,.bool false),(4,.kK),(2,.ptr 3 0),(0,.agg [.slice 1 0 n1 none,.slice 2 0 n2 none]),(1,.map 0)],[.ae8 (ks.map sdE),.kO,.kO,.cells true 0 [.slice 1 0 n1 none,.slice 2 0 n2 none]],false⟩) (e:=.normal) (by simp) ?_;refine wC ?_;refine uN ae hT (ah _) (lv:=fun _=>[]) (K:=1) (s:=⟨_,_,false⟩) rfl (s' :=⟨[(6,.map 4),(17,.map 4),(5,.bool false),(4,.kK),(2,.ptr 3 0),(0,.agg [.slice 1 0 n1 none,.slice 2 0 n2 none]),(1,.map 0)],[.ae8 (ks.map sdE),.kO,.kO,.cells true 0 [.slice 1 0 n1 none,.slice 2 0 n2 none],.map []],false⟩) (e:=.normal) (by simp) ?_;refine wC ?_;refine uN ae hT (ah _) (lv:=fun _=>[]) (K:=1) (s:=⟨_,_,false⟩) rfl (s' :=⟨[(7,.int .i64 (-1)),(6,.map 4),(17,.map 4),(5,.bool false),(4,.kK),(2,.ptr 3 0),(0,.agg [.slice 1 0 n1 none,.slice 2 0 n2 none]),(1,.map 0)],[.ae8 (ks.map sdE),.kO,.kO,.cells true 0 [.slice 1 0 n1 none,.slice 2 0 n2 none],.map []],false⟩) (e:=.normal) (by simp) ?_;refine wC ?_;show AWP _ _ _ _ _ ⟨[(7,.int .i64 (-1)),(6,.map 4),(17,.map 4),(5,.bool false),(4,.kK),(2,.ptr 3 0),(0,.agg [.slice 1 0 n1 none,.slice 2 0 n2 none]),(1,.map 0)],[.ae8 (ks.map sdE),.kO,.kO,.cells true 0 [.slice 1 0 n1 none,.slice 2 0 n2 none],.map []]⟩ _
 refine L9 ae hT (ah _) (lv:=fun _=>[]) (K:=1) (b:=0) (es:=ks.map sdE) (s:=⟨[(7,.int .i64 (-1)),(6,.map 4),(17,.map 4),(5,.bool false),(4,.kK),(2,.ptr 3 0),(0,.agg [.slice 1 0 n1 none,.slice 2 0 n2 none]),(1,.map 0)],[.ae8 (ks.map sdE),.kO,.kO,.cells true 0 [.slice 1 0 n1 none,.slice 2 0 n2 none],.map []],false⟩) (s1:=⟨[(18,.map 0),(7,.int .i64 (-1)),(6,.map 4),(17,.map 4),(5,.bool false),(4,.kK),(2,.ptr 3 0),(0,.agg [.slice 1 0 n1 none,.slice 2 0 n2 none]),(1,.map 0)],[.ae8 (ks.map sdE),.kO,.kO,.cells true 0 [.slice 1 0 n1 none,.slice 2 0 n2 none],.map []],false⟩)
  rfl rfl rfl rfl (Jm) rfl rfl rfl rfl rfl rfl rfl rfl rfl rfl rfl rfl ?_ ?_ ?_ ?_ rfl rfl [7] _ (ouV ks) (UT ks n1 n2) (fun seen=>seen.Nodup∧∀j∈seen,j<ks.length) rfl ?_ ?_ ?_ ?_ ?_ ?_ ?_
 ·decide
 ·decide
 ·rfl
 ·simp
 ·decide
 ·rfl
 ·rintro seen ⟨_,_⟩
  refine⟨rfl,rfl,rfl,fun x hx=>?_⟩;simp only[UT,List.mem_cons,List.not_mem_nil,or_false] at hx;rcases hx with rfl | rfl | rfl | rfl | rfl | rfl
  ·exact mA _ _
  ·rfl
  ·rfl
  ·rfl
  ·exact mz _ _
  ·rfl
 ·intro seen t _ ht
  simp only[List.mem_singleton] at ht;subst ht;rfl
 ·refine⟨⟨List.nodup_nil,fun j hj=>(by cases hj)⟩,rfl,fun t ht=>?_⟩
  simp only[List.mem_singleton] at ht;subst ht;rfl
 ·rintro seen env ⟨i1,i2⟩ hs hv H'
  have h7:=hv 7 (by simp);have h6:=hs 6 (by decide);simp[] at h6;simp only[ouV,if_true] at h7;have hp:=KS i1 i2 (fun j hj=>H' j (by simpa using hj));have hge:=Qc ok3 (seen:=seen);have abc:=Sy hp hge;have hlk:∀a,oV (cG ks seen) a=oV (rK ks) a:=PL hp (FI ok2)
  have F':(cG ks seen).length=(rK ks).length:=hp.length_eq;have hw:∀n a l,vt (cG ks seen) (y7 (-1) (cG ks seen)) n a l=vt (rK ks) (y7 (-1) (rK ks)) n a l:=by
   intro n;induction n with
   |zero=>intro a l;rfl
   |succ n ih=>intro a l;simp only[vt,hlk,ih];rw[abc]
  have hc' :vt (cG ks seen) (y7 (-1) (cG ks seen)) (cG ks seen).length (y7 (-1) (cG ks seen)) []=some cyc:=by rw[hw,F'];rw[abc];exact hc
  have hN:cG ks seen≠[]:=fun e=>ok1 (by rw[e] at F';exact List.eq_nil_of_length_eq_zero F'.symm)
  have hNl:(cG ks seen).length≤1000000:=by rw[F'];have:(rK ks).length≤(List.range ks.length).length:=List.length_filterMap_le _ _;rw[List.length_range] at this;omega
  obtain⟨b1,b,hb⟩:∃b1 b,ai f161=[b1,b]:=⟨_,_,rfl⟩
  obtain⟨F,hF⟩:=Ak (K:=(cG ks seen).length+1) ks (cG ks seen) _ cyc n1 n2 hc' hN hNl (by omega) hb _ rfl;simp[ai,aK,f161] at hb;obtain⟨_,hb⟩:=hb;subst hb;show AWP _ _ _ _ _ _ _
  refine RF ae hT (ah _) (lv:=fun _=>[13,14]) (K:=(cG ks seen).length+1) (s:=⟨_,_,false⟩) rfl ?_;show∃e s',aN (aM prog) (fun _=>[13,14]) bq ((cG ks seen).length+1) 93 3 true _ _=some (e,s')∧_
  simp[-aeD.refs,-aeD.ren,h6,h7,hF];have Y3:0<cyc.length:=by have:=xM hc';have:0<(cG ks seen).length:=List.length_pos_iff.2 hN;omega
  refine⟨_,_,⟨rfl,rfl⟩,.inr rfl,[6],rfl,.inl ⟨rfl,?_⟩⟩;have e2:decide (0<cyc.length)=true:=by simpa using Y3
  rw[e2];simp[AV.ren,AV.aeM,rho,afq,Bs,List.idxOf?,List.findIdx?,List.findIdx?.go]
 ·rintro seen env j k v ⟨i1,i2⟩ hs hv hj hns
  have h7:=hv 7 (by simp);have h1:=hs 1 (by decide);have h6:=hs 6 (by decide);simp[] at h1 h6;simp only[ouV,if_true] at h7;rw[List.getElem?_map] at hj;simp only[Option.map_eq_some_iff] at hj;obtain⟨s,hs1,ZC⟩:=hj;have hkv:=Prod.mk.inj ZC;obtain⟨hk,hvv⟩:=hkv;subst hk hvv;have Yj:=(gL hs1);have acM:(seen++[j]).Nodup∧∀i∈seen++[j],i<ks.length:=by
   constructor
   ·rw[List.nodup_append];exact⟨i1,by simp,fun a ha b hb=>by simp at hb;subst hb;rintro rfl;exact hns ha⟩
   ·intro i hi
    rcases List.mem_append.1 hi with h | h
    ·exact i2 i h
    ·simp at h;subst h;exact Yj
  have aat :(seen++[j]).Nodup∧∀i,i∈seen∨i=j→i<ks.length:=⟨acM.1,fun i hi=>acM.2 i (by simpa using hi)⟩
  cases hlk:PM ks (s.1.2,s.1.1) with
  |some t=>
   have hb:bAt ks j=none:=by simp[bAt,hs1,hlk]
   have hva:cG ks (seen++[j])=cG ks seen:=by rw[sk,hb];simp
   obtain⟨q,hq⟩:=(vR (s.1.2,s.1.1) ks 0).2 t hlk;rw[show(List.length _+1:Nat)=6 from rfl];simp[-aeD.refs,-aeD.ren,UT,ouV,h1,hq,hva,kJ,ju,lE,J9,jn,rY,rZ,cM,oS,List.range'];exact⟨_,_,⟨rfl,rfl⟩,.inr rfl,aat,by simpa using h7,rfl⟩
  |none=>
   have hb:bAt ks j=some s.1:=by simp[bAt,hs1,hlk]
   have hva:cG ks (seen++[j])=cG ks seen++[s.1]:=by rw[sk,hb]
   have abc:y7 (-1) (cG ks (seen++[j]))=if y7 (-1) (cG ks seen)<0∨s.1.1<y7 (-1) (cG ks seen) then s.1.1 else y7 (-1) (cG ks seen):=by rw[hva,MD];rfl
   have hq:=(vR (s.1.2,s.1.1) ks 0).1 hlk;have hfr:=FH ok2 hns hb;have hq2:=(vQ s.1.1 (cG ks seen) 0).1 hfr;rw[show(List.length _+1:Nat)=6 from rfl];unfold UT ouV;rw[abc,hva];obtain⟨m,hm⟩:∃m,m=y7 (-1) (cG ks seen):=⟨_,rfl⟩
   rw[←hm] at h7 ⊢;clear abc;by_cases c1:m<0
   ·simp[-aeD.refs,-aeD.ren,h1,h6,h7,hq,hq2,c1,kJ,eZ,ju,lE,J9,jn,rY,rZ,cM,oS,List.range']
    exact⟨_,_,⟨rfl,rfl⟩,.inl rfl,aat,rfl,rfl⟩
   ·by_cases c2:s.1.1<m
    ·simp[-aeD.refs,-aeD.ren,h1,h6,h7,hq,hq2,c1,c2,kJ,eZ,ju,lE,J9,jn,rY,rZ,cM,oS,List.range']
     exact⟨_,_,⟨rfl,rfl⟩,.inl rfl,aat,rfl,rfl⟩
    ·simp[-aeD.refs,-aeD.ren,h1,h6,h7,hq,hq2,c1,c2,kJ,eZ,ju,lE,J9,jn,rY,rZ,cM,oS,List.range']
     exact⟨_,_,⟨rfl,rfl⟩,.inl rfl,aat,h7,rfl⟩
def U2:List (AV×AV)→Option (List Sd)
 | []=>some []
 |(.agg [.int .i64 a,.int .i64 b],.int .i64 t)::l=>match U2 l with
  |some r=>some (((a,b),t)::r)
  |none=>none
 |_=>none
theorem DD:∀{es:List (AV×AV)}{ks:List Sd},U2 es=some ks→es=ks.map sdE
 | [],ks,h=>by cases h;rfl
 |e::es,ks,h=>by
  unfold U2 at h;split at h
  ·rename_i h1;cases h1
  ·rename_i a b t l h1
   cases h1;split at h
   ·rename_i r hr
    cases h;rw[DD hr];rfl
   ·cases h
  ·cases h
def PO(M:Mem) (b:Nat):Option (List (AV×AV)):=match M[b]? with
 |some (.map es)=>some es
 |some (.ae8 es)=>some es
 |_=>none
theorem S5(n:Nat)(s:Sd):(sdE s).1.under n=true∧(sdE s).2.under n=true:=by simp[sdE,AV.under,AV.aeQ]
theorem MS(f:Nat→Option Nat)(s:Sd):((sdE s).1.ren f,(sdE s).2.ren f)=sdE s:=by simp[sdE,AV.ren,AV.aeM]
theorem w9(M:Mem)(ks:List Sd)(cyc:List Int)(b b1 b2 n1 n2:Nat)(hb1:b1<M.length)(Yl:b2<M.length)(hm:PO M b=some (ks.map sdE))(XW:tS ks=true)(hc:AJ (rK ks)=some cyc):
  kF prog 161 [.agg [.slice b1 0 n1 none,.slice b2 0 n2 none],.map b] M (.tuple [.slice M.length 0 cyc.length none,.bool true]) (M++[.cells true 1 (iZ cyc)]):=by
 have hb:b<M.length:=by
  unfold PO at hm;split at hm
  ·rename_i es h;exact(gL h)
  ·rename_i es h;exact(gL h)
  ·cases hm
 have:=kF.frame (M:=M) (new:=[.cells true 1 (iZ cyc)]) [b,b1,b2] (m:=[.ae8 (ks.map sdE),.kO,.kO]) rfl (by intro k hk;simp at hk;rcases hk with rfl | rfl | rfl<;>assumption) (by rfl) (fun i s hs=>by
  match i with
  |0=>
   simp at hs;subst hs;refine⟨ks.map sdE,?_,rfl,fun j e he=>?_⟩
   ·unfold PO at hm
    split at hm
    ·rename_i es h;cases hm;exact .inr h
    ·rename_i es h;cases hm;exact .inl h
    ·cases hm
   ·rw[List.getElem?_map] at he
    simp only[Option.map_eq_some_iff] at he;obtain⟨s0,h1,rfl⟩:=he;refine⟨S5 _ _,?_⟩;rw[MS,List.getElem?_map,h1];rfl
  |1=>simp at hs;subst hs;trivial
  |2=>simp at hs;subst hs;trivial
  |i+3=>simp at hs) rfl (Gf ks cyc n1 n2 XW hc)
 simpa [AV.aeM,AV.ren,aF,aeD.ren,Bs] using this
def LL(c:Go.Eng.Callee) (args:List AV) (M:Mem):Option HS:=match c,args with
 |.fn 161,[.agg [.slice b1 0 _ none,.slice b2 0 _ none],.map b]=>match PO M b with
  |some es=>match U2 es with
   |some ks=>match AJ (rK ks) with
    |some cyc=>if tS ks&&(decide (b1<M.length)&&decide (b2<M.length)) then some ⟨.tuple [.slice M.length 0 cyc.length none,.bool true],none,[.cells true 1 (iZ cyc)]⟩ else none
    |none=>none
   |none=>none
  |none=>none
 |_,_=>none
theorem OM:kP prog LL:=by
 refine dq fun c args M r h=>?_
 unfold LL at h;split at h
 ·split at h
  ·rename_i es Y7
   split at h
   ·rename_i ks ZK
    split at h
    ·rename_i cyc adx
     split at h
     ·rename_i P'
      simp only[Bool.and_eq_true,decide_eq_true_eq] at P';cases h;refine af (w9 M ks cyc _ _ _ _ _ P'.2.1 P'.2.2 ?_ P'.1 adx);rw[Y7,DD ZK]
     ·cases h
    ·cases h
   ·cases h
  ·cases h
 ·cases h
noncomputable def M8:adM:=adM.or LL (ag ao)
theorem LO:kP prog M8:=kP.or OM bP
end Go.Proofs
