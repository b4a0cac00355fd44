/- See P53. -/
import Derived.Test.YtmhkeaphiadacaaGreatDoorP16
import Derived.Test.YtmhkeaphiadacaaGreatDoorP08
import Derived.Test.YtmhkeaphiadacaaGreatDoorP14
set_option linter.all false
set_option maxRecDepth 100000
set_option maxHeartbeats 40000000
namespace Go.Proofs
open Go.Eng
open Tryz
theorem TM{α β γ:Type}{A:α→Prop}{B:α→β→γ→Prop}{C D:β→γ→Prop}(h:∃a b c,A a∧B a b c∧C b c):∃a b c,A a∧B a b c∧(C b c∨D b c):=by obtain⟨a,b,c,h1,h2,h3⟩:=h;exact⟨a,b,c,h1,h2,.inl h3⟩
theorem mJ(a:Int):∀(N:List (Int×Int)) (i:Nat),(mA N a=none→jc (aC prog) 3 (.int .i64 a) (N.map nxE) i=some none)∧∀b,mA N a=some b→∃q,jc (aC prog) 3 (.int .i64 a) (N.map nxE) i=some (some (q,.int .i64 b))
 | [],i=>⟨fun _=>rfl,fun b h=>by cases h⟩
 |p::N,i=>by
  have e:iI (aC prog) 20 3 (.int .i64 a) (.int .i64 p.1)=some (decide (a=p.1)):=by simp[iI]
  simp only[List.map_cons,jc,nxE,e,mA];have ih:=mJ a N (i+1);by_cases h:a=p.1
  ·simp only[h,decide_true,if_true]
   exact⟨fun h=>(by cases h),fun b hb=>⟨i,(by cases hb;rfl)⟩⟩
  ·simp only[h,decide_false,if_false]
   exact ih
theorem SA(d:Nat)(x y:Int):iI (aC prog) (d+1) 3 (.int .i64 x) (.int .i64 y)=some (decide (x=y)):=by rw[iI];simp
theorem SB(a b c d:Int):iI (aC prog) 20 143 (.agg [.int .i64 a,.int .i64 b]) (.agg [.int .i64 c,.int .i64 d])=some (decide (a=c)&&decide (b=d)):=by have r:List.range' 0 2=[0,1]:=rfl;have i:=SA 18;rw[iI];simp only[JP,E6,r,Ug];simp[fR,TyI.isAgg,i]
theorem mK(a:Int×Int):∀(N:List Sd) (i:Nat),(M5 N a=none→jc (aC prog) 143 (.agg [.int .i64 a.1,.int .i64 a.2]) (N.map sdE) i=some none)∧∀b,M5 N a=some b→∃q,jc (aC prog) 143 (.agg [.int .i64 a.1,.int .i64 a.2]) (N.map sdE) i=some (some (q,.int .i64 b))
 | [],i=>⟨fun _=>rfl,fun b h=>by cases h⟩
 |p::N,i=>by
  have e:=SB a.1 a.2 p.1.1 p.1.2;simp only[List.map_cons,jc,sdE,e,M5];have ih:=mK a N (i+1);by_cases h:a.1=p.1.1∧a.2=p.1.2
  ·rw[if_pos h]
   simp only[h.1,h.2,decide_true,Bool.and_true];exact⟨fun h=>(by cases h),fun b hb=>⟨i,(by cases hb;rfl)⟩⟩
  ·rw[if_neg h]
   have e2:(decide (a.1=p.1.1)&&decide (a.2=p.1.2))=false:=by rw[←Bool.not_eq_true];simpa using h
   rw[e2];exact ih
def ouO(l:List Int):AV:=match l with
 | []=>.kO
 |_=>.slice 6 0 l.length none
def ouM(M0:Mem) (l:List Int):Mem:=match l with
 | []=>M0
 |_=>M0++[.cells true 1 (iZ l)]
theorem xS(n:Nat):∀N:List (Int×Int),(N.map nxE).flatMap (fun e=>e.1.refs n++e.2.refs n)=[]
 | []=>rfl
 |p::N=>by simp[nxE,AV.refs,xS n N]
theorem mg(n:Nat):∀N:List Sd,(N.map sdE).flatMap (fun e=>e.1.refs n++e.2.refs n)=[]
 | []=>rfl
 |p::N=>by simp[sdE,AV.refs,AV.aas,mg n N]
theorem jz(n:Nat)(N:List (Int×Int)):aae.refs n (.map (N.map nxE))=[]:=xS n N
theorem jA(n:Nat)(N:List Sd):aae.refs n (.aaF (N.map sdE))=[]:=mg n N
theorem wU(n:Nat)(o:Bool)(e:Nat)(cs:List AV):aae.refs n (.cells o e cs)=AV.aas n cs:=rfl
theorem Bt(f:Nat→Option Nat)(o:Bool)(e:Nat)(cs:List AV):aae.ren f (.cells o e cs)=.cells o e (AV.aal f cs):=rfl
theorem ug(n:Nat):aae.refs n .qF=[]:=rfl
variable{K:Nat}
theorem Ay(ks:List Sd)(N:List (Int×Int))(first:Int)(cyc:List Int)(n1 n2:Nat)(hc:vG N first N.length first []=some cyc)(hN:N≠[])(hl:N.length≤1000000)(hK:N.length<K){b1 b:Code}(hb:aj f107=[b1,b])(M0:Mem)(hM:M0=[.aaF (ks.map sdE),.qF,.qF,.cells true 0 [.slice 1 0 n1 none,.slice 2 0 n2 none],.map (N.map nxE),.qF]):
  ∃F:Env→Bool→Env,∀y' d,(aa y' 6=.map 4∧aa y' 7=.int .i64 first∧aa y' 13=.kO∧aa y' 14=.int .i64 first)→
   aQ (aC prog) (fun _=>[13,14]) bt K 93 3 true (.loop b) ⟨y',M0,d⟩=some (.exit 2,⟨F y' d,M0++[.cells true 1 (iZ cyc)],d⟩)∧aa (F y' d) 13=.slice 6 0 cyc.length none:=by
 refine bf rfl (fun y'=>aa y' 6=.map 4∧aa y' 7=.int .i64 first∧aa y' 13=.kO∧aa y' 14=.int .i64 first) (fun _ z' =>aa z' 13=.slice 6 0 cyc.length none) ?_;rintro y' d ⟨h6,h7,h13,h14⟩;simp[aj,aD,f107] at hb;obtain⟨_,hb⟩:=hb;have Z7:M0.length=6:=by rw[hM];rfl
 rw[Z7];have hn:az [13,14] (ab b) y' ((13,ouO [])::(14,.int .i64 first)::y')=az [13,14] (ab b) y' y':=by simp[az,h13,h14,ouO]
 rw[←hn];have XH:M0=ouM M0 []:=rfl;conv=>congr;ext z';lhs;lhs;rw[XH]
 refine bA (α:=List Int×Int) (fun x=>⟨az [13,14] (ab b) y' ((13,ouO x.1)::(14,.int .i64 x.2)::y'),ouM M0 x.1,d⟩) (fun x=>N.length-x.1.length) (fun x=>∃n,x.1.length+n=N.length∧vG N first n x.2 x.1=some cyc) (.exit 2) _ d _ (by simp) ?_ K ([],first) ⟨N.length,by simp,hc⟩ (by simpa using hK);rintro ⟨out,a⟩ ⟨n,Xi,hw⟩;clear hn XH;simp only at Xi hw;cases n with
 |zero=>
  right;simp only[vG,Option.some.injEq] at hw;subst hw;cases out with
  |nil=>exact absurd (List.eq_nil_of_length_eq_zero (by simpa using Xi.symm)) hN
  |cons x out=>
   have AC:¬((out.length:Int)+1<N.length):=by simp at Xi;omega
   subst hb hM;simp[ouO,ouM,h6,AC]
 |succ n=>
  left;rw[vG] at hw;cases ZF:mA N a with
  |none=>rw[ZF] at hw;cases hw
  |some c=>
   rw[ZF] at hw;simp only at hw;split at hw
   ·cases hw
   ·rename_i hna
    obtain⟨q,hq⟩:=(mJ a N 0).2 c ZF;refine⟨(out++[a],c),?_⟩;have hlI:(out.length:Int)<N.length:=by omega
    subst hb hM;have hp:0<N.length:=by omega
    have hln:n+1≤1000000:=by omega
    have h0:vG N first n c (out++[a])=some cyc:=hw
    cases out with
    |nil=>
     by_cases hf:a=first
     ·subst hf
      simp[-aae.refs,-aae.ren,ouO,ouM,h6,h7,hp,gO,fI,jf,hq,jz,jA,gq,fH,il,w9,vx,kB,gA,iZ,wU,Bt,ug];exact⟨⟨n,by simp at Xi;omega,h0⟩,by omega⟩
     ·simp[-aae.refs,-aae.ren,ouO,ouM,h6,h7,hp,hf,gO,fI,jf,hq,jz,jA,gq,fH,il,w9,vx,kB,gA,iZ,wU,Bt,ug]
      exact⟨⟨n,by simp at Xi;omega,h0⟩,by omega⟩
    |cons x out=>
     have hf:¬a=first:=fun e=>hna ⟨e,by simp⟩
     have hlN:out.length+1<N.length:=by simp at Xi;omega
     have hlI:(out.length:Int)+1<N.length:=by omega
     have hz:iZ (x::out)++[.int .i64 a]=iZ (x::(out++[a])):=by simp[iZ]
     have A':(iZ (x::out)).length=out.length+1:=by simp[iZ]
     have htk:(iZ (x::out)).take (out.length+1)=iZ (x::out):=List.take_of_length_le (by omega);have hk1:(out.length+1+1)*8≤140737488355328:=by omega
     have hk2:out.length≤140737488355326:=by omega
     simp[-aae.refs,-aae.ren,ouO,ouM,h6,h7,hf,hlI,gO,fI,jf,hq,jz,jA,gq,fH,il,w9,vx,kB,gA,wU,Bt,ug,FJ,Bu,htk,hk1,hk2,hz,A'];exact⟨⟨n,by simp at Xi;omega,by simpa using h0⟩,by omega⟩
theorem Rh{P:Program}{T:TypeId→Option TyI}{O:aac}{tp:Bool}{N m0:Nat}{lv:Code→List Nat}{Q:Exit→St→Prop}(hm:P.follows .mixedOrders=true)(hT:cH P T)(hO:qS P O){c:Code}{s:XS}(hs:dR c=true)(h:∃e s',aQ T lv O K N m0 tp c s=some (e,s')∧Q e ⟨s'.env,s'.mem⟩):AWP P tp N m0 c ⟨s.env,s.mem⟩ Q:=by obtain⟨e,s',h1,h2⟩:=h;exact jJ hm hT hO hs h1 h2
def FF(ks:List Sd) (n1 n2:Nat) (seen:List Nat):Mem:=[.aaF (ks.map sdE),.qF,.qF,.cells true 0 [.slice 1 0 n1 none,.slice 2 0 n2 none],.map ((bJ ks seen).map nxE),.qF]
def ouV(ks:List Sd) (seen:List Nat) (t:Nat):AV:=if t=7 then .int .i64 (vm (-1) (bJ ks seen)) else .undef
theorem jq(ks:List Sd)(seen:List Nat)(j:Nat):bJ ks (seen++[j])=bJ ks seen++(match bAt ks j with | some p=>[p] | none=>[]):=by unfold bJ;rw[List.filterMap_append];congr 1;simp only[List.filterMap_cons,List.filterMap_nil];cases bAt ks j<;>rfl
theorem Gs(ks:List Sd)(cyc:List Int)(n1 n2:Nat)(WN:oH ks=true)(hc:tW (pn ks)=some cyc):
  mB prog 107 [.agg [.slice 1 0 n1 none,.slice 2 0 n2 none],.map 0] [.aaF (ks.map sdE),.qF,.qF] (.tuple [.slice 3 0 cyc.length none,.bool true]) [.aaF (ks.map sdE),.qF,.qF,.cells true 1 (iZ cyc)]:=by
 obtain⟨ok1,ok2,ok3,ok4⟩:=KG WN;have hT:=aw prog;refine aaM.intro hT (fn:=f107) (by kernel_rfl) rfl rfl (Nat.le_of_ble_eq_true rfl) ?_;refine mv ?_;refine jJ af hT (ah _) (lv:=fun _=>[]) (K:=1) (s:=⟨dE 0 [.agg [.slice 1 0 n1 none,.slice 2 0 n2 none],.map 0],[.aaF (ks.map sdE),.qF,.qF],false⟩) rfl (s' :=⟨[(5,.bool false),(4,.kO),(2,.ptr 3 0),(0,.agg [.slice 1 0 n1 none,.slice 2 0 n2 none]),(1,.map 0)],[.aaF (ks.map sdE),.qF,.qF,.cells true 0 [.slice 1 0 n1 none,.slice 2 0 n2 none]],false⟩) (e:=.normal) (by simp) ?_;refine mv ?_;refine jJ af hT (ah _) (lv:=fun _=>[]) (K:=1) (s:=⟨_,_,false⟩) rfl (s' :=⟨[(6,.map 4),(17,.map 4),(5,.bool false),(4,.kO),(2,.ptr 3 0),(0,.agg [.slice 1 0 n1 none,.slice 2 0 n2 none]),(1,.map 0)],[.aaF (ks.map sdE),.qF,.qF,.cells true 0 [.slice 1 0 n1 none,.slice 2 0 n2 none],.map []],false⟩) (e:=.normal) (by simp) ?_;refine mv ?_;refine jJ af hT (ah _) (lv:=fun _=>[]) (K:=1) (s:=⟨_,_,false⟩) rfl (s' :=⟨[(7,.int .i64 (-1)),(6,.map 4),(17,.map 4),(5,.bool false),(4,.kO),(2,.ptr 3 0),(0,.agg [.slice 1 0 n1 none,.slice 2 0 n2 none]),(1,.map 0)],[.aaF (ks.map sdE),.qF,.qF,.cells true 0 [.slice 1 0 n1 none,.slice 2 0 n2 none],.map []],false⟩) (e:=.normal) (by simp) ?_;refine mv ?_;show AWP _ _ _ _ _ ⟨[(7,.int .i64 (-1)),(6,.map 4),(17,.map 4),(5,.bool false),(4,.kO),(2,.ptr 3 0),(0,.agg [.slice 1 0 n1 none,.slice 2 0 n2 none]),(1,.map 0)],[.aaF (ks.map sdE),.qF,.qF,.cells true 0 [.slice 1 0 n1 none,.slice 2 0 n2 none],.map []]⟩ _
 refine xv af hT (ah _) (lv:=fun _=>[]) (K:=1) (b:=0) (es:=ks.map sdE) (s:=⟨[(7,.int .i64 (-1)),(6,.map 4),(17,.map 4),(5,.bool false),(4,.kO),(2,.ptr 3 0),(0,.agg [.slice 1 0 n1 none,.slice 2 0 n2 none]),(1,.map 0)],[.aaF (ks.map sdE),.qF,.qF,.cells true 0 [.slice 1 0 n1 none,.slice 2 0 n2 none],.map []],false⟩) (s1:=⟨[(18,.map 0),(7,.int .i64 (-1)),(6,.map 4),(17,.map 4),(5,.bool false),(4,.kO),(2,.ptr 3 0),(0,.agg [.slice 1 0 n1 none,.slice 2 0 n2 none]),(1,.map 0)],[.aaF (ks.map sdE),.qF,.qF,.cells true 0 [.slice 1 0 n1 none,.slice 2 0 n2 none],.map []],false⟩)
  rfl rfl rfl rfl (AG) rfl rfl rfl rfl rfl rfl rfl rfl rfl rfl rfl rfl ?_ ?_ ?_ ?_ rfl rfl [7] _ (ouV ks) (FF ks n1 n2) (fun seen=>seen.Nodup∧∀j∈seen,j<ks.length) rfl ?_ ?_ ?_ ?_ ?_ ?_ ?_
 ·decide
 ·decide
 ·rfl
 ·simp
 ·decide
 ·rfl
 ·rintro seen ⟨_,_⟩
  refine⟨rfl,rfl,rfl,fun x hx=>?_⟩;simp only[FF,List.mem_cons,List.not_mem_nil,or_false] at hx;rcases hx with rfl | rfl | rfl | rfl | rfl | rfl
  ·exact jA _ _
  ·rfl
  ·rfl
  ·rfl
  ·exact jz _ _
  ·rfl
 ·intro seen t _ ht
  simp only[List.mem_singleton] at ht;subst ht;rfl
 ·refine⟨⟨List.nodup_nil,fun j hj=>(by cases hj)⟩,rfl,fun t ht=>?_⟩
  simp only[List.mem_singleton] at ht;subst ht;rfl
 ·rintro seen env ⟨i1,i2⟩ hs hv G'
  have h7:=hv 7 (by simp);have h6:=hs 6 (by decide);simp[] at h6;simp only[ouV,if_true] at h7;have hp:=La i1 i2 (fun j hj=>G' j (by simpa using hj));have hge:=Qo ok3 (seen:=seen);have ZA:=RR hp hge;have ZF:∀a,mA (bJ ks seen) a=mA (pn ks) a:=P4 hp (FX ok2)
  have A':(bJ ks seen).length=(pn ks).length:=hp.length_eq;have hw:∀n a l,vG (bJ ks seen) (vm (-1) (bJ ks seen)) n a l=vG (pn ks) (vm (-1) (pn ks)) n a l:=by
   intro n;induction n with
   |zero=>intro a l;rfl
   |succ n ih=>intro a l;simp only[vG,ZF,ih];rw[ZA]
  have ZD :vG (bJ ks seen) (vm (-1) (bJ ks seen)) (bJ ks seen).length (vm (-1) (bJ ks seen)) []=some cyc:=by rw[hw,A'];rw[ZA];exact hc
  have hN:bJ ks seen≠[]:=fun e=>ok1 (by rw[e] at A';exact List.eq_nil_of_length_eq_zero A'.symm)
  have hNl:(bJ ks seen).length≤1000000:=by rw[A'];have:(pn ks).length≤(List.range ks.length).length:=List.length_filterMap_le _ _;rw[List.length_range] at this;omega
  obtain⟨b1,b,hb⟩:∃b1 b,aj f107=[b1,b]:=⟨_,_,rfl⟩
  obtain⟨F,hF⟩:=Ay (K:=(bJ ks seen).length+1) ks (bJ ks seen) _ cyc n1 n2 ZD hN hNl (by omega) hb _ rfl;simp[aj,aD,f107] at hb;obtain⟨_,hb⟩:=hb;subst hb;show AWP _ _ _ _ _ _ _
  refine Rh af hT (ah _) (lv:=fun _=>[13,14]) (K:=(bJ ks seen).length+1) (s:=⟨_,_,false⟩) rfl ?_;show∃e s',aQ (aC prog) (fun _=>[13,14]) bt ((bJ ks seen).length+1) 93 3 true _ _=some (e,s')∧_
  simp[-aae.refs,-aae.ren,h6,h7,hF];have Xh:0<cyc.length:=by have:=xY ZD;have:0<(bJ ks seen).length:=List.length_pos_iff.2 hN;omega
  refine⟨_,_,⟨rfl,rfl⟩,.inr rfl,[6],rfl,.inl ⟨rfl,?_⟩⟩;have e2:decide (0<cyc.length)=true:=by simpa using Xh
  rw[e2];simp[AV.ren,AV.aal,rho,aa3,Bu,List.idxOf?,List.findIdx?,List.findIdx?.go]
 ·rintro seen env j k v ⟨i1,i2⟩ hs hv hj hns
  refine TM ?_;have h7:=hv 7 (by simp);have h1:=hs 1 (by decide);have h6:=hs 6 (by decide);simp[] at h1 h6;simp only[ouV,if_true] at h7;rw[List.getElem?_map] at hj;simp only[Option.map_eq_some_iff] at hj;obtain⟨s,Zn,Yj⟩:=hj;have hkv:=Prod.mk.inj Yj;obtain⟨hk,hvv⟩:=hkv;subst hk hvv;have WB:=(List.getElem?_eq_some_iff.1 Zn).1;have hinv:(seen++[j]).Nodup∧∀i∈seen++[j],i<ks.length:=by
   constructor
   ·rw[List.nodup_append];exact⟨i1,by simp,fun a ha b hb=>by simp at hb;subst hb;rintro rfl;exact hns ha⟩
   ·intro i hi
    rcases List.mem_append.1 hi with h | h
    ·exact i2 i h
    ·simp at h;subst h;exact WB
  have YT :(seen++[j]).Nodup∧∀i,i∈seen∨i=j→i<ks.length:=⟨hinv.1,fun i hi=>hinv.2 i (by simpa using hi)⟩
  cases ZF:M5 ks (s.1.2,s.1.1) with
  |some t=>
   have hb:bAt ks j=none:=by simp[bAt,Zn,ZF]
   have hva:bJ ks (seen++[j])=bJ ks seen:=by rw[jq,hb];simp
   obtain⟨q,hq⟩:=(mK (s.1.2,s.1.1) ks 0).2 t ZF;rw[show(List.length _+1:Nat)=6 from rfl];simp[-aae.refs,-aae.ren,FF,ouV,h1,hq,hva,gO,fI,jf,wM,fR,kk,ko,bO,kB,List.range'];exact⟨_,_,⟨rfl,rfl⟩,.inr rfl,YT,by simpa using h7,rfl⟩
  |none=>
   have hb:bAt ks j=some s.1:=by simp[bAt,Zn,ZF]
   have hva:bJ ks (seen++[j])=bJ ks seen++[s.1]:=by rw[jq,hb]
   have ZA:vm (-1) (bJ ks (seen++[j]))=if vm (-1) (bJ ks seen)<0∨s.1.1<vm (-1) (bJ ks seen) then s.1.1 else vm (-1) (bJ ks seen):=by rw[hva,Bk];rfl
   have hq:=(mK (s.1.2,s.1.1) ks 0).1 ZF;have hfr:=FW ok2 hns hb;have hq2:=(mJ s.1.1 (bJ ks seen) 0).1 hfr;rw[show(List.length _+1:Nat)=6 from rfl];unfold FF ouV;rw[ZA,hva];obtain⟨m,hm⟩:∃m,m=vm (-1) (bJ ks seen):=⟨_,rfl⟩
   rw[←hm] at h7 ⊢;clear ZA;by_cases c1:m<0
   ·simp[-aae.refs,-aae.ren,h1,h6,h7,hq,hq2,c1,gO,dq,fI,jf,wM,fR,kk,ko,bO,kB,List.range']
    exact⟨_,_,⟨rfl,rfl⟩,.inl rfl,YT,rfl,rfl⟩
   ·by_cases c2:s.1.1<m
    ·simp[-aae.refs,-aae.ren,h1,h6,h7,hq,hq2,c1,c2,gO,dq,fI,jf,wM,fR,kk,ko,bO,kB,List.range']
     exact⟨_,_,⟨rfl,rfl⟩,.inl rfl,YT,rfl,rfl⟩
    ·simp[-aae.refs,-aae.ren,h1,h6,h7,hq,hq2,c1,c2,gO,dq,fI,jf,wM,fR,kk,ko,bO,kB,List.range']
     exact⟨_,_,⟨rfl,rfl⟩,.inl rfl,YT,h7,rfl⟩
def T3:List (AV×AV)→Option (List Sd)
 | []=>some []
 |(.agg [.int .i64 a,.int .i64 b],.int .i64 t)::l=>match T3 l with
  |some r=>some (((a,b),t)::r)
  |none=>none
 |_=>none
theorem DK:∀{es:List (AV×AV)}{ks:List Sd},T3 es=some ks→es=ks.map sdE
 | [],ks,h=>by cases h;rfl
 |e::es,ks,h=>by
  unfold T3 at h;split at h
  ·rename_i h1;cases h1
  ·rename_i a b t l h1
   cases h1;split at h
   ·rename_i r hr
    cases h;rw[DK hr];rfl
   ·cases h
  ·cases h
def wP(M:Mem) (b:Nat):Option (List (AV×AV)):=match M[b]? with
 |some (.map es)=>some es
 |some (.aaF es)=>some es
 |_=>none
theorem KX(n:Nat)(s:Sd):(sdE s).1.under n=true∧(sdE s).2.under n=true:=by simp[sdE,AV.under,AV.aah]
theorem FP(f:Nat→Option Nat)(s:Sd):((sdE s).1.ren f,(sdE s).2.ren f)=sdE s:=by simp[sdE,AV.ren,AV.aal]
theorem pH(M:Mem)(ks:List Sd)(cyc:List Int)(b b1 b2 n1 n2:Nat)(hb1:b1<M.length)(WE:b2<M.length)(hm:wP M b=some (ks.map sdE))(WN:oH ks=true)(hc:tW (pn ks)=some cyc):
  mB prog 107 [.agg [.slice b1 0 n1 none,.slice b2 0 n2 none],.map b] M (.tuple [.slice M.length 0 cyc.length none,.bool true]) (M++[.cells true 1 (iZ cyc)]):=by
 have hb:b<M.length:=by
  unfold wP at hm;split at hm
  ·rename_i es h;exact(List.getElem?_eq_some_iff.1 h).1
  ·rename_i es h;exact(List.getElem?_eq_some_iff.1 h).1
  ·cases hm
 have:=mB.frame (M:=M) (new:=[.cells true 1 (iZ cyc)]) [b,b1,b2] (m:=[.aaF (ks.map sdE),.qF,.qF]) rfl (by intro k hk;simp at hk;rcases hk with rfl | rfl | rfl<;>assumption) (by rfl) (fun i s hs=>by
  match i with
  |0=>
   simp at hs;subst hs;refine⟨ks.map sdE,?_,rfl,fun j e he=>?_⟩
   ·unfold wP at hm
    split at hm
    ·rename_i es h;cases hm;exact .inr h
    ·rename_i es h;cases hm;exact .inl h
    ·cases hm
   ·rw[List.getElem?_map] at he
    simp only[Option.map_eq_some_iff] at he;obtain⟨s0,h1,rfl⟩:=he;refine⟨KX _ _,?_⟩;rw[FP,List.getElem?_map,h1];rfl
  |1=>simp at hs;subst hs;trivial
  |2=>simp at hs;subst hs;trivial
  |i+3=>simp at hs) rfl (Gs ks cyc n1 n2 WN hc)
 simpa [AV.aal,AV.ren,dr,aae.ren,Bu] using this
def Mq(c:Go.Eng.Callee) (args:List AV) (M:Mem):Option HS:=match c,args with
 |.fn 107,[.agg [.slice b1 0 _ none,.slice b2 0 _ none],.map b]=>match wP M b with
  |some es=>match T3 es with
   |some ks=>match tW (pn ks) with
    |some cyc=>if oH ks&&(decide (b1<M.length)&&decide (b2<M.length)) then some ⟨.tuple [.slice M.length 0 cyc.length none,.bool true],none,[.cells true 1 (iZ cyc)]⟩ else none
    |none=>none
   |none=>none
  |none=>none
 |_,_=>none
theorem OR:qS prog Mq:=by
 refine cJ fun c args M r h=>?_
 unfold Mq at h;split at h
 ·split at h
  ·rename_i es XV
   split at h
   ·rename_i ks YP
    split at h
    ·rename_i cyc hcyc
     split at h
     ·rename_i I'
      simp only[Bool.and_eq_true,decide_eq_true_eq] at I';cases h;refine ak (pH M ks cyc _ _ _ _ _ I'.2.1 I'.2.2 ?_ I'.1 hcyc);rw[XV,DK YP]
     ·cases h
    ·cases h
   ·cases h
  ·cases h
 ·cases h
noncomputable def NA:aac:=aac.or Mq (ar bd)
theorem Mt:qS prog NA:=qS.or OR dX
end Go.Proofs
