/- See K51. -/
import Derived.Test.YtffdedmakncfmaaGreatDoorK05
import Derived.Test.YtffdedmakncfmaaGreatDoorK19
set_option linter.all false
namespace Go.Proofs
open Go.Eng
theorem ue(a:Int):∀(N:List (Int×Int)) (i:Nat),(mT N a=none→gN (aO Tryz.prog) 3 (.int .i64 a) (N.map nxE) i=some none)∧∀b,mT N a=some b→∃q,gN (aO Tryz.prog) 3 (.int .i64 a) (N.map nxE) i=some (some (q,.int .i64 b))
 | [],i=>⟨fun _=>rfl,fun b h=>by cases h⟩
 |p::N,i=>by
  have e:iH (aO Tryz.prog) 20 3 (.int .i64 a) (.int .i64 p.1)=some (decide (a=p.1)):=by simp[iH]
  simp only[List.map_cons,gN,nxE,e,mT]
  have ih:=ue a N (i+1)
  by_cases h:a=p.1
  ·simp only[h,decide_true,if_true]
   exact⟨fun h=>(by cases h),fun b hb=>⟨i,(by cases hb;rfl)⟩⟩
  ·simp only[h,decide_false,if_false]
   exact ih
theorem OO(d:Nat) (x y:Int):iH (aO Tryz.prog) (d+1) 3 (.int .i64 x) (.int .i64 y)=some (decide (x=y)):=by
 rw[iH];simp
theorem OP(a b c d:Int):iH (aO Tryz.prog) 20 102 (.agg [.int .i64 a,.int .i64 b]) (.agg [.int .i64 c,.int .i64 d])=some (decide (a=c)&&decide (b=d)):=by
 have r:List.range' 0 2=[0,1]:=rfl
 have i:=OO 18
 rw[iH]
 simp only[Gg,Co,r,Qv]
 simp[gD,TyI.isAgg,i]
theorem uf(a:Int×Int):∀(N:List Sd) (i:Nat),(Mg N a=none→gN (aO Tryz.prog) 102 (.agg [.int .i64 a.1,.int .i64 a.2]) (N.map sdE) i=some none)∧∀b,Mg N a=some b→∃q,gN (aO Tryz.prog) 102 (.agg [.int .i64 a.1,.int .i64 a.2]) (N.map sdE) i=some (some (q,.int .i64 b))
 | [],i=>⟨fun _=>rfl,fun b h=>by cases h⟩
 |p::N,i=>by
  have e:=OP a.1 a.2 p.1.1 p.1.2
  simp only[List.map_cons,gN,sdE,e,Mg]
  have ih:=uf a N (i+1)
  by_cases h:a.1=p.1.1∧a.2=p.1.2
  ·rw[if_pos h]
   simp only[h.1,h.2,decide_true,Bool.and_true]
   exact⟨fun h=>(by cases h),fun b hb=>⟨i,(by cases hb;rfl)⟩⟩
  ·rw[if_neg h]
   have e2:(decide (a.1=p.1.1)&&decide (a.2=p.1.2))=false:=by
    rw[←Bool.not_eq_true];simpa using h
   rw[e2]
   exact ih
def ouO(l:List Int):AV:=match l with
 | []=>.nilslice
 |_=>.slice 6 0 l.length none
def ouM(M0:Mem) (l:List Int):Mem:=match l with
 | []=>M0
 |_=>M0++[.cells true 1 (iZ l)]
theorem vT(n:Nat):∀N:List (Int×Int),(N.map nxE).flatMap (fun e=>e.1.refs n++e.2.refs n)=[]
 | []=>rfl
 |p::N=>by simp[nxE,AV.refs,vT n N]
theorem oW(n:Nat):∀N:List Sd,(N.map sdE).flatMap (fun e=>e.1.refs n++e.2.refs n)=[]
 | []=>rfl
 |p::N=>by simp[sdE,AV.refs,AV.refsL,oW n N]
theorem kc(n:Nat) (N:List (Int×Int)):Slot.refs n (.map (N.map nxE))=[]:=vT n N
theorem ke(n:Nat) (N:List Sd):Slot.refs n (.fmap (N.map sdE))=[]:=oW n N
theorem uX(n:Nat) (o:Bool) (e:Nat) (cs:List AV):Slot.refs n (.cells o e cs)=AV.refsL n cs:=rfl
theorem zK(f:Nat→Option Nat) (o:Bool) (e:Nat) (cs:List AV):Slot.ren f (.cells o e cs)=.cells o e (AV.rens f cs):=rfl
theorem rP(n:Nat):Slot.refs n .absent=[]:=rfl
set_option maxHeartbeats 1600000 in
theorem yq{K:Nat}(ks:List Sd) (N:List (Int×Int)) (first:Int) (cyc:List Int) (n1 n2:Nat) (hc:tN N first N.length first []=some cyc) (hN:N≠[]) (hl:N.length≤1000000) (hK:N.length<K) {b1 b:Code}(hb:aj Tryz.f235=[b1,b]) (M0:Mem) (hM:M0=[.fmap (ks.map sdE),.absent,.absent,.cells true 0 [.slice 1 0 n1 none,.slice 2 0 n2 none],.map (N.map nxE),.absent]):
  ∃F:Env→Bool→Env,∀env0 d,(ab env0 6=.map 4∧ab env0 7=.int .i64 first∧ab env0 13=.nilslice∧ab env0 14=.int .i64 first)→
   aU (aO Tryz.prog) (fun _=>[13,14]) bt K 93 3 true (.loop b) ⟨env0,M0,d⟩=some (.exit 2,⟨F env0 d,M0++[.cells true 1 (iZ cyc)],d⟩)∧ab (F env0 d) 13=.slice 6 0 cyc.length none:=by
 refine bp rfl (fun env0=>ab env0 6=.map 4∧ab env0 7=.int .i64 first∧ab env0 13=.nilslice∧ab env0 14=.int .i64 first) (fun _ env' =>ab env' 13=.slice 6 0 cyc.length none) ?_
 rintro env0 d ⟨h6,h7,h13,h14⟩
 simp[aj,aM,Tryz.f235] at hb
 obtain⟨_,hb⟩:=hb
 have hml:M0.length=6:=by rw[hM];rfl
 rw[hml]
 have hn:az [13,14] (ad b) env0 ((13,ouO [])::(14,.int .i64 first)::env0)=az [13,14] (ad b) env0 env0:=by simp[az,h13,h14,ouO]
 rw[←hn]
 have hM2:M0=ouM M0 []:=rfl
 conv=>congr;ext env';lhs;lhs;rw[hM2]
 refine bK (α:=List Int×Int) (fun x=>⟨az [13,14] (ad b) env0 ((13,ouO x.1)::(14,.int .i64 x.2)::env0),ouM M0 x.1,d⟩) (fun x=>N.length-x.1.length) (fun x=>∃n,x.1.length+n=N.length∧tN N first n x.2 x.1=some cyc) (.exit 2) _ d _ (by simp) ?_ K ([],first) ⟨N.length,by simp,hc⟩ (by simpa using hK)
 rintro ⟨out,a⟩ ⟨n,hn1,hw⟩
 clear hn hM2
 simp only at hn1 hw
 cases n with
 |zero=>
  right
  simp only[tN,Option.some.injEq] at hw
  subst hw
  cases out with
  |nil=>exact absurd (List.eq_nil_of_length_eq_zero (by simpa using hn1.symm)) hN
  |cons x out=>
   have hlt:¬((out.length:Int)+1<N.length):=by simp at hn1;omega
   subst hb hM
   simp[ouO,ouM,h6,hlt]
 |succ n=>
  left
  rw[tN] at hw
  cases hlk:mT N a with
  |none=>rw[hlk] at hw;cases hw
  |some c=>
   rw[hlk] at hw
   simp only at hw
   split at hw
   ·cases hw
   ·rename_i hna
    obtain⟨q,hq⟩:=(ue a N 0).2 c hlk
    refine⟨(out++[a],c),?_⟩
    have hlI:(out.length:Int)<N.length:=by omega
    subst hb hM
    have hp:0<N.length:=by omega
    have hln:n+1≤1000000:=by omega
    have h0:tN N first n c (out++[a])=some cyc:=hw
    cases out with
    |nil=>
     by_cases hf:a=first
     ·subst hf
      simp[-Slot.refs,-Slot.ren,ouO,ouM,h6,h7,hp,jl,ig,jG,hq,kc,ke,mh,ej,kf,xn,uZ,mQ,eH,iZ,uX,zK,rP]
      exact⟨⟨n,by simp at hn1;omega,h0⟩,by omega⟩
     ·simp[-Slot.refs,-Slot.ren,ouO,ouM,h6,h7,hp,hf,jl,ig,jG,hq,kc,ke,mh,ej,kf,xn,uZ,mQ,eH,iZ,uX,zK,rP]
      exact⟨⟨n,by simp at hn1;omega,h0⟩,by omega⟩
    |cons x out=>
     have hf:¬a=first:=fun e=>hna ⟨e,by simp⟩
     have hlN:out.length+1<N.length:=by simp at hn1;omega
     have hlI:(out.length:Int)+1<N.length:=by omega
     have hz:iZ (x::out)++[.int .i64 a]=iZ (x::(out++[a])):=by simp[iZ]
     have hlen:(iZ (x::out)).length=out.length+1:=by simp[iZ]
     have htk:(iZ (x::out)).take (out.length+1)=iZ (x::out):=List.take_of_length_le (by omega)
     have hk1:(out.length+1+1)*8≤140737488355328:=by omega
     have hk2:out.length≤140737488355326:=by omega
     simp[-Slot.refs,-Slot.ren,ouO,ouM,h6,h7,hf,hlI,jl,ig,jG,hq,kc,ke,mh,ej,kf,xn,uZ,mQ,eH,uX,zK,rP,CU,zL,htk,hk1,hk2,hz,hlen]
     exact⟨⟨n,by simp at hn1;omega,by simpa using h0⟩,by omega⟩
theorem Nk{P:Program}{T:TypeId→Option TyI}{O:Oracle}{tp:Bool}{N m0 K:Nat}{lv:Code→List Nat}{Q:Exit→St→Prop}(hm:P.follows .mixedOrders=true) (hT:cf P T) (hO:OracleOk P O) {c:Code}{s:XS}(hs:bW c=true) (h:∃e s',aU T lv O K N m0 tp c s=some (e,s')∧Q e ⟨s'.env,s'.mem⟩):AWP P tp N m0 c ⟨s.env,s.mem⟩ Q:=by
 obtain⟨e,s',h1,h2⟩:=h
 exact sK hm hT hO hs h1 h2
def P8(ks:List Sd) (n1 n2:Nat) (seen:List Nat):Mem:=[.fmap (ks.map sdE),.absent,.absent,.cells true 0 [.slice 1 0 n1 none,.slice 2 0 n2 none],.map ((cb ks seen).map nxE),.absent]
def ouV(ks:List Sd) (seen:List Nat) (t:Nat):AV:=if t=7 then .int .i64 (xG (-1) (cb ks seen)) else .undef
theorem qv(ks:List Sd) (seen:List Nat) (j:Nat):cb ks (seen++[j])=cb ks seen++(match bAt ks j with | some p=>[p] | none=>[]):=by
 unfold cb
 rw[List.filterMap_append]
 congr 1
 simp only[List.filterMap_cons,List.filterMap_nil]
 cases bAt ks j<;>rfl
set_option maxHeartbeats 1600000 in
set_option maxRecDepth 100000 in
theorem Dy(ks:List Sd) (cyc:List Int) (n1 n2:Nat) (hok:rO ks=true) (hc:yT (qh ks)=some cyc):
  ACallsTo Tryz.prog 235 [.agg [.slice 1 0 n1 none,.slice 2 0 n2 none],.map 0] [.fmap (ks.map sdE),.absent,.absent] (.tuple [.slice 3 0 cyc.length none,.bool true]) [.fmap (ks.map sdE),.absent,.absent,.cells true 1 (iZ cyc)]:=by
 obtain⟨ok1,ok2,ok3,ok4⟩:=Hd hok
 have hT:=aw Tryz.prog
 refine ACalls.intro hT (fn:=Tryz.f235) (by kernel_rfl) rfl rfl (Nat.le_of_ble_eq_true rfl) ?_
 refine uD ?_
 refine sK ae hT (ak _) (lv:=fun _=>[]) (K:=1) (s:=⟨cB 0 [.agg [.slice 1 0 n1 none,.slice 2 0 n2 none],.map 0],[.fmap (ks.map sdE),.absent,.absent],false⟩) rfl (s' :=⟨[(5,.bool false),(4,.nilslice),(2,.ptr 3 0),(0,.agg [.slice 1 0 n1 none,.slice 2 0 n2 none]),(1,.map 0)],[.fmap (ks.map sdE),.absent,.absent,.cells true 0 [.slice 1 0 n1 none,.slice 2 0 n2 none]],false⟩) (e:=.normal) (by simp) ?_
 refine uD ?_
 refine sK ae hT (ak _) (lv:=fun _=>[]) (K:=1) (s:=⟨_,_,false⟩) rfl (s' :=⟨[(6,.map 4),(17,.map 4),(5,.bool false),(4,.nilslice),(2,.ptr 3 0),(0,.agg [.slice 1 0 n1 none,.slice 2 0 n2 none]),(1,.map 0)],[.fmap (ks.map sdE),.absent,.absent,.cells true 0 [.slice 1 0 n1 none,.slice 2 0 n2 none],.map []],false⟩) (e:=.normal) (by simp) ?_
 refine uD ?_
 refine sK ae hT (ak _) (lv:=fun _=>[]) (K:=1) (s:=⟨_,_,false⟩) rfl (s' :=⟨[(7,.int .i64 (-1)),(6,.map 4),(17,.map 4),(5,.bool false),(4,.nilslice),(2,.ptr 3 0),(0,.agg [.slice 1 0 n1 none,.slice 2 0 n2 none]),(1,.map 0)],[.fmap (ks.map sdE),.absent,.absent,.cells true 0 [.slice 1 0 n1 none,.slice 2 0 n2 none],.map []],false⟩) (e:=.normal) (by simp) ?_
 refine uD ?_
 show AWP _ _ _ _ _ ⟨[(7,.int .i64 (-1)),(6,.map 4),(17,.map 4),(5,.bool false),(4,.nilslice),(2,.ptr 3 0),(0,.agg [.slice 1 0 n1 none,.slice 2 0 n2 none]),(1,.map 0)],[.fmap (ks.map sdE),.absent,.absent,.cells true 0 [.slice 1 0 n1 none,.slice 2 0 n2 none],.map []]⟩ _
 refine IV ae hT (ak _) (lv:=fun _=>[]) (K:=1) (b:=0) (es:=ks.map sdE) (s:=⟨[(7,.int .i64 (-1)),(6,.map 4),(17,.map 4),(5,.bool false),(4,.nilslice),(2,.ptr 3 0),(0,.agg [.slice 1 0 n1 none,.slice 2 0 n2 none]),(1,.map 0)],[.fmap (ks.map sdE),.absent,.absent,.cells true 0 [.slice 1 0 n1 none,.slice 2 0 n2 none],.map []],false⟩) (s1:=⟨[(18,.map 0),(7,.int .i64 (-1)),(6,.map 4),(17,.map 4),(5,.bool false),(4,.nilslice),(2,.ptr 3 0),(0,.agg [.slice 1 0 n1 none,.slice 2 0 n2 none]),(1,.map 0)],[.fmap (ks.map sdE),.absent,.absent,.cells true 0 [.slice 1 0 n1 none,.slice 2 0 n2 none],.map []],false⟩)
  rfl rfl rfl rfl (Gh) rfl rfl rfl rfl rfl rfl rfl rfl rfl rfl rfl rfl ?_ ?_ ?_ ?_ rfl rfl [7] _ (ouV ks) (P8 ks n1 n2) (fun seen=>seen.Nodup∧∀j∈seen,j<ks.length) rfl ?_ ?_ ?_ ?_ ?_ ?_ ?_
 ·decide
 ·decide
 ·rfl
 ·simp
 ·decide
 ·rfl
 ·rintro seen ⟨_,_⟩
  refine⟨rfl,rfl,rfl,fun x hx=>?_⟩
  simp only[P8,List.mem_cons,List.not_mem_nil,or_false] at hx
  rcases hx with rfl | rfl | rfl | rfl | rfl | rfl
  ·exact ke _ _
  ·rfl
  ·rfl
  ·rfl
  ·exact kc _ _
  ·rfl
 ·intro seen t _ ht
  simp only[List.mem_singleton] at ht
  subst ht;rfl
 ·refine⟨⟨List.nodup_nil,fun j hj=>(by cases hj)⟩,rfl,fun t ht=>?_⟩
  simp only[List.mem_singleton] at ht
  subst ht;rfl
 ·rintro seen env ⟨i1,i2⟩ hs hv hall
  have h7:=hv 7 (by simp)
  have h6:=hs 6 (by decide)
  simp[] at h6
  simp only[ouV,if_true] at h7
  have hp:=HE i1 i2 (fun j hj=>hall j (by simpa using hj))
  have hge:=MF ok3 (seen:=seen)
  have hmin:=N4 hp hge
  have hlk:∀a,mT (cb ks seen) a=mT (qh ks) a:=Mf hp (Dd ok2)
  have hlen:(cb ks seen).length=(qh ks).length:=hp.length_eq
  have hw:∀n a l,tN (cb ks seen) (xG (-1) (cb ks seen)) n a l=tN (qh ks) (xG (-1) (qh ks)) n a l:=by
   intro n
   induction n with
   |zero=>intro a l;rfl
   |succ n ih=>intro a l;simp only[tN,hlk,ih];rw[hmin]
  have hc' :tN (cb ks seen) (xG (-1) (cb ks seen)) (cb ks seen).length (xG (-1) (cb ks seen)) []=some cyc:=by
   rw[hw,hlen];rw[hmin];exact hc
  have hN:cb ks seen≠[]:=fun e=>ok1 (by rw[e] at hlen;exact List.eq_nil_of_length_eq_zero hlen.symm)
  have hNl:(cb ks seen).length≤1000000:=by
   rw[hlen]
   have:(qh ks).length≤(List.range ks.length).length:=List.length_filterMap_le _ _
   rw[List.length_range] at this
   omega
  obtain⟨b1,b,hb⟩:∃b1 b,aj Tryz.f235=[b1,b]:=⟨_,_,rfl⟩
  obtain⟨F,hF⟩:=yq (K:=(cb ks seen).length+1) ks (cb ks seen) _ cyc n1 n2 hc' hN hNl (by omega) hb _ rfl
  simp[aj,aM,Tryz.f235] at hb
  obtain⟨_,hb⟩:=hb
  subst hb
  show AWP _ _ _ _ _ _ _
  refine Nk ae hT (ak _) (lv:=fun _=>[13,14]) (K:=(cb ks seen).length+1) (s:=⟨_,_,false⟩) rfl ?_
  show∃e s',aU (aO Tryz.prog) (fun _=>[13,14]) bt ((cb ks seen).length+1) 93 3 true _ _=some (e,s')∧_
  simp[-Slot.refs,-Slot.ren,h6,h7,hF]
  have hcl:0<cyc.length:=by
   have:=v7 hc'
   have:0<(cb ks seen).length:=List.length_pos_iff.2 hN
   omega
  refine⟨_,_,⟨rfl,rfl⟩,.inr rfl,[6],rfl,.inl ⟨rfl,?_⟩⟩
  have e2:decide (0<cyc.length)=true:=by simpa using hcl
  rw[e2]
  simp[AV.ren,AV.rens,rho,keep,zL,List.idxOf?,List.findIdx?,List.findIdx?.go]
 ·rintro seen env j k v ⟨i1,i2⟩ hs hv hj hns
  have h7:=hv 7 (by simp)
  have h1:=hs 1 (by decide)
  have h6:=hs 6 (by decide)
  simp[] at h1 h6
  simp only[ouV,if_true] at h7
  rw[List.getElem?_map] at hj
  simp only[Option.map_eq_some_iff] at hj
  obtain⟨s,hs1,hs2⟩:=hj
  have hkv:=Prod.mk.inj hs2
  obtain⟨hk,hvv⟩:=hkv
  subst hk hvv
  have hjl:=(List.getElem?_eq_some_iff.1 hs1).1
  have hinv:(seen++[j]).Nodup∧∀i∈seen++[j],i<ks.length:=by
   constructor
   ·rw[List.nodup_append];exact⟨i1,by simp,fun a ha b hb=>by simp at hb;subst hb;rintro rfl;exact hns ha⟩
   ·intro i hi
    rcases List.mem_append.1 hi with h | h
    ·exact i2 i h
    ·simp at h;subst h;exact hjl
  have hinv' :(seen++[j]).Nodup∧∀i,i∈seen∨i=j→i<ks.length:=⟨hinv.1,fun i hi=>hinv.2 i (by simpa using hi)⟩
  cases hlk:Mg ks (s.1.2,s.1.1) with
  |some t=>
   have hb:bAt ks j=none:=by simp[bAt,hs1,hlk]
   have hva:cb ks (seen++[j])=cb ks seen:=by rw[qv,hb];simp
   obtain⟨q,hq⟩:=(uf (s.1.2,s.1.1) ks 0).2 t hlk
   rw[show(List.length _+1:Nat)=6 from rfl]
   simp[-Slot.refs,-Slot.ren,P8,ouV,h1,hq,hva,jl,ig,jG,GY,gD,qo,qp,bx,mQ,List.range']
   exact⟨_,_,⟨rfl,rfl⟩,.inr rfl,hinv',by simpa using h7,rfl⟩
  |none=>
   have hb:bAt ks j=some s.1:=by simp[bAt,hs1,hlk]
   have hva:cb ks (seen++[j])=cb ks seen++[s.1]:=by rw[qv,hb]
   have hmin:xG (-1) (cb ks (seen++[j]))=if xG (-1) (cb ks seen)<0∨s.1.1<xG (-1) (cb ks seen) then s.1.1 else xG (-1) (cb ks seen):=by rw[hva,Ji];rfl
   have hq:=(uf (s.1.2,s.1.1) ks 0).1 hlk
   have hfr:=Dc ok2 hns hb
   have hq2:=(ue s.1.1 (cb ks seen) 0).1 hfr
   rw[show(List.length _+1:Nat)=6 from rfl]
   unfold P8 ouV
   rw[hmin,hva]
   obtain⟨m,hm⟩:∃m,m=xG (-1) (cb ks seen):=⟨_,rfl⟩
   rw[←hm] at h7 ⊢
   clear hmin
   by_cases c1:m<0
   ·simp[-Slot.refs,-Slot.ren,h1,h6,h7,hq,hq2,c1,jl,dI,ig,jG,GY,gD,qo,qp,bx,mQ,List.range']
    exact⟨_,_,⟨rfl,rfl⟩,.inl rfl,hinv',rfl,rfl⟩
   ·by_cases c2:s.1.1<m
    ·simp[-Slot.refs,-Slot.ren,h1,h6,h7,hq,hq2,c1,c2,jl,dI,ig,jG,GY,gD,qo,qp,bx,mQ,List.range']
     exact⟨_,_,⟨rfl,rfl⟩,.inl rfl,hinv',rfl,rfl⟩
    ·simp[-Slot.refs,-Slot.ren,h1,h6,h7,hq,hq2,c1,c2,jl,dI,ig,jG,GY,gD,qo,qp,bx,mQ,List.range']
     exact⟨_,_,⟨rfl,rfl⟩,.inl rfl,hinv',h7,rfl⟩
def Qd:List (AV×AV)→Option (List Sd)
 | []=>some []
 |(.agg [.int .i64 a,.int .i64 b],.int .i64 t)::l=>match Qd l with
  |some r=>some (((a,b),t)::r)
  |none=>none
 |_=>none
theorem Bu:∀{es:List (AV×AV)} {ks:List Sd},Qd es=some ks→es=ks.map sdE
 | [],ks,h=>by cases h;rfl
 |e::es,ks,h=>by
  unfold Qd at h
  split at h
  ·rename_i h1;cases h1
  ·rename_i a b t l h1
   cases h1
   split at h
   ·rename_i r hr
    cases h
    rw[Bu hr];rfl
   ·cases h
  ·cases h
def Mi(M:Mem) (b:Nat):Option (List (AV×AV)):=match M[b]? with
 |some (.map es)=>some es
 |some (.fmap es)=>some es
 |_=>none
theorem Ov(n:Nat) (s:Sd):(sdE s).1.under n=true∧(sdE s).2.under n=true:=by simp[sdE,AV.under,AV.unders]
theorem Jw(f:Nat→Option Nat) (s:Sd):((sdE s).1.ren f,(sdE s).2.ren f)=sdE s:=by simp[sdE,AV.ren,AV.rens]
theorem vj(M:Mem) (ks:List Sd) (cyc:List Int) (b b1 b2 n1 n2:Nat) (hb1:b1<M.length) (hb2:b2<M.length) (hm:Mi M b=some (ks.map sdE)) (hok:rO ks=true) (hc:yT (qh ks)=some cyc):
  ACallsTo Tryz.prog 235 [.agg [.slice b1 0 n1 none,.slice b2 0 n2 none],.map b] M (.tuple [.slice M.length 0 cyc.length none,.bool true]) (M++[.cells true 1 (iZ cyc)]):=by
 have hb:b<M.length:=by
  unfold Mi at hm
  split at hm
  ·rename_i es h;exact(List.getElem?_eq_some_iff.1 h).1
  ·rename_i es h;exact(List.getElem?_eq_some_iff.1 h).1
  ·cases hm
 have:=ACallsTo.frame (M:=M) (new:=[.cells true 1 (iZ cyc)]) [b,b1,b2] (m:=[.fmap (ks.map sdE),.absent,.absent]) rfl (by intro k hk;simp at hk;rcases hk with rfl | rfl | rfl<;>assumption) (by rfl) (fun i s hs=>by
  match i with
  |0=>
   simp at hs;subst hs
   refine⟨ks.map sdE,?_,rfl,fun j e he=>?_⟩
   ·unfold Mi at hm
    split at hm
    ·rename_i es h;cases hm;exact .inr h
    ·rename_i es h;cases hm;exact .inl h
    ·cases hm
   ·rw[List.getElem?_map] at he
    simp only[Option.map_eq_some_iff] at he
    obtain⟨s0,h1,rfl⟩:=he
    refine⟨Ov _ _,?_⟩
    rw[Jw,List.getElem?_map,h1];rfl
  |1=>simp at hs;subst hs;trivial
  |2=>simp at hs;subst hs;trivial
  |i+3=>simp at hs) rfl (Dy ks cyc n1 n2 hok hc)
 simpa [AV.rens,AV.ren,eK,Slot.ren,zL] using this
def IB(c:Go.Eng.Callee) (args:List AV) (M:Mem):Option CallRes:=match c,args with
 |.fn 235,[.agg [.slice b1 0 _ none,.slice b2 0 _ none],.map b]=>match Mi M b with
  |some es=>match Qd es with
   |some ks=>match yT (qh ks) with
    |some cyc=>if rO ks&&(decide (b1<M.length)&&decide (b2<M.length)) then some ⟨.tuple [.slice M.length 0 cyc.length none,.bool true],none,[.cells true 1 (iZ cyc)]⟩ else none
    |none=>none
   |none=>none
  |none=>none
 |_,_=>none
theorem Lg:OracleOk Tryz.prog IB:=by
 refine ca fun c args M r h=>?_
 unfold IB at h
 split at h
 ·split at h
  ·rename_i es hes
   split at h
   ·rename_i ks hks
    split at h
    ·rename_i cyc hcyc
     split at h
     ·rename_i hcond
      simp only[Bool.and_eq_true,decide_eq_true_eq] at hcond
      cases h
      refine ah (vj M ks cyc _ _ _ _ _ hcond.2.1 hcond.2.2 ?_ hcond.1 hcyc)
      rw[hes,Bu hks]
     ·cases h
    ·cases h
   ·cases h
  ·cases h
 ·cases h
noncomputable def JH:Oracle:=Oracle.or IB (ai aP)
theorem ID:OracleOk Tryz.prog JH:=OracleOk.or Lg cA
end Go.Proofs
