/- See K51. -/
import Derived.Test.YtffdedmakncfmaaGreatDoorK15
set_option linter.all false
namespace Go.Proofs
open Go.Eng
def gp(mn:Bool) (v:Nat):List UInt8:=if v=0 then [48] else if mn then 45::au v else au v
theorem jn(z:Int):gp (decide (z<0)) z.natAbs=bE z:=by
 unfold gp
 by_cases h0:z=0
 ·subst h0;rfl
 ·rw[if_neg (by omega)]
  by_cases h:z<0
  ·rw[decide_eq_true h,if_pos rfl]
   have:=jV (n:= -z) (by omega)
   rw[Int.neg_neg] at this
   rw[this,gP (by omega),Int.natAbs_neg]
  ·rw[decide_eq_false h,if_neg (by simp),gP (by omega)]
theorem uc(v:Nat) (mn:Bool) (hv:0<v) (hl:(dig 1000000000 v).length≤1000000) {ps:Array Tmp}{asg body:Code}(hb:de Tryz.f142=[(ps,asg,body)]):
  ∃O:Oracle,OracleOk Tryz.prog O∧∀env0,(ab env0 1=.ptr 1 0∧ab env0 3=.ptr 2 0∧env0.flatMap (fun e=>e.2.refs 5)=[])→
   O (.fn 245) [.yield 4,.ptr 3 0] [.cells false 1 (iN .u64 (dig 1000000000 v)),.cells true 0 [.bool mn,.slice 0 0 (dig 1000000000 v).length none],.cells true aE [.nilptr,.nilslice],.cells true 0 [.slice 0 0 (dig 1000000000 v).length none],.loop ⟨.ready,none,env0,34,ps,asg,body⟩]=some ⟨.tuple [],some [.cells false 1 (iN .u64 (dig 1000000000 v)),.cells true 0 [.bool mn,.slice 0 0 (dig 1000000000 v).length none],.cells true aE [.ptr 2 0,.slice 5 0 (au v).length none],.cells true 0 [.slice 0 0 (dig 1000000000 v).length none],.loop ⟨.ready,none,env0,34,ps,asg,body⟩],[.cells true 6001 (iB (au v))]⟩:=by
 refine gy (ι:=Env) (fun env0=>ab env0 1=.ptr 1 0∧ab env0 3=.ptr 2 0∧env0.flatMap (fun e=>e.2.refs 5)=[]) (fun _=>.fn 245) (fun _=>[.yield 4,.ptr 3 0]) (fun env0=>[.cells false 1 (iN .u64 (dig 1000000000 v)),.cells true 0 [.bool mn,.slice 0 0 (dig 1000000000 v).length none],.cells true aE [.nilptr,.nilslice],.cells true 0 [.slice 0 0 (dig 1000000000 v).length none],.loop ⟨.ready,none,env0,34,ps,asg,body⟩]) (fun env0=>⟨.tuple [],some [.cells false 1 (iN .u64 (dig 1000000000 v)),.cells true 0 [.bool mn,.slice 0 0 (dig 1000000000 v).length none],.cells true aE [.ptr 2 0,.slice 5 0 (au v).length none],.cells true 0 [.slice 0 0 (dig 1000000000 v).length none],.loop ⟨.ready,none,env0,34,ps,asg,body⟩],[.cells true 6001 (iB (au v))]⟩) ?_ ?_
 ·rintro env0 ⟨h1,h3,he⟩
  refine⟨?_,fun q hq=>by cases hq;rfl⟩
  exact wK v mn hv hl hb env0 h1 h3 he
 ·intro i j _ _ _ _ h
  simp only[List.cons.injEq,Slot.loop.injEq,LoopA.mk.injEq,and_true,true_and] at h
  rw[h]
theorem sj(v:Nat) (mn:Bool) (hv:0<v) (hl:(dig 1000000000 v).length≤1000000) {ps:Array Tmp}{asg body:Code}(hb:de Tryz.f142=[(ps,asg,body)]):
  ∃O:Oracle,OracleOk Tryz.prog O∧∀env0,(ab env0 1=.ptr 1 0∧ab env0 3=.ptr 2 0∧env0.flatMap (fun e=>e.2.refs 7)=[])→
   O (.fn 245) [.yield 6,.ptr 5 0] [.cells false 1 (iN .u64 (dig 1000000000 v)),.cells true 0 [.bool mn,.slice 0 0 (dig 1000000000 v).length none],.cells true aE [.ptr 2 0,.slice 4 0 1 none],.cells true 1 (iB [45]),.cells true 6001 (iB [45]),.cells true 0 [.slice 0 0 (dig 1000000000 v).length none],.loop ⟨.ready,none,env0,34,ps,asg,body⟩]=some ⟨.tuple [],some [.cells false 1 (iN .u64 (dig 1000000000 v)),.cells true 0 [.bool mn,.slice 0 0 (dig 1000000000 v).length none],.cells true aE [.ptr 2 0,.slice 7 0 (45::au v).length none],.cells true 1 (iB [45]),.absent,.cells true 0 [.slice 0 0 (dig 1000000000 v).length none],.loop ⟨.ready,none,env0,34,ps,asg,body⟩],[.cells true 6001 (iB (45::au v))]⟩:=by
 refine gy (ι:=Env) (fun env0=>ab env0 1=.ptr 1 0∧ab env0 3=.ptr 2 0∧env0.flatMap (fun e=>e.2.refs 7)=[]) (fun _=>.fn 245) (fun _=>[.yield 6,.ptr 5 0]) (fun env0=>[.cells false 1 (iN .u64 (dig 1000000000 v)),.cells true 0 [.bool mn,.slice 0 0 (dig 1000000000 v).length none],.cells true aE [.ptr 2 0,.slice 4 0 1 none],.cells true 1 (iB [45]),.cells true 6001 (iB [45]),.cells true 0 [.slice 0 0 (dig 1000000000 v).length none],.loop ⟨.ready,none,env0,34,ps,asg,body⟩]) (fun env0=>⟨.tuple [],some [.cells false 1 (iN .u64 (dig 1000000000 v)),.cells true 0 [.bool mn,.slice 0 0 (dig 1000000000 v).length none],.cells true aE [.ptr 2 0,.slice 7 0 (45::au v).length none],.cells true 1 (iB [45]),.absent,.cells true 0 [.slice 0 0 (dig 1000000000 v).length none],.loop ⟨.ready,none,env0,34,ps,asg,body⟩],[.cells true 6001 (iB (45::au v))]⟩) ?_ ?_
 ·rintro env0 ⟨h1,h3,he⟩
  refine⟨?_,fun q hq=>by cases hq;rfl⟩
  exact ud v mn hv hl hb env0 h1 h3 he
 ·intro i j _ _ _ _ h
  simp only[List.cons.injEq,Slot.loop.injEq,LoopA.mk.injEq,and_true,true_and] at h
  rw[h]
theorem Aj(v:Nat) (mn:Bool) (hv:0<v) (hl:(dig 1000000000 v).length≤1000000):
  ∃O:Oracle,OracleOk Tryz.prog O∧aa (aO Tryz.prog) (fun _=>[]) (aN Tryz.prog) ((bm.or eF).or O) 1 142 [.agg [.bool mn,.slice 0 0 (dig 1000000000 v).length none]] [.cells false 1 (iN .u64 (dig 1000000000 v))]=
   some ⟨.str (if mn then 45::au v else au v),some [.cells false 1 (iN .u64 (dig 1000000000 v))],[]⟩:=by
 have hG:aN Tryz.prog 142=some Tryz.f142:=by kernel_rfl
 obtain⟨ps,asg,body,hb⟩:∃ps asg body,de Tryz.f142=[(ps,asg,body)]:=⟨_,_,_,rfl⟩
 have hne:dig 1000000000 v≠[]:=by rw[ne_eq,pz (by omega)];omega
 have hlen:(au v).length≤90000000:=by
  have h1:=fX (ct (B:=1000000000) (by omega) v)
  rw[bU (by omega)] at h1
  have h2:(1000000000:Nat) ^ (dig 1000000000 v).length=10 ^ (9*(dig 1000000000 v).length):=by rw[Nat.pow_mul]
  rw[h2] at h1
  have h3:=List.length_pos_iff.2 hne
  have h4:=aK (by omega) h1
  omega
 have hnd:=gR v
 cases mn with
 |false=>
  obtain⟨O,hO,hOr⟩:=uc v false hv hl hb
  refine⟨O,hO,?_⟩
  obtain⟨A,hA⟩:∃A,A=dig 1000000000 v:=⟨_,rfl⟩
  obtain⟨t,ht⟩:∃t,t=au v:=⟨_,rfl⟩
  rw[←hA] at hne
  rw[←hA,←ht] at hOr
  rw[←hA]
  rw[←ht] at hlen hnd
  simp only[Bool.false_eq_true,if_false,←ht]
  have hA0:¬A.length=0:=fun e=>hne (List.eq_nil_of_length_eq_zero e)
  have ht1:t.length≤100000000:=by omega
  simp[de,ef,Tryz.f142] at hb
  obtain⟨rfl,rfl,rfl⟩:=hb
  simp[aa,hG,Tryz.f142,Oracle.or,bm,bD,bG,bw,eF,ai,bh,ao,hA0,rF,hOr,vB,iy,ht1,hnd]
 |true=>
  obtain⟨O,hO,hOr⟩:=sj v true hv hl hb
  refine⟨O,hO,?_⟩
  obtain⟨A,hA⟩:∃A,A=dig 1000000000 v:=⟨_,rfl⟩
  obtain⟨t,ht⟩:∃t,t=45::au v:=⟨_,rfl⟩
  have hlen' :t.length≤100000000:=by rw[ht,List.length_cons];omega
  have hnd' :t≠[]:=by rw[ht];simp
  rw[←hA] at hne
  rw[←hA,←ht] at hOr
  rw[←hA]
  simp only[if_true,←ht]
  have hA0:¬A.length=0:=fun e=>hne (List.eq_nil_of_length_eq_zero e)
  simp[de,ef,Tryz.f142] at hb
  obtain⟨rfl,rfl,rfl⟩:=hb
  simp[aa,hG,Tryz.f142,Oracle.or,bm,bD,bG,bw,eF,ai,bh,ao,hA0,rF,hOr,vB,iy,hlen',hnd']
theorem ya(mn:Bool):aa (aO Tryz.prog) (fun _=>[]) (aN Tryz.prog) bt 1 142 [.agg [.bool mn,.slice 0 0 0 none]] [.cells false 1 []]=some ⟨.str [48],none,[]⟩:=by
 have hG:aN Tryz.prog 142=some Tryz.f142:=by kernel_rfl
 simp[aa,hG,Tryz.f142]
theorem z8(mn:Bool) (M:Mem):ACallsTo Tryz.prog 142 [.agg [.bool mn,.nilslice]] M (.str [48]) M:=by
 have hG:aN Tryz.prog 142=some Tryz.f142:=by kernel_rfl
 refine aq (ak _) (lv:=fun _=>[]) (K:=1) rfl rfl ?_ M
 simp[aa,hG,Tryz.f142]
theorem Dj{M:Mem}{x:AV}{A:List Nat}(mn:Bool) (hA:lok 1000000000 A=true) (tA:bd A=A) (hl:A.length≤1000000) (hx:RowAt .u64 M x A):
  ACallsTo Tryz.prog 142 [.agg [.bool mn,x]] M (.str (gp mn (ay 1000000000 A))) M:=by
 obtain⟨b,o,cs,rfl,hb,ht⟩:=hx
 have hlt:=(List.getElem?_eq_some_iff.1 hb).1
 have small:ACallsTo Tryz.prog 142 [.agg [.bool mn,.slice 0 0 A.length none]] [.cells false 1 (iN .u64 A)] (.str (gp mn (ay 1000000000 A))) ([.cells false 1 (iN .u64 A)]++[]):=by
  by_cases hv:ay 1000000000 A=0
  ·have e:A=[]:=by
    have:=xB (by omega) hA tA
    rw[hv,dq] at this
    exact this.symm
   subst e
   have:=(af ae (aw _) (ak _) (ax _) (ya mn)).1
   simpa [CallRes.mem,gp,ay] using this
  ·have e:=xB (by omega) hA tA
   obtain⟨O,hO,h⟩:=Aj (ay 1000000000 A) mn (by omega) (by rw[e];exact hl)
   rw[e] at h
   have:=(af ae (aw _) ((nf.or vn).or hO) (ax _) h).1
   simpa [CallRes.mem,gp,hv] using this
 have:=ACallsTo.frame (M:=M) [b] (m:=[.cells false 1 (iN .u64 A)]) rfl (by simpa using hlt) (by simp) (fun i s hs=>by
  cases i with
  |zero=>simp at hs;subst hs;exact .row hb ht
  |succ i=>simp at hs) rfl small
 simpa [AV.rens,AV.ren,eK] using this
noncomputable def bH:Oracle:=fun c args M=>match c,args with
 |.fn 142,[.agg [.bool mn,.nilslice]]=>some ⟨.str (gp mn 0),none,[]⟩
 |.fn 142,[.agg [.bool mn,x]]=>match bB .u64 M x with
  |some A=>if lok 1000000000 A=true∧bd A=A∧A.length≤1000000 then some ⟨.str (gp mn (ay 1000000000 A)),none,[]⟩ else none
  |none=>none
 |.fn 140,[.str s]=>match jF s with
  |some z=>if (au z.natAbs).length≤1000000 then some ⟨.agg [.bool (decide (z<0)),.slice M.length 0 (dig 1000000000 z.natAbs).length none],none,[.cells true 1 (iN .u64 (dig 1000000000 z.natAbs))]⟩ else none
  |none=>none
 |c,args=>bm c args M
theorem DZ:OracleOk Tryz.prog bH:=by
 refine ca fun c args M r h=>?_
 unfold bH at h
 split at h
 ·cases h
  refine ah ?_
  rw[List.append_nil]
  exact z8 _ M
 ·split at h
  ·rename_i hA
   split at h
   ·rename_i hc
    obtain⟨c1,c2,c3⟩:=hc
    cases h
    refine ah ?_
    rw[List.append_nil]
    exact Dj _ c1 c2 c3 (bI hA)
   ·cases h
  ·cases h
 ·split at h
  ·rename_i hz
   split at h
   ·rename_i hl
    cases h
    rw[cg hz]
    exact ah (HT _ hl M)
   ·cases h
  ·cases h
 ·exact dJ nf h
theorem bY(n:Nat):(dig 1000000000 n).length≤(au n).length:=by
 obtain⟨c1,c2,c3⟩:=jm _ (au n) (Nat.le_refl _) (cW _)
 rw[dj] at c2
 have hd:bd (fJ (au n))=dig 1000000000 n:=by rw[←ez (by omega) c1,c2]
 have:=cF (fJ (au n))
 rw[hd] at this
 omega
theorem oK{a b k:Nat}(ha:(au a).length≤k) (hb:(au b).length≤k):(au (a+b)).length≤k+1:=by
 have h1:=cn a
 have h2:=cn b
 have h3:10 ^ (au a).length≤10 ^ k:=Nat.pow_le_pow_right (by omega) ha
 have h4:10 ^ (au b).length≤10 ^ k:=Nat.pow_le_pow_right (by omega) hb
 refine aK (by omega) ?_
 rw[Nat.pow_succ];omega
theorem gv{a b k:Nat}(ha:(au a).length≤k) (hb:(au b).length≤k):(au (a*b)).length≤2*k:=by
 have h1:=cn a
 have h2:=cn b
 have h3:10 ^ (au a).length≤10 ^ k:=Nat.pow_le_pow_right (by omega) ha
 have h4:10 ^ (au b).length≤10 ^ k:=Nat.pow_le_pow_right (by omega) hb
 have:=pV a
 exact aK (by omega) (iY (by omega) (by omega))
theorem cv{a b:Nat}(h:a≤b):(au a).length≤(au b).length:=by
 have:=cn b
 exact aK (pV b) (by omega)
theorem Ha(n:Int):(au n.natAbs).length≤(bE n).length:=by
 cases n with
 |ofNat u=>exact Nat.le_refl _
 |negSucc u=>simp[bE]
theorem gQ{n:Int}{k:Nat}(h:(bE n).length≤k):n.natAbs<10 ^ k:=by
 have h1:=cn n.natAbs
 have h2:=Ha n
 have h3:10 ^ (au n.natAbs).length≤10 ^ k:=Nat.pow_le_pow_right (by omega) (by omega)
 omega
noncomputable def aF(f:FuncId) (args:List AV):Option AV:=
 match f,args with
 |139,[.str s,.int .i64 m]=>match jF s with
  |some n=>if m≤18∧s.length≤1000000000 then some (if (s.length:Int)≤m then .tuple [.int .i64 n,.bool true] else .tuple [.int .i64 0,.bool false]) else none
  |none=>none
 |114,[.int .i64 n]=>if dD n then some (.str (bE n)) else none
 |135,[.str s]=>match jF s with
  |some n=>if s.length≤1000000000 then some (.str (bE (-n))) else none
  |none=>none
 |108,[.str s,.str t]=>match jF s,jF t with
  |some m,some n=>some (.int .i64 (HG m n))
  |_,_=>none
 |f,args=>aH f args
theorem vt:OracleOk Tryz.prog (ai aF):=bM fun f args v h mem=>by
 unfold aF at h
 split at h
 ·split at h
  ·rename_i n hn
   split at h
   ·rename_i hc
    cases h
    rw[cg hn] at hc ⊢
    exact HX n _ hc.1 hc.2 mem
   ·cases h
  ·cases h
 ·split at h
  ·rename_i hc;cases h;exact ON _ hc mem
  ·cases h
 ·split at h
  ·rename_i n hn
   split at h
   ·rename_i hc
    cases h
    rw[cg hn] at hc ⊢
    exact MQ n hc mem
   ·cases h
  ·cases h
 ·split at h
  ·rename_i m n hm hn
   cases h
   rw[cg hm,cg hn]
   exact Aa m n mem
  ·cases h
 ·have:=nU.fn _ _ mem ⟨v,none,[]⟩ (by unfold ai;simp only;rw[h])
  simpa [CallRes.mem] using this
noncomputable def bJ:Oracle:=fun c args M=>((ai aF).or bH) c args M
theorem l8:OracleOk Tryz.prog bJ:=vt.or DZ
theorem hs0{A:List Nat}(ow:Bool) (l:Mem):bB .u64 (.cells ow 1 (iN .u64 A)::l) (.slice 0 0 A.length none)=some A:=ba rfl (by simp) (List.take_of_length_le (by simp))
theorem hs1{A:List Nat}(ow:Bool) (a0:Slot) (l:Mem):bB .u64 (a0::.cells ow 1 (iN .u64 A)::l) (.slice 1 0 A.length none)=some A:=ba rfl (by simp) (List.take_of_length_le (by simp))
theorem hs2{A:List Nat}(ow:Bool) (a0 a1:Slot) (l:Mem):bB .u64 (a0::a1::.cells ow 1 (iN .u64 A)::l) (.slice 2 0 A.length none)=some A:=ba rfl (by simp) (List.take_of_length_le (by simp))
theorem hs3{A:List Nat}(ow:Bool) (a0 a1 a2:Slot) (l:Mem):bB .u64 (a0::a1::a2::.cells ow 1 (iN .u64 A)::l) (.slice 3 0 A.length none)=some A:=ba rfl (by simp) (List.take_of_length_le (by simp))
theorem hs4{A:List Nat}(ow:Bool) (a0 a1 a2 a3:Slot) (l:Mem):bB .u64 (a0::a1::a2::a3::.cells ow 1 (iN .u64 A)::l) (.slice 4 0 A.length none)=some A:=ba rfl (by simp) (List.take_of_length_le (by simp))
theorem hs5{A:List Nat}(ow:Bool) (a0 a1 a2 a3 a4:Slot) (l:Mem):bB .u64 (a0::a1::a2::a3::a4::.cells ow 1 (iN .u64 A)::l) (.slice 5 0 A.length none)=some A:=ba rfl (by simp) (List.take_of_length_le (by simp))
set_option maxHeartbeats 1600000 in
theorem Kw(a b:Int) (ha:(au a.natAbs).length≤100000) (hb:(au b.natAbs).length≤100000) (mem:Mem):ACallsTo Tryz.prog 134 [.str (bE a),.str (bE b)] mem (.str (bE (a+b))) mem:=by
 have hG:aN Tryz.prog 134=some Tryz.f134:=by kernel_rfl
 refine aq l8 (lv:=fun _=>[]) (K:=1) rfl rfl ?_ mem
 have la:=cm a
 have lb:=cm b
 have la1:(bE a).length≤1000000000:=by omega
 have lb1:(bE b).length≤1000000000:=by omega
 by_cases hq:(bE a).length≤18∧(bE b).length≤18
 ·have q1:((bE a).length:Int)≤18:=by omega
  have q2:((bE b).length:Int)≤18:=by omega
  have s1:=gQ hq.1
  have s2:=gQ hq.2
  have w1:IntKind.i64.wrap (a+b)=a+b:=ag (by omega) (by omega)
  have hf:dD (a+b)=true:=by unfold dD;simp;omega
  simp[aa,hG,Tryz.f134,bJ,Oracle.or,ai,aF,aL,la1,lb1,q1,q2,w1,hf]
 ·have da:=bY a.natAbs
  have db:=bY b.natAbs
  have la2:(au a.natAbs).length≤1000000:=by omega
  have lb2:(au b.natAbs).length≤1000000:=by omega
  have sum:=oK ha hb
  have ds:=bY (a.natAbs+b.natAbs)
  have va:ay 1000000000 (dig 1000000000 a.natAbs)=a.natAbs:=bU (by omega) _
  have vb:ay 1000000000 (dig 1000000000 b.natAbs)=b.natAbs:=bU (by omega) _
  have oa:lok 1000000000 (dig 1000000000 a.natAbs)=true:=ct (by omega) _
  have ob:lok 1000000000 (dig 1000000000 b.natAbs)=true:=ct (by omega) _
  have ta:bd (dig 1000000000 a.natAbs)=dig 1000000000 a.natAbs:=cE (by omega) _
  have tb:bd (dig 1000000000 b.natAbs)=dig 1000000000 b.natAbs:=cE (by omega) _
  obtain⟨A,hA⟩:∃A,A=dig 1000000000 a.natAbs:=⟨_,rfl⟩
  obtain⟨B,hB⟩:∃B,B=dig 1000000000 b.natAbs:=⟨_,rfl⟩
  rw[←hA] at da va oa ta
  rw[←hB] at db vb ob tb
  have g1:A.length≤100000000:=by omega
  have g2:B.length≤100000000:=by omega
  have g3:A.length≤1000000000:=by omega
  have g4:B.length≤1000000000:=by omega
  by_cases hs:(decide (a<0))=(decide (b<0))
  ·obtain⟨S,hS⟩:∃S,S=dig 1000000000 (a.natAbs+b.natAbs):=⟨_,rfl⟩
   have vs:ay 1000000000 S=a.natAbs+b.natAbs:=by rw[hS];exact bU (by omega) _
   have os:lok 1000000000 S=true:=by rw[hS];exact ct (by omega) _
   have ts:bd S=S:=by rw[hS];exact cE (by omega) _
   have g5:S.length≤1000000:=by rw[hS];omega
   have hres:gp (decide (a<0)) (a.natAbs+b.natAbs)=bE (a+b):=by
    rw[←jn (a+b)]
    have:(a+b).natAbs=a.natAbs+b.natAbs:=by
     by_cases h1:a<0<;>by_cases h2:b<0<;>simp[h1,h2] at hs<;>omega
    rw[this]
    by_cases h1:a<0<;>by_cases h2:b<0<;>simp[h1,h2] at hs
    ·rw[decide_eq_true h1,decide_eq_true (by omega)]
    ·rw[decide_eq_false h1,decide_eq_false (by omega)]
   have hs' :(decide (a<0)==decide (b<0))=true:=by rw[hs];simp
   by_cases q1:((bE a).length:Int)≤18
   ·have q2:¬((bE b).length:Int)≤18:=fun e=>hq (by omega)
    simp[aa,hG,Tryz.f134,bJ,Oracle.or,ai,aF,aH,ao,aL,la1,lb1,q1,q2,bH,la2,lb2,←hA,←hB,bm,bh,bD,bG,bw,hs0,hs1,oa,ob,g1,g2,va,vb,←hS,bx,aG,hs4,os,ts,g5,vs,hs',hres,Nat.testBit]
   ·simp[aa,hG,Tryz.f134,bJ,Oracle.or,ai,aF,aH,ao,aL,la1,q1,bH,la2,lb2,←hA,←hB,bm,bh,bD,bG,bw,hs0,hs1,oa,ob,g1,g2,va,vb,←hS,bx,aG,hs4,os,ts,g5,vs,hs',hres,Nat.testBit]
  ·have hs' :(decide (a<0)==decide (b<0))=false:=by
    cases h1:decide (a<0)<;>cases h2:decide (b<0)<;>simp[h1,h2] at hs ⊢
   by_cases hlt:a.natAbs<b.natAbs
   ·have hc:ie a.natAbs b.natAbs= -1:=by unfold ie;rw[if_pos hlt]
    obtain⟨S,hS⟩:∃S,S=dig 1000000000 (b.natAbs-a.natAbs):=⟨_,rfl⟩
    have vs:ay 1000000000 S=b.natAbs-a.natAbs:=by rw[hS];exact bU (by omega) _
    have os:lok 1000000000 S=true:=by rw[hS];exact ct (by omega) _
    have ts:bd S=S:=by rw[hS];exact cE (by omega) _
    have g5:S.length≤1000000:=by
     rw[hS]
     have h1:=bY (b.natAbs-a.natAbs)
     have h2:=cv (show b.natAbs-a.natAbs≤b.natAbs by omega)
     omega
    have g6:A.length≤B.length:=by
     rcases Nat.lt_or_ge B.length A.length with h | h
     ·have:=dp (B:=1000000000) (m:=b.natAbs) (n:=a.natAbs) (by omega) (by rw[←hA,←hB];exact h)
      omega
     ·exact h
    have g7:a.natAbs≤b.natAbs:=by omega
    have hres:gp (decide (b<0)) (b.natAbs-a.natAbs)=bE (a+b):=by
     rw[←jn (a+b)]
     have h0:(a+b).natAbs=b.natAbs-a.natAbs:=by
      by_cases h1:a<0<;>by_cases h2:b<0<;>simp[h1,h2] at hs<;>omega
     rw[h0]
     by_cases h1:a<0<;>by_cases h2:b<0<;>simp[h1,h2] at hs
     ·rw[decide_eq_false h2,decide_eq_false (by omega)]
     ·rw[decide_eq_true h2,decide_eq_true (by omega)]
    by_cases q1:((bE a).length:Int)≤18
    ·have q2:¬((bE b).length:Int)≤18:=fun e=>hq (by omega)
     simp[aa,hG,Tryz.f134,bJ,Oracle.or,ai,aF,aH,ao,aL,la1,lb1,q1,q2,bH,la2,lb2,←hA,←hB,bm,bh,bD,bG,bw,be,hs0,hs1,oa,ob,ta,tb,g2,g3,va,vb,hc,g6,g7,←hS,bx,aG,hs4,os,ts,g5,vs,hs',hres,Nat.testBit]
    ·simp[aa,hG,Tryz.f134,bJ,Oracle.or,ai,aF,aH,ao,aL,la1,q1,bH,la2,lb2,←hA,←hB,bm,bh,bD,bG,bw,be,hs0,hs1,oa,ob,ta,tb,g2,g3,va,vb,hc,g6,g7,←hS,bx,aG,hs4,os,ts,g5,vs,hs',hres,Nat.testBit]
   ·have hc:¬ie a.natAbs b.natAbs<0:=by unfold ie;rw[if_neg hlt];split<;>omega
    obtain⟨S,hS⟩:∃S,S=dig 1000000000 (a.natAbs-b.natAbs):=⟨_,rfl⟩
    have vs:ay 1000000000 S=a.natAbs-b.natAbs:=by rw[hS];exact bU (by omega) _
    have os:lok 1000000000 S=true:=by rw[hS];exact ct (by omega) _
    have ts:bd S=S:=by rw[hS];exact cE (by omega) _
    have g5:S.length≤1000000:=by
     rw[hS]
     have h1:=bY (a.natAbs-b.natAbs)
     have h2:=cv (show a.natAbs-b.natAbs≤a.natAbs by omega)
     omega
    have g6:B.length≤A.length:=by
     rcases Nat.lt_or_ge A.length B.length with h | h
     ·have:=dp (B:=1000000000) (m:=a.natAbs) (n:=b.natAbs) (by omega) (by rw[←hA,←hB];exact h)
      omega
     ·exact h
    have g7:b.natAbs≤a.natAbs:=by omega
    have hres:gp (decide (a<0)) (a.natAbs-b.natAbs)=bE (a+b):=by
     rw[←jn (a+b)]
     have h0:(a+b).natAbs=a.natAbs-b.natAbs:=by
      by_cases h1:a<0<;>by_cases h2:b<0<;>simp[h1,h2] at hs<;>omega
     rw[h0]
     by_cases hz:a.natAbs-b.natAbs=0
     ·unfold gp;rw[if_pos hz,if_pos hz]
     by_cases h1:a<0<;>by_cases h2:b<0<;>simp[h1,h2] at hs
     ·rw[decide_eq_true h1,decide_eq_true (by omega)]
     ·rw[decide_eq_false h1,decide_eq_false (by omega)]
    by_cases q1:((bE a).length:Int)≤18
    ·have q2:¬((bE b).length:Int)≤18:=fun e=>hq (by omega)
     simp[aa,hG,Tryz.f134,bJ,Oracle.or,ai,aF,aH,ao,aL,la1,lb1,q1,q2,bH,la2,lb2,←hA,←hB,bm,bh,bD,bG,bw,be,hs0,hs1,oa,ob,ta,tb,g1,g3,va,vb,hc,g6,g7,←hS,bx,aG,hs4,os,ts,g5,vs,hs',hres,Nat.testBit]
    ·simp[aa,hG,Tryz.f134,bJ,Oracle.or,ai,aF,aH,ao,aL,la1,q1,bH,la2,lb2,←hA,←hB,bm,bh,bD,bG,bw,be,hs0,hs1,oa,ob,ta,tb,g1,g3,va,vb,hc,g6,g7,←hS,bx,aG,hs4,os,ts,g5,vs,hs',hres,Nat.testBit]
theorem LS(a b:Int):gp (!(decide (a<0)==decide (b<0))) (a.natAbs*b.natAbs)=bE (a*b):=by
 rw[←jn (a*b),Int.natAbs_mul]
 by_cases hz:a.natAbs*b.natAbs=0
 ·unfold gp;rw[if_pos hz,if_pos hz]
 ·have ha0:a≠0:=by rintro rfl;simp at hz
  have hb0:b≠0:=by rintro rfl;simp at hz
  congr 1
  by_cases h1:a<0<;>by_cases h2:b<0
  ·have h3:=Int.mul_pos_of_neg_of_neg h1 h2
   have h4:¬a*b<0:=by omega
   simp[h1,h2,h4]
  ·have h3:=Int.mul_neg_of_neg_of_pos h1 (show 0<b by omega)
   simp[h1,h2,h3]
  ·have h3:=Int.mul_neg_of_pos_of_neg (show 0<a by omega) h2
   simp[h1,h2,h3]
  ·have h3:=Int.mul_nonneg (show 0≤a by omega) (show 0≤b by omega)
   have h4:¬a*b<0:=by omega
   simp[h1,h2,h4]
set_option maxHeartbeats 1600000 in
theorem KL(a b:Int) (ha:(au a.natAbs).length≤100000) (hb:(au b.natAbs).length≤100000) (mem:Mem):ACallsTo Tryz.prog 93 [.str (bE a),.str (bE b)] mem (.str (bE (a*b))) mem:=by
 have hG:aN Tryz.prog 93=some Tryz.f93:=by kernel_rfl
 refine aq l8 (lv:=fun _=>[]) (K:=1) rfl rfl ?_ mem
 have la:=cm a
 have lb:=cm b
 have la1:(bE a).length≤1000000000:=by omega
 have lb1:(bE b).length≤1000000000:=by omega
 by_cases hq:(bE a).length≤9∧(bE b).length≤9
 ·have q1:((bE a).length:Int)≤9:=by omega
  have q2:((bE b).length:Int)≤9:=by omega
  have s1:=gQ hq.1
  have s2:=gQ hq.2
  have s3:(a*b).natAbs<10 ^ 9*10 ^ 9:=by rw[Int.natAbs_mul];exact Nat.mul_lt_mul'' s1 s2
  have w1:IntKind.i64.wrap (a*b)=a*b:=ag (by omega) (by omega)
  have hf:dD (a*b)=true:=by unfold dD;simp;omega
  simp[aa,hG,Tryz.f93,bJ,Oracle.or,ai,aF,aL,la1,lb1,q1,q2,w1,hf]
 ·have da:=bY a.natAbs
  have db:=bY b.natAbs
  have la2:(au a.natAbs).length≤1000000:=by omega
  have lb2:(au b.natAbs).length≤1000000:=by omega
  have sum:=gv ha hb
  have ds:=bY (a.natAbs*b.natAbs)
  have va:ay 1000000000 (dig 1000000000 a.natAbs)=a.natAbs:=bU (by omega) _
  have vb:ay 1000000000 (dig 1000000000 b.natAbs)=b.natAbs:=bU (by omega) _
  have oa:lok 1000000000 (dig 1000000000 a.natAbs)=true:=ct (by omega) _
  have ob:lok 1000000000 (dig 1000000000 b.natAbs)=true:=ct (by omega) _
  obtain⟨A,hA⟩:∃A,A=dig 1000000000 a.natAbs:=⟨_,rfl⟩
  obtain⟨B,hB⟩:∃B,B=dig 1000000000 b.natAbs:=⟨_,rfl⟩
  rw[←hA] at da va oa
  rw[←hB] at db vb ob
  have g1:A.length≤100000000:=by omega
  have g2:B.length≤100000000:=by omega
  obtain⟨S,hS⟩:∃S,S=dig 1000000000 (a.natAbs*b.natAbs):=⟨_,rfl⟩
  have vs:ay 1000000000 S=a.natAbs*b.natAbs:=by rw[hS];exact bU (by omega) _
  have os:lok 1000000000 S=true:=by rw[hS];exact ct (by omega) _
  have ts:bd S=S:=by rw[hS];exact cE (by omega) _
  have g5:S.length≤1000000:=by rw[hS];omega
  obtain⟨mn,hmn⟩:∃mn,mn= !(decide (a<0)==decide (b<0)):=⟨_,rfl⟩
  have hres:gp mn (a.natAbs*b.natAbs)=bE (a*b):=by rw[hmn];exact LS a b
  by_cases q1:((bE a).length:Int)≤9
  ·have q2:¬((bE b).length:Int)≤9:=fun e=>hq (by omega)
   simp[aa,hG,Tryz.f93,bJ,Oracle.or,ai,aF,aH,ao,aL,la1,lb1,q1,q2,bH,la2,lb2,←hA,←hB,bm,bh,bD,bG,bw,hs0,hs1,oa,ob,g1,g2,va,vb,←hS,bx,aG,hs4,os,ts,g5,vs,←hmn,hres,Nat.testBit]
  ·simp[aa,hG,Tryz.f93,bJ,Oracle.or,ai,aF,aH,ao,aL,la1,q1,bH,la2,lb2,←hA,←hB,bm,bh,bD,bG,bw,hs0,hs1,oa,ob,g1,g2,va,vb,←hS,bx,aG,hs4,os,ts,g5,vs,←hmn,hres,Nat.testBit]
theorem om(n:Nat):gp false n=au n:=by
 unfold gp
 by_cases h:n=0
 ·subst h;rfl
 ·rw[if_neg h];rfl
theorem LR{a:Int}{b:Nat}(hb:0<b) (h:0≤a∨a.natAbs%b=0):gp (decide (a<0)) (a.natAbs / b)=bE (a / b):=by
 rw[←jn (a / b)]
 by_cases h0:a<0
 ·have h1:a.natAbs%b=0:=by rcases h with h | h<;>omega
  have h2:a= -((a.natAbs / b*b:Nat):Int):=by
   have:=Nat.div_add_mod a.natAbs b
   rw[h1,Nat.add_zero,Nat.mul_comm] at this
   omega
  obtain⟨q,hq⟩:∃q,q=a.natAbs / b:=⟨_,rfl⟩
  rw[←hq] at h2
  have h3:a / (b:Int)= -(q:Int):=by
   rw[h2,Int.natCast_mul,←Int.neg_mul]
   exact Int.mul_ediv_cancel _ (by omega)
  rw[h3,←hq,Int.natAbs_neg,Int.natAbs_natCast]
  by_cases hz:q=0
  ·unfold gp;rw[if_pos hz,if_pos hz]
  ·rw[decide_eq_true h0,decide_eq_true (by omega)]
 ·obtain⟨n,rfl⟩:∃n:Nat,a=n:=⟨a.toNat,by omega⟩
  rw[←Int.natCast_ediv,Int.natAbs_natCast,Int.natAbs_natCast,decide_eq_false (by omega),decide_eq_false (Int.not_lt.2 (Int.natCast_nonneg _))]
set_option maxHeartbeats 1600000 in
theorem BD(a:Int) (b:Nat) (hb0:0<b) (hab:0≤a∨a.natAbs%b=0) (ha:(au a.natAbs).length≤100000) (hb:(au b).length≤100000) (mem:Mem):
  ACallsTo Tryz.prog 138 [.str (bE a),.str (au b)] mem (.tuple [.str (bE (a / b)),.str (au (a.natAbs%b)),.int .i64 0]) mem:=by
 have hG:aN Tryz.prog 138=some Tryz.f138:=by kernel_rfl
 refine aq l8 (lv:=fun _=>[]) (K:=1) rfl rfl ?_ mem
 rw[←LR hb0 hab,←om (a.natAbs%b)]
 have hpb:jF (au b)=some (b:Int):=aL (b:Int)
 have hbz:(au b==[48])=false:=by
  rw[beq_eq_false_iff_ne]
  intro e
  have:=CM (e.trans (show [48]=au 0 from rfl))
  omega
 have da:=bY a.natAbs
 have db:=bY b
 have la2:(au a.natAbs).length≤1000000:=by omega
 have lb2:(au b).length≤1000000:=by omega
 have va:ay 1000000000 (dig 1000000000 a.natAbs)=a.natAbs:=bU (by omega) _
 have vb:ay 1000000000 (dig 1000000000 b)=b:=bU (by omega) _
 have oa:lok 1000000000 (dig 1000000000 a.natAbs)=true:=ct (by omega) _
 have ob:lok 1000000000 (dig 1000000000 b)=true:=ct (by omega) _
 have ta:bd (dig 1000000000 a.natAbs)=dig 1000000000 a.natAbs:=cE (by omega) _
 have tb:bd (dig 1000000000 b)=dig 1000000000 b:=cE (by omega) _
 obtain⟨A,hA⟩:∃A,A=dig 1000000000 a.natAbs:=⟨_,rfl⟩
 obtain⟨B,hB⟩:∃B,B=dig 1000000000 b:=⟨_,rfl⟩
 rw[←hA] at da va oa ta
 rw[←hB] at db vb ob tb
 have g1:A.length≤1000000:=by omega
 have g2:B.length≤1000000:=by omega
 obtain⟨n,hn⟩:∃n,n=a.natAbs:=⟨_,rfl⟩
 rw[←hn] at va hA hab la2 ⊢
 have hbl:¬(b:Int)<0:=by omega
 by_cases hlt:n<b
 ·have h0:¬a<0:=by
   rcases hab with h | h
   ·omega
   ·rw[Nat.mod_eq_of_lt hlt] at h;omega
  rw[Nat.div_eq_of_lt hlt,Nat.mod_eq_of_lt hlt]
  simp[aa,hG,Tryz.f138,bJ,Oracle.or,ai,aF,aH,ao,aL,hpb,hbz,←hn,bH,la2,lb2,←hA,←hB,bm,bh,bD,hs0,hs1,oa,ob,ta,tb,g1,va,vb,hb0,hlt,h0,hbl,bx,aG]
 ·obtain⟨q,hq⟩:∃q,q=n / b:=⟨_,rfl⟩
  obtain⟨r,hr⟩:∃r,r=n%b:=⟨_,rfl⟩
  rw[←hr] at hab
  rw[←hq,←hr]
  obtain⟨Q,hQ⟩:∃Q,Q=dig 1000000000 q:=⟨_,rfl⟩
  obtain⟨R,hR⟩:∃R,R=dig 1000000000 r:=⟨_,rfl⟩
  have vq:ay 1000000000 Q=q:=by rw[hQ];exact bU (by omega) _
  have oq:lok 1000000000 Q=true:=by rw[hQ];exact ct (by omega) _
  have tq:bd Q=Q:=by rw[hQ];exact cE (by omega) _
  have gq:Q.length≤1000000:=by
   rw[hQ]
   have h1:=bY q
   have h2:=cv (show q≤n by rw[hq];exact Nat.div_le_self _ _)
   omega
  have vr:ay 1000000000 R=r:=by rw[hR];exact bU (by omega) _
  have or:lok 1000000000 R=true:=by rw[hR];exact ct (by omega) _
  have tr:bd R=R:=by rw[hR];exact cE (by omega) _
  have gr:R.length≤1000000:=by
   rw[hR]
   have h1:=bY r
   have h2:=cv (show r≤n by rw[hr];exact Nat.mod_le _ _)
   omega
  have cond:∀x:Nat,¬(a<0∧0<R.length):=by
   intro _ h
   rcases hab with h1 | h1
   ·omega
   ·rw[hR,h1,dq] at h;simp at h
  by_cases hz:2≤B.length∧r=0
  ·obtain⟨hz1,hz2⟩:=hz
   by_cases h0:a<0
   ·simp[aa,hG,Tryz.f138,bJ,Oracle.or,ai,aF,aH,ao,aL,hpb,hbz,←hn,bH,la2,lb2,←hA,←hB,bm,bh,bD,hs0,hs1,oa,ob,ta,tb,g1,va,vb,hb0,hlt,hbl,←hq,←hr,←hQ,hz1,hz2,h0,hs4,vq,oq,tq,gq,bx,aG]
   ·simp[aa,hG,Tryz.f138,bJ,Oracle.or,ai,aF,aH,ao,aL,hpb,hbz,←hn,bH,la2,lb2,←hA,←hB,bm,bh,bD,hs0,hs1,oa,ob,ta,tb,g1,va,vb,hb0,hlt,hbl,←hq,←hr,←hQ,hz1,hz2,h0,hs4,vq,oq,tq,gq,bx,aG]
  ·by_cases h0:a<0
   ·have hrl:¬0<R.length:=fun e=>cond 0 ⟨h0,e⟩
    have hrl' :R=[]:=List.eq_nil_of_length_eq_zero (by omega)
    have hr0:r=0:=by rcases hab with h | h<;>omega
    subst hr0
    have hz1:¬2≤B.length:=fun e=>hz ⟨e,rfl⟩
    rw[hrl'] at hR vr
    have k1:lok 1000000000 []=true:=rfl
    have k2:bd []=[]:=rfl
    have h5e:∀a0 a1 a2 a3 a4 l,bB .u64 (a0::a1::a2::a3::a4::.cells true 1 []::l) (.slice 5 0 0 none)=some []:=fun a0 a1 a2 a3 a4 l=>hs5 (A:=[]) true a0 a1 a2 a3 a4 l
    simp[aa,hG,Tryz.f138,bJ,Oracle.or,ai,aF,aH,ao,aL,hpb,hbz,←hn,bH,la2,lb2,←hA,←hB,bm,bh,bD,hs0,hs1,oa,ob,ta,tb,g1,va,vb,hb0,hlt,hbl,←hq,←hr,←hQ,←hR,hz1,hs4,h5e,k1,k2,vr,vq,oq,tq,gq,h0,bx,aG]
   ·simp[aa,hG,Tryz.f138,bJ,Oracle.or,ai,aF,aH,ao,aL,hpb,hbz,←hn,bH,la2,lb2,←hA,←hB,bm,bh,bD,hs0,hs1,oa,ob,ta,tb,g1,va,vb,hb0,hlt,hbl,←hq,←hr,←hQ,←hR,hz,hs4,hs5,vq,oq,tq,gq,vr,or,tr,gr,h0,bx,aG]
end Go.Proofs
