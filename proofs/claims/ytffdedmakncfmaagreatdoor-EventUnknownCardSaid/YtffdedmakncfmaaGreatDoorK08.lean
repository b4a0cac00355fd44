/- See K51. -/
import Derived.Test.YtffdedmakncfmaaGreatDoorK07
import Derived.Lib.ItoaLen
set_option linter.all false
namespace Go.Proofs
open Go.Eng
theorem KU(n:Int) (mem:Mem):ACallsTo Tryz.prog 137 [.str (bE n)] mem (.int .i64 (jH n)) mem:=by
 have hG:aN Tryz.prog 137=some Tryz.f137:=by kernel_rfl
 refine aq dc (lv:=fun _=>[]) (K:=1) rfl rfl ?_ mem
 by_cases h0:n=0
 ·simp[aa,hG,Tryz.f137,iM,jH,h0]
 ·by_cases h1:n<0
  ·simp[aa,hG,Tryz.f137,ai,ao,iM,ij,h1,h0,jH]
  ·simp[aa,hG,Tryz.f137,ai,ao,iM,ij,h1,h0,jH]
theorem ON(n:Int) (hn:dD n=true) (mem:Mem):ACallsTo Tryz.prog 114 [.int .i64 n] mem (.str (bE n)) mem:=by
 have hG:aN Tryz.prog 114=some Tryz.f114:=by kernel_rfl
 refine aq dc (lv:=fun _=>[]) (K:=1) rfl rfl ?_ mem
 simp[aa,hG,Tryz.f114,ai,ao,hn]
theorem Cj(r c:Bool):QO (aO Tryz.prog) 229 r c .nilIface .nilIface=if r||c then some true else none:=LI (by kernel_rfl) r c
theorem HX(n:Int) (m:Int) (hm:m≤18) (hl:(bE n).length≤1000000000) (mem:Mem):ACallsTo Tryz.prog 139 [.str (bE n),.int .i64 m] mem (if (bE n).length≤m then .tuple [.int .i64 n,.bool true] else .tuple [.int .i64 0,.bool false]) mem:=by
 have hG:aN Tryz.prog 139=some Tryz.f139:=by kernel_rfl
 refine aq dc (lv:=fun _=>[]) (K:=1) rfl (by split<;>rfl) ?_ mem
 by_cases h:((bE n).length:Int)≤m
 ·have h2:¬m<((bE n).length:Int):=by omega
  have h3:(bE n).length≤18:=by omega
  simp[aa,hG,Tryz.f139,ai,ao,h,h2,h3,kI,Cj]
 ·have h2:m<((bE n).length:Int):=by omega
  simp[aa,hG,Tryz.f139,h,h2]
noncomputable def aH(f:FuncId) (args:List AV):Option AV:=
 match f,args with
 |137,[.str s]=>match jF s with
  |some n=>some (.int .i64 (jH n))
  |none=>none
 |_,_=>ao f args
theorem nU:OracleOk Tryz.prog (ai aH):=by
 have hs:=dc
 refine bM fun f args v h mem=>?_
 unfold aH at h
 split at h
 ·split at h
  ·rename_i n hn;cases h;rw[cg hn];exact KU n mem
  ·cases h
 ·have:=hs.fn f args mem ⟨v,none,[]⟩ (by unfold ai;simp only;rw[h])
  simpa [CallRes.mem] using this
theorem MQ(n:Int) (hl:(bE n).length≤1000000000) (mem:Mem):ACallsTo Tryz.prog 135 [.str (bE n)] mem (.str (bE (-n))) mem:=by
 have hG:aN Tryz.prog 135=some Tryz.f135:=by kernel_rfl
 refine aq nU (lv:=fun _=>[]) (K:=1) rfl rfl ?_ mem
 by_cases h0:n=0
 ·subst h0
  simp[aa,hG,Tryz.f135,ai,aH,aL,jH]
 ·by_cases h1:n<0
  ·have h2:1≤(bE n).length:=oF n
   have h3:((1:Int)≤(bE n).length):=by omega
   have h4:List.take ((bE n).length-1) (List.drop 1 (bE n))=bE (-n):=by
    rw[List.take_of_length_le (by simp),CJ h1]
   simp[aa,hG,Tryz.f135,ai,aH,aL,jH,h1,h3]
   rw[←List.drop_one]
   exact h4
  ·have h5:1+(bE n).length≤9223372036854775807:=by omega
   simp[aa,hG,Tryz.f135,ai,aH,aL,jH,h0,h1,h5,gE,jV (show 0<n by omega)]
theorem Aa(a b:Int) (mem:Mem):ACallsTo Tryz.prog 108 [.str (bE a),.str (bE b)] mem (.int .i64 (HG a b)) mem:=by
 have hG:aN Tryz.prog 108=some Tryz.f108:=by kernel_rfl
 refine aq nU (lv:=fun _=>[]) (K:=1) rfl rfl ?_ mem
 rw[QU]
 have hs:∀n,-1≤jH n∧jH n≤1:=by intro n;unfold jH;repeat' split<;>omega
 by_cases h0:jH a=jH b
 ·by_cases h1:(au a.natAbs).length=(au b.natAbs).length
  ·have hc:IntKind.i64.wrap (jH b*ie a.natAbs b.natAbs)=jH b*ie a.natAbs b.natAbs:=by
    have h1:=hs b
    have h2: -1≤ie a.natAbs b.natAbs∧ie a.natAbs b.natAbs≤1:=by unfold ie;repeat' split<;>omega
    have h3: -1≤jH b*ie a.natAbs b.natAbs∧jH b*ie a.natAbs b.natAbs≤1:=by
     generalize jH b=x at*
     generalize ie a.natAbs b.natAbs=y at*
     have hx:x= -1∨x=0∨x=1:=by omega
     rcases hx with rfl | rfl | rfl<;>omega
    exact ag (by omega) (by omega)
   simp[aa,hG,Tryz.f108,ai,aH,ao,aL,gC,h0,h1,uI h1,hc]
  ·have hw:IntKind.i64.wrap (- jH b)= - jH b:=by have:=hs b;exact ag (by omega) (by omega)
   have h1i:¬((au a.natAbs).length:Int)=(au b.natAbs).length:=by omega
   by_cases h2:(au a.natAbs).length<(au b.natAbs).length
   ·simp[aa,hG,Tryz.f108,ai,aH,ao,aL,gC,h0,h1,h1i,h2,hw]
   ·simp[aa,hG,Tryz.f108,ai,aH,ao,aL,gC,h0,h1,h1i,h2]
 ·by_cases h2:jH a<jH b
  ·simp[aa,hG,Tryz.f108,ai,aH,aL,h0,h2]
  ·simp[aa,hG,Tryz.f108,ai,aH,aL,h0,h2]
theorem xZ{O:Oracle}{K:Nat}{lv:Code→List Nat}(s:List UInt8) (hs:s.length≤1000000000) (env0:Env) (d:Bool) (h3:ab env0 3=.str s) (h32:ab env0 32=.int .i64 s.length) {b:Code}(hb:aj Tryz.f107=[b]):
  ∀(k i:Nat),i≤s.length→s.length≤i+k→∃env',fA [33] (ad b) env0 0 (aU (aO Tryz.prog) lv O K 47 0 true b) (k+1) ⟨az [33] (ad b) env0 ((33,.int .i64 i)::env0),[],d⟩=
   some (if (s.drop i).all isD then .exit 0 else .ret,⟨env',[],d⟩)∧((s.drop i).all isD=false→ab env' 2=.int .i64 2):=by
 simp[aj,aM,Tryz.f107] at hb
 have last:∀k,∃env',fA [33] (ad b) env0 0 (aU (aO Tryz.prog) lv O K 47 0 true b) (k+1) ⟨az [33] (ad b) env0 ((33,.int .i64 s.length)::env0),[],d⟩=
   some (if (s.drop s.length).all isD then .exit 0 else .ret,⟨env',[],d⟩)∧((s.drop s.length).all isD=false→ab env' 2=.int .i64 2):=by
  intro k
  subst hb
  simp[fA,h32]
 intro k
 induction k with
 |zero=>
  intro i hi1 hi2
  have hi' :i=s.length:=by omega
  subst hi'
  exact last 0
 |succ k ih=>
  intro i hi1 hi2
  by_cases hi' :i=s.length
  ·subst hi';exact last (k+1)
  have hlt:i<s.length:=by omega
  have hlt' :(i:Int)<s.length:=by omega
  obtain⟨c,hc⟩:∃c,s[i]? =some c:=⟨s[i],by simp[hlt]⟩
  have hd:s.drop i=c::s.drop (i+1):=by
   rw[List.drop_eq_getElem_cons hlt]
   congr 1
   have:=List.getElem?_eq_getElem hlt
   rw[hc] at this
   exact(Option.some.inj this).symm
  have hw:IntKind.i64.wrap ((i:Int)+1)=((i+1:Nat):Int):=by rw[ag (by omega) (by omega)];omega
  obtain⟨env',e1,e2⟩:=ih (i+1) (by omega) (by omega)
  subst hb
  unfold fA
  by_cases h1:c.toNat<48
  ·have hn:isD c=false:=by unfold isD;simp;omega
   have h1' :((c.toNat:Int)<48):=by omega
   simp[h3,h32,hlt',hc,h1',hd,hn]
  ·have h1' :¬((c.toNat:Int)<48):=by omega
   by_cases h2:57<c.toNat
   ·have hn:isD c=false:=by unfold isD;simp;omega
    have h2' :(57<(c.toNat:Int)):=by omega
    simp[h3,h32,hlt',hc,h1',h2',hd,hn]
   ·have hn:isD c=true:=by unfold isD;simp;omega
    have h2' :¬(57<(c.toNat:Int)):=by omega
    refine⟨env',?_,?_⟩
    ·simp[h3,h32,hlt',hc,h1',h2',hd,hn,hw]
     simp at e1
     exact e1
    ·rw[hd];simpa [hn] using e2
theorem wH{O:Oracle}{K:Nat}{lv:Code→List Nat}(s:List UInt8) (hs:s.length≤1000000000) (hK:s.length<K) {b:Code}(hb:aj Tryz.f107=[b]) (hlv:lv b=[33]):
  ∃F:Env→Bool→Env,∀env0 d,(ab env0 3=.str s∧ab env0 32=.int .i64 s.length∧ab env0 33=.int .i64 0)→
   aU (aO Tryz.prog) lv O K 47 0 true (.loop b) ⟨env0,[],d⟩=some (if s.all isD then .exit 0 else .ret,⟨F env0 d,[],d⟩)∧(s.all isD=false→ab (F env0 d) 2=.int .i64 2):=by
 refine pd (p:=fun env0 _=>ab env0 3=.str s∧ab env0 32=.int .i64 s.length∧ab env0 33=.int .i64 0) (q:=fun env0 d e' =>aU (aO Tryz.prog) lv O K 47 0 true (.loop b) ⟨env0,[],d⟩=some (if s.all isD then .exit 0 else .ret,⟨e',[],d⟩)∧(s.all isD=false→ab e' 2=.int .i64 2)) ?_
 rintro env0 d ⟨h3,h32,h33⟩
 obtain⟨env',e1,e2⟩:=xZ (O:=O) (K:=K) (lv:=lv) s hs env0 d h3 h32 hb (K-1) 0 (by omega) (by omega)
 refine⟨env',?_,by simpa using e2⟩
 rw[aZ,hlv]
 have hn:az [33] (ad b) env0 ((33,.int .i64 (0:Nat))::env0)=az [33] (ad b) env0 env0:=by simp[az,h33]
 rw[hn,show K-1+1=K by omega] at e1
 simpa using e1
def okT(mn:Bool) (t:List UInt8):Bool:=match t with
 | []=>false
 |c::r=>decide (r.length<200)&& !(c==48&&(decide (0<r.length)||mn))&&(c::r).all isD
theorem Sw{c:UInt8}:((c.toNat:Int)=48)↔c=48:=by
 constructor
 ·intro e
  apply UInt8.toNat_inj.1
  have:c.toNat=48:=by omega
  rw[this];rfl
 ·rintro rfl;rfl
theorem Df(s:List UInt8) (hs:s.length≤1000000000) (mem:Mem):ACallsTo Tryz.prog 107 [.str s] mem (.int .i64 (if okT (Lib.hasPrefix s [45]) (Lib.trimPrefix s [45]) then 0 else 2)) mem:=by
 have hG:aN Tryz.prog 107=some Tryz.f107:=by kernel_rfl
 refine aq dc (lv:=fun _=>[33]) (K:=s.length+1) rfl rfl ?_ mem
 have ht:(Lib.trimPrefix s [45]).length≤s.length:=by unfold Lib.trimPrefix;split<;>simp
 cases htp:Lib.trimPrefix s [45] with
 |nil=>simp[aa,hG,Tryz.f107,ai,ao,htp,okT]
 |cons c r=>
  rw[htp] at ht
  simp only[List.length_cons] at ht
  obtain⟨b,hb⟩:∃b,aj Tryz.f107=[b]:=⟨_,rfl⟩
  obtain⟨F,hF⟩:=wH (O:=ai ao) (K:=s.length+1) (lv:=fun _=>[33]) (c::r) (by simp;omega) (by simp;omega) hb rfl
  simp[aj,aM,Tryz.f107] at hb
  subst hb
  simp only[List.length_cons] at hF
  by_cases h1:r.length<200
  ·have h1' :¬(200<(r.length:Int)+1):=by omega
   by_cases h2:c=48
   ·subst h2
    by_cases h3:0<r.length
    ·have h3' :1<(r.length:Int)+1:=by omega
     simp[aa,hG,Tryz.f107,ai,ao,htp,okT,h1,h1',h3,h3']
    ·have h3' :¬1<(r.length:Int)+1:=by omega
     have hr:r=[]:=List.eq_nil_of_length_eq_zero (by omega)
     subst hr
     cases hmn:Lib.hasPrefix s [45] with
     |true=>simp[aa,hG,Tryz.f107,ai,ao,htp,okT,hmn]
     |false=>
      have hd:isD 48=true:=by decide
      simp[aa,hG,Tryz.f107,ai,ao,htp,okT,hmn,hF,hd]
   ·have h2' :¬((c.toNat:Int)=48):=fun e=>h2 (Sw.1 e)
    cases hall:(c::r).all isD with
    |true=>simp[aa,hG,Tryz.f107,ai,ao,htp,okT,h1,h1',h2,h2',hF,hall]
    |false=>simp[aa,hG,Tryz.f107,ai,ao,htp,okT,h1,h1',h2',hF,hall]
  ·have h1' :(200<(r.length:Int)+1):=by omega
   simp[aa,hG,Tryz.f107,ai,ao,htp,okT,h1,h1']
theorem KN(q:Rat) (hl:(aB q).length≤1000000000) (mem:Mem):ACallsTo Tryz.prog 46 [.str (aB q)] mem (.str (aB (-q))) mem:=by
 have hG:aN Tryz.prog 46=some Tryz.f46:=by kernel_rfl
 refine aq (ak _) (lv:=fun _=>[]) (K:=1) rfl rfl ?_ mem
 by_cases h0:q=0
 ·subst h0
  simp[aa,hG,Tryz.f46,aW]
 ·have hn:¬q.num=0:=fun e=>h0 (pW.1 e)
  by_cases h1:q.num<0
  ·have e:=jx h1
   have hb:(45::aB (-q)==[48])=false:=by rw[←e,aW];simpa using h0
   rw[e]
   have h3:(1:Int)≤((aB (-q)).length:Int)+1:=by omega
   simp[aa,hG,Tryz.f46,hb,h3]
  ·have e:=oV (q:=q) (by omega)
   obtain⟨c,r,e2,hc⟩:=kY (q:=q) (by omega)
   have hb:(c::r==[48])=false:=by rw[←e2,aW];simpa using h0
   have h2:=eh hc
   rw[e,e2]
   rw[e2] at hl
   simp only[List.length_cons] at hl
   have h3:1+(r.length+1)≤9223372036854775807:=by omega
   simp[aa,hG,Tryz.f46,hb,h2,h3,gE]
theorem xT(q:Rat) (mem:Mem):ACallsTo Tryz.prog 228 [.str (aB q)] mem (.int .i64 (xI q)) mem:=by
 have hG:aN Tryz.prog 228=some Tryz.f228:=by kernel_rfl
 refine aq (ak _) (lv:=fun _=>[]) (K:=1) rfl rfl ?_ mem
 by_cases h0:q=0
 ·subst h0
  have:xI 0=0:=rfl
  simp[aa,hG,Tryz.f228,aW,this]
 ·have hn:¬q.num=0:=fun e=>h0 (pW.1 e)
  by_cases h1:q.num<0
  ·have e:=jx h1
   have hb:(45::aB (-q)==[48])=false:=by rw[←e,aW];simpa using h0
   have h3:0<((aB (-q)).length:Int)+1:=by omega
   rw[e]
   simp[aa,hG,Tryz.f228,hb,xI,jH,h1,h3]
  ·obtain⟨c,r,e2,hc⟩:=kY (q:=q) (by omega)
   have hb:(c::r==[48])=false:=by rw[←e2,aW];simpa using h0
   have h2:=eh hc
   have h3:0<(r.length:Int)+1:=by omega
   rw[e2]
   simp[aa,hG,Tryz.f228,hb,h2,h3,xI,jH,h1,hn]
theorem KK(n:Int) (d:Nat) (hl:(bE n).length≤1000000000) (hd:(au d).length≤1000000000) (mem:Mem):ACallsTo Tryz.prog 136 [.str (bE n),.str (au d)] mem (.str (if d=1 then bE n else bE n++47::au d)) mem:=by
 have hG:aN Tryz.prog 136=some Tryz.f136:=by kernel_rfl
 refine aq (ak _) (lv:=fun _=>[]) (K:=1) rfl rfl ?_ mem
 by_cases h:d=1
 ·subst h
  have:au 1=[49]:=rfl
  simp[aa,hG,Tryz.f136,this]
 ·have hb:(au d==[49])=false:=by
   rw[beq_eq_false_iff_ne]
   intro e
   exact h (CM (e.trans (show [49]=au 1 from rfl)))
  have h1:(bE n).length+1≤9223372036854775807:=by omega
  have h2:(bE n).length+1+(au d).length≤9223372036854775807:=by omega
  simp[aa,hG,Tryz.f136,hb,h,h1,h2,gE]
theorem HV(q:Rat) (hl:(aB q).length≤1000000000) (mem:Mem):ACallsTo Tryz.prog 91 [.str (aB q)] mem (.tuple [.str (bE q.num),.str (au q.den)]) mem:=by
 have hG:aN Tryz.prog 91=some Tryz.f91:=by kernel_rfl
 refine aq dc (lv:=fun _=>[]) (K:=1) rfl rfl ?_ mem
 have hi:=AL q
 by_cases h:q.den=1
 ·have h1:au 1=[49]:=rfl
  have e:aB q=bE q.num:=by unfold aB;rw[if_pos h]
  rw[if_pos h,e] at hi
  rw[e] at hl
  rw[e]
  simp[aa,hG,Tryz.f91,ai,ao,hl,hi,h,h1]
 ·have e:aB q=bE q.num++47::au q.den:=by unfold aB;rw[if_neg h]
  rw[if_neg h] at hi
  have h0:(0:Int)≤(bE q.num).length:=by omega
  have h1:List.drop ((bE q.num).length+1) (bE q.num++47::au q.den)=au q.den:=by
   rw[List.drop_append];simp
  have h2:List.take (bE q.num).length (bE q.num++47::au q.den)=bE q.num:=List.take_left' rfl
  rw[e] at hl hi
  rw[e]
  simp only[List.length_append,List.length_cons] at hl
  simp[aa,hG,Tryz.f91,ai,ao,hl,hi,h1]
theorem wM{O:Oracle}{K:Nat}{lv:Code→List Nat}(s rest:List UInt8) (bg:Nat) (hs:s.length≤1000000000) (hrest:rest=[]∨∃r,rest=47::r) (env0:Env) (d:Bool)
  (h0:ab env0 0=.str s) (h7:ab env0 7=.int .i64 bg) {b b2:Code}(hb:aj Tryz.f89=[b,b2]):
  ∀(ds:List UInt8) (i j acc k:Nat),s.drop i=ds++rest→ds.all isD=true→i=bg+j→i≤s.length→acc<10 ^ j→j≤9→ds.length≤k→
   ∃env',(j+ds.length≤9→fA [5,2,3] (ad b) env0 0 (aU (aO Tryz.prog) lv O K 73 0 true b) (k+1) ⟨az [5,2,3] (ad b) env0 ((5,.int .i64 i)::(2,.int .i64 acc)::env0),[],d⟩=some (.exit 0,⟨env',[],d⟩)∧
     ab env' 5=.int .i64 ((i+ds.length:Nat):Int)∧ab env' 2=.int .i64 (rX acc ds)∧ab env' 0=.str s∧ab env' 6=ab env0 6∧ab env' 3=ab env0 3)∧
    (9<j+ds.length→fA [5,2,3] (ad b) env0 0 (aU (aO Tryz.prog) lv O K 73 0 true b) (k+1) ⟨az [5,2,3] (ad b) env0 ((5,.int .i64 i)::(2,.int .i64 acc)::env0),[],d⟩=some (.ret,⟨env',[],d⟩)∧
     ab env' 2=.int .i64 0∧ab env' 3=.int .i64 0∧ab env' 4=.bool false):=by
 simp[aj,aM,Tryz.f89] at hb
 obtain⟨hb,_⟩:=hb
 intro ds
 induction ds with
 |nil=>
  intro i j acc k hd _ hij hi hacc hj _
  subst hb
  rcases hrest with rfl | ⟨r,rfl⟩
  ·have hlen:i=s.length:=by
    have:=congrArg List.length hd
    simp at this
    omega
   subst hlen
   have hn:¬(9<j):=by omega
   simp[fA,h0,hn,hj,du]
  ·have hlt:i<s.length:=by
    have:=congrArg List.length hd
    simp at this
    omega
   have hlt' :(i:Int)<s.length:=by omega
   have hc:s[i]? =some 47:=by
    have:=congrArg List.head? hd
    rw[List.head?_drop] at this
    simpa using this
   have hn:¬(9<j):=by omega
   simp[fA,h0,hlt',hc,hn,hj,du]
 |cons c ds ih=>
  intro i j acc k hd hall hij hi hacc hj hk
  simp only[List.all_cons,Bool.and_eq_true] at hall
  have hlt:i<s.length:=by
   have:=congrArg List.length hd
   simp at this
   omega
  have hlt' :(i:Int)<s.length:=by omega
  have hc:s[i]? =some c:=by
   have:=congrArg List.head? hd
   rw[List.head?_drop] at this
   simpa using this
  have hc1:=vG hall.1
  have hc2:48≤c.toNat∧c.toNat≤57:=by have:=hall.1;unfold isD at this;simpa using this
  have hc3:¬((c.toNat:Int)=47):=by omega
  have hw1:IntKind.i64.wrap ((i:Int)-bg)=j:=by rw[ag (by omega) (by omega)];omega
  obtain⟨k,rfl⟩:∃k',k=k' +1:=⟨k-1,by simp at hk;omega⟩
  by_cases hj9:j=9
  ·subst hj9
   subst hb
   have hn:¬(9+(ds.length+1)≤9):=by omega
   simp[fA,h0,h7,hlt',hc,hc3,hw1,hn]
  ·have hjn:¬((j:Int)=9):=by omega
   have hp:10 ^ j≤100000000:=Nat.le_trans (Nat.pow_le_pow_right (by omega) (show j≤8 by omega)) (by decide)
   obtain⟨v,hv⟩:∃v:Nat,v=c.toNat-48:=⟨_,rfl⟩
   obtain⟨a2,ha2⟩:∃a2:Nat,a2=10*acc+v:=⟨_,rfl⟩
   obtain⟨i2,hi2⟩:∃i2:Nat,i2=i+1:=⟨_,rfl⟩
   have hw2:IntKind.i64.wrap (10*(acc:Int))=10*(acc:Int):=ag (by omega) (by omega)
   have hw3:IntKind.u8.wrap ((c.toNat:Int)-48)=(v:Int):=by rw[De (by omega) (by omega)];omega
   have hw4:IntKind.i64.wrap (v:Int)=(v:Int):=ag (by omega) (by omega)
   have hw5:IntKind.i64.wrap (10*(acc:Int)+(v:Int))=(a2:Int):=by rw[ag (by omega) (by omega)];omega
   have hw6:IntKind.i64.wrap ((i:Int)+1)=(i2:Int):=by rw[ag (by omega) (by omega)];omega
   have hacc' :a2<10 ^ (j+1):=by rw[Nat.pow_succ];omega
   have hd' :s.drop i2=ds++rest:=by
    rw[hi2,←List.drop_drop,hd];simp
   obtain⟨env',e1,e2⟩:=ih i2 (j+1) a2 k hd' hall.2 (by omega) (by omega) hacc' (by omega) (by simp at hk;omega)
   subst hb
   refine⟨env',fun hle=>?_,fun hgt=>?_⟩
   ·obtain⟨f1,f2,f3,f4,f5⟩:=e1 (by simp at hle;omega)
    refine⟨?_,by rw[f2,hi2,List.length_cons,show i+1+ds.length=i+(ds.length+1) by omega],by rw[f3,dm,ha2,hv],f4,f5⟩
    rw[fA]
    simp[h0,h7,hlt',hc,hc3,hw1,hjn,hw2,hw3,hw4,hw5,hw6]
    simp at f1
    exact f1
   ·obtain⟨f1,f2⟩:=e2 (by simp at hgt;omega)
    refine⟨?_,f2⟩
    rw[fA]
    simp[h0,h7,hlt',hc,hc3,hw1,hjn,hw2,hw3,hw4,hw5,hw6]
    simp at f1
    exact f1
theorem wN{O:Oracle}{K:Nat}{lv:Code→List Nat}(s:List UInt8) (bg:Nat) (hs:s.length≤1000000000) (env0:Env) (d:Bool)
  (h0:ab env0 0=.str s) (h7:ab env0 7=.int .i64 bg) {b1 b:Code}(hb:aj Tryz.f89=[b1,b]):
  ∀(ds:List UInt8) (i j acc k:Nat),s.drop i=ds→ds.all isD=true→i=bg+j→i≤s.length→acc<10 ^ j→j≤9→ds.length≤k→
   ∃env',(j+ds.length≤9→fA [5,3,2] (ad b) env0 0 (aU (aO Tryz.prog) lv O K 73 0 true b) (k+1) ⟨az [5,3,2] (ad b) env0 ((5,.int .i64 i)::(3,.int .i64 acc)::env0),[],d⟩=some (.exit 2,⟨env',[],d⟩)∧
     ab env' 5=.int .i64 ((i+ds.length:Nat):Int)∧ab env' 3=.int .i64 (rX acc ds)∧ab env' 0=.str s∧ab env' 2=ab env0 2)∧
    (9<j+ds.length→fA [5,3,2] (ad b) env0 0 (aU (aO Tryz.prog) lv O K 73 0 true b) (k+1) ⟨az [5,3,2] (ad b) env0 ((5,.int .i64 i)::(3,.int .i64 acc)::env0),[],d⟩=some (.ret,⟨env',[],d⟩)∧
     ab env' 2=.int .i64 0∧ab env' 3=.int .i64 0∧ab env' 4=.bool false):=by
 simp[aj,aM,Tryz.f89] at hb
 obtain⟨_,hb⟩:=hb
 intro ds
 induction ds with
 |nil=>
  intro i j acc k hd _ hij hi hacc hj _
  subst hb
  have hlen:i=s.length:=by
   have:=congrArg List.length hd
   simp at this
   omega
  subst hlen
  have hn:¬(9<j):=by omega
  simp[fA,h0,hn,hj,du]
 |cons c ds ih=>
  intro i j acc k hd hall hij hi hacc hj hk
  simp only[List.all_cons,Bool.and_eq_true] at hall
  have hlt:i<s.length:=by
   have:=congrArg List.length hd
   simp at this
   omega
  have hlt' :(i:Int)<s.length:=by omega
  have hc:s[i]? =some c:=by
   have:=congrArg List.head? hd
   rw[List.head?_drop] at this
   simpa using this
  have hc1:=vG hall.1
  have hc2:48≤c.toNat∧c.toNat≤57:=by have:=hall.1;unfold isD at this;simpa using this
  have hw1:IntKind.i64.wrap ((i:Int)-bg)=j:=by rw[ag (by omega) (by omega)];omega
  obtain⟨k,rfl⟩:∃k',k=k' +1:=⟨k-1,by simp at hk;omega⟩
  by_cases hj9:j=9
  ·subst hj9
   subst hb
   have hn:¬(9+(ds.length+1)≤9):=by omega
   simp[fA,h0,h7,hlt',hw1,hn]
  ·have hjn:¬((j:Int)=9):=by omega
   have hp:10 ^ j≤100000000:=Nat.le_trans (Nat.pow_le_pow_right (by omega) (show j≤8 by omega)) (by decide)
   obtain⟨v,hv⟩:∃v:Nat,v=c.toNat-48:=⟨_,rfl⟩
   obtain⟨a2,ha2⟩:∃a2:Nat,a2=10*acc+v:=⟨_,rfl⟩
   obtain⟨i2,hi2⟩:∃i2:Nat,i2=i+1:=⟨_,rfl⟩
   have hw2:IntKind.i64.wrap (10*(acc:Int))=10*(acc:Int):=ag (by omega) (by omega)
   have hw3:IntKind.u8.wrap ((c.toNat:Int)-48)=(v:Int):=by rw[De (by omega) (by omega)];omega
   have hw4:IntKind.i64.wrap (v:Int)=(v:Int):=ag (by omega) (by omega)
   have hw5:IntKind.i64.wrap (10*(acc:Int)+(v:Int))=(a2:Int):=by rw[ag (by omega) (by omega)];omega
   have hw6:IntKind.i64.wrap ((i:Int)+1)=(i2:Int):=by rw[ag (by omega) (by omega)];omega
   have hacc' :a2<10 ^ (j+1):=by rw[Nat.pow_succ];omega
   have hd' :s.drop i2=ds:=by
    rw[hi2,←List.drop_drop,hd];simp
   obtain⟨env',e1,e2⟩:=ih i2 (j+1) a2 k hd' hall.2 (by omega) (by omega) hacc' (by omega) (by simp at hk;omega)
   subst hb
   refine⟨env',fun hle=>?_,fun hgt=>?_⟩
   ·obtain⟨f1,f2,f3,f4,f5⟩:=e1 (by simp at hle;omega)
    refine⟨?_,by rw[f2,hi2,List.length_cons,show i+1+ds.length=i+(ds.length+1) by omega],by rw[f3,dm,ha2,hv],f4,f5⟩
    rw[fA]
    simp[h0,h7,hlt',hc,hw1,hjn,hw2,hw3,hw4,hw5,hw6]
    simp at f1
    exact f1
   ·obtain⟨f1,f2⟩:=e2 (by simp at hgt;omega)
    refine⟨?_,f2⟩
    rw[fA]
    simp[h0,h7,hlt',hc,hw1,hjn,hw2,hw3,hw4,hw5,hw6]
    simp at f1
    exact f1
theorem ql{O:Oracle}{K:Nat}{lv:Code→List Nat}(s rest ds:List UInt8) (bg:Nat) (hs:s.length≤1000000000) (hrest:rest=[]∨∃r,rest=47::r) (hd:s.drop bg=ds++rest) (hbg:bg≤s.length) (hall:ds.all isD=true) (hK:s.length<K)
  {b b2:Code}(hb:aj Tryz.f89=[b,b2]) (hlv:lv b=[5,2,3]):
  ∃F:Env→Bool→Env,∀env0 d,(ab env0 0=.str s∧ab env0 7=.int .i64 bg∧ab env0 5=.int .i64 bg∧ab env0 2=.int .i64 0)→
   (ds.length≤9→aU (aO Tryz.prog) lv O K 73 0 true (.loop b) ⟨env0,[],d⟩=some (.exit 0,⟨F env0 d,[],d⟩)∧
     ab (F env0 d) 5=.int .i64 ((bg+ds.length:Nat):Int)∧ab (F env0 d) 2=.int .i64 (rX 0 ds)∧ab (F env0 d) 0=.str s∧ab (F env0 d) 6=ab env0 6∧ab (F env0 d) 3=ab env0 3)∧
    (9<ds.length→aU (aO Tryz.prog) lv O K 73 0 true (.loop b) ⟨env0,[],d⟩=some (.ret,⟨F env0 d,[],d⟩)∧
     ab (F env0 d) 2=.int .i64 0∧ab (F env0 d) 3=.int .i64 0∧ab (F env0 d) 4=.bool false):=by
 refine pd (p:=fun env0 _=>ab env0 0=.str s∧ab env0 7=.int .i64 bg∧ab env0 5=.int .i64 bg∧ab env0 2=.int .i64 0)
  (q:=fun env0 d e' =>(ds.length≤9→aU (aO Tryz.prog) lv O K 73 0 true (.loop b) ⟨env0,[],d⟩=some (.exit 0,⟨e',[],d⟩)∧
     ab e' 5=.int .i64 ((bg+ds.length:Nat):Int)∧ab e' 2=.int .i64 (rX 0 ds)∧ab e' 0=.str s∧ab e' 6=ab env0 6∧ab e' 3=ab env0 3)∧
    (9<ds.length→aU (aO Tryz.prog) lv O K 73 0 true (.loop b) ⟨env0,[],d⟩=some (.ret,⟨e',[],d⟩)∧
     ab e' 2=.int .i64 0∧ab e' 3=.int .i64 0∧ab e' 4=.bool false)) ?_
 rintro env0 d ⟨h0,h7,h5,h2⟩
 have hdl:ds.length≤K-1:=by
  have:=congrArg List.length hd
  simp at this
  omega
 obtain⟨env',e1,e2⟩:=wM (O:=O) (K:=K) (lv:=lv) s rest bg hs hrest env0 d h0 h7 hb ds bg 0 0 (K-1) hd hall (by omega) hbg (by simp) (by omega) hdl
 have hn:az [5,2,3] (ad b) env0 ((5,.int .i64 (bg:Int))::(2,.int .i64 ((0:Nat):Int))::env0)=az [5,2,3] (ad b) env0 env0:=by simp[az,h5,h2]
 rw[hn,show K-1+1=K by omega] at e1 e2
 rw[Nat.zero_add] at e1 e2
 refine⟨env',?_,?_⟩
 ·rw[aZ,hlv];exact e1
 ·rw[aZ,hlv];exact e2
theorem qm{O:Oracle}{K:Nat}{lv:Code→List Nat}(s ds:List UInt8) (bg:Nat) (hs:s.length≤1000000000) (hd:s.drop bg=ds) (hbg:bg≤s.length) (hall:ds.all isD=true) (hK:s.length<K)
  {b1 b:Code}(hb:aj Tryz.f89=[b1,b]) (hlv:lv b=[5,3,2]):
  ∃F:Env→Bool→Env,∀env0 d,(ab env0 0=.str s∧ab env0 7=.int .i64 bg∧ab env0 5=.int .i64 bg∧ab env0 3=.int .i64 0)→
   (ds.length≤9→aU (aO Tryz.prog) lv O K 73 0 true (.loop b) ⟨env0,[],d⟩=some (.exit 2,⟨F env0 d,[],d⟩)∧
     ab (F env0 d) 3=.int .i64 (rX 0 ds)∧ab (F env0 d) 2=ab env0 2)∧
    (9<ds.length→aU (aO Tryz.prog) lv O K 73 0 true (.loop b) ⟨env0,[],d⟩=some (.ret,⟨F env0 d,[],d⟩)∧
     ab (F env0 d) 2=.int .i64 0∧ab (F env0 d) 3=.int .i64 0∧ab (F env0 d) 4=.bool false):=by
 refine pd (p:=fun env0 _=>ab env0 0=.str s∧ab env0 7=.int .i64 bg∧ab env0 5=.int .i64 bg∧ab env0 3=.int .i64 0)
  (q:=fun env0 d e' =>(ds.length≤9→aU (aO Tryz.prog) lv O K 73 0 true (.loop b) ⟨env0,[],d⟩=some (.exit 2,⟨e',[],d⟩)∧
     ab e' 3=.int .i64 (rX 0 ds)∧ab e' 2=ab env0 2)∧
    (9<ds.length→aU (aO Tryz.prog) lv O K 73 0 true (.loop b) ⟨env0,[],d⟩=some (.ret,⟨e',[],d⟩)∧
     ab e' 2=.int .i64 0∧ab e' 3=.int .i64 0∧ab e' 4=.bool false)) ?_
 rintro env0 d ⟨h0,h7,h5,h3⟩
 have hdl:ds.length≤K-1:=by
  have:=congrArg List.length hd
  simp at this
  omega
 obtain⟨env',e1,e2⟩:=wN (O:=O) (K:=K) (lv:=lv) s bg hs env0 d h0 h7 hb ds bg 0 0 (K-1) hd hall (by omega) hbg (by simp) (by omega) hdl
 have hn:az [5,3,2] (ad b) env0 ((5,.int .i64 (bg:Int))::(3,.int .i64 ((0:Nat):Int))::env0)=az [5,3,2] (ad b) env0 env0:=by simp[az,h5,h3]
 rw[hn,show K-1+1=K by omega] at e1 e2
 rw[Nat.zero_add] at e1 e2
 refine⟨env',fun h=>?_,?_⟩
 ·obtain⟨f1,_,f3,_,f5⟩:=e1 h
  rw[aZ,hlv];exact⟨f1,f3,f5⟩
 ·rw[aZ,hlv];exact e2
def dw(c:Code):List Nat:=if (ad c).contains 17 then [5,2,3] else [5,3,2]
theorem uW(q:Rat):∃rest,aB q=(if q.num<0 then [45] else [])++(au q.num.natAbs++rest)∧(rest=if q.den=1 then [] else 47::au q.den):=by
 refine⟨if q.den=1 then [] else 47::au q.den,?_,rfl⟩
 have h:bE q.num=(if q.num<0 then [45] else [])++au q.num.natAbs:=by
  cases hn:q.num with
  |ofNat u=>rw[if_neg (by simp)];rfl
  |negSucc u=>rw[if_pos (Int.negSucc_lt_zero u)];rfl
 unfold aB
 rw[h]
 split<;>simp
theorem wq(q:Rat) (hl:(aB q).length≤1000000000) (hq:0≤q.num) (mem:Mem):ACallsTo Tryz.prog 89 [.str (aB q)] mem
  (if (au q.num.natAbs).length≤9∧(q.den=1∨(au q.den).length≤9) then .tuple [.int .i64 q.num,.int .i64 q.den,.bool true] else .tuple [.int .i64 0,.int .i64 0,.bool false]) mem:=by
 have hG:aN Tryz.prog 89=some Tryz.f89:=by kernel_rfl
 refine aq (ak _) (lv:=dw) (K:=(aB q).length+1) rfl (by split<;>rfl) ?_ mem
 obtain⟨rest,hs,hrest⟩:=uW q
 rw[if_neg (by omega),List.nil_append] at hs
 obtain⟨b1,b2,hb⟩:∃b1 b2,aj Tryz.f89=[b1,b2]∧dw b1=[5,2,3]∧dw b2=[5,3,2]:=⟨_,_,rfl,by decide,by decide⟩
 obtain⟨F,hF⟩:=ql (O:=bt) (K:=(aB q).length+1) (lv:=dw) (aB q) rest (au q.num.natAbs) 0 hl
  (by rw[hrest];split;exact .inl rfl;exact .inr ⟨_,rfl⟩) (by rw[List.drop_zero];exact hs) (by omega) (cW _) (by omega) hb.1 hb.2.1
 obtain⟨c,r,hcr,hc⟩:=kY hq
 have hc0:(aB q)[0]? =some c:=by rw[hcr];rfl
 have hc45:=eh hc
 have hpos:0<(aB q).length:=by rw[hcr];simp only[List.length_cons];omega
 have hg:∀h:0<(aB q).length,(aB q)[0]'h=c:=fun h=>by
  have:=List.getElem?_eq_getElem h
  rw[hc0] at this
  exact(Option.some.inj this).symm
 have hlen:(aB q).length=(au q.num.natAbs).length+rest.length:=by rw[hs,List.length_append]
 have hval:rX 0 (au q.num.natAbs)=q.num.natAbs:=dj _
 have habs:((q.num.natAbs:Nat):Int)=q.num:=by omega
 have hb1:=hb.1
 simp[aj,aM,Tryz.f89] at hb1
 obtain⟨rfl,rfl⟩:=hb1
 by_cases h9:(au q.num.natAbs).length≤9
 ·have hF9:=fun env0 d h=>(hF env0 d h).1 h9
  by_cases hd:q.den=1
  ·rw[if_pos hd] at hrest
   have hi:((au q.num.natAbs).length:Int)=((aB q).length:Int):=by rw[hlen,hrest];simp
   rw[Nat.zero_add] at hF9
   simp[aa,hG,Tryz.f89,hg,hc45,hpos,hF9,hval,habs,hi,hd,h9]
  ·rw[if_neg hd] at hrest
   have hlen2:(aB q).length=(au q.num.natAbs).length+((au q.den).length+1):=by rw[hlen,hrest,List.length_cons]
   have hi:¬((au q.num.natAbs).length:Int)=((aB q).length:Int):=by omega
   obtain⟨bg,hbg⟩:∃bg:Nat,bg=(au q.num.natAbs).length+1:=⟨_,rfl⟩
   have hw:IntKind.i64.wrap (((au q.num.natAbs).length:Int)+1)=(bg:Int):=by rw[ag (by omega) (by omega)];omega
   obtain⟨F2,hF2⟩:=qm (O:=bt) (K:=(aB q).length+1) (lv:=dw) (aB q) (au q.den) bg hl
    (by rw[hs,hrest,hbg,List.drop_append];simp) (by omega) (cW _) (by omega) hb.1 hb.2.2
   have hval2:rX 0 (au q.den)=q.den:=dj _
   rw[Nat.zero_add] at hF9
   by_cases h10:(au q.den).length≤9
   ·have hF10:=fun env0 d h=>(hF2 env0 d h).1 h10
    simp[aa,hG,Tryz.f89,hg,hc45,hpos,hF9,hval,habs,hi,hd,h9,hw,hF10,hval2,h10]
   ·have hF10:=fun env0 d h=>(hF2 env0 d h).2 (by omega)
    simp[aa,hG,Tryz.f89,hg,hc45,hpos,hF9,hi,hd,h9,hw,hF10,h10]
 ·have hF9:=fun env0 d h=>(hF env0 d h).2 (by omega)
  simp[aa,hG,Tryz.f89,hg,hc45,hpos,hF9,h9]
theorem wo(q:Rat) (hl:(aB q).length≤1000000000) (hq:q.num<0) (mem:Mem):ACallsTo Tryz.prog 89 [.str (aB q)] mem
  (if (au q.num.natAbs).length≤9∧(q.den=1∨(au q.den).length≤9) then .tuple [.int .i64 q.num,.int .i64 q.den,.bool true] else .tuple [.int .i64 0,.int .i64 0,.bool false]) mem:=by
 have hG:aN Tryz.prog 89=some Tryz.f89:=by kernel_rfl
 refine aq (ak _) (lv:=dw) (K:=(aB q).length+1) rfl (by split<;>rfl) ?_ mem
 obtain⟨rest,hs,hrest⟩:=uW q
 rw[if_pos hq,List.singleton_append] at hs
 obtain⟨b1,b2,hb⟩:∃b1 b2,aj Tryz.f89=[b1,b2]∧dw b1=[5,2,3]∧dw b2=[5,3,2]:=⟨_,_,rfl,by decide,by decide⟩
 obtain⟨F,hF⟩:=ql (O:=bt) (K:=(aB q).length+1) (lv:=dw) (aB q) rest (au q.num.natAbs) 1 hl
  (by rw[hrest];split;exact .inl rfl;exact .inr ⟨_,rfl⟩) (by rw[hs];rfl) (by rw[hs];simp) (cW _) (by omega) hb.1 hb.2.1
 have hpos:0<(aB q).length:=by rw[hs];simp
 have hg:∀h:0<(aB q).length,(aB q)[0]'h=45:=fun h=>by
  have h1:=List.getElem?_eq_getElem h
  have h2:(aB q)[0]? =some 45:=by rw[hs];rfl
  rw[h2] at h1
  exact(Option.some.inj h1).symm
 have hlen:(aB q).length=1+((au q.num.natAbs).length+rest.length):=by rw[hs,List.length_cons,List.length_append,Nat.add_comm]
 have hval:rX 0 (au q.num.natAbs)=q.num.natAbs:=dj _
 have hub:q.num.natAbs<10 ^ (au q.num.natAbs).length:=cn _
 have hb1:=hb.1
 simp[aj,aM,Tryz.f89] at hb1
 obtain⟨rfl,rfl⟩:=hb1
 by_cases h9:(au q.num.natAbs).length≤9
 ·have hF9:=fun env0 d h=>(hF env0 d h).1 h9
  obtain⟨en,hen⟩:∃en:Nat,en=1+(au q.num.natAbs).length:=⟨_,rfl⟩
  rw[←hen] at hF9
  have hub2:10 ^ (au q.num.natAbs).length≤1000000000:=Nat.le_trans (Nat.pow_le_pow_right (by omega) h9) (by decide)
  have hneg:IntKind.i64.wrap (-((q.num.natAbs:Nat):Int))=q.num:=by rw[ag (by omega) (by omega)];omega
  by_cases hd:q.den=1
  ·rw[if_pos hd] at hrest
   have hi:(en:Int)=((aB q).length:Int):=by rw[hlen,hrest,hen];simp
   simp[aa,hG,Tryz.f89,hg,hpos,hF9,hval,hneg,hi,hd,h9]
  ·rw[if_neg hd] at hrest
   have hlen2:(aB q).length=en+((au q.den).length+1):=by rw[hlen,hrest,List.length_cons,hen];omega
   have hi:¬(en:Int)=((aB q).length:Int):=by omega
   obtain⟨bg,hbg⟩:∃bg:Nat,bg=en+1:=⟨_,rfl⟩
   have hw:IntKind.i64.wrap ((en:Int)+1)=(bg:Int):=by rw[ag (by omega) (by omega)];omega
   obtain⟨F2,hF2⟩:=qm (O:=bt) (K:=(aB q).length+1) (lv:=dw) (aB q) (au q.den) bg hl
    (by rw[hs,hrest,hbg,hen,show 1+(au q.num.natAbs).length+1=((au q.num.natAbs).length+1)+1 by omega,List.drop_succ_cons,List.drop_append];simp) (by omega) (cW _) (by omega) hb.1 hb.2.2
   have hval2:rX 0 (au q.den)=q.den:=dj _
   by_cases h10:(au q.den).length≤9
   ·have hF10:=fun env0 d h=>(hF2 env0 d h).1 h10
    simp[aa,hG,Tryz.f89,hg,hpos,hF9,hval,hneg,hi,hd,h9,hw,hF10,hval2,h10]
   ·have hF10:=fun env0 d h=>(hF2 env0 d h).2 (by omega)
    simp[aa,hG,Tryz.f89,hg,hpos,hF9,hi,hd,h9,hw,hF10,h10]
 ·have hF9:=fun env0 d h=>(hF env0 d h).2 (by omega)
  simp[aa,hG,Tryz.f89,hg,hpos,hF9,h9]
theorem DB(q:Rat) (hl:(aB q).length≤1000000000) (mem:Mem):ACallsTo Tryz.prog 89 [.str (aB q)] mem
  (if (au q.num.natAbs).length≤9∧(q.den=1∨(au q.den).length≤9) then .tuple [.int .i64 q.num,.int .i64 q.den,.bool true] else .tuple [.int .i64 0,.int .i64 0,.bool false]) mem:=by
 by_cases hq:0≤q.num
 ·exact wq q hl hq mem
 ·exact wo q hl (by omega) mem
def euc:Nat→Int→Int→Int
 |0,x,_=>x
 |k+1,x,y=>if y=0 then x else euc k y (x.tmod y)
theorem pL:∀(k:Nat) (x y:Int),y.natAbs<k→(euc k x y).natAbs=x.natAbs.gcd y.natAbs
 |0,_,_,h=>by omega
 |k+1,x,y,h=>by
  unfold euc
  by_cases hy:y=0
  ·subst hy;rw[if_pos rfl];simp
  ·rw[if_neg hy]
   have hlt:(x.tmod y).natAbs<k:=by
    rw[Int.natAbs_tmod]
    have:=Nat.mod_lt x.natAbs (show 0<y.natAbs by omega)
    omega
   rw[pL k y (x.tmod y) hlt,Int.natAbs_tmod,Nat.gcd_comm x.natAbs,Nat.gcd_rec y.natAbs x.natAbs,Nat.gcd_comm]
theorem yz{O:Oracle}{K:Nat}{lv:Code→List Nat}(env0:Env) (d:Bool) {b:Code}(hb:aj Tryz.f90=[b]):
  ∀(k:Nat) (x y:Int),y.natAbs<k→∃env',fA [5,6] (ad b) env0 0 (aU (aO Tryz.prog) lv O K 35 0 true b) k ⟨az [5,6] (ad b) env0 ((5,.int .i64 x)::(6,.int .i64 y)::env0),[],d⟩=
   some (.exit 0,⟨env',[],d⟩)∧ab env' 5=.int .i64 (euc k x y)∧ab env' 0=ab env0 0∧ab env' 1=ab env0 1∧ab env' 4=ab env0 4:=by
 simp[aj,aM,Tryz.f90] at hb
 intro k
 induction k with
 |zero=>intro x y h;omega
 |succ k ih=>
  intro x y hk
  by_cases hy:y=0
  ·subst hb
   subst hy
   simp[fA,euc]
  ·have hlt:(x.tmod y).natAbs<k:=by
    rw[Int.natAbs_tmod]
    have:=Nat.mod_lt x.natAbs (show 0<y.natAbs by omega)
    omega
   obtain⟨env',e1,e2,e4⟩:=ih y (x.tmod y) hlt
   subst hb
   refine⟨env',?_,by rw[e2,euc,if_neg hy],e4⟩
   rw[fA]
   simp[hy]
   simp at e1
   exact e1
theorem wO{O:Oracle}{K:Nat}{lv:Code→List Nat}{b:Code}(hb:aj Tryz.f90=[b]) (hlv:lv b=[5,6]) (n:Int) (m:Nat) (hK:m<K):
  ∃F:Env→Bool→Env,∀env0 d,(ab env0 5=.int .i64 n∧ab env0 6=.int .i64 m)→
   aU (aO Tryz.prog) lv O K 35 0 true (.loop b) ⟨env0,[],d⟩=some (.exit 0,⟨F env0 d,[],d⟩)∧ab (F env0 d) 5=.int .i64 (euc K n m)∧
    ab (F env0 d) 0=ab env0 0∧ab (F env0 d) 1=ab env0 1∧ab (F env0 d) 4=ab env0 4:=by
 refine pd (p:=fun env0 _=>ab env0 5=.int .i64 n∧ab env0 6=.int .i64 m) (q:=fun env0 d e' =>aU (aO Tryz.prog) lv O K 35 0 true (.loop b) ⟨env0,[],d⟩=some (.exit 0,⟨e',[],d⟩)∧ab e' 5=.int .i64 (euc K n m)∧
    ab e' 0=ab env0 0∧ab e' 1=ab env0 1∧ab e' 4=ab env0 4) ?_
 rintro env0 d ⟨h5,h6⟩
 obtain⟨env',e1,e2⟩:=yz (O:=O) (K:=K) (lv:=lv) env0 d hb K n m (by simpa using hK)
 have hn:az [5,6] (ad b) env0 ((5,.int .i64 n)::(6,.int .i64 (m:Int))::env0)=az [5,6] (ad b) env0 env0:=by simp[az,h5,h6]
 rw[hn] at e1
 exact⟨env',by rw[aZ,hlv];exact e1,e2⟩
theorem DF(n:Int) (m:Nat) (hn:n.natAbs≤4611686018427387904) (hm0:m≠0) (hm:m≤4611686018427387904) (mem:Mem):ACallsTo Tryz.prog 90 [.int .i64 n,.int .i64 m] mem (.str (aB (Rat.normalize n m hm0))) mem:=by
 have hG:aN Tryz.prog 90=some Tryz.f90:=by kernel_rfl
 refine aq dc (lv:=fun _=>[5,6]) (K:=m+1) rfl rfl ?_ mem
 obtain⟨b,hb⟩:∃b,aj Tryz.f90=[b]:=⟨_,rfl⟩
 obtain⟨F,hF⟩:=wO (O:=ai ao) (K:=m+1) (lv:=fun _=>[5,6]) hb rfl n m (by omega)
 simp[aj,aM,Tryz.f90] at hb
 subst hb
 have hg:=pL (m+1) n m (by simp)
 generalize euc (m+1) n m=g at hF hg
 rw[Int.natAbs_natCast] at hg
 have hgd:n.natAbs.gcd m∣m:=Nat.gcd_dvd_right _ _
 have hgn:n.natAbs.gcd m∣n.natAbs:=Nat.gcd_dvd_left _ _
 have hgp:0<n.natAbs.gcd m:=Nat.gcd_pos_of_pos_right _ (by omega)
 have hgm:n.natAbs.gcd m≤m:=Nat.le_of_dvd (by omega) hgd
 obtain⟨txt,htxt,hdef⟩:∃txt,aB (Rat.normalize n m hm0)=txt∧txt=if m / n.natAbs.gcd m=1 then bE (n / (n.natAbs.gcd m:Nat)) else bE (n / (n.natAbs.gcd m:Nat))++47::au (m / n.natAbs.gcd m):=
  ⟨_,rfl,by rw[Rat.normalize_eq];rfl⟩
 rw[htxt]
 generalize n.natAbs.gcd m=G at*
 have hdn:(G:Int)∣n:=Int.ofNat_dvd_left.2 hgn
 have hdm:(G:Int)∣(m:Int):=Int.ofNat_dvd.2 hgd
 obtain⟨p,hp⟩:∃p:Int,p=n / (G:Int):=⟨_,rfl⟩
 obtain⟨e,he⟩:∃e:Nat,e=m / G:=⟨_,rfl⟩
 rw[←hp,←he] at hdef
 have hq1:IntKind.i64.wrap (n.tdiv (G:Int))=p:=by
  rw[Int.tdiv_eq_ediv_of_dvd hdn,←hp]
  have:p.natAbs≤n.natAbs:=by
   rw[hp,←Int.tdiv_eq_ediv_of_dvd hdn,Int.natAbs_tdiv]
   exact Nat.div_le_self _ _
  exact ag (by omega) (by omega)
 have hq2:IntKind.i64.wrap ((m:Int).tdiv (G:Int))=(e:Int):=by
  have h1:(m:Int).tdiv (G:Int)=(e:Int):=by rw[he,←Int.ofNat_tdiv]
  have h2:e≤m:=by rw[he];exact Nat.div_le_self _ _
  rw[h1]
  exact ag (by omega) (by omega)
 have hq2' :IntKind.i64.wrap ((m:Int) / (G:Int))=(e:Int):=by rw[←Int.tdiv_eq_ediv_of_dvd hdm];exact hq2
 have hGn:¬G=0:=by omega
 have hpn: -4611686018427387904≤p∧p≤4611686018427387904:=by
  have:p.natAbs≤n.natAbs:=by
   rw[hp,←Int.tdiv_eq_ediv_of_dvd hdn,Int.natAbs_tdiv]
   exact Nat.div_le_self _ _
  omega
 have hem:e≤4611686018427387904:=by
  have h2:e≤m:=by rw[he];exact Nat.div_le_self _ _
  omega
 have hf1:dD p=true:=by simp only[dD,Bool.and_eq_true,decide_eq_true_eq];omega
 have hf2:dD (e:Int)=true:=by simp only[dD,Bool.and_eq_true,decide_eq_true_eq];omega
 have hie:bE (e:Int)=au e:=rfl
 have hgG:(g<0→IntKind.i64.wrap (-g)=(G:Int))∧(¬g<0→g=(G:Int)):=⟨fun h=>by rw[ag (by omega) (by omega)];omega,fun h=>by omega⟩
 have hlp:(bE p).length≤21:=by
  rw[NT];exact Lib.itoa_length_le p (by omega) (by omega)
 have hle:(au e).length≤19:=aK (by omega) (Nat.lt_of_le_of_lt hem (by decide))
 have hx1:(bE p).length+1≤9223372036854775807:=by omega
 have hx2:(bE p).length+1+(au e).length≤9223372036854775807:=by omega
 by_cases hg0:g<0
 ·have hw:=hgG.1 hg0
  by_cases he1:e=1
  ·simp[aa,hG,Tryz.f90,ai,ao,hF,hg0,hw,hGn,hq1,hq2',he1,hf1,hdef]
  ·have he1' :¬(e:Int)=1:=by omega
   simp[aa,hG,Tryz.f90,ai,ao,hF,hg0,hw,hGn,hq1,hq2',he1,he1',hf1,hf2,hie,hdef,hx1,hx2,gE]
 ·have hw:=hgG.2 hg0
  have hGneg:¬(G:Int)<0:=by omega
  by_cases he1:e=1
  ·simp[aa,hG,Tryz.f90,ai,ao,hF,hGneg,hw,hGn,hq1,hq2',he1,hf1,hdef]
  ·have he1' :¬(e:Int)=1:=by omega
   simp[aa,hG,Tryz.f90,ai,ao,hF,hGneg,hw,hGn,hq1,hq2',he1,he1',hf1,hf2,hie,hdef,hx1,hx2,gE]
end Go.Proofs
