/- See N58. -/
import Derived.Test.YtmhkeaphiadacaaGreatDoorN16
import Derived.Test.YtmhkeaphiadacaaGreatDoorN10
import Derived.Lib.ItoaLen
set_option linter.all false
namespace Go.Proofs
open Go.Eng
theorem KE(q:Rat) (hl:(aN q).length≤1000000000) (mem:Mem):ACallsTo Tryz.prog 182 [.str (aN q)] mem (.str (aN (-q))) mem:=by
 have hG:aI Tryz.prog 182=some Tryz.f182:=by kernel_rfl
 refine aw (af _) (lv:=fun _=>[]) (K:=1) rfl rfl ?_ mem
 by_cases h0:q=0
 ·subst h0
  simp[ab,hG,Tryz.f182,bA]
 ·have hn:¬q.num=0:=fun e=>h0 (wH.1 e)
  by_cases h1:q.num<0
  ·have e:=nj h1
   have hb:(45::aN (-q)==[48])=false:=by rw[←e,bA];simpa using h0
   rw[e]
   have h3:(1:Int)≤((aN (-q)).length:Int)+1:=by omega
   simp[ab,hG,Tryz.f182,hb,h3]
  ·have e:=pd (q:=q) (by omega)
   obtain⟨c,r,e2,hc⟩:=pc (q:=q) (by omega)
   have hb:(c::r==[48])=false:=by rw[←e2,bA];simpa using h0
   have h2:=fp hc
   rw[e,e2]
   rw[e2] at hl
   simp only[List.length_cons] at hl
   have h3:1+(r.length+1)≤9223372036854775807:=by omega
   simp[ab,hG,Tryz.f182,hb,h2,h3,dX]
theorem xi(q:Rat) (mem:Mem):ACallsTo Tryz.prog 104 [.str (aN q)] mem (.int .i64 (JD q)) mem:=by
 have hG:aI Tryz.prog 104=some Tryz.f104:=by kernel_rfl
 refine aw (af _) (lv:=fun _=>[]) (K:=1) rfl rfl ?_ mem
 by_cases h0:q=0
 ·subst h0
  have:JD 0=0:=rfl
  simp[ab,hG,Tryz.f104,bA,this]
 ·have hn:¬q.num=0:=fun e=>h0 (wH.1 e)
  by_cases h1:q.num<0
  ·have e:=nj h1
   have hb:(45::aN (-q)==[48])=false:=by rw[←e,bA];simpa using h0
   have h3:0<((aN (-q)).length:Int)+1:=by omega
   rw[e]
   simp[ab,hG,Tryz.f104,hb,JD,nq,h1,h3]
  ·obtain⟨c,r,e2,hc⟩:=pc (q:=q) (by omega)
   have hb:(c::r==[48])=false:=by rw[←e2,bA];simpa using h0
   have h2:=fp hc
   have h3:0<(r.length:Int)+1:=by omega
   rw[e2]
   simp[ab,hG,Tryz.f104,hb,h2,h3,JD,nq,h1,hn]
theorem KB(n:Int) (d:Nat) (hl:(cd n).length≤1000000000) (hd:(aK d).length≤1000000000) (mem:Mem):ACallsTo Tryz.prog 202 [.str (cd n),.str (aK d)] mem (.str (if d=1 then cd n else cd n++47::aK d)) mem:=by
 have hG:aI Tryz.prog 202=some Tryz.f202:=by kernel_rfl
 refine aw (af _) (lv:=fun _=>[]) (K:=1) rfl rfl ?_ mem
 by_cases h:d=1
 ·subst h
  have:aK 1=[49]:=rfl
  simp[ab,hG,Tryz.f202,this]
 ·have hb:(aK d==[49])=false:=by
   rw[beq_eq_false_iff_ne]
   intro e
   exact h (J8 (e.trans (show [49]=aK 1 from rfl)))
  have h1:(cd n).length+1≤9223372036854775807:=by omega
  have h2:(cd n).length+1+(aK d).length≤9223372036854775807:=by omega
  simp[ab,hG,Tryz.f202,hb,h,h1,h2,dX]
theorem H8(q:Rat) (hl:(aN q).length≤1000000000) (mem:Mem):ACallsTo Tryz.prog 178 [.str (aN q)] mem (.tuple [.str (cd q.num),.str (aK q.den)]) mem:=by
 have hG:aI Tryz.prog 178=some Tryz.f178:=by kernel_rfl
 refine aw de (lv:=fun _=>[]) (K:=1) rfl rfl ?_ mem
 have hi:=z6 q
 by_cases h:q.den=1
 ·have h1:aK 1=[49]:=rfl
  have e:aN q=cd q.num:=by unfold aN;rw[if_pos h]
  rw[if_pos h,e] at hi
  rw[e] at hl
  rw[e]
  simp[ab,hG,Tryz.f178,ao,aL,hl,hi,h,h1]
 ·have e:aN q=cd q.num++47::aK q.den:=by unfold aN;rw[if_neg h]
  rw[if_neg h] at hi
  have h0:(0:Int)≤(cd q.num).length:=by omega
  have h1:List.drop ((cd q.num).length+1) (cd q.num++47::aK q.den)=aK q.den:=by
   rw[List.drop_append];simp
  have h2:List.take (cd q.num).length (cd q.num++47::aK q.den)=cd q.num:=List.take_left' rfl
  rw[e] at hl hi
  rw[e]
  simp only[List.length_append,List.length_cons] at hl
  simp[ab,hG,Tryz.f178,ao,aL,hl,hi,h1]
theorem vJ{O:Oracle}{K:Nat}{lv:Code→List Nat}(s rest:List UInt8) (bg:Nat) (hs:s.length≤1000000000) (hrest:rest=[]∨∃r,rest=47::r) (env0:Env) (d:Bool)
  (h0:ac env0 0=.str s) (h7:ac env0 7=.int .i64 bg) {b b2:Code}(hb:am Tryz.f177=[b,b2]):
  ∀(ds:List UInt8) (i j acc k:Nat),s.drop i=ds++rest→ds.all isD=true→i=bg+j→i≤s.length→acc<10 ^ j→j≤9→ds.length≤k→
   ∃env',(j+ds.length≤9→dS [5,2,3] (ad b) env0 0 (aO (az Tryz.prog) lv O K 73 0 true b) (k+1) ⟨ay [5,2,3] (ad b) env0 ((5,.int .i64 i)::(2,.int .i64 acc)::env0),[],d⟩=some (.exit 0,⟨env',[],d⟩)∧
     ac env' 5=.int .i64 ((i+ds.length:Nat):Int)∧ac env' 2=.int .i64 (ur acc ds)∧ac env' 0=.str s∧ac env' 6=ac env0 6∧ac env' 3=ac env0 3)∧
    (9<j+ds.length→dS [5,2,3] (ad b) env0 0 (aO (az Tryz.prog) lv O K 73 0 true b) (k+1) ⟨ay [5,2,3] (ad b) env0 ((5,.int .i64 i)::(2,.int .i64 acc)::env0),[],d⟩=some (.ret,⟨env',[],d⟩)∧
     ac env' 2=.int .i64 0∧ac env' 3=.int .i64 0∧ac env' 4=.bool false):=by
 simp[am,aJ,Tryz.f177] at hb
 obtain⟨hb,_⟩:=hb
 intro ds
 induction ds with
 |nil=>
  intro i j acc k hd _ hij hi hacc hj _
  subst hb
  rcases hrest with rfl | ⟨r,rfl⟩
  ·have hlen:i=s.length:=by
    have:=congrArg List.length hd
    simp at this
    omega
   subst hlen
   have hn:¬(9<j):=by omega
   simp[dS,h0,hn,hj,fg]
  ·have hlt:i<s.length:=by
    have:=congrArg List.length hd
    simp at this
    omega
   have hlt' :(i:Int)<s.length:=by omega
   have hc:s[i]? =some 47:=by
    have:=congrArg List.head? hd
    rw[List.head?_drop] at this
    simpa using this
   have hn:¬(9<j):=by omega
   simp[dS,h0,hlt',hc,hn,hj,fg]
 |cons c ds ih=>
  intro i j acc k hd hall hij hi hacc hj hk
  simp only[List.all_cons,Bool.and_eq_true] at hall
  have hlt:i<s.length:=by
   have:=congrArg List.length hd
   simp at this
   omega
  have hlt' :(i:Int)<s.length:=by omega
  have hc:s[i]? =some c:=by
   have:=congrArg List.head? hd
   rw[List.head?_drop] at this
   simpa using this
  have hc1:=uS hall.1
  have hc2:48≤c.toNat∧c.toNat≤57:=by have:=hall.1;unfold isD at this;simpa using this
  have hc3:¬((c.toNat:Int)=47):=by omega
  have hw1:IntKind.i64.wrap ((i:Int)-bg)=j:=by rw[al (by omega) (by omega)];omega
  obtain⟨k,rfl⟩:∃k',k=k' +1:=⟨k-1,by simp at hk;omega⟩
  by_cases hj9:j=9
  ·subst hj9
   subst hb
   have hn:¬(9+(ds.length+1)≤9):=by omega
   simp[dS,h0,h7,hlt',hc,hc3,hw1,hn]
  ·have hjn:¬((j:Int)=9):=by omega
   have hp:10 ^ j≤100000000:=Nat.le_trans (Nat.pow_le_pow_right (by omega) (show j≤8 by omega)) (by decide)
   obtain⟨v,hv⟩:∃v:Nat,v=c.toNat-48:=⟨_,rfl⟩
   obtain⟨a2,ha2⟩:∃a2:Nat,a2=10*acc+v:=⟨_,rfl⟩
   obtain⟨i2,hi2⟩:∃i2:Nat,i2=i+1:=⟨_,rfl⟩
   have hw2:IntKind.i64.wrap (10*(acc:Int))=10*(acc:Int):=al (by omega) (by omega)
   have hw3:IntKind.u8.wrap ((c.toNat:Int)-48)=(v:Int):=by rw[CK (by omega) (by omega)];omega
   have hw4:IntKind.i64.wrap (v:Int)=(v:Int):=al (by omega) (by omega)
   have hw5:IntKind.i64.wrap (10*(acc:Int)+(v:Int))=(a2:Int):=by rw[al (by omega) (by omega)];omega
   have hw6:IntKind.i64.wrap ((i:Int)+1)=(i2:Int):=by rw[al (by omega) (by omega)];omega
   have hacc' :a2<10 ^ (j+1):=by rw[Nat.pow_succ];omega
   have hd' :s.drop i2=ds++rest:=by
    rw[hi2,←List.drop_drop,hd];simp
   obtain⟨env',e1,e2⟩:=ih i2 (j+1) a2 k hd' hall.2 (by omega) (by omega) hacc' (by omega) (by simp at hk;omega)
   subst hb
   refine⟨env',fun hle=>?_,fun hgt=>?_⟩
   ·obtain⟨f1,f2,f3,f4,f5⟩:=e1 (by simp at hle;omega)
    refine⟨?_,by rw[f2,hi2,List.length_cons,show i+1+ds.length=i+(ds.length+1) by omega],by rw[f3,ee,ha2,hv],f4,f5⟩
    rw[dS]
    simp[h0,h7,hlt',hc,hc3,hw1,hjn,hw2,hw3,hw4,hw5,hw6]
    simp at f1
    exact f1
   ·obtain⟨f1,f2⟩:=e2 (by simp at hgt;omega)
    refine⟨?_,f2⟩
    rw[dS]
    simp[h0,h7,hlt',hc,hc3,hw1,hjn,hw2,hw3,hw4,hw5,hw6]
    simp at f1
    exact f1
theorem vK{O:Oracle}{K:Nat}{lv:Code→List Nat}(s:List UInt8) (bg:Nat) (hs:s.length≤1000000000) (env0:Env) (d:Bool)
  (h0:ac env0 0=.str s) (h7:ac env0 7=.int .i64 bg) {b1 b:Code}(hb:am Tryz.f177=[b1,b]):
  ∀(ds:List UInt8) (i j acc k:Nat),s.drop i=ds→ds.all isD=true→i=bg+j→i≤s.length→acc<10 ^ j→j≤9→ds.length≤k→
   ∃env',(j+ds.length≤9→dS [5,3,2] (ad b) env0 0 (aO (az Tryz.prog) lv O K 73 0 true b) (k+1) ⟨ay [5,3,2] (ad b) env0 ((5,.int .i64 i)::(3,.int .i64 acc)::env0),[],d⟩=some (.exit 2,⟨env',[],d⟩)∧
     ac env' 5=.int .i64 ((i+ds.length:Nat):Int)∧ac env' 3=.int .i64 (ur acc ds)∧ac env' 0=.str s∧ac env' 2=ac env0 2)∧
    (9<j+ds.length→dS [5,3,2] (ad b) env0 0 (aO (az Tryz.prog) lv O K 73 0 true b) (k+1) ⟨ay [5,3,2] (ad b) env0 ((5,.int .i64 i)::(3,.int .i64 acc)::env0),[],d⟩=some (.ret,⟨env',[],d⟩)∧
     ac env' 2=.int .i64 0∧ac env' 3=.int .i64 0∧ac env' 4=.bool false):=by
 simp[am,aJ,Tryz.f177] at hb
 obtain⟨_,hb⟩:=hb
 intro ds
 induction ds with
 |nil=>
  intro i j acc k hd _ hij hi hacc hj _
  subst hb
  have hlen:i=s.length:=by
   have:=congrArg List.length hd
   simp at this
   omega
  subst hlen
  have hn:¬(9<j):=by omega
  simp[dS,h0,hn,hj,fg]
 |cons c ds ih=>
  intro i j acc k hd hall hij hi hacc hj hk
  simp only[List.all_cons,Bool.and_eq_true] at hall
  have hlt:i<s.length:=by
   have:=congrArg List.length hd
   simp at this
   omega
  have hlt' :(i:Int)<s.length:=by omega
  have hc:s[i]? =some c:=by
   have:=congrArg List.head? hd
   rw[List.head?_drop] at this
   simpa using this
  have hc1:=uS hall.1
  have hc2:48≤c.toNat∧c.toNat≤57:=by have:=hall.1;unfold isD at this;simpa using this
  have hw1:IntKind.i64.wrap ((i:Int)-bg)=j:=by rw[al (by omega) (by omega)];omega
  obtain⟨k,rfl⟩:∃k',k=k' +1:=⟨k-1,by simp at hk;omega⟩
  by_cases hj9:j=9
  ·subst hj9
   subst hb
   have hn:¬(9+(ds.length+1)≤9):=by omega
   simp[dS,h0,h7,hlt',hw1,hn]
  ·have hjn:¬((j:Int)=9):=by omega
   have hp:10 ^ j≤100000000:=Nat.le_trans (Nat.pow_le_pow_right (by omega) (show j≤8 by omega)) (by decide)
   obtain⟨v,hv⟩:∃v:Nat,v=c.toNat-48:=⟨_,rfl⟩
   obtain⟨a2,ha2⟩:∃a2:Nat,a2=10*acc+v:=⟨_,rfl⟩
   obtain⟨i2,hi2⟩:∃i2:Nat,i2=i+1:=⟨_,rfl⟩
   have hw2:IntKind.i64.wrap (10*(acc:Int))=10*(acc:Int):=al (by omega) (by omega)
   have hw3:IntKind.u8.wrap ((c.toNat:Int)-48)=(v:Int):=by rw[CK (by omega) (by omega)];omega
   have hw4:IntKind.i64.wrap (v:Int)=(v:Int):=al (by omega) (by omega)
   have hw5:IntKind.i64.wrap (10*(acc:Int)+(v:Int))=(a2:Int):=by rw[al (by omega) (by omega)];omega
   have hw6:IntKind.i64.wrap ((i:Int)+1)=(i2:Int):=by rw[al (by omega) (by omega)];omega
   have hacc' :a2<10 ^ (j+1):=by rw[Nat.pow_succ];omega
   have hd' :s.drop i2=ds:=by
    rw[hi2,←List.drop_drop,hd];simp
   obtain⟨env',e1,e2⟩:=ih i2 (j+1) a2 k hd' hall.2 (by omega) (by omega) hacc' (by omega) (by simp at hk;omega)
   subst hb
   refine⟨env',fun hle=>?_,fun hgt=>?_⟩
   ·obtain⟨f1,f2,f3,f4,f5⟩:=e1 (by simp at hle;omega)
    refine⟨?_,by rw[f2,hi2,List.length_cons,show i+1+ds.length=i+(ds.length+1) by omega],by rw[f3,ee,ha2,hv],f4,f5⟩
    rw[dS]
    simp[h0,h7,hlt',hc,hw1,hjn,hw2,hw3,hw4,hw5,hw6]
    simp at f1
    exact f1
   ·obtain⟨f1,f2⟩:=e2 (by simp at hgt;omega)
    refine⟨?_,f2⟩
    rw[dS]
    simp[h0,h7,hlt',hc,hw1,hjn,hw2,hw3,hw4,hw5,hw6]
    simp at f1
    exact f1
theorem qe{O:Oracle}{K:Nat}{lv:Code→List Nat}(s rest ds:List UInt8) (bg:Nat) (hs:s.length≤1000000000) (hrest:rest=[]∨∃r,rest=47::r) (hd:s.drop bg=ds++rest) (hbg:bg≤s.length) (hall:ds.all isD=true) (hK:s.length<K)
  {b b2:Code}(hb:am Tryz.f177=[b,b2]) (hlv:lv b=[5,2,3]):
  ∃F:Env→Bool→Env,∀env0 d,(ac env0 0=.str s∧ac env0 7=.int .i64 bg∧ac env0 5=.int .i64 bg∧ac env0 2=.int .i64 0)→
   (ds.length≤9→aO (az Tryz.prog) lv O K 73 0 true (.loop b) ⟨env0,[],d⟩=some (.exit 0,⟨F env0 d,[],d⟩)∧
     ac (F env0 d) 5=.int .i64 ((bg+ds.length:Nat):Int)∧ac (F env0 d) 2=.int .i64 (ur 0 ds)∧ac (F env0 d) 0=.str s∧ac (F env0 d) 6=ac env0 6∧ac (F env0 d) 3=ac env0 3)∧
    (9<ds.length→aO (az Tryz.prog) lv O K 73 0 true (.loop b) ⟨env0,[],d⟩=some (.ret,⟨F env0 d,[],d⟩)∧
     ac (F env0 d) 2=.int .i64 0∧ac (F env0 d) 3=.int .i64 0∧ac (F env0 d) 4=.bool false):=by
 refine kX (p:=fun env0 _=>ac env0 0=.str s∧ac env0 7=.int .i64 bg∧ac env0 5=.int .i64 bg∧ac env0 2=.int .i64 0)
  (q:=fun env0 d e' =>(ds.length≤9→aO (az Tryz.prog) lv O K 73 0 true (.loop b) ⟨env0,[],d⟩=some (.exit 0,⟨e',[],d⟩)∧
     ac e' 5=.int .i64 ((bg+ds.length:Nat):Int)∧ac e' 2=.int .i64 (ur 0 ds)∧ac e' 0=.str s∧ac e' 6=ac env0 6∧ac e' 3=ac env0 3)∧
    (9<ds.length→aO (az Tryz.prog) lv O K 73 0 true (.loop b) ⟨env0,[],d⟩=some (.ret,⟨e',[],d⟩)∧
     ac e' 2=.int .i64 0∧ac e' 3=.int .i64 0∧ac e' 4=.bool false)) ?_
 rintro env0 d ⟨h0,h7,h5,h2⟩
 have hdl:ds.length≤K-1:=by
  have:=congrArg List.length hd
  simp at this
  omega
 obtain⟨env',e1,e2⟩:=vJ (O:=O) (K:=K) (lv:=lv) s rest bg hs hrest env0 d h0 h7 hb ds bg 0 0 (K-1) hd hall (by omega) hbg (by simp) (by omega) hdl
 have hn:ay [5,2,3] (ad b) env0 ((5,.int .i64 (bg:Int))::(2,.int .i64 ((0:Nat):Int))::env0)=ay [5,2,3] (ad b) env0 env0:=by simp[ay,h5,h2]
 rw[hn,show K-1+1=K by omega] at e1 e2
 rw[Nat.zero_add] at e1 e2
 refine⟨env',?_,?_⟩
 ·rw[aC,hlv];exact e1
 ·rw[aC,hlv];exact e2
theorem qf{O:Oracle}{K:Nat}{lv:Code→List Nat}(s ds:List UInt8) (bg:Nat) (hs:s.length≤1000000000) (hd:s.drop bg=ds) (hbg:bg≤s.length) (hall:ds.all isD=true) (hK:s.length<K)
  {b1 b:Code}(hb:am Tryz.f177=[b1,b]) (hlv:lv b=[5,3,2]):
  ∃F:Env→Bool→Env,∀env0 d,(ac env0 0=.str s∧ac env0 7=.int .i64 bg∧ac env0 5=.int .i64 bg∧ac env0 3=.int .i64 0)→
   (ds.length≤9→aO (az Tryz.prog) lv O K 73 0 true (.loop b) ⟨env0,[],d⟩=some (.exit 2,⟨F env0 d,[],d⟩)∧
     ac (F env0 d) 3=.int .i64 (ur 0 ds)∧ac (F env0 d) 2=ac env0 2)∧
    (9<ds.length→aO (az Tryz.prog) lv O K 73 0 true (.loop b) ⟨env0,[],d⟩=some (.ret,⟨F env0 d,[],d⟩)∧
     ac (F env0 d) 2=.int .i64 0∧ac (F env0 d) 3=.int .i64 0∧ac (F env0 d) 4=.bool false):=by
 refine kX (p:=fun env0 _=>ac env0 0=.str s∧ac env0 7=.int .i64 bg∧ac env0 5=.int .i64 bg∧ac env0 3=.int .i64 0)
  (q:=fun env0 d e' =>(ds.length≤9→aO (az Tryz.prog) lv O K 73 0 true (.loop b) ⟨env0,[],d⟩=some (.exit 2,⟨e',[],d⟩)∧
     ac e' 3=.int .i64 (ur 0 ds)∧ac e' 2=ac env0 2)∧
    (9<ds.length→aO (az Tryz.prog) lv O K 73 0 true (.loop b) ⟨env0,[],d⟩=some (.ret,⟨e',[],d⟩)∧
     ac e' 2=.int .i64 0∧ac e' 3=.int .i64 0∧ac e' 4=.bool false)) ?_
 rintro env0 d ⟨h0,h7,h5,h3⟩
 have hdl:ds.length≤K-1:=by
  have:=congrArg List.length hd
  simp at this
  omega
 obtain⟨env',e1,e2⟩:=vK (O:=O) (K:=K) (lv:=lv) s bg hs env0 d h0 h7 hb ds bg 0 0 (K-1) hd hall (by omega) hbg (by simp) (by omega) hdl
 have hn:ay [5,3,2] (ad b) env0 ((5,.int .i64 (bg:Int))::(3,.int .i64 ((0:Nat):Int))::env0)=ay [5,3,2] (ad b) env0 env0:=by simp[ay,h5,h3]
 rw[hn,show K-1+1=K by omega] at e1 e2
 rw[Nat.zero_add] at e1 e2
 refine⟨env',fun h=>?_,?_⟩
 ·obtain⟨f1,_,f3,_,f5⟩:=e1 h
  rw[aC,hlv];exact⟨f1,f3,f5⟩
 ·rw[aC,hlv];exact e2
def du(c:Code):List Nat:=if (ad c).contains 17 then [5,2,3] else [5,3,2]
theorem ui(q:Rat):∃rest,aN q=(if q.num<0 then [45] else [])++(aK q.num.natAbs++rest)∧(rest=if q.den=1 then [] else 47::aK q.den):=by
 refine⟨if q.den=1 then [] else 47::aK q.den,?_,rfl⟩
 have h:cd q.num=(if q.num<0 then [45] else [])++aK q.num.natAbs:=by
  cases hn:q.num with
  |ofNat u=>rw[if_neg (by simp)];rfl
  |negSucc u=>rw[if_pos (Int.negSucc_lt_zero u)];rfl
 unfold aN
 rw[h]
 split<;>simp
theorem vx(q:Rat) (hl:(aN q).length≤1000000000) (hq:0≤q.num) (mem:Mem):ACallsTo Tryz.prog 177 [.str (aN q)] mem
  (if (aK q.num.natAbs).length≤9∧(q.den=1∨(aK q.den).length≤9) then .tuple [.int .i64 q.num,.int .i64 q.den,.bool true] else .tuple [.int .i64 0,.int .i64 0,.bool false]) mem:=by
 have hG:aI Tryz.prog 177=some Tryz.f177:=by kernel_rfl
 refine aw (af _) (lv:=du) (K:=(aN q).length+1) rfl (by split<;>rfl) ?_ mem
 obtain⟨rest,hs,hrest⟩:=ui q
 rw[if_neg (by omega),List.nil_append] at hs
 obtain⟨b1,b2,hb⟩:∃b1 b2,am Tryz.f177=[b1,b2]∧du b1=[5,2,3]∧du b2=[5,3,2]:=⟨_,_,rfl,by decide,by decide⟩
 obtain⟨F,hF⟩:=qe (O:=aE) (K:=(aN q).length+1) (lv:=du) (aN q) rest (aK q.num.natAbs) 0 hl
  (by rw[hrest];split;exact .inl rfl;exact .inr ⟨_,rfl⟩) (by rw[List.drop_zero];exact hs) (by omega) (ff _) (by omega) hb.1 hb.2.1
 obtain⟨c,r,hcr,hc⟩:=pc hq
 have hc0:(aN q)[0]? =some c:=by rw[hcr];rfl
 have hc45:=fp hc
 have hpos:0<(aN q).length:=by rw[hcr];simp only[List.length_cons];omega
 have hg:∀h:0<(aN q).length,(aN q)[0]'h=c:=fun h=>by
  have:=List.getElem?_eq_getElem h
  rw[hc0] at this
  exact(Option.some.inj this).symm
 have hlen:(aN q).length=(aK q.num.natAbs).length+rest.length:=by rw[hs,List.length_append]
 have hval:ur 0 (aK q.num.natAbs)=q.num.natAbs:=eL _
 have habs:((q.num.natAbs:Nat):Int)=q.num:=by omega
 have hb1:=hb.1
 simp[am,aJ,Tryz.f177] at hb1
 obtain⟨rfl,rfl⟩:=hb1
 by_cases h9:(aK q.num.natAbs).length≤9
 ·have hF9:=fun env0 d h=>(hF env0 d h).1 h9
  by_cases hd:q.den=1
  ·rw[if_pos hd] at hrest
   have hi:((aK q.num.natAbs).length:Int)=((aN q).length:Int):=by rw[hlen,hrest];simp
   rw[Nat.zero_add] at hF9
   simp[ab,hG,Tryz.f177,hg,hc45,hpos,hF9,hval,habs,hi,hd,h9]
  ·rw[if_neg hd] at hrest
   have hlen2:(aN q).length=(aK q.num.natAbs).length+((aK q.den).length+1):=by rw[hlen,hrest,List.length_cons]
   have hi:¬((aK q.num.natAbs).length:Int)=((aN q).length:Int):=by omega
   obtain⟨bg,hbg⟩:∃bg:Nat,bg=(aK q.num.natAbs).length+1:=⟨_,rfl⟩
   have hw:IntKind.i64.wrap (((aK q.num.natAbs).length:Int)+1)=(bg:Int):=by rw[al (by omega) (by omega)];omega
   obtain⟨F2,hF2⟩:=qf (O:=aE) (K:=(aN q).length+1) (lv:=du) (aN q) (aK q.den) bg hl
    (by rw[hs,hrest,hbg,List.drop_append];simp) (by omega) (ff _) (by omega) hb.1 hb.2.2
   have hval2:ur 0 (aK q.den)=q.den:=eL _
   rw[Nat.zero_add] at hF9
   by_cases h10:(aK q.den).length≤9
   ·have hF10:=fun env0 d h=>(hF2 env0 d h).1 h10
    simp[ab,hG,Tryz.f177,hg,hc45,hpos,hF9,hval,habs,hi,hd,h9,hw,hF10,hval2,h10]
   ·have hF10:=fun env0 d h=>(hF2 env0 d h).2 (by omega)
    simp[ab,hG,Tryz.f177,hg,hc45,hpos,hF9,hi,hd,h9,hw,hF10,h10]
 ·have hF9:=fun env0 d h=>(hF env0 d h).2 (by omega)
  simp[ab,hG,Tryz.f177,hg,hc45,hpos,hF9,h9]
theorem vw(q:Rat) (hl:(aN q).length≤1000000000) (hq:q.num<0) (mem:Mem):ACallsTo Tryz.prog 177 [.str (aN q)] mem
  (if (aK q.num.natAbs).length≤9∧(q.den=1∨(aK q.den).length≤9) then .tuple [.int .i64 q.num,.int .i64 q.den,.bool true] else .tuple [.int .i64 0,.int .i64 0,.bool false]) mem:=by
 have hG:aI Tryz.prog 177=some Tryz.f177:=by kernel_rfl
 refine aw (af _) (lv:=du) (K:=(aN q).length+1) rfl (by split<;>rfl) ?_ mem
 obtain⟨rest,hs,hrest⟩:=ui q
 rw[if_pos hq,List.singleton_append] at hs
 obtain⟨b1,b2,hb⟩:∃b1 b2,am Tryz.f177=[b1,b2]∧du b1=[5,2,3]∧du b2=[5,3,2]:=⟨_,_,rfl,by decide,by decide⟩
 obtain⟨F,hF⟩:=qe (O:=aE) (K:=(aN q).length+1) (lv:=du) (aN q) rest (aK q.num.natAbs) 1 hl
  (by rw[hrest];split;exact .inl rfl;exact .inr ⟨_,rfl⟩) (by rw[hs];rfl) (by rw[hs];simp) (ff _) (by omega) hb.1 hb.2.1
 have hpos:0<(aN q).length:=by rw[hs];simp
 have hg:∀h:0<(aN q).length,(aN q)[0]'h=45:=fun h=>by
  have h1:=List.getElem?_eq_getElem h
  have h2:(aN q)[0]? =some 45:=by rw[hs];rfl
  rw[h2] at h1
  exact(Option.some.inj h1).symm
 have hlen:(aN q).length=1+((aK q.num.natAbs).length+rest.length):=by rw[hs,List.length_cons,List.length_append,Nat.add_comm]
 have hval:ur 0 (aK q.num.natAbs)=q.num.natAbs:=eL _
 have hub:q.num.natAbs<10 ^ (aK q.num.natAbs).length:=dA _
 have hb1:=hb.1
 simp[am,aJ,Tryz.f177] at hb1
 obtain⟨rfl,rfl⟩:=hb1
 by_cases h9:(aK q.num.natAbs).length≤9
 ·have hF9:=fun env0 d h=>(hF env0 d h).1 h9
  obtain⟨en,hen⟩:∃en:Nat,en=1+(aK q.num.natAbs).length:=⟨_,rfl⟩
  rw[←hen] at hF9
  have hub2:10 ^ (aK q.num.natAbs).length≤1000000000:=Nat.le_trans (Nat.pow_le_pow_right (by omega) h9) (by decide)
  have hneg:IntKind.i64.wrap (-((q.num.natAbs:Nat):Int))=q.num:=by rw[al (by omega) (by omega)];omega
  by_cases hd:q.den=1
  ·rw[if_pos hd] at hrest
   have hi:(en:Int)=((aN q).length:Int):=by rw[hlen,hrest,hen];simp
   simp[ab,hG,Tryz.f177,hg,hpos,hF9,hval,hneg,hi,hd,h9]
  ·rw[if_neg hd] at hrest
   have hlen2:(aN q).length=en+((aK q.den).length+1):=by rw[hlen,hrest,List.length_cons,hen];omega
   have hi:¬(en:Int)=((aN q).length:Int):=by omega
   obtain⟨bg,hbg⟩:∃bg:Nat,bg=en+1:=⟨_,rfl⟩
   have hw:IntKind.i64.wrap ((en:Int)+1)=(bg:Int):=by rw[al (by omega) (by omega)];omega
   obtain⟨F2,hF2⟩:=qf (O:=aE) (K:=(aN q).length+1) (lv:=du) (aN q) (aK q.den) bg hl
    (by rw[hs,hrest,hbg,hen,show 1+(aK q.num.natAbs).length+1=((aK q.num.natAbs).length+1)+1 by omega,List.drop_succ_cons,List.drop_append];simp) (by omega) (ff _) (by omega) hb.1 hb.2.2
   have hval2:ur 0 (aK q.den)=q.den:=eL _
   by_cases h10:(aK q.den).length≤9
   ·have hF10:=fun env0 d h=>(hF2 env0 d h).1 h10
    simp[ab,hG,Tryz.f177,hg,hpos,hF9,hval,hneg,hi,hd,h9,hw,hF10,hval2,h10]
   ·have hF10:=fun env0 d h=>(hF2 env0 d h).2 (by omega)
    simp[ab,hG,Tryz.f177,hg,hpos,hF9,hi,hd,h9,hw,hF10,h10]
 ·have hF9:=fun env0 d h=>(hF env0 d h).2 (by omega)
  simp[ab,hG,Tryz.f177,hg,hpos,hF9,h9]
theorem Dd(q:Rat) (hl:(aN q).length≤1000000000) (mem:Mem):ACallsTo Tryz.prog 177 [.str (aN q)] mem
  (if (aK q.num.natAbs).length≤9∧(q.den=1∨(aK q.den).length≤9) then .tuple [.int .i64 q.num,.int .i64 q.den,.bool true] else .tuple [.int .i64 0,.int .i64 0,.bool false]) mem:=by
 by_cases hq:0≤q.num
 ·exact vx q hl hq mem
 ·exact vw q hl (by omega) mem
def euc:Nat→Int→Int→Int
 |0,x,_=>x
 |k+1,x,y=>if y=0 then x else euc k y (x.tmod y)
theorem pH:∀(k:Nat) (x y:Int),y.natAbs<k→(euc k x y).natAbs=x.natAbs.gcd y.natAbs
 |0,_,_,h=>by omega
 |k+1,x,y,h=>by
  unfold euc
  by_cases hy:y=0
  ·subst hy;rw[if_pos rfl];simp
  ·rw[if_neg hy]
   have hlt:(x.tmod y).natAbs<k:=by
    rw[Int.natAbs_tmod]
    have:=Nat.mod_lt x.natAbs (show 0<y.natAbs by omega)
    omega
   rw[pH k y (x.tmod y) hlt,Int.natAbs_tmod,Nat.gcd_comm x.natAbs,Nat.gcd_rec y.natAbs x.natAbs,Nat.gcd_comm]
theorem xV{O:Oracle}{K:Nat}{lv:Code→List Nat}(env0:Env) (d:Bool) {b:Code}(hb:am Tryz.f183=[b]):
  ∀(k:Nat) (x y:Int),y.natAbs<k→∃env',dS [5,6] (ad b) env0 0 (aO (az Tryz.prog) lv O K 35 0 true b) k ⟨ay [5,6] (ad b) env0 ((5,.int .i64 x)::(6,.int .i64 y)::env0),[],d⟩=
   some (.exit 0,⟨env',[],d⟩)∧ac env' 5=.int .i64 (euc k x y)∧ac env' 0=ac env0 0∧ac env' 1=ac env0 1∧ac env' 4=ac env0 4:=by
 simp[am,aJ,Tryz.f183] at hb
 intro k
 induction k with
 |zero=>intro x y h;omega
 |succ k ih=>
  intro x y hk
  by_cases hy:y=0
  ·subst hb
   subst hy
   simp[dS,euc]
  ·have hlt:(x.tmod y).natAbs<k:=by
    rw[Int.natAbs_tmod]
    have:=Nat.mod_lt x.natAbs (show 0<y.natAbs by omega)
    omega
   obtain⟨env',e1,e2,e4⟩:=ih y (x.tmod y) hlt
   subst hb
   refine⟨env',?_,by rw[e2,euc,if_neg hy],e4⟩
   rw[dS]
   simp[hy]
   simp at e1
   exact e1
theorem vM{O:Oracle}{K:Nat}{lv:Code→List Nat}{b:Code}(hb:am Tryz.f183=[b]) (hlv:lv b=[5,6]) (n:Int) (m:Nat) (hK:m<K):
  ∃F:Env→Bool→Env,∀env0 d,(ac env0 5=.int .i64 n∧ac env0 6=.int .i64 m)→
   aO (az Tryz.prog) lv O K 35 0 true (.loop b) ⟨env0,[],d⟩=some (.exit 0,⟨F env0 d,[],d⟩)∧ac (F env0 d) 5=.int .i64 (euc K n m)∧
    ac (F env0 d) 0=ac env0 0∧ac (F env0 d) 1=ac env0 1∧ac (F env0 d) 4=ac env0 4:=by
 refine kX (p:=fun env0 _=>ac env0 5=.int .i64 n∧ac env0 6=.int .i64 m) (q:=fun env0 d e' =>aO (az Tryz.prog) lv O K 35 0 true (.loop b) ⟨env0,[],d⟩=some (.exit 0,⟨e',[],d⟩)∧ac e' 5=.int .i64 (euc K n m)∧
    ac e' 0=ac env0 0∧ac e' 1=ac env0 1∧ac e' 4=ac env0 4) ?_
 rintro env0 d ⟨h5,h6⟩
 obtain⟨env',e1,e2⟩:=xV (O:=O) (K:=K) (lv:=lv) env0 d hb K n m (by simpa using hK)
 have hn:ay [5,6] (ad b) env0 ((5,.int .i64 n)::(6,.int .i64 (m:Int))::env0)=ay [5,6] (ad b) env0 env0:=by simp[ay,h5,h6]
 rw[hn] at e1
 exact⟨env',by rw[aC,hlv];exact e1,e2⟩
theorem Dg(n:Int) (m:Nat) (hn:n.natAbs≤4611686018427387904) (hm0:m≠0) (hm:m≤4611686018427387904) (mem:Mem):ACallsTo Tryz.prog 183 [.int .i64 n,.int .i64 m] mem (.str (aN (Rat.normalize n m hm0))) mem:=by
 have hG:aI Tryz.prog 183=some Tryz.f183:=by kernel_rfl
 refine aw de (lv:=fun _=>[5,6]) (K:=m+1) rfl rfl ?_ mem
 obtain⟨b,hb⟩:∃b,am Tryz.f183=[b]:=⟨_,rfl⟩
 obtain⟨F,hF⟩:=vM (O:=ao aL) (K:=m+1) (lv:=fun _=>[5,6]) hb rfl n m (by omega)
 simp[am,aJ,Tryz.f183] at hb
 subst hb
 have hg:=pH (m+1) n m (by simp)
 generalize euc (m+1) n m=g at hF hg
 rw[Int.natAbs_natCast] at hg
 have hgd:n.natAbs.gcd m∣m:=Nat.gcd_dvd_right _ _
 have hgn:n.natAbs.gcd m∣n.natAbs:=Nat.gcd_dvd_left _ _
 have hgp:0<n.natAbs.gcd m:=Nat.gcd_pos_of_pos_right _ (by omega)
 have hgm:n.natAbs.gcd m≤m:=Nat.le_of_dvd (by omega) hgd
 obtain⟨txt,htxt,hdef⟩:∃txt,aN (Rat.normalize n m hm0)=txt∧txt=if m / n.natAbs.gcd m=1 then cd (n / (n.natAbs.gcd m:Nat)) else cd (n / (n.natAbs.gcd m:Nat))++47::aK (m / n.natAbs.gcd m):=
  ⟨_,rfl,by rw[Rat.normalize_eq];rfl⟩
 rw[htxt]
 generalize n.natAbs.gcd m=G at*
 have hdn:(G:Int)∣n:=Int.ofNat_dvd_left.2 hgn
 have hdm:(G:Int)∣(m:Int):=Int.ofNat_dvd.2 hgd
 obtain⟨p,hp⟩:∃p:Int,p=n / (G:Int):=⟨_,rfl⟩
 obtain⟨e,he⟩:∃e:Nat,e=m / G:=⟨_,rfl⟩
 rw[←hp,←he] at hdef
 have hq1:IntKind.i64.wrap (n.tdiv (G:Int))=p:=by
  rw[Int.tdiv_eq_ediv_of_dvd hdn,←hp]
  have:p.natAbs≤n.natAbs:=by
   rw[hp,←Int.tdiv_eq_ediv_of_dvd hdn,Int.natAbs_tdiv]
   exact Nat.div_le_self _ _
  exact al (by omega) (by omega)
 have hq2:IntKind.i64.wrap ((m:Int).tdiv (G:Int))=(e:Int):=by
  have h1:(m:Int).tdiv (G:Int)=(e:Int):=by rw[he,←Int.ofNat_tdiv]
  have h2:e≤m:=by rw[he];exact Nat.div_le_self _ _
  rw[h1]
  exact al (by omega) (by omega)
 have hq2' :IntKind.i64.wrap ((m:Int) / (G:Int))=(e:Int):=by rw[←Int.tdiv_eq_ediv_of_dvd hdm];exact hq2
 have hGn:¬G=0:=by omega
 have hpn: -4611686018427387904≤p∧p≤4611686018427387904:=by
  have:p.natAbs≤n.natAbs:=by
   rw[hp,←Int.tdiv_eq_ediv_of_dvd hdn,Int.natAbs_tdiv]
   exact Nat.div_le_self _ _
  omega
 have hem:e≤4611686018427387904:=by
  have h2:e≤m:=by rw[he];exact Nat.div_le_self _ _
  omega
 have hf1:iK p=true:=by simp only[iK,Bool.and_eq_true,decide_eq_true_eq];omega
 have hf2:iK (e:Int)=true:=by simp only[iK,Bool.and_eq_true,decide_eq_true_eq];omega
 have hie:cd (e:Int)=aK e:=rfl
 have hgG:(g<0→IntKind.i64.wrap (-g)=(G:Int))∧(¬g<0→g=(G:Int)):=⟨fun h=>by rw[al (by omega) (by omega)];omega,fun h=>by omega⟩
 have hlp:(cd p).length≤21:=by
  rw[Np];exact Lib.itoa_length_le p (by omega) (by omega)
 have hle:(aK e).length≤19:=bp (by omega) (Nat.lt_of_le_of_lt hem (by decide))
 have hx1:(cd p).length+1≤9223372036854775807:=by omega
 have hx2:(cd p).length+1+(aK e).length≤9223372036854775807:=by omega
 by_cases hg0:g<0
 ·have hw:=hgG.1 hg0
  by_cases he1:e=1
  ·simp[ab,hG,Tryz.f183,ao,aL,hF,hg0,hw,hGn,hq1,hq2',he1,hf1,hdef]
  ·have he1' :¬(e:Int)=1:=by omega
   simp[ab,hG,Tryz.f183,ao,aL,hF,hg0,hw,hGn,hq1,hq2',he1,he1',hf1,hf2,hie,hdef,hx1,hx2,dX]
 ·have hw:=hgG.2 hg0
  have hGneg:¬(G:Int)<0:=by omega
  by_cases he1:e=1
  ·simp[ab,hG,Tryz.f183,ao,aL,hF,hGneg,hw,hGn,hq1,hq2',he1,hf1,hdef]
  ·have he1' :¬(e:Int)=1:=by omega
   simp[ab,hG,Tryz.f183,ao,aL,hF,hGneg,hw,hGn,hq1,hq2',he1,he1',hf1,hf2,hie,hdef,hx1,hx2,dX]
end Go.Proofs
