/- See K51. -/
import Derived.Test.YtffdedmakncfmaaGreatDoorK20
set_option linter.all false
namespace Go.Proofs
open Go.Eng
theorem vZ{ds:List UInt8}(hd:ds.all isD=true) (hl:ds.length≤9) (j:Nat):fx (ds.take j)<10 ^ 9:=by
 have h1:fx (ds.take j)<10 ^ (ds.take j).length:=by
  have h0:(ds.take j).all isD=true:=by
   rw[List.all_eq_true] at hd ⊢
   exact fun c hc=>hd c (List.mem_of_mem_take hc)
  have:=mH _ 0 h0
  unfold fx
  omega
 have h2:(ds.take j).length≤9:=by rw[List.length_take];omega
 have h3:10 ^ (ds.take j).length≤10 ^ 9:=Nat.pow_le_pow_right (by omega) h2
 omega
def iv(c:Code):List Nat:=if (ad c).contains 24 then [2,5] else [3,5]
theorem wE{O:Oracle}{K:Nat}(s ds rest:List UInt8) (st:Nat) (hs:s.length≤9) (hst:st≤s.length) (hd:s.drop st=ds++rest) (hrest:rest=[]∨∃r,rest=47::r) (hall:ds.all isD=true) (hK:10<K) {b b2:Code}(hb:aj Tryz.f76=[b,b2]):
  ∃F:Env→Bool→Env,∀env0 d,(ab env0 0=.str s∧ab env0 2=.int .i64 0∧ab env0 5=.int .i64 (st:Int))→
   aU (aO Tryz.prog) iv O K 57 0 true (.loop b) ⟨env0,[],d⟩=some (.exit 0,⟨F env0 d,[],d⟩)∧(ab (F env0 d) 2=.int .i64 ((fx ds:Nat):Int)∧ab (F env0 d) 5=.int .i64 ((st+ds.length:Nat):Int)∧ab (F env0 d) 0=ab env0 0∧ab (F env0 d) 3=ab env0 3∧ab (F env0 d) 6=ab env0 6):=by
 have hlv:iv b=[2,5]:=by
  simp[aj,aM,Tryz.f76] at hb
  obtain⟨rfl,rfl⟩:=hb
  decide
 have hlen:st+ds.length+rest.length=s.length:=by
  have:=congrArg List.length hd
  simp at this;omega
 refine bp hlv (fun env0=>ab env0 0=.str s∧ab env0 2=.int .i64 0∧ab env0 5=.int .i64 (st:Int)) (fun env0 env' =>ab env' 2=.int .i64 ((fx ds:Nat):Int)∧ab env' 5=.int .i64 ((st+ds.length:Nat):Int)∧ab env' 0=ab env0 0∧ab env' 3=ab env0 3∧ab env' 6=ab env0 6) ?_
 rintro env0 d ⟨h0,h2,h5⟩
 have hv0:fx (ds.take 0)=0:=by rw[List.take_zero];unfold fx;rw[du]
 have hn:az [2,5] (ad b) env0 ((2,.int .i64 ((fx (ds.take 0):Nat):Int))::(5,.int .i64 ((st+0:Nat):Int))::env0)=az [2,5] (ad b) env0 env0:=by rw[hv0];simp[az,h2,h5]
 rw[←hn]
 refine bK (α:=Nat) (fun j=>⟨az [2,5] (ad b) env0 ((2,.int .i64 ((fx (ds.take j):Nat):Int))::(5,.int .i64 ((st+j:Nat):Int))::env0),[],d⟩)
  (fun j=>ds.length-j) (fun j=>j≤ds.length) (.exit 0) _ d _ (by simp) ?_ K 0 (Nat.zero_le _) (by simp only[Nat.sub_zero];omega)
 intro j hj
 clear hn hv0
 simp[aj,aM,Tryz.f76] at hb
 obtain⟨i,hi⟩:∃i,i=st+j:=⟨_,rfl⟩
 have hsi:s[i]? =(ds++rest)[j]? :=by rw[←hd,List.getElem?_drop,hi]
 by_cases hje:j=ds.length
 ·right
  subst hje
  rw[List.take_length,←hi]
  rw[List.getElem?_append_right (Nat.le_refl _),Nat.sub_self] at hsi
  obtain⟨rfl,rfl⟩:=hb
  rcases hrest with h | ⟨r,h⟩
  ·subst h
   have hil:i=s.length:=by simp at hlen;omega
   have h1:¬i<s.length:=by omega
   have h1I:¬(i:Int)<(s.length:Int):=by omega
   simp[h0,h1I]
  ·subst h
   have hil:i<s.length:=by simp at hlen;omega
   have hilI:(i:Int)<(s.length:Int):=by omega
   have hc:s[i]? =some 47:=by simpa using hsi
   have hc' :s[i]=47:=(List.getElem?_eq_some_iff.1 hc).2
   simp[h0,hil,hilI,hc']
 ·left
  have hlt:j<ds.length:=by omega
  obtain⟨c,hc⟩:∃c,ds[j]? =some c:=⟨ds[j],by simp[hlt]⟩
  rw[List.getElem?_append_left hlt,hc] at hsi
  have hil:i<s.length:=(List.getElem?_eq_some_iff.1 hsi).1
  have hilI:(i:Int)<(s.length:Int):=by omega
  have hsi' :s[i]=c:=(List.getElem?_eq_some_iff.1 hsi).2
  have hcD:=List.all_eq_true.1 hall c (List.mem_of_getElem? hc)
  have hcd:=vG hcD
  have hc48:48≤c.toNat∧c.toNat≤57:=by unfold isD at hcD;simp only[Bool.and_eq_true,decide_eq_true_eq] at hcD;exact hcD
  have hc47:¬((c.toNat:Int)=47):=by omega
  have hst2:ds.take (j+1)=ds.take j++[c]:=by rw[List.take_add_one,hc];rfl
  have hvn:fx (ds.take (j+1))=10*fx (ds.take j)+(c.toNat-48):=by rw[hst2,tM]
  have hvb:=vZ hall (by omega) j
  obtain⟨v,hvv⟩:∃v,v=fx (ds.take j):=⟨_,rfl⟩
  obtain⟨v2,hvv2⟩:∃v,v=fx (ds.take (j+1)):=⟨_,rfl⟩
  rw[←hvv] at hvb hvn
  rw[←hvv2] at hvn
  obtain⟨k,hk⟩:∃k:Nat,k=c.toNat-48:=⟨_,rfl⟩
  have w0:IntKind.u8.wrap ((c.toNat:Int)-48)=(k:Int):=by rw[De (by omega) (by omega)];omega
  have w1:IntKind.i64.wrap (k:Int)=(k:Int):=ag (by omega) (by omega)
  have w2:IntKind.i64.wrap (10*(v:Int))=10*(v:Int):=ag (by omega) (by omega)
  have w3:IntKind.i64.wrap (10*(v:Int)+(k:Int))=(v2:Int):=by rw[ag (by omega) (by omega)];omega
  have w4:IntKind.i64.wrap ((i:Int)+1)=((st+(j+1):Nat):Int):=by rw[ag (by omega) (by omega)];omega
  rw[←hi]
  refine⟨j+1,?_⟩
  refine bC (show j+1≤ds.length∧_ from⟨hlt,by omega⟩) ?_
  obtain⟨rfl,rfl⟩:=hb
  simp[h0,hil,hilI,hsi',hc47,←hvv,←hvv2,w0,w1,w2,w3,w4]
  try omega
theorem wF{O:Oracle}{K:Nat}(s ds:List UInt8) (st:Nat) (hs:s.length≤9) (hst:st≤s.length) (hd:s.drop st=ds) (hall:ds.all isD=true) (hK:10<K) {b b2:Code}(hb:aj Tryz.f76=[b,b2]):
  ∃F:Env→Bool→Env,∀env0 d,(ab env0 0=.str s∧ab env0 3=.int .i64 0∧ab env0 5=.int .i64 (st:Int))→
   aU (aO Tryz.prog) iv O K 57 0 true (.loop b2) ⟨env0,[],d⟩=some (.exit 2,⟨F env0 d,[],d⟩)∧(ab (F env0 d) 3=.int .i64 ((fx ds:Nat):Int)∧ab (F env0 d) 2=ab env0 2∧ab (F env0 d) 6=ab env0 6):=by
 have hlv:iv b2=[3,5]:=by
  simp[aj,aM,Tryz.f76] at hb
  obtain⟨rfl,rfl⟩:=hb
  decide
 have hlen:st+ds.length=s.length:=by
  have:=congrArg List.length hd
  simp at this;omega
 refine bp hlv (fun env0=>ab env0 0=.str s∧ab env0 3=.int .i64 0∧ab env0 5=.int .i64 (st:Int)) (fun env0 env' =>ab env' 3=.int .i64 ((fx ds:Nat):Int)∧ab env' 2=ab env0 2∧ab env' 6=ab env0 6) ?_
 rintro env0 d ⟨h0,h2,h5⟩
 have hv0:fx (ds.take 0)=0:=by rw[List.take_zero];unfold fx;rw[du]
 have hn:az [3,5] (ad b2) env0 ((3,.int .i64 ((fx (ds.take 0):Nat):Int))::(5,.int .i64 ((st+0:Nat):Int))::env0)=az [3,5] (ad b2) env0 env0:=by rw[hv0];simp[az,h2,h5]
 rw[←hn]
 refine bK (α:=Nat) (fun j=>⟨az [3,5] (ad b2) env0 ((3,.int .i64 ((fx (ds.take j):Nat):Int))::(5,.int .i64 ((st+j:Nat):Int))::env0),[],d⟩)
  (fun j=>ds.length-j) (fun j=>j≤ds.length) (.exit 2) _ d _ (by simp) ?_ K 0 (Nat.zero_le _) (by simp only[Nat.sub_zero];omega)
 intro j hj
 clear hn hv0
 simp[aj,aM,Tryz.f76] at hb
 obtain⟨i,hi⟩:∃i,i=st+j:=⟨_,rfl⟩
 have hsi:s[i]? =ds[j]? :=by rw[←hd,List.getElem?_drop,hi]
 by_cases hje:j=ds.length
 ·right
  subst hje
  rw[List.take_length,←hi]
  obtain⟨rfl,rfl⟩:=hb
  have h1:¬i<s.length:=by omega
  have h1I:¬(i:Int)<(s.length:Int):=by omega
  simp[h0,h1]
 ·left
  have hlt:j<ds.length:=by omega
  obtain⟨c,hc⟩:∃c,ds[j]? =some c:=⟨ds[j],by simp[hlt]⟩
  rw[hc] at hsi
  have hil:i<s.length:=(List.getElem?_eq_some_iff.1 hsi).1
  have hilI:(i:Int)<(s.length:Int):=by omega
  have hsi' :s[i]=c:=(List.getElem?_eq_some_iff.1 hsi).2
  have hcD:=List.all_eq_true.1 hall c (List.mem_of_getElem? hc)
  have hcd:=vG hcD
  have hc48:48≤c.toNat∧c.toNat≤57:=by unfold isD at hcD;simp only[Bool.and_eq_true,decide_eq_true_eq] at hcD;exact hcD
  have hst2:ds.take (j+1)=ds.take j++[c]:=by rw[List.take_add_one,hc];rfl
  have hvn:fx (ds.take (j+1))=10*fx (ds.take j)+(c.toNat-48):=by rw[hst2,tM]
  have hvb:=vZ hall (by omega) j
  obtain⟨v,hvv⟩:∃v,v=fx (ds.take j):=⟨_,rfl⟩
  obtain⟨v2,hvv2⟩:∃v,v=fx (ds.take (j+1)):=⟨_,rfl⟩
  rw[←hvv] at hvb hvn
  rw[←hvv2] at hvn
  obtain⟨k,hk⟩:∃k:Nat,k=c.toNat-48:=⟨_,rfl⟩
  have w0:IntKind.u8.wrap ((c.toNat:Int)-48)=(k:Int):=by rw[De (by omega) (by omega)];omega
  have w1:IntKind.i64.wrap (k:Int)=(k:Int):=ag (by omega) (by omega)
  have w2:IntKind.i64.wrap (10*(v:Int))=10*(v:Int):=ag (by omega) (by omega)
  have w3:IntKind.i64.wrap (10*(v:Int)+(k:Int))=(v2:Int):=by rw[ag (by omega) (by omega)];omega
  have w4:IntKind.i64.wrap ((i:Int)+1)=((st+(j+1):Nat):Int):=by rw[ag (by omega) (by omega)];omega
  rw[←hi]
  refine⟨j+1,?_⟩
  refine bC (show j+1≤ds.length∧_ from⟨hlt,by omega⟩) ?_
  obtain⟨rfl,rfl⟩:=hb
  simp[h0,hil,hilI,hsi',←hvv,←hvv2,w0,w1,w2,w3,w4]
  try omega
theorem Dz(q:Rat) (mem:Mem):ACallsTo Tryz.prog 76 [.str (aB q)] mem (if (aB q).length≤9 then .tuple [.int .i64 q.num,.int .i64 q.den,.bool true] else .tuple [.int .i64 0,.int .i64 0,.bool false]) mem:=by
 have hG:aN Tryz.prog 76=some Tryz.f76:=by kernel_rfl
 refine aq (ak _) (lv:=iv) (K:=11) rfl (by split<;>rfl) ?_ mem
 by_cases hl:(aB q).length≤9
 ·rw[if_pos hl]
  have hlI:¬(9<((aB q).length:Int)):=by omega
  obtain⟨b,b2,hb⟩:∃b b2,aj Tryz.f76=[b,b2]:=⟨_,_,rfl⟩
  obtain⟨rest,hsh,hre⟩:=uW q
  obtain⟨s,hs⟩:∃s,s=aB q:=⟨_,rfl⟩
  rw[←hs] at hl hlI hsh ⊢
  obtain⟨N,hN⟩:∃N,N=q.num.natAbs:=⟨_,rfl⟩
  rw[←hN] at hsh
  have hallN:=cW N
  have hvN:=dj N
  have hpN:=pV N
  have hNn:=gR N
  have hrest:rest=[]∨∃r,rest=47::r:=by rw[hre];split<;>simp
  obtain⟨st,hst⟩:∃st:Nat,st=if q.num<0 then 1 else 0:=⟨_,rfl⟩
  have hpre:(if q.num<0 then [(45:UInt8)] else []).length=st:=by rw[hst];split<;>rfl
  have hdrop:s.drop st=au N++rest:=by rw[hsh,←hpre,List.drop_left]
  have hlen:s.length=st+(au N).length+rest.length:=by rw[hsh,List.length_append,hpre,List.length_append];omega
  obtain⟨F,hF⟩:=wE (O:=bt) (K:=11) s (au N) rest st hl (by omega) hdrop hrest hallN (by omega) hb
  rw[hvN] at hF
  obtain⟨at1,hat⟩:∃at1,at1=st+(au N).length:=⟨_,rfl⟩
  rw[←hat] at hF hlen
  have hN18:N<10 ^ 9:=by
   have h1:=cn N
   have h2:10 ^ (au N).length≤10 ^ 9:=Nat.pow_le_pow_right (by omega) (by omega)
   omega
  have wn:IntKind.i64.wrap (-(N:Int))= -(N:Int):=ag (by omega) (by omega)
  have wp:IntKind.i64.wrap (N:Int)=(N:Int):=ag (by omega) (by omega)
  by_cases hd1:q.den=1
  ·rw[if_pos hd1] at hre
   subst hre
   have hatl:¬at1<s.length:=by simp at hlen;omega
   simp[aj,aM,Tryz.f76] at hb
   obtain⟨rfl,rfl⟩:=hb
   by_cases h0:q.num<0
   ·rw[if_pos h0] at hst
    subst hst
    have hc:s[0]? =some 45:=by rw[hsh,if_pos h0];rfl
    have e: -(N:Int)=q.num:=by omega
    have wn' :IntKind.i64.wrap (-(N:Int))=q.num:=by rw[wn,e]
    simp only[Int.natCast_one] at hF
    simp[aa,hG,Tryz.f76,hlI,hc,hF,hatl,wn',hd1]
   ·rw[if_neg h0] at hst
    subst hst
    have hc:∃c,s[0]? =some c∧isD c=true:=by
     rw[hsh,if_neg h0]
     cases hx:au N with
     |nil=>exact absurd hx hNn
     |cons c r=>
      rw[hx] at hallN
      simp only[List.all_cons,Bool.and_eq_true] at hallN
      exact⟨c,by simp,hallN.1⟩
    obtain⟨c,hc,hcD⟩:=hc
    have hc45:=eh hcD
    have e:(N:Int)=q.num:=by omega
    have wp' :IntKind.i64.wrap (N:Int)=q.num:=by rw[wp,e]
    simp only[Int.natCast_zero] at hF
    simp[aa,hG,Tryz.f76,hlI,hc,hc45,hF,hatl,wp',hd1]
  ·rw[if_neg hd1] at hre
   subst hre
   have hatl:at1<s.length:=by simp at hlen;omega
   have hatlI:(at1:Int)<(s.length:Int):=by omega
   have hdrop2:s.drop (at1+1)=au q.den:=by
    have h1:s.drop at1=47::au q.den:=by
     rw[hat,←List.drop_drop,hdrop,List.drop_left]
    rw[←List.drop_drop,h1];rfl
   obtain⟨F2,hF2⟩:=wF (O:=bt) (K:=11) s (au q.den) (at1+1) hl (by omega) hdrop2 (cW _) (by omega) hb
   rw[dj] at hF2
   have w1:IntKind.i64.wrap ((at1:Int)+1)=((at1+1:Nat):Int):=by rw[ag (by omega) (by omega)];omega
   obtain⟨at2,hat2⟩:∃at2,at2=at1+1:=⟨_,rfl⟩
   rw[←hat2] at w1 hF2
   simp[aj,aM,Tryz.f76] at hb
   obtain⟨rfl,rfl⟩:=hb
   by_cases h0:q.num<0
   ·rw[if_pos h0] at hst
    subst hst
    have hc:s[0]? =some 45:=by rw[hsh,if_pos h0];rfl
    have e: -(N:Int)=q.num:=by omega
    have wn' :IntKind.i64.wrap (-(N:Int))=q.num:=by rw[wn,e]
    simp only[Int.natCast_one] at hF
    simp[aa,hG,Tryz.f76,hlI,hc,hF,hatlI,w1,hF2,wn']
   ·rw[if_neg h0] at hst
    subst hst
    have hc:∃c,s[0]? =some c∧isD c=true:=by
     rw[hsh,if_neg h0]
     cases hx:au N with
     |nil=>exact absurd hx hNn
     |cons c r=>
      rw[hx] at hallN
      simp only[List.all_cons,Bool.and_eq_true] at hallN
      exact⟨c,by simp,hallN.1⟩
    obtain⟨c,hc,hcD⟩:=hc
    have hc45:=eh hcD
    have e:(N:Int)=q.num:=by omega
    have wp' :IntKind.i64.wrap (N:Int)=q.num:=by rw[wp,e]
    simp only[Int.natCast_zero] at hF
    simp[aa,hG,Tryz.f76,hlI,hc,hc45,hF,hatlI,w1,hF2,wp']
 ·rw[if_neg hl]
  have hlI:(9<((aB q).length:Int)):=by omega
  simp[aa,hG,Tryz.f76,hlI]
theorem sM{q:Rat}(h:(aB q).length≤9):q.num.natAbs<10 ^ 9∧q.den<10 ^ 9:=Cz h
noncomputable def ji(f:FuncId) (args:List AV):Option AV:=
 match f,args with
 |76,[.str s]=>match dU s with
  |some q=>some (if (aB q).length≤9 then .tuple [.int .i64 q.num,.int .i64 q.den,.bool true] else .tuple [.int .i64 0,.int .i64 0,.bool false])
  |none=>none
 |77,[.int .i64 n,.int .i64 m]=>if 0<m∧n.natAbs≤4611686018427387904∧m≤4611686018427387904 then some (.str (aB (mkRat n m.toNat))) else none
 |117,[.str s,.str t]=>match jF s,vN t with
  |some n,some d=>if d≠0∧(bE n).length≤18∧(au d).length≤18 then some (.str (aB (mkRat n d))) else none
  |_,_=>none
 |71,[.int .i64 n]=>if dD n then some (.str (bE n)) else none
 |f,args=>ao f args
theorem KQ(n:Int) (hn:dD n=true) (mem:Mem):ACallsTo Tryz.prog 71 [.int .i64 n] mem (.str (bE n)) mem:=by
 have hG:aN Tryz.prog 71=some Tryz.f71:=by kernel_rfl
 refine aq dc (lv:=fun _=>[]) (K:=1) rfl rfl ?_ mem
 simp[aa,hG,Tryz.f71,ai,ao,hn]
theorem mc:OracleOk Tryz.prog (ai ji):=bM fun f args v h mem=>by
 unfold ji at h
 split at h
 ·split at h
  ·rename_i q hq;cases h;rw[aD hq];exact Dz q mem
  ·cases h
 ·rename_i n m
  split at h
  ·rename_i hc
   cases h
   have:=BI n m.toNat hc.2.1 (by omega) (by omega) mem
   rw[Int.toNat_of_nonneg (by omega)] at this
   exact this
  ·cases h
 ·split at h
  ·rename_i m n hm hn
   split at h
   ·rename_i hc;cases h;rw[cg hm,fK hn];exact DA m n hc.1 hc.2.1 hc.2.2 mem
   ·cases h
  ·cases h
 ·split at h
  ·rename_i hc;cases h;exact KQ _ hc mem
  ·cases h
 ·have:=dc.fn _ _ mem ⟨v,none,[]⟩ (by unfold ai;simp only;rw[h])
  simpa [CallRes.mem] using this
theorem xS(n:Int) (d:Nat) (hd:d≠0) (hn:n.natAbs<10 ^ 8) (hd2:d<10 ^ 8) (mem:Mem):ACallsTo Tryz.prog 70 [.str (bE n),.str (au d)] mem (.str (aB (mkRat n d))) mem:=by
 have hG:aN Tryz.prog 70=some Tryz.f70:=by kernel_rfl
 refine aq mc (lv:=fun _=>[]) (K:=1) rfl rfl ?_ mem
 have l1:(au n.natAbs).length≤8:=aK (by omega) hn
 have l2:(au d).length≤8:=aK (by omega) hd2
 have l3:(bE n).length≤9:=by have:=cm n;omega
 have c1:((bE n).length:Int)≤9:=by omega
 have c2:((au d).length:Int)≤9:=by omega
 have c3:(bE n).length≤18:=by omega
 have c4:(au d).length≤18:=by omega
 have c5:(au d).length≤9:=by omega
 simp[aa,hG,Tryz.f70,ai,ji,aL,cL,c1,c2,c3,c4,hd]
noncomputable def yx(f:FuncId) (args:List AV):Option AV:=
 match f,args with
 |70,[.str s,.str t]=>match jF s,vN t with
  |some n,some d=>if d≠0∧n.natAbs<10 ^ 8∧d<10 ^ 8 then some (.str (aB (mkRat n d))) else none
  |_,_=>none
 |f,args=>ji f args
theorem II:OracleOk Tryz.prog (ai yx):=bM fun f args v h mem=>by
 unfold yx at h
 split at h
 ·split at h
  ·rename_i m n hm hn
   split at h
   ·rename_i hc;cases h;rw[cg hm,fK hn];exact xS m n hc.1 hc.2.1 hc.2.2 mem
   ·cases h
  ·cases h
 ·have:=mc.fn _ _ mem ⟨v,none,[]⟩ (by unfold ai;simp only;rw[h])
  simpa [CallRes.mem] using this
theorem DC(n:Int) (d:Nat) (hd:d≠0) (hn:n.natAbs<10 ^ 8) (hd2:d<10 ^ 8) (mem:Mem):ACallsTo Tryz.prog 27 [.int .i64 n,.int .i64 d] mem (.str (aB (mkRat n d))) mem:=by
 have hG:aN Tryz.prog 27=some Tryz.f27:=by kernel_rfl
 refine aq II (lv:=fun _=>[]) (K:=1) rfl rfl ?_ mem
 have f1:dD n=true:=by unfold dD;simp;omega
 have f2:dD (d:Int)=true:=by unfold dD;simp;omega
 have hi:bE (d:Int)=au d:=rfl
 have hn' :n.natAbs<100000000:=hn
 have hd' :d<100000000:=hd2
 simp[aa,hG,Tryz.f27,ai,yx,ji,f1,f2,hi,aL,cL,hd,hn',hd']
set_option maxHeartbeats 1600000 in
theorem KP(a b:Rat) (qa:(aB a).length≤9) (qb:(aB b).length≤9) (mem:Mem):
  ACallsTo Tryz.prog 68 [.str (aB a),.str (aB b)] mem (.str (aB (a+b))) mem:=by
 have hG:aN Tryz.prog 68=some Tryz.f68:=by kernel_rfl
 refine aq mc (lv:=fun _=>[]) (K:=1) rfl rfl ?_ mem
 have hdp:a.den*b.den≠0:=Nat.mul_ne_zero a.den_nz b.den_nz
 have hsum:=Rat.add_def' a b
 obtain⟨X,hX⟩:∃X,X=a.num*(b.den:Int):=⟨_,rfl⟩
 obtain⟨Y,hY⟩:∃Y,Y=b.num*(a.den:Int):=⟨_,rfl⟩
 obtain⟨D,hD⟩:∃D,D=a.den*b.den:=⟨_,rfl⟩
 rw[←hX,←hY,←hD] at hsum
 rw[←hD] at hdp
 rw[hsum]
 obtain⟨a1,a2⟩:=sM qa
 obtain⟨b1,b2⟩:=sM qb
 have x1:X.natAbs<10 ^ 9*10 ^ 9:=by rw[hX];exact dM a1 (by simpa using b2)
 have y1:Y.natAbs<10 ^ 9*10 ^ 9:=by rw[hY];exact dM b1 (by simpa using a2)
 have d1:D<10 ^ 9*10 ^ 9:=by rw[hD];exact Nat.mul_lt_mul'' a2 b2
 have w1:IntKind.i64.wrap (a.num*(b.den:Int))=X:=by rw[←hX];exact ag (by omega) (by omega)
 have w2:IntKind.i64.wrap (b.num*(a.den:Int))=Y:=by rw[←hY];exact ag (by omega) (by omega)
 have w3:IntKind.i64.wrap (X+Y)=X+Y:=ag (by omega) (by omega)
 have w4:IntKind.i64.wrap ((a.den:Int)*(b.den:Int))=(D:Int):=by
  rw[←Int.natCast_mul,←hD];exact ag (by omega) (by omega)
 have c1:(X+Y).natAbs≤4611686018427387904:=by omega
 have c2:(D:Int)≤4611686018427387904:=by omega
 have c2' :D≤4611686018427387904:=by omega
 have c3:0<D:=by omega
 have c3' :(0:Int)<D:=by omega
 simp[aa,hG,Tryz.f68,ai,ji,aC,qa,qb,w1,w2,w3,w4,c1,c2,c3]
set_option maxHeartbeats 1600000 in
theorem KR(a b:Rat) (qa:(aB a).length≤9) (qb:(aB b).length≤9) (mem:Mem):
  ACallsTo Tryz.prog 36 [.str (aB a),.str (aB b)] mem (.str (aB (a*b))) mem:=by
 have hG:aN Tryz.prog 36=some Tryz.f36:=by kernel_rfl
 refine aq mc (lv:=fun _=>[]) (K:=1) rfl rfl ?_ mem
 have hdp:a.den*b.den≠0:=Nat.mul_ne_zero a.den_nz b.den_nz
 have hsum:=Rat.mul_def' a b
 obtain⟨X,hX⟩:∃X,X=a.num*b.num:=⟨_,rfl⟩
 obtain⟨D,hD⟩:∃D,D=a.den*b.den:=⟨_,rfl⟩
 rw[←hX,←hD] at hsum
 rw[←hD] at hdp
 rw[hsum]
 obtain⟨a1,a2⟩:=sM qa
 obtain⟨b1,b2⟩:=sM qb
 have x1:X.natAbs<10 ^ 9*10 ^ 9:=by rw[hX];exact dM a1 b1
 have d1:D<10 ^ 9*10 ^ 9:=by rw[hD];exact Nat.mul_lt_mul'' a2 b2
 have w1:IntKind.i64.wrap (a.num*b.num)=X:=by rw[←hX];exact ag (by omega) (by omega)
 have w4:IntKind.i64.wrap ((a.den:Int)*(b.den:Int))=(D:Int):=by
  rw[←Int.natCast_mul,←hD];exact ag (by omega) (by omega)
 have c1:X.natAbs≤4611686018427387904:=by omega
 have c2:(D:Int)≤4611686018427387904:=by omega
 have c2' :D≤4611686018427387904:=by omega
 have c3:0<D:=by omega
 have c3' :(0:Int)<D:=by omega
 simp[aa,hG,Tryz.f36,ai,ji,aC,qa,qb,w1,w4,c1,c2,c3]
end Go.Proofs
