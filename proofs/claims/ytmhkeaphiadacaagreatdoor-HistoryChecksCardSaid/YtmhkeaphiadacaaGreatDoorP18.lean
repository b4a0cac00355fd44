/- See P53. -/
import Derived.Test.YtmhkeaphiadacaaGreatDoorP17
set_option linter.all false
set_option maxRecDepth 100000
set_option maxHeartbeats 40000000
namespace Go.Proofs
open Go.Eng
open Tryz
theorem xX{ds:List UInt8}(hd:ds.all isD=true)(hl:ds.length≤9)(j:Nat):kW (ds.take j)<10 ^ 9:=by
 have h1:kW (ds.take j)<10 ^ (ds.take j).length:=by
  have h0:(ds.take j).all isD=true:=by rw[List.all_eq_true] at hd ⊢;exact fun c hc=>hd c (List.mem_of_mem_take hc)
  have:=um _ 0 h0;unfold kW;omega
 have h2:(ds.take j).length≤9:=by rw[List.length_take];omega
 have h3:10 ^ (ds.take j).length≤10 ^ 9:=Nat.pow_le_pow_right (by omega) h2;omega
def jr(c:Code):List Nat:=if (ab c).contains 24 then [2,5] else [3,5]
variable{K:Nat}{O:aac}{b b2:Code}
theorem yv(s ds rest:List UInt8)(st:Nat)(hs:s.length≤9)(WI:st≤s.length)(hd:s.drop st=ds++rest)(WG:rest=[]∨∃r,rest=47::r)(G':ds.all isD=true)(hK:10<K)(hb:aj f92=[b,b2]):
  ∃F:Env→Bool→Env,∀y' d,(aa y' 0=.str s∧aa y' 2=.int .i64 0∧aa y' 5=.int .i64 (st:Int))→
   aQ (aC prog) jr O K 57 0 true (.loop b) ⟨y',[],d⟩=some (.exit 0,⟨F y' d,[],d⟩)∧(aa (F y' d) 2=.int .i64 ((kW ds:Nat):Int)∧aa (F y' d) 5=.int .i64 ((st+ds.length:Nat):Int)∧aa (F y' d) 0=aa y' 0∧aa (F y' d) 3=aa y' 3∧aa (F y' d) 6=aa y' 6):=by
 have XZ:jr b=[2,5]:=by simp[aj,aD,f92] at hb;obtain⟨rfl,rfl⟩:=hb;decide
 have A':st+ds.length+rest.length=s.length:=by have:=congrArg List.length hd;simp at this;omega
 refine bf XZ (fun y'=>aa y' 0=.str s∧aa y' 2=.int .i64 0∧aa y' 5=.int .i64 (st:Int)) (fun y' z' =>aa z' 2=.int .i64 ((kW ds:Nat):Int)∧aa z' 5=.int .i64 ((st+ds.length:Nat):Int)∧aa z' 0=aa y' 0∧aa z' 3=aa y' 3∧aa z' 6=aa y' 6) ?_;rintro y' d ⟨h0,h2,h5⟩;have hv0:kW (ds.take 0)=0:=by rw[List.take_zero];unfold kW;rw[gg]
 have hn:az [2,5] (ab b) y' ((2,.int .i64 ((kW (ds.take 0):Nat):Int))::(5,.int .i64 ((st+0:Nat):Int))::y')=az [2,5] (ab b) y' y':=by rw[hv0];simp[az,h2,h5]
 rw[←hn];refine bA (α:=Nat) (fun j=>⟨az [2,5] (ab b) y' ((2,.int .i64 ((kW (ds.take j):Nat):Int))::(5,.int .i64 ((st+j:Nat):Int))::y'),[],d⟩)
  (fun j=>ds.length-j) (fun j=>j≤ds.length) (.exit 0) _ d _ (by simp) ?_ K 0 (Nat.zero_le _) (by simp only[Nat.sub_zero];omega)
 intro j hj;clear hn hv0;simp[aj,aD,f92] at hb;obtain⟨i,hi⟩:∃i,i=st+j:=⟨_,rfl⟩
 have hsi:s[i]? =(ds++rest)[j]? :=by rw[←hd,List.getElem?_drop,hi]
 by_cases YI:j=ds.length
 ·right
  subst YI;rw[List.take_length,←hi];rw[List.getElem?_append_right (Nat.le_refl _),Nat.sub_self] at hsi;obtain⟨rfl,rfl⟩:=hb;rcases WG with h | ⟨r,h⟩
  ·subst h
   have hil:i=s.length:=by simp at A';omega
   have h1:¬i<s.length:=by omega
   have h1I:¬(i:Int)<(s.length:Int):=by omega
   simp[h0,h1I]
  ·subst h
   have hil:i<s.length:=by simp at A';omega
   have hilI:(i:Int)<(s.length:Int):=by omega
   have hc:s[i]? =some 47:=by simpa using hsi
   have ZD :s[i]=47:=(List.getElem?_eq_some_iff.1 hc).2;simp[h0,hil,hilI,ZD]
 ·left
  have AC:j<ds.length:=by omega
  obtain⟨c,hc⟩:∃c,ds[j]? =some c:=⟨ds[j],by simp[AC]⟩
  rw[List.getElem?_append_left AC,hc] at hsi;have hil:i<s.length:=(List.getElem?_eq_some_iff.1 hsi).1;have hilI:(i:Int)<(s.length:Int):=by omega
  have hsi' :s[i]=c:=(List.getElem?_eq_some_iff.1 hsi).2;have hcD:=List.all_eq_true.1 G' c (List.mem_of_getElem? hc);have hcd:=xE hcD;have hc48:48≤c.toNat∧c.toNat≤57:=by unfold isD at hcD;simp only[Bool.and_eq_true,decide_eq_true_eq] at hcD;exact hcD
  have hc47:¬((c.toNat:Int)=47):=by omega
  have hst2:ds.take (j+1)=ds.take j++[c]:=by rw[List.take_add_one,hc];rfl
  have hvn:kW (ds.take (j+1))=10*kW (ds.take j)+(c.toNat-48):=by rw[hst2,vF]
  have hvb:=xX G' (by omega) j;obtain⟨v,hvv⟩:∃v,v=kW (ds.take j):=⟨_,rfl⟩
  obtain⟨v2,hvv2⟩:∃v,v=kW (ds.take (j+1)):=⟨_,rfl⟩
  rw[←hvv] at hvb hvn;rw[←hvv2] at hvn;obtain⟨k,hk⟩:∃k:Nat,k=c.toNat-48:=⟨_,rfl⟩
  have w0:IntKind.u8.wrap ((c.toNat:Int)-48)=(k:Int):=by rw[FY (by omega) (by omega)];omega
  have w1:IntKind.i64.wrap (k:Int)=(k:Int):=ai (by omega) (by omega);have w2:IntKind.i64.wrap (10*(v:Int))=10*(v:Int):=ai (by omega) (by omega);have w3:IntKind.i64.wrap (10*(v:Int)+(k:Int))=(v2:Int):=by rw[ai (by omega) (by omega)];omega
  have w4:IntKind.i64.wrap ((i:Int)+1)=((st+(j+1):Nat):Int):=by rw[ai (by omega) (by omega)];omega
  rw[←hi];refine⟨j+1,?_⟩;refine cC (show j+1≤ds.length∧_ from⟨AC,by omega⟩) ?_;obtain⟨rfl,rfl⟩:=hb;simp[h0,hil,hilI,hsi',hc47,←hvv,←hvv2,w0,w1,w2,w3,w4];try omega
theorem yw(s ds:List UInt8)(st:Nat)(hs:s.length≤9)(WI:st≤s.length)(hd:s.drop st=ds)(G':ds.all isD=true)(hK:10<K)(hb:aj f92=[b,b2]):
  ∃F:Env→Bool→Env,∀y' d,(aa y' 0=.str s∧aa y' 3=.int .i64 0∧aa y' 5=.int .i64 (st:Int))→
   aQ (aC prog) jr O K 57 0 true (.loop b2) ⟨y',[],d⟩=some (.exit 2,⟨F y' d,[],d⟩)∧(aa (F y' d) 3=.int .i64 ((kW ds:Nat):Int)∧aa (F y' d) 2=aa y' 2∧aa (F y' d) 6=aa y' 6):=by
 have XZ:jr b2=[3,5]:=by simp[aj,aD,f92] at hb;obtain⟨rfl,rfl⟩:=hb;decide
 have A':st+ds.length=s.length:=by have:=congrArg List.length hd;simp at this;omega
 refine bf XZ (fun y'=>aa y' 0=.str s∧aa y' 3=.int .i64 0∧aa y' 5=.int .i64 (st:Int)) (fun y' z' =>aa z' 3=.int .i64 ((kW ds:Nat):Int)∧aa z' 2=aa y' 2∧aa z' 6=aa y' 6) ?_;rintro y' d ⟨h0,h2,h5⟩;have hv0:kW (ds.take 0)=0:=by rw[List.take_zero];unfold kW;rw[gg]
 have hn:az [3,5] (ab b2) y' ((3,.int .i64 ((kW (ds.take 0):Nat):Int))::(5,.int .i64 ((st+0:Nat):Int))::y')=az [3,5] (ab b2) y' y':=by rw[hv0];simp[az,h2,h5]
 rw[←hn];refine bA (α:=Nat) (fun j=>⟨az [3,5] (ab b2) y' ((3,.int .i64 ((kW (ds.take j):Nat):Int))::(5,.int .i64 ((st+j:Nat):Int))::y'),[],d⟩)
  (fun j=>ds.length-j) (fun j=>j≤ds.length) (.exit 2) _ d _ (by simp) ?_ K 0 (Nat.zero_le _) (by simp only[Nat.sub_zero];omega)
 intro j hj;clear hn hv0;simp[aj,aD,f92] at hb;obtain⟨i,hi⟩:∃i,i=st+j:=⟨_,rfl⟩
 have hsi:s[i]? =ds[j]? :=by rw[←hd,List.getElem?_drop,hi]
 by_cases YI:j=ds.length
 ·right
  subst YI;rw[List.take_length,←hi];obtain⟨rfl,rfl⟩:=hb;have h1:¬i<s.length:=by omega
  have h1I:¬(i:Int)<(s.length:Int):=by omega
  simp[h0,h1]
 ·left
  have AC:j<ds.length:=by omega
  obtain⟨c,hc⟩:∃c,ds[j]? =some c:=⟨ds[j],by simp[AC]⟩
  rw[hc] at hsi;have hil:i<s.length:=(List.getElem?_eq_some_iff.1 hsi).1;have hilI:(i:Int)<(s.length:Int):=by omega
  have hsi' :s[i]=c:=(List.getElem?_eq_some_iff.1 hsi).2;have hcD:=List.all_eq_true.1 G' c (List.mem_of_getElem? hc);have hcd:=xE hcD;have hc48:48≤c.toNat∧c.toNat≤57:=by unfold isD at hcD;simp only[Bool.and_eq_true,decide_eq_true_eq] at hcD;exact hcD
  have hst2:ds.take (j+1)=ds.take j++[c]:=by rw[List.take_add_one,hc];rfl
  have hvn:kW (ds.take (j+1))=10*kW (ds.take j)+(c.toNat-48):=by rw[hst2,vF]
  have hvb:=xX G' (by omega) j;obtain⟨v,hvv⟩:∃v,v=kW (ds.take j):=⟨_,rfl⟩
  obtain⟨v2,hvv2⟩:∃v,v=kW (ds.take (j+1)):=⟨_,rfl⟩
  rw[←hvv] at hvb hvn;rw[←hvv2] at hvn;obtain⟨k,hk⟩:∃k:Nat,k=c.toNat-48:=⟨_,rfl⟩
  have w0:IntKind.u8.wrap ((c.toNat:Int)-48)=(k:Int):=by rw[FY (by omega) (by omega)];omega
  have w1:IntKind.i64.wrap (k:Int)=(k:Int):=ai (by omega) (by omega);have w2:IntKind.i64.wrap (10*(v:Int))=10*(v:Int):=ai (by omega) (by omega);have w3:IntKind.i64.wrap (10*(v:Int)+(k:Int))=(v2:Int):=by rw[ai (by omega) (by omega)];omega
  have w4:IntKind.i64.wrap ((i:Int)+1)=((st+(j+1):Nat):Int):=by rw[ai (by omega) (by omega)];omega
  rw[←hi];refine⟨j+1,?_⟩;refine cC (show j+1≤ds.length∧_ from⟨AC,by omega⟩) ?_;obtain⟨rfl,rfl⟩:=hb;simp[h0,hil,hilI,hsi',←hvv,←hvv2,w0,w1,w2,w3,w4];try omega
theorem Gt(q:Rat)(mem:Mem):mB prog 92 [.str (aN q)] mem (if (aN q).length≤9 then .tuple [.int .i64 q.num,.int .i64 q.den,.bool true] else .tuple [.int .i64 0,.int .i64 0,.bool false]) mem:=by
 have hG:aO prog 92=some f92:=by kernel_rfl
 refine aB (ah _) (lv:=jr) (K:=11) rfl (by split<;>rfl) ?_ mem;by_cases hl:(aN q).length≤9
 ·rw[if_pos hl]
  have hlI:¬(9<((aN q).length:Int)):=by omega
  obtain⟨b,b2,hb⟩:∃b b2,aj f92=[b,b2]:=⟨_,_,rfl⟩
  obtain⟨rest,Y0,hre⟩:=wT q;obtain⟨s,hs⟩:∃s,s=aN q:=⟨_,rfl⟩
  rw[←hs] at hl hlI Y0 ⊢;obtain⟨N,hN⟩:∃N,N=q.num.natAbs:=⟨_,rfl⟩
  rw[←hN] at Y0;have Yp:=gf N;have hvN:=fT N;have hpN:=vp N;have hNn:=qT N;have WG:rest=[]∨∃r,rest=47::r:=by rw[hre];split<;>simp
  obtain⟨st,WI⟩:∃st:Nat,st=if q.num<0 then 1 else 0:=⟨_,rfl⟩
  have Xa:(if q.num<0 then [(45:UInt8)] else []).length=st:=by rw[WI];split<;>rfl
  have hdrop:s.drop st=aS N++rest:=by rw[Y0,←Xa,List.drop_left]
  have A':s.length=st+(aS N).length+rest.length:=by rw[Y0,List.length_append,Xa,List.length_append];omega
  obtain⟨F,hF⟩:=yv (O:=bt) (K:=11) s (aS N) rest st hl (by omega) hdrop WG Yp (by omega) hb;rw[hvN] at hF;obtain⟨at1,hat⟩:∃at1,at1=st+(aS N).length:=⟨_,rfl⟩
  rw[←hat] at hF A';have hN18:N<10 ^ 9:=by have h1:=eF N;have h2:10 ^ (aS N).length≤10 ^ 9:=Nat.pow_le_pow_right (by omega) (by omega);omega
  have wn:IntKind.i64.wrap (-(N:Int))= -(N:Int):=ai (by omega) (by omega);have wp:IntKind.i64.wrap (N:Int)=(N:Int):=ai (by omega) (by omega);by_cases hd1:q.den=1
  ·rw[if_pos hd1] at hre
   subst hre;have hatl:¬at1<s.length:=by simp at A';omega
   simp[aj,aD,f92] at hb;obtain⟨rfl,rfl⟩:=hb;by_cases h0:q.num<0
   ·rw[if_pos h0] at WI
    subst WI;have hc:s[0]? =some 45:=by rw[Y0,if_pos h0];rfl
    have e: -(N:Int)=q.num:=by omega
    have wn' :IntKind.i64.wrap (-(N:Int))=q.num:=by rw[wn,e]
    simp only[Int.natCast_one] at hF;simp[ad,hG,f92,hlI,hc,hF,hatl,wn',hd1]
   ·rw[if_neg h0] at WI
    subst WI;have hc:∃c,s[0]? =some c∧isD c=true:=by
     rw[Y0,if_neg h0];cases hx:aS N with
     |nil=>exact absurd hx hNn
     |cons c r=>
      rw[hx] at Yp;simp only[List.all_cons,Bool.and_eq_true] at Yp;exact⟨c,by simp,Yp.1⟩
    obtain⟨c,hc,hcD⟩:=hc;have Ym:=gu hcD;have e:(N:Int)=q.num:=by omega
    have wp' :IntKind.i64.wrap (N:Int)=q.num:=by rw[wp,e]
    simp only[Int.natCast_zero] at hF;simp[ad,hG,f92,hlI,hc,Ym,hF,hatl,wp',hd1]
  ·rw[if_neg hd1] at hre
   subst hre;have hatl:at1<s.length:=by simp at A';omega
   have hatlI:(at1:Int)<(s.length:Int):=by omega
   have hdrop2:s.drop (at1+1)=aS q.den:=by
    have h1:s.drop at1=47::aS q.den:=by rw[hat,←List.drop_drop,hdrop,List.drop_left]
    rw[←List.drop_drop,h1];rfl
   obtain⟨F2,P'⟩:=yw (O:=bt) (K:=11) s (aS q.den) (at1+1) hl (by omega) hdrop2 (gf _) (by omega) hb;rw[fT] at P';have w1:IntKind.i64.wrap ((at1:Int)+1)=((at1+1:Nat):Int):=by rw[ai (by omega) (by omega)];omega
   obtain⟨at2,hat2⟩:∃at2,at2=at1+1:=⟨_,rfl⟩
   rw[←hat2] at w1 P';simp[aj,aD,f92] at hb;obtain⟨rfl,rfl⟩:=hb;by_cases h0:q.num<0
   ·rw[if_pos h0] at WI
    subst WI;have hc:s[0]? =some 45:=by rw[Y0,if_pos h0];rfl
    have e: -(N:Int)=q.num:=by omega
    have wn' :IntKind.i64.wrap (-(N:Int))=q.num:=by rw[wn,e]
    simp only[Int.natCast_one] at hF;simp[ad,hG,f92,hlI,hc,hF,hatlI,w1,P',wn']
   ·rw[if_neg h0] at WI
    subst WI;have hc:∃c,s[0]? =some c∧isD c=true:=by
     rw[Y0,if_neg h0];cases hx:aS N with
     |nil=>exact absurd hx hNn
     |cons c r=>
      rw[hx] at Yp;simp only[List.all_cons,Bool.and_eq_true] at Yp;exact⟨c,by simp,Yp.1⟩
    obtain⟨c,hc,hcD⟩:=hc;have Ym:=gu hcD;have e:(N:Int)=q.num:=by omega
    have wp' :IntKind.i64.wrap (N:Int)=q.num:=by rw[wp,e]
    simp only[Int.natCast_zero] at hF;simp[ad,hG,f92,hlI,hc,Ym,hF,hatlI,w1,P',wp']
 ·rw[if_neg hl]
  have hlI:(9<((aN q).length:Int)):=by omega
  simp[ad,hG,f92,hlI]
theorem vb{q:Rat}(h:(aN q).length≤9):q.num.natAbs<10 ^ 9∧q.den<10 ^ 9:=Fk h
noncomputable def kh(f:FuncId) (args:List AV):Option AV:=
 match f,args with
 |92,[.str s]=>match ef s with
  |some q=>some (if (aN q).length≤9 then .tuple [.int .i64 q.num,.int .i64 q.den,.bool true] else .tuple [.int .i64 0,.int .i64 0,.bool false])
  |none=>none
 |93,[.int .i64 n,.int .i64 m]=>if 0<m∧n.natAbs≤4611686018427387904∧m≤4611686018427387904 then some (.str (aN (mkRat n m.toNat))) else none
 |98,[.str s,.str t]=>match pq s,Bn t with
  |some n,some d=>if d≠0∧(cN n).length≤18∧(aS d).length≤18 then some (.str (aN (mkRat n d))) else none
  |_,_=>none
 |68,[.int .i64 n]=>if jC n then some (.str (cN n)) else none
 |f,args=>aT f args
theorem Oz(n:Int)(hn:jC n=true)(mem:Mem):mB prog 68 [.int .i64 n] mem (.str (cN n)) mem:=by
 have hG:aO prog 68=some f68:=by kernel_rfl
 refine aB dM (lv:=fun _=>[]) (K:=1) rfl rfl ?_ mem;simp[ad,hG,f68,ar,aT,hn]
theorem oo:qS prog (ar kh):=bZ fun f args v h mem=>by
 unfold kh at h;split at h
 ·split at h
  ·rename_i q hq;cases h;rw[aA hq];exact Gt q mem
  ·cases h
 ·rename_i n m
  split at h
  ·rename_i hc
   cases h;have:=Ed n m.toNat hc.2.1 (by omega) (by omega) mem;rw[Int.toNat_of_nonneg (by omega)] at this;exact this
  ·cases h
 ·split at h
  ·rename_i m n hm hn
   split at h
   ·rename_i hc;cases h;rw[eR hm,kG hn];exact Gu m n hc.1 hc.2.1 hc.2.2 mem
   ·cases h
  ·cases h
 ·split at h
  ·rename_i hc;cases h;exact Oz _ hc mem
  ·cases h
 ·have:=dM.fn _ _ mem ⟨v,none,[]⟩ (by unfold ar;simp only;rw[h])
  simpa [HS.mem] using this
theorem zU(n:Int)(d:Nat)(hd:d≠0)(hn:n.natAbs<10 ^ 8)(hd2:d<10 ^ 8)(mem:Mem):mB prog 67 [.str (cN n),.str (aS d)] mem (.str (aN (mkRat n d))) mem:=by
 have hG:aO prog 67=some f67:=by kernel_rfl
 refine aB oo (lv:=fun _=>[]) (K:=1) rfl rfl ?_ mem;have l1:(aS n.natAbs).length≤8:=bC (by omega) hn;have l2:(aS d).length≤8:=bC (by omega) hd2;have l3:(cN n).length≤9:=by have:=fK n;omega
 have c1:((cN n).length:Int)≤9:=by omega
 have c2:((aS d).length:Int)≤9:=by omega
 have c3:(cN n).length≤18:=by omega
 have c4:(aS d).length≤18:=by omega
 have c5:(aS d).length≤9:=by omega
 simp[ad,hG,f67,ar,kh,di,ig,c1,c2,c3,c4,hd]
noncomputable def AD(f:FuncId) (args:List AV):Option AV:=
 match f,args with
 |67,[.str s,.str t]=>match pq s,Bn t with
  |some n,some d=>if d≠0∧n.natAbs<10 ^ 8∧d<10 ^ 8 then some (.str (aN (mkRat n d))) else none
  |_,_=>none
 |f,args=>kh f args
theorem MG:qS prog (ar AD):=bZ fun f args v h mem=>by
 unfold AD at h;split at h
 ·split at h
  ·rename_i m n hm hn
   split at h
   ·rename_i hc;cases h;rw[eR hm,kG hn];exact zU m n hc.1 hc.2.1 hc.2.2 mem
   ·cases h
  ·cases h
 ·have:=oo.fn _ _ mem ⟨v,none,[]⟩ (by unfold ar;simp only;rw[h])
  simpa [HS.mem] using this
theorem Gx(n:Int)(d:Nat)(hd:d≠0)(hn:n.natAbs<10 ^ 8)(hd2:d<10 ^ 8)(mem:Mem):mB prog 38 [.int .i64 n,.int .i64 d] mem (.str (aN (mkRat n d))) mem:=by
 have hG:aO prog 38=some f38:=by kernel_rfl
 refine aB MG (lv:=fun _=>[]) (K:=1) rfl rfl ?_ mem;have f1:jC n=true:=by unfold jC;simp;omega
 have f2:jC (d:Int)=true:=by unfold jC;simp;omega
 have hi:cN (d:Int)=aS d:=rfl;have hn' :n.natAbs<100000000:=hn;have hd' :d<100000000:=hd2;simp[ad,hG,f38,ar,AD,kh,f1,f2,hi,di,ig,hd,hn',hd']
theorem CH(a b:Rat)(qa:(aN a).length≤9)(qb:(aN b).length≤9)(mem:Mem):
  mB prog 65 [.str (aN a),.str (aN b)] mem (.str (aN (a+b))) mem:=by
 have hG:aO prog 65=some f65:=by kernel_rfl
 refine aB oo (lv:=fun _=>[]) (K:=1) rfl rfl ?_ mem;have hdp:a.den*b.den≠0:=Nat.mul_ne_zero a.den_nz b.den_nz;have XN:=Rat.add_def' a b;obtain⟨X,hX⟩:∃X,X=a.num*(b.den:Int):=⟨_,rfl⟩
 obtain⟨Y,hY⟩:∃Y,Y=b.num*(a.den:Int):=⟨_,rfl⟩
 obtain⟨D,hD⟩:∃D,D=a.den*b.den:=⟨_,rfl⟩
 rw[←hX,←hY,←hD] at XN;rw[←hD] at hdp;rw[XN];obtain⟨a1,a2⟩:=vb qa;obtain⟨b1,b2⟩:=vb qb;have x1:X.natAbs<10 ^ 9*10 ^ 9:=by rw[hX];exact eW a1 (by simpa using b2)
 have y1:Y.natAbs<10 ^ 9*10 ^ 9:=by rw[hY];exact eW b1 (by simpa using a2)
 have d1:D<10 ^ 9*10 ^ 9:=by rw[hD];exact Nat.mul_lt_mul'' a2 b2
 have w1:IntKind.i64.wrap (a.num*(b.den:Int))=X:=by rw[←hX];exact ai (by omega) (by omega)
 have w2:IntKind.i64.wrap (b.num*(a.den:Int))=Y:=by rw[←hY];exact ai (by omega) (by omega)
 have w3:IntKind.i64.wrap (X+Y)=X+Y:=ai (by omega) (by omega);have w4:IntKind.i64.wrap ((a.den:Int)*(b.den:Int))=(D:Int):=by rw[←Int.natCast_mul,←hD];exact ai (by omega) (by omega)
 have c1:(X+Y).natAbs≤4611686018427387904:=by omega
 have c2:(D:Int)≤4611686018427387904:=by omega
 have c2' :D≤4611686018427387904:=by omega
 have c3:0<D:=by omega
 have c3' :(0:Int)<D:=by omega
 simp[ad,hG,f65,ar,kh,aM,qa,qb,w1,w2,w3,w4,c1,c2,c3]
theorem OA(a b:Rat)(qa:(aN a).length≤9)(qb:(aN b).length≤9)(mem:Mem):
  mB prog 138 [.str (aN a),.str (aN b)] mem (.str (aN (a*b))) mem:=by
 have hG:aO prog 138=some f138:=by kernel_rfl
 refine aB oo (lv:=fun _=>[]) (K:=1) rfl rfl ?_ mem;have hdp:a.den*b.den≠0:=Nat.mul_ne_zero a.den_nz b.den_nz;have XN:=Rat.mul_def' a b;obtain⟨X,hX⟩:∃X,X=a.num*b.num:=⟨_,rfl⟩
 obtain⟨D,hD⟩:∃D,D=a.den*b.den:=⟨_,rfl⟩
 rw[←hX,←hD] at XN;rw[←hD] at hdp;rw[XN];obtain⟨a1,a2⟩:=vb qa;obtain⟨b1,b2⟩:=vb qb;have x1:X.natAbs<10 ^ 9*10 ^ 9:=by rw[hX];exact eW a1 b1
 have d1:D<10 ^ 9*10 ^ 9:=by rw[hD];exact Nat.mul_lt_mul'' a2 b2
 have w1:IntKind.i64.wrap (a.num*b.num)=X:=by rw[←hX];exact ai (by omega) (by omega)
 have w4:IntKind.i64.wrap ((a.den:Int)*(b.den:Int))=(D:Int):=by rw[←Int.natCast_mul,←hD];exact ai (by omega) (by omega)
 have c1:X.natAbs≤4611686018427387904:=by omega
 have c2:(D:Int)≤4611686018427387904:=by omega
 have c2' :D≤4611686018427387904:=by omega
 have c3:0<D:=by omega
 have c3' :(0:Int)<D:=by omega
 simp[ad,hG,f138,ar,kh,aM,qa,qb,w1,w4,c1,c2,c3]
end Go.Proofs
