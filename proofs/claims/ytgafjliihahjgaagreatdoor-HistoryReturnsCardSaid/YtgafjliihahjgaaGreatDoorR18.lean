/- See R54. -/
import Derived.Test.YtgafjliihahjgaaGreatDoorR17
set_option linter.all false
set_option maxRecDepth 100000
set_option maxHeartbeats 40000000
namespace Go.Proofs
open Go.Eng
open Tryz
theorem xK{ds:List UInt8}(hd:ds.all isD=true)(hl:ds.length≤9)(j:Nat):lA (ds.take j)<10 ^ 9:=by
 have h1:lA (ds.take j)<10 ^ (ds.take j).length:=by
  have h0:(ds.take j).all isD=true:=by rw[List.all_eq_true] at hd ⊢;exact fun c hc=>hd c (List.mem_of_mem_take hc)
  have:=tZ _ 0 h0;unfold lA;omega
 have h2:(ds.take j).length≤9:=by rw[List.length_take];omega
 have h3:10 ^ (ds.take j).length≤10 ^ 9:=Nat.pow_le_pow_right (by omega) h2;omega
def jA(c:Code):List Nat:=if (aa c).contains 24 then [2,5] else [3,5]
variable{K:Nat}{O:adM}{b b2:Code}
theorem yi(s ds rest:List UInt8)(st:Nat)(hs:s.length≤9)(XZ:st≤s.length)(hd:s.drop st=ds++rest)(XV:rest=[]∨∃r,rest=47::r)(H':ds.all isD=true)(hK:10<K)(hb:ai f128=[b,b2]):
  ∃F:Env→Bool→Env,∀z' d,(ab z' 0=.str s∧ab z' 2=.int .i64 0∧ab z' 5=.int .i64 (st:Int))→
   aN (aM prog) jA O K 57 0 true (.loop b) ⟨z',[],d⟩=some (.exit 0,⟨F z' d,[],d⟩)∧(ab (F z' d) 2=.int .i64 ((lA ds:Nat):Int)∧ab (F z' d) 5=.int .i64 ((st+ds.length:Nat):Int)∧ab (F z' d) 0=ab z' 0∧ab (F z' d) 3=ab z' 3∧ab (F z' d) 6=ab z' 6):=by
 have YQ:jA b=[2,5]:=by simp[ai,aK,f128] at hb;obtain⟨rfl,rfl⟩:=hb;decide
 have F':st+ds.length+rest.length=s.length:=by have:=congrArg List.length hd;simp at this;omega
 refine cv YQ (fun z'=>ab z' 0=.str s∧ab z' 2=.int .i64 0∧ab z' 5=.int .i64 (st:Int)) (fun z' AC =>ab AC 2=.int .i64 ((lA ds:Nat):Int)∧ab AC 5=.int .i64 ((st+ds.length:Nat):Int)∧ab AC 0=ab z' 0∧ab AC 3=ab z' 3∧ab AC 6=ab z' 6) ?_;rintro z' d ⟨h0,h2,h5⟩;have ZJ:lA (ds.take 0)=0:=by rw[List.take_zero];unfold lA;rw[gn]
 have hn:aD [2,5] (aa b) z' ((2,.int .i64 ((lA (ds.take 0):Nat):Int))::(5,.int .i64 ((st+0:Nat):Int))::z')=aD [2,5] (aa b) z' z':=by rw[ZJ];simp[aD,h2,h5]
 rw[←hn];refine cV (α:=Nat) (fun j=>⟨aD [2,5] (aa b) z' ((2,.int .i64 ((lA (ds.take j):Nat):Int))::(5,.int .i64 ((st+j:Nat):Int))::z'),[],d⟩)
  (fun j=>ds.length-j) (fun j=>j≤ds.length) (.exit 0) _ d _ (by simp) ?_ K 0 (Nat.zero_le _) (by simp only[Nat.sub_zero];omega)
 intro j hj;clear hn ZJ;simp[ai,aK,f128] at hb;obtain⟨i,hi⟩:∃i,i=st+j:=⟨_,rfl⟩
 have hsi:s[i]? =(ds++rest)[j]? :=by rw[←hd,List.getElem?_drop,hi]
 by_cases ZU:j=ds.length
 ·right
  subst ZU;rw[List.take_length,←hi];rw[List.getElem?_append_right (Nat.le_refl _),Nat.sub_self] at hsi;obtain⟨rfl,rfl⟩:=hb;rcases XV with h | ⟨r,h⟩
  ·subst h
   have hil:i=s.length:=by simp at F';omega
   have h1:¬i<s.length:=by omega
   have h1I:¬(i:Int)<(s.length:Int):=by omega
   simp[h0,h1I]
  ·subst h
   have hil:i<s.length:=by simp at F';omega
   have aba:(i:Int)<(s.length:Int):=by omega
   have hc:s[i]? =some 47:=by simpa using hsi
   have hc' :s[i]=47:=(List.getElem?_eq_some_iff.1 hc).2;simp[h0,hil,aba,hc']
 ·left
  have A':j<ds.length:=by omega
  obtain⟨c,hc⟩:∃c,ds[j]? =some c:=⟨ds[j],by simp[A']⟩
  rw[List.getElem?_append_left A',hc] at hsi;have hil:i<s.length:=(gL hsi);have aba:(i:Int)<(s.length:Int):=by omega
  have abT :s[i]=c:=(List.getElem?_eq_some_iff.1 hsi).2;have hcD:=List.all_eq_true.1 H' c (List.mem_of_getElem? hc);have hcd:=xt hcD;have adj:48≤c.toNat∧c.toNat≤57:=by unfold isD at hcD;simp only[Bool.and_eq_true,decide_eq_true_eq] at hcD;exact hcD
  have adk:¬((c.toNat:Int)=47):=by omega
  have aaR:ds.take (j+1)=ds.take j++[c]:=by rw[List.take_add_one,hc];rfl
  have hvn:lA (ds.take (j+1))=10*lA (ds.take j)+(c.toNat-48):=by rw[aaR,vr]
  have hvb:=xK H' (by omega) j;obtain⟨v,hvv⟩:∃v,v=lA (ds.take j):=⟨_,rfl⟩
  obtain⟨v2,abb⟩:∃v,v=lA (ds.take (j+1)):=⟨_,rfl⟩
  rw[←hvv] at hvb hvn;rw[←abb] at hvn;obtain⟨k,hk⟩:∃k:Nat,k=c.toNat-48:=⟨_,rfl⟩
  have w0:IntKind.u8.wrap ((c.toNat:Int)-48)=(k:Int):=by rw[FJ (by omega) (by omega)];omega
  have w1:IntKind.i64.wrap (k:Int)=(k:Int):=al (by omega) (by omega);have w2:IntKind.i64.wrap (10*(v:Int))=10*(v:Int):=al (by omega) (by omega);have w3:IntKind.i64.wrap (10*(v:Int)+(k:Int))=(v2:Int):=by rw[al (by omega) (by omega)];omega
  have w4:IntKind.i64.wrap ((i:Int)+1)=((st+(j+1):Nat):Int):=by rw[al (by omega) (by omega)];omega
  rw[←hi];refine⟨j+1,?_⟩;refine dZ (show j+1≤ds.length∧_ from⟨A',by omega⟩) ?_;obtain⟨rfl,rfl⟩:=hb;simp[h0,hil,aba,abT,adk,←hvv,←abb,w0,w1,w2,w3,w4];try omega
theorem yj(s ds:List UInt8)(st:Nat)(hs:s.length≤9)(XZ:st≤s.length)(hd:s.drop st=ds)(H':ds.all isD=true)(hK:10<K)(hb:ai f128=[b,b2]):
  ∃F:Env→Bool→Env,∀z' d,(ab z' 0=.str s∧ab z' 3=.int .i64 0∧ab z' 5=.int .i64 (st:Int))→
   aN (aM prog) jA O K 57 0 true (.loop b2) ⟨z',[],d⟩=some (.exit 2,⟨F z' d,[],d⟩)∧(ab (F z' d) 3=.int .i64 ((lA ds:Nat):Int)∧ab (F z' d) 2=ab z' 2∧ab (F z' d) 6=ab z' 6):=by
 have YQ:jA b2=[3,5]:=by simp[ai,aK,f128] at hb;obtain⟨rfl,rfl⟩:=hb;decide
 have F':st+ds.length=s.length:=by have:=congrArg List.length hd;simp at this;omega
 refine cv YQ (fun z'=>ab z' 0=.str s∧ab z' 3=.int .i64 0∧ab z' 5=.int .i64 (st:Int)) (fun z' AC =>ab AC 3=.int .i64 ((lA ds:Nat):Int)∧ab AC 2=ab z' 2∧ab AC 6=ab z' 6) ?_;rintro z' d ⟨h0,h2,h5⟩;have ZJ:lA (ds.take 0)=0:=by rw[List.take_zero];unfold lA;rw[gn]
 have hn:aD [3,5] (aa b2) z' ((3,.int .i64 ((lA (ds.take 0):Nat):Int))::(5,.int .i64 ((st+0:Nat):Int))::z')=aD [3,5] (aa b2) z' z':=by rw[ZJ];simp[aD,h2,h5]
 rw[←hn];refine cV (α:=Nat) (fun j=>⟨aD [3,5] (aa b2) z' ((3,.int .i64 ((lA (ds.take j):Nat):Int))::(5,.int .i64 ((st+j:Nat):Int))::z'),[],d⟩)
  (fun j=>ds.length-j) (fun j=>j≤ds.length) (.exit 2) _ d _ (by simp) ?_ K 0 (Nat.zero_le _) (by simp only[Nat.sub_zero];omega)
 intro j hj;clear hn ZJ;simp[ai,aK,f128] at hb;obtain⟨i,hi⟩:∃i,i=st+j:=⟨_,rfl⟩
 have hsi:s[i]? =ds[j]? :=by rw[←hd,List.getElem?_drop,hi]
 by_cases ZU:j=ds.length
 ·right
  subst ZU;rw[List.take_length,←hi];obtain⟨rfl,rfl⟩:=hb;have h1:¬i<s.length:=by omega
  have h1I:¬(i:Int)<(s.length:Int):=by omega
  simp[h0,h1]
 ·left
  have A':j<ds.length:=by omega
  obtain⟨c,hc⟩:∃c,ds[j]? =some c:=⟨ds[j],by simp[A']⟩
  rw[hc] at hsi;have hil:i<s.length:=(gL hsi);have aba:(i:Int)<(s.length:Int):=by omega
  have abT :s[i]=c:=(List.getElem?_eq_some_iff.1 hsi).2;have hcD:=List.all_eq_true.1 H' c (List.mem_of_getElem? hc);have hcd:=xt hcD;have adj:48≤c.toNat∧c.toNat≤57:=by unfold isD at hcD;simp only[Bool.and_eq_true,decide_eq_true_eq] at hcD;exact hcD
  have aaR:ds.take (j+1)=ds.take j++[c]:=by rw[List.take_add_one,hc];rfl
  have hvn:lA (ds.take (j+1))=10*lA (ds.take j)+(c.toNat-48):=by rw[aaR,vr]
  have hvb:=xK H' (by omega) j;obtain⟨v,hvv⟩:∃v,v=lA (ds.take j):=⟨_,rfl⟩
  obtain⟨v2,abb⟩:∃v,v=lA (ds.take (j+1)):=⟨_,rfl⟩
  rw[←hvv] at hvb hvn;rw[←abb] at hvn;obtain⟨k,hk⟩:∃k:Nat,k=c.toNat-48:=⟨_,rfl⟩
  have w0:IntKind.u8.wrap ((c.toNat:Int)-48)=(k:Int):=by rw[FJ (by omega) (by omega)];omega
  have w1:IntKind.i64.wrap (k:Int)=(k:Int):=al (by omega) (by omega);have w2:IntKind.i64.wrap (10*(v:Int))=10*(v:Int):=al (by omega) (by omega);have w3:IntKind.i64.wrap (10*(v:Int)+(k:Int))=(v2:Int):=by rw[al (by omega) (by omega)];omega
  have w4:IntKind.i64.wrap ((i:Int)+1)=((st+(j+1):Nat):Int):=by rw[al (by omega) (by omega)];omega
  rw[←hi];refine⟨j+1,?_⟩;refine dZ (show j+1≤ds.length∧_ from⟨A',by omega⟩) ?_;obtain⟨rfl,rfl⟩:=hb;simp[h0,hil,aba,abT,←hvv,←abb,w0,w1,w2,w3,w4];try omega
theorem Gg(q:Rat)(mem:Mem):kF prog 128 [.str (aw q)] mem (if (aw q).length≤9 then .tuple [.int .i64 q.num,.int .i64 q.den,.bool true] else .tuple [.int .i64 0,.int .i64 0,.bool false]) mem:=by
 have hG:aT prog 128=some f128:=by kernel_rfl
 refine az (ah _) (lv:=jA) (K:=11) rfl (by split<;>rfl) ?_ mem;by_cases hl:(aw q).length≤9
 ·rw[if_pos hl]
  have hlI:¬(9<((aw q).length:Int)):=by omega
  obtain⟨b,b2,hb⟩:∃b b2,ai f128=[b,b2]:=⟨_,_,rfl⟩
  obtain⟨rest,ZY,hre⟩:=wP q;obtain⟨s,hs⟩:∃s,s=aw q:=⟨_,rfl⟩
  rw[←hs] at hl hlI ZY ⊢;obtain⟨N,hN⟩:∃N,N=q.num.natAbs:=⟨_,rfl⟩
  rw[←hN] at ZY;have Zy:=gl N;have hvN:=fY N;have hpN:=vj N;have hNn:=qz N;have XV:rest=[]∨∃r,rest=47::r:=by rw[hre];split<;>simp
  obtain⟨st,XZ⟩:∃st:Nat,st=if q.num<0 then 1 else 0:=⟨_,rfl⟩
  have Yu:(if q.num<0 then [(45:UInt8)] else []).length=st:=by rw[XZ];split<;>rfl
  have abp:s.drop st=aQ N++rest:=by rw[ZY,←Yu,List.drop_left]
  have F':s.length=st+(aQ N).length+rest.length:=by rw[ZY,List.length_append,Yu,List.length_append];omega
  obtain⟨F,hF⟩:=yi (O:=bq) (K:=11) s (aQ N) rest st hl (by omega) abp XV Zy (by omega) hb;rw[hvN] at hF;obtain⟨at1,ZO⟩:∃at1,at1=st+(aQ N).length:=⟨_,rfl⟩
  rw[←ZO] at hF F';have aeo:N<10 ^ 9:=by have h1:=eI N;have h2:10 ^ (aQ N).length≤10 ^ 9:=Nat.pow_le_pow_right (by omega) (by omega);omega
  have wn:IntKind.i64.wrap (-(N:Int))= -(N:Int):=al (by omega) (by omega);have wp:IntKind.i64.wrap (N:Int)=(N:Int):=al (by omega) (by omega);by_cases hd1:q.den=1
  ·rw[if_pos hd1] at hre
   subst hre;have abU:¬at1<s.length:=by simp at F';omega
   simp[ai,aK,f128] at hb;obtain⟨rfl,rfl⟩:=hb;by_cases h0:q.num<0
   ·rw[if_pos h0] at XZ
    subst XZ;have hc:s[0]? =some 45:=by rw[ZY,if_pos h0];rfl
    have e: -(N:Int)=q.num:=by omega
    have wn' :IntKind.i64.wrap (-(N:Int))=q.num:=by rw[wn,e]
    simp only[Int.natCast_one] at hF;simp[ad,hG,f128,hlI,hc,hF,abU,wn',hd1]
   ·rw[if_neg h0] at XZ
    subst XZ;have hc:∃c,s[0]? =some c∧isD c=true:=by
     rw[ZY,if_neg h0];cases hx:aQ N with
     |nil=>exact absurd hx hNn
     |cons c r=>
      rw[hx] at Zy;simp only[List.all_cons,Bool.and_eq_true] at Zy;exact⟨c,by simp,Zy.1⟩
    obtain⟨c,hc,hcD⟩:=hc;have Zw:=gx hcD;have e:(N:Int)=q.num:=by omega
    have wp' :IntKind.i64.wrap (N:Int)=q.num:=by rw[wp,e]
    simp only[Int.natCast_zero] at hF;simp[ad,hG,f128,hlI,hc,Zw,hF,abU,wp',hd1]
  ·rw[if_neg hd1] at hre
   subst hre;have abU:at1<s.length:=by simp at F';omega
   have abq:(at1:Int)<(s.length:Int):=by omega
   have abu:s.drop (at1+1)=aQ q.den:=by
    have h1:s.drop at1=47::aQ q.den:=by rw[ZO,←List.drop_drop,abp,List.drop_left]
    rw[←List.drop_drop,h1];rfl
   obtain⟨F2,T'⟩:=yj (O:=bq) (K:=11) s (aQ q.den) (at1+1) hl (by omega) abu (gl _) (by omega) hb;rw[fY] at T';have w1:IntKind.i64.wrap ((at1:Int)+1)=((at1+1:Nat):Int):=by rw[al (by omega) (by omega)];omega
   obtain⟨at2,adl⟩:∃at2,at2=at1+1:=⟨_,rfl⟩
   rw[←adl] at w1 T';simp[ai,aK,f128] at hb;obtain⟨rfl,rfl⟩:=hb;by_cases h0:q.num<0
   ·rw[if_pos h0] at XZ
    subst XZ;have hc:s[0]? =some 45:=by rw[ZY,if_pos h0];rfl
    have e: -(N:Int)=q.num:=by omega
    have wn' :IntKind.i64.wrap (-(N:Int))=q.num:=by rw[wn,e]
    simp only[Int.natCast_one] at hF;simp[ad,hG,f128,hlI,hc,hF,abq,w1,T',wn']
   ·rw[if_neg h0] at XZ
    subst XZ;have hc:∃c,s[0]? =some c∧isD c=true:=by
     rw[ZY,if_neg h0];cases hx:aQ N with
     |nil=>exact absurd hx hNn
     |cons c r=>
      rw[hx] at Zy;simp only[List.all_cons,Bool.and_eq_true] at Zy;exact⟨c,by simp,Zy.1⟩
    obtain⟨c,hc,hcD⟩:=hc;have Zw:=gx hcD;have e:(N:Int)=q.num:=by omega
    have wp' :IntKind.i64.wrap (N:Int)=q.num:=by rw[wp,e]
    simp only[Int.natCast_zero] at hF;simp[ad,hG,f128,hlI,hc,Zw,hF,abq,w1,T',wp']
 ·rw[if_neg hl]
  have hlI:(9<((aw q).length:Int)):=by omega
  simp[ad,hG,f128,hlI]
theorem uP{q:Rat}(h:(aw q).length≤9):q.num.natAbs<10 ^ 9∧q.den<10 ^ 9:=EZ h
noncomputable def kG(f:FuncId) (args:List AV):Option AV:=
 match f,args with
 |128,[.str s]=>match dJ s with
  |some q=>some (if (aw q).length≤9 then .tuple [.int .i64 q.num,.int .i64 q.den,.bool true] else .tuple [.int .i64 0,.int .i64 0,.bool false])
  |none=>none
 |129,[.int .i64 n,.int .i64 m]=>if 0<m∧n.natAbs≤4611686018427387904∧m≤4611686018427387904 then some (.str (aw (mkRat n m.toNat))) else none
 |99,[.str s,.str t]=>match oT s,y8 t with
  |some n,some d=>if d≠0∧(cf n).length≤18∧(aQ d).length≤18 then some (.str (aw (mkRat n d))) else none
  |_,_=>none
 |58,[.int .i64 n]=>if dH n then some (.str (cf n)) else none
 |f,args=>aV f args
theorem Ow(n:Int)(hn:dH n=true)(mem:Mem):kF prog 58 [.int .i64 n] mem (.str (cf n)) mem:=by
 have hG:aT prog 58=some f58:=by kernel_rfl
 refine az dP (lv:=fun _=>[]) (K:=1) rfl rfl ?_ mem;simp[ad,hG,f58,ag,aV,hn]
theorem nX:kP prog (ag kG):=bK fun f args v h mem=>by
 unfold kG at h;split at h
 ·split at h
  ·rename_i q hq;cases h;rw[aA hq];exact Gg q mem
  ·cases h
 ·rename_i n m
  split at h
  ·rename_i hc
   cases h;have:=D6 n m.toNat hc.2.1 (by omega) (by omega) mem;rw[Int.toNat_of_nonneg (by omega)] at this;exact this
  ·cases h
 ·split at h
  ·rename_i m n hm hn
   split at h
   ·rename_i hc;cases h;rw[eG hm,jH hn];exact Gh m n hc.1 hc.2.1 hc.2.2 mem
   ·cases h
  ·cases h
 ·split at h
  ·rename_i hc;cases h;exact Ow _ hc mem
  ·cases h
 ·have:=dP.fn _ _ mem ⟨v,none,[]⟩ (by unfold ag;simp only;rw[h])
  simpa [HS.mem] using this
theorem zF(n:Int)(d:Nat)(hd:d≠0)(hn:n.natAbs<10 ^ 8)(hd2:d<10 ^ 8)(mem:Mem):kF prog 57 [.str (cf n),.str (aQ d)] mem (.str (aw (mkRat n d))) mem:=by
 have hG:aT prog 57=some f57:=by kernel_rfl
 refine az nX (lv:=fun _=>[]) (K:=1) rfl rfl ?_ mem;have l1:(aQ n.natAbs).length≤8:=br (by omega) hn;have l2:(aQ d).length≤8:=br (by omega) hd2;have l3:(cf n).length≤9:=by have:=fm n;omega
 have c1:((cf n).length:Int)≤9:=by omega
 have c2:((aQ d).length:Int)≤9:=by omega
 have c3:(cf n).length≤18:=by omega
 have c4:(aQ d).length≤18:=by omega
 have c5:(aQ d).length≤9:=by omega
 simp[ad,hG,f57,ag,kG,cL,fX,c1,c2,c3,c4,hd]
noncomputable def An(f:FuncId) (args:List AV):Option AV:=
 match f,args with
 |57,[.str s,.str t]=>match oT s,y8 t with
  |some n,some d=>if d≠0∧n.natAbs<10 ^ 8∧d<10 ^ 8 then some (.str (aw (mkRat n d))) else none
  |_,_=>none
 |f,args=>kG f args
theorem LY:kP prog (ag An):=bK fun f args v h mem=>by
 unfold An at h;split at h
 ·split at h
  ·rename_i m n hm hn
   split at h
   ·rename_i hc;cases h;rw[eG hm,jH hn];exact zF m n hc.1 hc.2.1 hc.2.2 mem
   ·cases h
  ·cases h
 ·have:=nX.fn _ _ mem ⟨v,none,[]⟩ (by unfold ag;simp only;rw[h])
  simpa [HS.mem] using this
theorem Gm(n:Int)(d:Nat)(hd:d≠0)(hn:n.natAbs<10 ^ 8)(hd2:d<10 ^ 8)(mem:Mem):kF prog 34 [.int .i64 n,.int .i64 d] mem (.str (aw (mkRat n d))) mem:=by
 have hG:aT prog 34=some f34:=by kernel_rfl
 refine az LY (lv:=fun _=>[]) (K:=1) rfl rfl ?_ mem;have f1:dH n=true:=by unfold dH;simp;omega
 have f2:dH (d:Int)=true:=by unfold dH;simp;omega
 have hi:cf (d:Int)=aQ d:=rfl;have hn' :n.natAbs<100000000:=hn;have hd' :d<100000000:=hd2;simp[ad,hG,f34,ag,An,kG,f1,f2,hi,cL,fX,hd,hn',hd']
theorem CE(a b:Rat)(qa:(aw a).length≤9)(qb:(aw b).length≤9)(mem:Mem):
  kF prog 81 [.str (aw a),.str (aw b)] mem (.str (aw (a+b))) mem:=by
 have hG:aT prog 81=some f81:=by kernel_rfl
 refine az nX (lv:=fun _=>[]) (K:=1) rfl rfl ?_ mem;have hdp:a.den*b.den≠0:=Nat.mul_ne_zero a.den_nz b.den_nz;have Ye:=Rat.add_def' a b;obtain⟨X,hX⟩:∃X,X=a.num*(b.den:Int):=⟨_,rfl⟩
 obtain⟨Y,hY⟩:∃Y,Y=b.num*(a.den:Int):=⟨_,rfl⟩
 obtain⟨D,hD⟩:∃D,D=a.den*b.den:=⟨_,rfl⟩
 rw[←hX,←hY,←hD] at Ye;rw[←hD] at hdp;rw[Ye];obtain⟨a1,a2⟩:=uP qa;obtain⟨b1,b2⟩:=uP qb;have x1:X.natAbs<10 ^ 9*10 ^ 9:=by rw[hX];exact fc a1 (by simpa using b2)
 have y1:Y.natAbs<10 ^ 9*10 ^ 9:=by rw[hY];exact fc b1 (by simpa using a2)
 have d1:D<10 ^ 9*10 ^ 9:=by rw[hD];exact Nat.mul_lt_mul'' a2 b2
 have w1:IntKind.i64.wrap (a.num*(b.den:Int))=X:=by rw[←hX];exact al (by omega) (by omega)
 have w2:IntKind.i64.wrap (b.num*(a.den:Int))=Y:=by rw[←hY];exact al (by omega) (by omega)
 have w3:IntKind.i64.wrap (X+Y)=X+Y:=al (by omega) (by omega);have w4:IntKind.i64.wrap ((a.den:Int)*(b.den:Int))=(D:Int):=by rw[←Int.natCast_mul,←hD];exact al (by omega) (by omega)
 have c1:(X+Y).natAbs≤4611686018427387904:=by omega
 have c2:(D:Int)≤4611686018427387904:=by omega
 have c2' :D≤4611686018427387904:=by omega
 have c3:0<D:=by omega
 have c3' :(0:Int)<D:=by omega
 simp[ad,hG,f81,ag,kG,aB,qa,qb,w1,w2,w3,w4,c1,c2,c3]
theorem Ox(a b:Rat)(qa:(aw a).length≤9)(qb:(aw b).length≤9)(mem:Mem):
  kF prog 214 [.str (aw a),.str (aw b)] mem (.str (aw (a*b))) mem:=by
 have hG:aT prog 214=some f214:=by kernel_rfl
 refine az nX (lv:=fun _=>[]) (K:=1) rfl rfl ?_ mem;have hdp:a.den*b.den≠0:=Nat.mul_ne_zero a.den_nz b.den_nz;have Ye:=Rat.mul_def' a b;obtain⟨X,hX⟩:∃X,X=a.num*b.num:=⟨_,rfl⟩
 obtain⟨D,hD⟩:∃D,D=a.den*b.den:=⟨_,rfl⟩
 rw[←hX,←hD] at Ye;rw[←hD] at hdp;rw[Ye];obtain⟨a1,a2⟩:=uP qa;obtain⟨b1,b2⟩:=uP qb;have x1:X.natAbs<10 ^ 9*10 ^ 9:=by rw[hX];exact fc a1 b1
 have d1:D<10 ^ 9*10 ^ 9:=by rw[hD];exact Nat.mul_lt_mul'' a2 b2
 have w1:IntKind.i64.wrap (a.num*b.num)=X:=by rw[←hX];exact al (by omega) (by omega)
 have w4:IntKind.i64.wrap ((a.den:Int)*(b.den:Int))=(D:Int):=by rw[←Int.natCast_mul,←hD];exact al (by omega) (by omega)
 have c1:X.natAbs≤4611686018427387904:=by omega
 have c2:(D:Int)≤4611686018427387904:=by omega
 have c2' :D≤4611686018427387904:=by omega
 have c3:0<D:=by omega
 have c3' :(0:Int)<D:=by omega
 simp[ad,hG,f214,ag,kG,aB,qa,qb,w1,w4,c1,c2,c3]
end Go.Proofs
