/- See K51. -/
import Derived.Test.YtffdedmakncfmaaGreatDoorK11
set_option linter.all false
namespace Go.Proofs
open Go.Eng
set_option maxHeartbeats 4000000 in
theorem BW(A B:List Nat) (top0:Nat) (hA:lok 1000000000 A=true) (hB:lok 1000000000 B=true) (hl:A.length≤1000000) (tA:bd A=A) (tB:bd B=B) (hm:2≤B.length) (htop:B[B.length-1]? =some top0) (hle:ay 1000000000 B≤ay 1000000000 A):
  ∃q,bd q=dig 1000000000 (ay 1000000000 A / ay 1000000000 B)∧aa (aO Tryz.prog) dW (aN Tryz.prog) cI 2000000001 157 [.slice 0 0 A.length none,.slice 1 0 B.length none] [.cells false 1 (iN .u64 A),.cells false 1 (iN .u64 B)]=
   some (if ay 1000000000 A%ay 1000000000 B=0 then⟨.tuple [.slice 2 0 (bd q).length none,.nilslice],none,[.cells true 1 (iN .u64 q)]⟩ else
    ⟨.tuple [.slice 2 0 (bd q).length none,.slice 3 0 (dig 1000000000 (ay 1000000000 A%ay 1000000000 B)).length none],none,[.cells true 1 (iN .u64 q),.cells true 1 (iN .u64 (dig 1000000000 (ay 1000000000 A%ay 1000000000 B)))]⟩):=by
 have hG:aN Tryz.prog 157=some Tryz.f157:=by kernel_rfl
 obtain⟨b1,c,hb⟩:∃b1 c,aj Tryz.f157=[b1,c]∧dW b1=[11,5]∧dW c=[13,12]:=⟨_,_,rfl,by decide,by decide⟩
 have dA:=xB (B:=1000000000) (by omega) hA tA
 have dB:=xB (B:=1000000000) (by omega) hB tB
 obtain⟨av,hav⟩:∃av,av=ay 1000000000 A:=⟨_,rfl⟩
 obtain⟨bv,hbv⟩:∃bv,bv=ay 1000000000 B:=⟨_,rfl⟩
 rw[←hav] at dA hle ⊢
 rw[←hbv] at dB hle ⊢
 have htb:=eS hB htop
 obtain⟨f,hf⟩:∃f,f=1000000000 / (top0+1):=⟨_,rfl⟩
 have hf1:1≤f:=by rw[hf,Nat.le_div_iff_mul_le (by omega)];omega
 have hbig:1000000000≤bv:=by
  have h:=pX (B:=1000000000) (by omega) bv (by rintro rfl;rw[dq] at dB;rw[←dB] at hm;simp at hm)
  rw[dB] at h
  have:1000000000 ^ 1≤1000000000 ^ (B.length-1):=Nat.pow_le_pow_right (by omega) (by omega)
  omega
 have htp:0<top0:=by
  rcases Nat.eq_zero_or_pos top0 with h | h
  ·have h2:bd B=bd (B.take (B.length-1)):=by
    have hlt:B.length-1<B.length:=by omega
    have ht:=(List.getElem?_eq_some_iff.1 htop).2
    conv=>lhs;rw[←List.take_append_drop (B.length-1) B,List.drop_eq_getElem_cons hlt,ht,List.drop_of_length_le (by omega),h]
    exact gu _
   have h3:=cF (B.take (B.length-1))
   rw[←h2,tB,List.length_take] at h3
   omega
  ·exact h
 have hfB:f<1000000000:=by rw[hf,Nat.div_lt_iff_lt_mul (by omega)];omega
 have mono:∀u v,u≤v→(dig 1000000000 u).length≤(dig 1000000000 v).length:=fun u v h=>by
  rcases Nat.lt_or_ge (dig 1000000000 v).length (dig 1000000000 u).length with h' | h'
  ·have:=dp (B:=1000000000) (by omega) h';omega
  ·exact h'
 have hmB:2≤(dig 1000000000 (bv*f)).length:=by
  have:=mono bv (bv*f) (Nat.le_mul_of_pos_right bv hf1)
  rw[dB] at this;omega
 have hmA:(dig 1000000000 (bv*f)).length≤(dig 1000000000 (av*f)).length:=mono _ _ (Nat.mul_le_mul_right _ hle)
 have hlA:(dig 1000000000 (av*f)).length≤A.length+1:=by
  have h1:av*f<1000000000 ^ (A.length+1):=by
   have h2:=fX hA
   rw[←hav] at h2
   rw[Nat.pow_succ]
   exact Nat.mul_lt_mul_of_lt_of_lt h2 hfB
  exact er (by omega) h1
 obtain⟨top,htop2,_⟩:=cV (l:=dig 1000000000 (bv*f)) (i:=(dig 1000000000 (bv*f)).length-1) (by omega)
 obtain⟨F,hF⟩:=Al (K:=2000000001) A B (dig 1000000000 (av*f)) (bv*f) top (ct (by omega) _) (by omega) hmB hmA htop2 (by omega) hb
 obtain⟨a,ha⟩:∃a,a=dig 1000000000 (av*f):=⟨_,rfl⟩
 obtain⟨bf,hbf⟩:∃bf,bf=bv*f:=⟨_,rfl⟩
 rw[←ha,←hbf] at hF hmA
 rw[←hbf] at htop2 hmB
 rw[←ha] at hlA
 have hbf0:0<bf:=by rw[hbf];exact Nat.mul_pos (by omega) (by omega)
 obtain⟨i1,i2,i3,i4⟩:=pK (B:=1000000000) hbf0 a (by rw[ha];exact ct (by omega) _)
 have hva:ay 1000000000 a=av*f:=by rw[ha];exact bU (by omega) _
 rw[hva] at i2
 obtain⟨q,hq⟩:∃q,q=(fC 1000000000 bf a).1:=⟨_,rfl⟩
 obtain⟨rm,hrm⟩:∃rm,rm=(fC 1000000000 bf a).2:=⟨_,rfl⟩
 rw[←hq,←hrm] at i2
 rw[←hq] at i3 i4
 rw[←hrm] at i1
 have hqv:ay 1000000000 q=av / bv:=by
  have h1:(av*f) / bf=ay 1000000000 q:=by rw[←i2,Nat.mul_comm,Nat.mul_add_div hbf0,Nat.div_eq_of_lt i1,Nat.add_zero]
  rw[←h1,hbf,Nat.mul_div_mul_right _ _ (by omega)]
 have hrv:rm=(av%bv)*f:=by
  have h1:(av*f)%bf=rm:=by rw[←i2,Nat.mul_comm,Nat.mul_add_mod,Nat.mod_eq_of_lt i1]
  rw[←h1,hbf,Nat.mul_mod_mul_right]
 have hrf:rm / f=av%bv:=by rw[hrv,Nat.mul_div_cancel _ (by omega)]
 refine⟨q,by rw[←ez (by omega) i3,hqv],?_⟩
 have hn0:¬0=a.length:=by omega
 obtain⟨rt1,rt2⟩:=zJ (b:=bf) (l:=a) (by rw[ha];exact ct (by omega) _)
 obtain⟨row,hrow⟩:∃row,row=tF bf a:=⟨_,rfl⟩
 rw[←hrow,←hrm] at rt1 rt2
 have hH0:fS A B a bf 0=[.cells false 1 (iN .u64 A),.cells false 1 (iN .u64 B),.cells true 0 [.slice 5 0 (dig 1000000000 bf).length none],.cells true 0 [.slice 6 0 a.length none],.cells true 1 (iN .u64 a),.cells true 1 (iN .u64 (dig 1000000000 bf)),.cells true 1 (iN .u64 q),.cells true 1 (iN .u64 row)]:=by
  unfold fS;rw[if_neg hn0,List.drop_zero,←hq,←hrow];rfl
 have hHn:fS A B a bf a.length=[.cells false 1 (iN .u64 A),.cells false 1 (iN .u64 B),.cells true 0 [.slice 5 0 (dig 1000000000 bf).length none],.cells true 0 [.slice 6 0 a.length none],.cells true 1 (iN .u64 a),.cells true 1 (iN .u64 (dig 1000000000 bf)),.cells true 1 (iN .u64 (List.replicate a.length 0))]:=by
  unfold fS;rw[if_pos rfl,List.drop_length];simp[fC]
 have hR0:uO a bf 0=.slice 7 0 (dig 1000000000 rm).length none:=by unfold uO;rw[if_neg hn0,List.drop_zero,←hrm]
 rw[hH0,hHn,hR0] at hF
 obtain⟨hb1,_⟩:=hb
 simp[aj,aM,Tryz.f157] at hb1
 obtain⟨hb1,_⟩:=hb1
 subst hb1
 have lo:∀v,lok 1000000000 (dig 1000000000 v)=true:=fun v=>ct (by omega) v
 have lt:∀v,bd (dig 1000000000 v)=dig 1000000000 v:=fun v=>cE (by omega) v
 have lv:∀v,ay 1000000000 (dig 1000000000 v)=v:=fun v=>bU (by omega) v
 have hs0:∀l,bB .u64 (.cells false 1 (iN .u64 A)::l) (.slice 0 0 A.length none)=some A:=fun l=>ba rfl (by simp) (List.take_of_length_le (by simp))
 have hs1:∀x l,bB .u64 (x::.cells false 1 (iN .u64 B)::l) (.slice 1 0 B.length none)=some B:=fun x l=>ba rfl (by simp) (List.take_of_length_le (by simp))
 have hs6:∀a0 a1 a2 a3 a4 a5 l,bB .u64 (a0::a1::a2::a3::a4::a5::.cells true 1 (iN .u64 q)::l) (.slice 6 0 a.length none)=some q:=fun a0 a1 a2 a3 a4 a5 l=>ba rfl (by simp[i4]) (List.take_of_length_le (by simp[i4]))
 have hs7:∀a0 a1 a2 a3 a4 a5 a6 l,bB .u64 (a0::a1::a2::a3::a4::a5::a6::.cells true 1 (iN .u64 row)::l) (.slice 7 0 (dig 1000000000 rm).length none)=some (dig 1000000000 rm):=fun a0 a1 a2 a3 a4 a5 a6 l=>ba rfl (by simpa using rt2) (by rw[fT,rt1])
 have hs8:∀a0 a1 a2 a3 a4 a5 a6 a7 l,bB .u64 (a0::a1::a2::a3::a4::a5::a6::a7::.cells true 1 [.int .u64 (f:Int)]::l) (.slice 8 0 1 none)=some [f]:=fun a0 a1 a2 a3 a4 a5 a6 a7 l=>ba (A:=[f]) rfl (by simp) rfl
 have hc:¬ie av bv<0:=by unfold ie;rw[if_neg (by omega)];split<;>omega
 obtain⟨p,hp⟩:∃p,p=B.length-1:=⟨_,rfl⟩
 rw[←hp] at htop
 have hpB:p<B.length:=by omega
 have htop' :B[p]=top0:=(List.getElem?_eq_some_iff.1 htop).2
 obtain⟨p2,hp2⟩:∃p2,p2=(dig 1000000000 bf).length-1:=⟨_,rfl⟩
 rw[←hp2] at htop2
 have hp2B:p2<(dig 1000000000 bf).length:=by omega
 have htop2' :(dig 1000000000 bf)[p2]=top:=(List.getElem?_eq_some_iff.1 htop2).2
 have hlB:B.length≤A.length:=by
  rw[←dA,←dB];exact mono _ _ hle
 have wp:IntKind.i64.wrap ((B.length:Int)-1)=(p:Int):=by rw[ag (by omega) (by omega)];omega
 have wp2:IntKind.i64.wrap (((dig 1000000000 bf).length:Int)-1)=(p2:Int):=by rw[ag (by omega) (by omega)];omega
 have hbl:(dig 1000000000 bf).length≤1000001:=by omega
 have wan:IntKind.i64.wrap ((a.length:Int)-1)=(a.length:Int)-1:=ag (by omega) (by omega)
 have hpI:(p:Int)<(B.length:Int):=by omega
 have hp2I:(p2:Int)<((dig 1000000000 bf).length:Int):=by omega
 obtain⟨t1,ht1⟩:∃t1:Nat,t1=top0+1:=⟨_,rfl⟩
 have wt:IntKind.u64.wrap ((top0:Int)+1)=(t1:Int):=by rw[bR (by omega) (by omega)];omega
 rw[←ht1] at hf
 have ht10:¬t1=0:=by omega
 have wf0:IntKind.u64.wrap (f:Int)=(f:Int):=bR (by omega) (by omega)
 have wf:IntKind.u64.wrap ((1000000000:Int) / (t1:Int))=(f:Int):=by
  rw[show((1000000000:Int) / (t1:Int))=((1000000000 / t1:Nat):Int) from rfl,←hf];exact wf0
 have wf' :IntKind.u64.wrap ((1000000000:Int).tdiv (t1:Int))=(f:Int):=by
  rw[show((1000000000:Int).tdiv (t1:Int))=((1000000000 / t1:Nat):Int) from rfl,←hf];exact wf0
 have hB1:¬(B.length:Int)=1:=by omega
 have hfI:(f:Int)<1000000000:=by omega
 have hl8:A.length≤100000000:=by omega
 have hl9:A.length≤1000000000:=by omega
 have hlB8:B.length≤100000000:=by omega
 have hq9:q.length≤1000000000:=by omega
 have h8:8*(a.length:Int)≤281474976710656:=by omega
 have h9:(a.length:Int)≤281474976710656:=by omega
 have hrl8:(dig 1000000000 rm).length≤100000000:=by
  have:(dig 1000000000 rm).length≤(dig 1000000000 bf).length:=mono _ _ (by omega)
  omega
 have hf0:0<f:=hf1
 by_cases hz:av%bv=0
 ·have hrm0:rm=0:=by rw[hrv,hz,Nat.zero_mul]
  have hrmf:rm<f:=by omega
  rw[if_pos hz]
  simp[aa,hG,Tryz.f157,cI,bG,bw,be,hs0,hs1,hs6,hs7,hs8,hA,hB,←hav,←hbv,←ha,←hbf,tA,tB,hc,lo,lt,lv,wp,wp2,wan,hpI,hp2I,htop',htop2',hpB,hp2B,wt,ht10,wf',hB1,hfI,hl8,hl9,hlB8,hq9,h8,h9,hF,hrl8,hf0,hfB,hrmf,sS,Nat.testBit]
 ·have hrmf:¬rm<f:=by
   have:f≤av%bv*f:=Nat.le_mul_of_pos_left f (by omega)
   omega
  rw[if_neg hz]
  simp[aa,hG,Tryz.f157,cI,bG,bw,be,hs0,hs1,hs6,hs7,hs8,hA,hB,←hav,←hbv,←ha,←hbf,tA,tB,hc,lo,lt,lv,wp,wp2,wan,hpI,hp2I,htop',htop2',hpB,hp2B,wt,ht10,wf',hB1,hfI,hl8,hl9,hlB8,hq9,h8,h9,hF,hrl8,hf0,hfB,hrmf,hrf,sS,Nat.testBit]
  exact⟨rfl,rfl⟩
theorem KA{M:Mem}{x y:AV}{A B:List Nat}(hA:lok 1000000000 A=true) (hB:lok 1000000000 B=true) (hl:A.length≤1000000) (tA:bd A=A) (tB:bd B=B) (hm:2≤B.length) (hle:ay 1000000000 B≤ay 1000000000 A) (hx:RowAt .u64 M x A) (hy:RowAt .u64 M y B):
  if ay 1000000000 A%ay 1000000000 B=0 then ACallsTo Tryz.prog 157 [x,y] M (.tuple [.slice M.length 0 (dig 1000000000 (ay 1000000000 A / ay 1000000000 B)).length none,.nilslice]) (M++[.cells true 1 (iN .u64 (dig 1000000000 (ay 1000000000 A / ay 1000000000 B)))])
  else ACallsTo Tryz.prog 157 [x,y] M (.tuple [.slice M.length 0 (dig 1000000000 (ay 1000000000 A / ay 1000000000 B)).length none,.slice (M.length+1) 0 (dig 1000000000 (ay 1000000000 A%ay 1000000000 B)).length none])
   (M++[.cells true 1 (iN .u64 (dig 1000000000 (ay 1000000000 A / ay 1000000000 B))),.cells true 1 (iN .u64 (dig 1000000000 (ay 1000000000 A%ay 1000000000 B)))]):=by
 obtain⟨top,htop,_⟩:=cV (l:=B) (i:=B.length-1) (by omega)
 obtain⟨q,hq,h⟩:=BW A B top hA hB hl tA tB hm htop hle
 have:=(af ae (aw _) DX (ax _) h).1
 split
 ·rename_i hz
  rw[if_pos hz] at this
  simp only[CallRes.mem,Option.getD_none,List.cons_append,List.nil_append] at this
  have h2:=ACallsTo.truncs (m2:=[.cells false 1 (iN .u64 A),.cells false 1 (iN .u64 B),.cells true 1 (iN .u64 (bd q))]) this rfl (fun b s hb=>by
   match b with
   |0=>simp at hb;subst hb;exact⟨_,rfl,.inl rfl⟩
   |1=>simp at hb;subst hb;exact⟨_,rfl,.inl rfl⟩
   |2=>simp at hb;subst hb;exact⟨_,rfl,.row (dy _)⟩
   |b+3=>simp at hb)
  obtain⟨b,c,rfl,rfl,h3⟩:=ACallsTo.rows2 (new:=[.cells true 1 (iN .u64 (bd q))]) rfl h2 hx hy
  rw[hq] at h3
  simpa [AV.ren,AV.rens,eK] using h3
 ·rename_i hz
  rw[if_neg hz] at this
  simp only[CallRes.mem,Option.getD_none,List.cons_append,List.nil_append] at this
  have h2:=ACallsTo.truncs (m2:=[.cells false 1 (iN .u64 A),.cells false 1 (iN .u64 B),.cells true 1 (iN .u64 (bd q)),.cells true 1 (iN .u64 (dig 1000000000 (ay 1000000000 A%ay 1000000000 B)))]) this rfl (fun b s hb=>by
   match b with
   |0=>simp at hb;subst hb;exact⟨_,rfl,.inl rfl⟩
   |1=>simp at hb;subst hb;exact⟨_,rfl,.inl rfl⟩
   |2=>simp at hb;subst hb;exact⟨_,rfl,.row (dy _)⟩
   |3=>simp at hb;subst hb;exact⟨_,rfl,.inl rfl⟩
   |b+4=>simp at hb)
  obtain⟨b,c,rfl,rfl,h3⟩:=ACallsTo.rows2 (new:=[.cells true 1 (iN .u64 (bd q)),.cells true 1 (iN .u64 (dig 1000000000 (ay 1000000000 A%ay 1000000000 B)))]) rfl h2 hx hy
  rw[hq] at h3
  simpa [AV.ren,AV.rens,eK] using h3
noncomputable def bD:Oracle:=fun c args M=>match c,args with
 |.fn 157,[x,y]=>match bB .u64 M x,bB .u64 M y with
  |some A,some B=>if lok 1000000000 A=true∧lok 1000000000 B=true∧A.length≤1000000∧bd A=A∧bd B=B∧0<ay 1000000000 B then
    (if ay 1000000000 A<ay 1000000000 B then some ⟨.tuple [.nilslice,x],none,[]⟩
    else if 2≤B.length∧ay 1000000000 A%ay 1000000000 B=0 then some ⟨.tuple [.slice M.length 0 (dig 1000000000 (ay 1000000000 A / ay 1000000000 B)).length none,.nilslice],none,[.cells true 1 (iN .u64 (dig 1000000000 (ay 1000000000 A / ay 1000000000 B)))]⟩
    else some ⟨.tuple [.slice M.length 0 (dig 1000000000 (ay 1000000000 A / ay 1000000000 B)).length none,.slice (M.length+1) 0 (dig 1000000000 (ay 1000000000 A%ay 1000000000 B)).length none],none,[.cells true 1 (iN .u64 (dig 1000000000 (ay 1000000000 A / ay 1000000000 B))),.cells true 1 (iN .u64 (dig 1000000000 (ay 1000000000 A%ay 1000000000 B)))]⟩) else none
  |_,_=>none
 |c,args=>bG c args M
theorem DY:OracleOk Tryz.prog bD:=by
 refine ca fun c args M r h=>?_
 unfold bD at h
 split at h
 ·split at h
  ·rename_i A B hA hB
   split at h
   ·rename_i hc
    obtain⟨c1,c2,c3,c4,c5,c6⟩:=hc
    split at h
    ·rename_i hlt
     cases h
     refine ah ?_
     rw[List.append_nil]
     exact rZ c1 c2 (by omega) c4 c5 hlt (bI hA) (bI hB)
    ·rename_i hlt
     by_cases hm:2≤B.length
     ·have:=KA c1 c2 c3 c4 c5 hm (by omega) (bI hA) (bI hB)
      split at h
      ·rename_i hz
       rw[if_pos hz.2] at this
       cases h
       exact ah this
      ·rename_i hz
       rw[if_neg (fun e=>hz ⟨hm,e⟩)] at this
       cases h
       exact ah this
     ·rw[if_neg (fun e=>hm e.1)] at h
      obtain⟨d,rfl⟩:∃d,B=[d]:=by
       match B,hm,c6 with
       | [],_,c6=>simp[ay] at c6
       | [d],_,_=>exact⟨d,rfl⟩
       |_::_::_,hm,_=>simp at hm
      have hv:ay 1000000000 [d]=d:=by simp[ay]
      rw[hv] at c6 hlt h
      have hd:d<1000000000:=by simpa [lok] using c2
      cases h
      exact ah (AX c6 hd c1 (by omega) c4 (by omega) (bI hA) (bI hB))
   ·cases h
  ·cases h
 ·exact dJ nd h
end Go.Proofs
