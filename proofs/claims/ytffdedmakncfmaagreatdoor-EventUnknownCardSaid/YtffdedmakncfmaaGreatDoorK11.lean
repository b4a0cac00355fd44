/- See K51. -/
import Derived.Test.YtffdedmakncfmaaGreatDoorK10
set_option linter.all false
namespace Go.Proofs
open Go.Eng
noncomputable def bw:Oracle:=fun c args M=>match c,args with
 |.fn 201,[x,y]=>match bB .u64 M x,bB .u64 M y with
  |some A,some B=>if lok 1000000000 A=true∧lok 1000000000 B=true∧A.length≤100000000∧B.length≤100000000 then some ⟨.slice M.length 0 (dig 1000000000 (ay 1000000000 A+ay 1000000000 B)).length none,none,[.cells true 1 (iN .u64 (dig 1000000000 (ay 1000000000 A+ay 1000000000 B)))]⟩ else none
  |_,_=>none
 |.fn 203,[x,y]=>match bB .u64 M x,bB .u64 M y with
  |some A,some B=>if lok 1000000000 A=true∧lok 1000000000 B=true∧A.length≤100000000∧B.length≤A.length∧ay 1000000000 B≤ay 1000000000 A then some ⟨.slice M.length 0 (dig 1000000000 (ay 1000000000 A-ay 1000000000 B)).length none,none,[.cells true 1 (iN .u64 (dig 1000000000 (ay 1000000000 A-ay 1000000000 B)))]⟩ else none
  |_,_=>none
 |.fn 141,[x,y]=>match bB .u64 M x,bB .u64 M y with
  |some A,some B=>if lok 1000000000 A=true∧lok 1000000000 B=true∧A.length≤100000000∧B.length≤100000000 then some ⟨.slice M.length 0 (dig 1000000000 (ay 1000000000 A*ay 1000000000 B)).length none,none,[.cells true 1 (iN .u64 (dig 1000000000 (ay 1000000000 A*ay 1000000000 B)))]⟩ else none
  |_,_=>none
 |.fn 208,[x]=>match x with
  |.slice b 0 n none=>if b<M.length then some ⟨.func 245 [.ptr M.length 0],none,[.cells true 0 [.slice b 0 n none]]⟩ else none
  |_=>none
 |.fn 206,[x]=>be (.fn 206) [x] M
 |.fn 202,[x,y]=>be (.fn 202) [x,y] M
 |_,_=>none
theorem nb:OracleOk Tryz.prog bw:=by
 refine ca fun c args M r h=>?_
 unfold bw at h
 split at h
 ·split at h
  ·rename_i hA hB
   split at h
   ·rename_i hc
    obtain⟨c1,c2,c3,c4⟩:=hc
    cases h
    exact ah (HW c1 c2 c3 c4 (bI hA) (bI hB))
   ·cases h
  ·cases h
 ·split at h
  ·rename_i hA hB
   split at h
   ·rename_i hc
    obtain⟨c1,c2,c3,c4,c5⟩:=hc
    cases h
    exact ah (Dv c1 c2 c3 c4 c5 (bI hA) (bI hB))
   ·cases h
  ·cases h
 ·split at h
  ·rename_i hA hB
   split at h
   ·rename_i hc
    obtain⟨c1,c2,c3,c4⟩:=hc
    cases h
    exact ah (DG c1 c2 c3 c4 (bI hA) (bI hB))
   ·cases h
  ·cases h
 ·split at h
  ·split at h
   ·rename_i hb
    cases h
    refine af (T:=aO Tryz.prog) (lv:=fun _=>[]) (G:=aN Tryz.prog) (O:=bt) (K:=1) ae (aw _) (ak _) (ax _) ?_
    exact xM _ _ M hb
   ·cases h
  ·cases h
 ·exact dJ ga h
 ·exact dJ ga h
 ·cases h
theorem BV(A:List Nat) (d:Nat) (hd0:0<d) (hd:d<1000000000) (hA:lok 1000000000 A=true) (hl:A.length≤100000000) (tA:bd A=A) (hle:d≤ay 1000000000 A):
  ∃O:Oracle,OracleOk Tryz.prog O∧aa (aO Tryz.prog) (fun _=>[]) (aN Tryz.prog) (bw.or O) 1 157 [.slice 0 0 A.length none,.slice 1 0 1 none] [.cells false 1 (iN .u64 A),.cells false 1 [.int .u64 (d:Int)]]=
   some ⟨.tuple [.slice 2 0 (bd (fC 1000000000 d A).1).length none,.slice 3 0 (bd [(fC 1000000000 d A).2]).length none],some [.cells false 1 (iN .u64 A),.cells false 1 [.int .u64 (d:Int)]],[.cells true 1 (iN .u64 (fC 1000000000 d A).1),.cells true 1 [.int .u64 (((fC 1000000000 d A).2:Nat):Int)]]⟩:=by
 have hG:aN Tryz.prog 157=some Tryz.f157:=by kernel_rfl
 obtain⟨ps,asg,body,hb⟩:∃ps asg body,de Tryz.f157=[(ps,asg,body)]:=⟨_,_,_,rfl⟩
 have hpos:0<A.length:=by
  rcases Nat.eq_zero_or_pos A.length with h | h
  ·rw[List.eq_nil_of_length_eq_zero h] at hle;simp[ay] at hle;omega
  ·exact h
 obtain⟨O,hO,hOr⟩:=Am A d hd0 hd hA (by omega) hpos hb
 refine⟨O,hO,?_⟩
 obtain⟨i1,i2,i3,i4⟩:=yW hd0 hd A hA
 have hM0:∀env0,jo A d ps asg body env0 0=[.cells false 1 (iN .u64 A),.cells false 1 [.int .u64 (d:Int)],.cells true 0 [.slice 1 0 1 none],.cells true 0 [.slice 4 0 A.length none],
  .cells true 1 (iN .u64 (fC 1000000000 d A).1),.cells true 0 [.int .u64 (((fC 1000000000 d A).2:Nat):Int)],.cells true 0 [.slice 0 0 A.length none],.loop ⟨.ready,none,env0,146,ps,asg,body⟩]:=fun env0=>rfl
 have hMn:∀env0,jo A d ps asg body env0 A.length=[.cells false 1 (iN .u64 A),.cells false 1 [.int .u64 (d:Int)],.cells true 0 [.slice 1 0 1 none],.cells true 0 [.slice 4 0 A.length none],
  .cells true 1 (iN .u64 (List.replicate A.length 0)),.cells true 0 [.int .u64 0],.cells true 0 [.slice 0 0 A.length none],.loop ⟨.ready,none,env0,146,ps,asg,body⟩]:=fun env0=>by
  unfold jo
  rw[List.drop_length]
  simp[fC]
 have hOr2:∀env0,(ab env0 3=.ptr 2 0∧ab env0 4=.ptr 3 0∧ab env0 6=.ptr 5 0∧env0.flatMap (fun e=>e.2.refs 8)=[])→
   O (.fn 245) [.yield 7,.ptr 6 0] [.cells false 1 (iN .u64 A),.cells false 1 [.int .u64 (d:Int)],.cells true 0 [.slice 1 0 1 none],.cells true 0 [.slice 4 0 A.length none],
  .cells true 1 (iN .u64 (List.replicate A.length 0)),.cells true 0 [.int .u64 0],.cells true 0 [.slice 0 0 A.length none],.loop ⟨.ready,none,env0,146,ps,asg,body⟩]=some ⟨.tuple [],some [.cells false 1 (iN .u64 A),.cells false 1 [.int .u64 (d:Int)],.cells true 0 [.slice 1 0 1 none],.cells true 0 [.slice 4 0 A.length none],
  .cells true 1 (iN .u64 (fC 1000000000 d A).1),.cells true 0 [.int .u64 (((fC 1000000000 d A).2:Nat):Int)],.cells true 0 [.slice 0 0 A.length none],.loop ⟨.ready,none,env0,146,ps,asg,body⟩],[]⟩:=fun env0 h=>by
  have:=hOr env0 h
  rwa [hMn,hM0] at this
 clear hOr hM0 hMn
 obtain⟨q,hq⟩:∃q,q=(fC 1000000000 d A).1:=⟨_,rfl⟩
 obtain⟨r,hr⟩:∃r,r=(fC 1000000000 d A).2:=⟨_,rfl⟩
 rw[←hq,←hr] at hOr2 ⊢
 rw[←hq] at i3 i4
 simp[de,ef,Tryz.f157] at hb
 obtain⟨rfl,rfl,rfl⟩:=hb
 have hs0:∀l,bB .u64 (.cells false 1 (iN .u64 A)::l) (.slice 0 0 A.length none)=some A:=fun l=>ba rfl (by simp) (List.take_of_length_le (by simp))
 have hs1:∀l,bB .u64 (.cells false 1 (iN .u64 A)::.cells false 1 [.int .u64 (d:Int)]::l) (.slice 1 0 1 none)=some [d]:=fun l=>ba (A:=[d]) rfl (by simp) rfl
 have hs4:∀a0 a1 a2 a3 l,bB .u64 (a0::a1::a2::a3::.cells true 1 (iN .u64 q)::l) (.slice 4 0 A.length none)=some q:=fun a0 a1 a2 a3 l=>ba rfl (by simp[i4]) (List.take_of_length_le (by simp[i4]))
 have hs8:∀a0 a1 a2 a3 a4 a5 a6 a7 l,bB .u64 (a0::a1::a2::a3::a4::a5::a6::a7::.cells true 1 [.int .u64 (r:Int)]::l) (.slice 8 0 1 none)=some [r]:=fun a0 a1 a2 a3 a4 a5 a6 a7 l=>ba (A:=[r]) rfl (by simp) rfl
 have hld:lok 1000000000 [d]=true:=by simp[lok];omega
 have htd:bd [d]=[d]:=by simp[bd];omega
 have hvd:ay 1000000000 [d]=d:=by simp[ay]
 have hcmp:¬ie (ay 1000000000 A) d<0:=by unfold ie;rw[if_neg (by omega)];split<;>omega
 have h8:8*(A.length:Int)≤281474976710656:=by omega
 have h9:(A.length:Int)≤281474976710656:=by omega
 have h10:A.length≤1000000000:=by omega
 simp[aa,hG,Tryz.f157,Oracle.or,bw,be,hs0,hs1,hA,tA,hld,htd,hvd,hcmp,h8,h9,h10,sS,rF,hOr2,hs4,hs8,i4,vB,Nat.testBit]
 exact⟨rfl,rfl⟩
theorem N0{B:Nat}{l:List Nat}(h:lok B l=true):lok B (bd l)=true:=by
 rw[iC l];exact il h _
theorem xB{B:Nat}(hB:2≤B) {l:List Nat}(h:lok B l=true) (ht:bd l=l):dig B (ay B l)=l:=by rw[ez hB h,ht]
theorem DE{A:List Nat}{d:Nat}(hd:d<1000000000) (hA:lok 1000000000 A=true) (hl:A.length≤100000000):
  ACallsTo Tryz.prog 220 [.slice 0 0 A.length none,.int .u64 (d:Int)] [.cells false 1 (iN .u64 A)] (.slice 1 0 (dig 1000000000 (ay 1000000000 A*d)).length none) [.cells false 1 (iN .u64 A),.cells true 1 (iN .u64 (dig 1000000000 (ay 1000000000 A*d)))]:=by
 have hG:aN Tryz.prog 220=some Tryz.f220:=by kernel_rfl
 have hs0:∀l,bB .u64 (.cells false 1 (iN .u64 A)::l) (.slice 0 0 A.length none)=some A:=fun l=>ba rfl (by simp) (List.take_of_length_le (by simp))
 have hs1:∀a0 l,bB .u64 (a0::.cells true 1 [.int .u64 (d:Int)]::l) (.slice 1 0 1 none)=some [d]:=fun a0 l=>ba (A:=[d]) rfl (by simp) rfl
 have hs2:∀a0 l,bB .u64 (a0::.cells true 1 [.int .u64 (d:Int)]::l) (.slice 1 0 (bd [d]).length none)=some (bd [d]):=fun a0 l=>ba rfl (by have:=cF [d];simpa using this) (by
  have:([.int .u64 (d:Int)]:List AV)=iN .u64 [d]:=rfl
  rw[this,fT,kV])
 have hld:lok 1000000000 (bd [d])=true:=N0 (by simp[lok];omega)
 have hvd:ay 1000000000 (bd [d])=d:=by rw[Bi];simp[ay]
 have hll:(bd [d]).length≤100000000:=by have:=cF [d];simp at this;omega
 have h:aa (aO Tryz.prog) (fun _=>[]) (aN Tryz.prog) bw 1 220 [.slice 0 0 A.length none,.int .u64 (d:Int)] [.cells false 1 (iN .u64 A)]=some ⟨.slice 1 0 (dig 1000000000 (ay 1000000000 A*d)).length none,none,[.cells true 1 (iN .u64 (dig 1000000000 (ay 1000000000 A*d)))]⟩:=by
  simp[aa,hG,Tryz.f220,bw,be,hs0,hs1,hs2,hA,hl,hld,hvd,hll]
 have:=(af ae (aw _) nb (ax _) h).1
 simpa [CallRes.mem] using this
theorem DD{M:Mem}{x:AV}{A:List Nat}{d:Nat}(hd:d<1000000000) (hA:lok 1000000000 A=true) (hl:A.length≤100000000) (hx:RowAt .u64 M x A):
  ACallsTo Tryz.prog 220 [x,.int .u64 (d:Int)] M (.slice M.length 0 (dig 1000000000 (ay 1000000000 A*d)).length none) (M++[.cells true 1 (iN .u64 (dig 1000000000 (ay 1000000000 A*d)))]):=by
 obtain⟨b,rfl,h⟩:=ACallsTo.rows1 (new:=[.cells true 1 (iN .u64 (dig 1000000000 (ay 1000000000 A*d)))]) (rest:=[.int .u64 (d:Int)]) rfl rfl (DE hd hA hl) hx
 simpa [AV.ren,eK] using h
noncomputable def bG:Oracle:=fun c args M=>match c,args with
 |.fn 220,[x,.int .u64 d]=>match bB .u64 M x with
  |some A=>if lok 1000000000 A=true∧A.length≤100000000∧0≤d∧d<1000000000 then some ⟨.slice M.length 0 (dig 1000000000 (ay 1000000000 A*d.toNat)).length none,none,[.cells true 1 (iN .u64 (dig 1000000000 (ay 1000000000 A*d.toNat)))]⟩ else none
  |_=>none
 |c,args=>bw c args M
theorem nd:OracleOk Tryz.prog bG:=by
 refine ca fun c args M r h=>?_
 unfold bG at h
 split at h
 ·split at h
  ·rename_i hA
   split at h
   ·rename_i hc
    obtain⟨c1,c2,c3,c4⟩:=hc
    cases h
    have hd:=(Int.toNat_lt c3).2 c4
    have:=DD hd c1 c2 (bI hA)
    rw[Int.toNat_of_nonneg c3] at this
    exact ah this
   ·cases h
  ·cases h
 ·exact dJ nb h
def dW(c:Code):List Nat:=if (ad c).contains 11 then [11,5] else [13,12]
theorem pK{B d:Nat}(hd:0<d):∀l:List Nat,lok B l=true→(fC B d l).2<d∧ay B (fC B d l).1*d+(fC B d l).2=ay B l∧lok B (fC B d l).1=true∧(fC B d l).1.length=l.length
 | [],_=>by simp[fC,ay,lok,hd]
 |x::l,h=>by
  rw[cu,Bool.and_eq_true,decide_eq_true_eq] at h
  obtain⟨i1,i2,i3,i4⟩:=pK hd l h.2
  simp only[fC]
  have hmd:=Nat.mod_add_div ((fC B d l).2*B+x) d
  refine⟨Nat.mod_lt _ hd,?_,?_,by simp[i4]⟩
  ·rw[ay,ay,←i2,Nat.add_mul,Nat.mul_add]
   rw[Nat.mul_comm d] at hmd
   rw[Nat.mul_assoc,Nat.mul_comm B (fC B d l).2]
   omega
  ·rw[cu,Bool.and_eq_true,decide_eq_true_eq]
   refine⟨?_,i3⟩
   rw[Nat.div_lt_iff_lt_mul hd]
   have h3:((fC B d l).2+1)*B≤d*B:=Nat.mul_le_mul_right _ i1
   rw[Nat.add_mul] at h3
   rw[Nat.mul_comm B d]
   omega
theorem rZ{M:Mem}{x y:AV}{A B:List Nat}(hA:lok 1000000000 A=true) (hB:lok 1000000000 B=true) (hl:A.length≤1000000000) (tA:bd A=A) (tB:bd B=B) (hlt:ay 1000000000 A<ay 1000000000 B) (hx:RowAt .u64 M x A) (hy:RowAt .u64 M y B):
  ACallsTo Tryz.prog 157 [x,y] M (.tuple [.nilslice,x]) M:=by
 have hG:aN Tryz.prog 157=some Tryz.f157:=by kernel_rfl
 have hs0:∀l,bB .u64 (.cells false 1 (iN .u64 A)::l) (.slice 0 0 A.length none)=some A:=fun l=>ba rfl (by simp) (List.take_of_length_le (by simp))
 have hs1:∀a l,bB .u64 (a::.cells false 1 (iN .u64 B)::l) (.slice 1 0 B.length none)=some B:=fun a l=>ba rfl (by simp) (List.take_of_length_le (by simp))
 have hc:ie (ay 1000000000 A) (ay 1000000000 B)<0:=by unfold ie;rw[if_pos hlt];omega
 have h:aa (aO Tryz.prog) dW (aN Tryz.prog) bG 1 157 [.slice 0 0 A.length none,.slice 1 0 B.length none] [.cells false 1 (iN .u64 A),.cells false 1 (iN .u64 B)]=some ⟨.tuple [.nilslice,.slice 0 0 A.length none],none,[]⟩:=by
  simp[aa,hG,Tryz.f157,bG,bw,be,hs0,hs1,hA,hB,hl,tA,tB,hc]
 have:=(af ae (aw _) nd (ax _) h).1
 simp only[CallRes.mem,Option.getD_none,List.append_nil] at this
 obtain⟨b,c,rfl,rfl,h3⟩:=ACallsTo.rows2 (new:=[]) rfl this hx hy
 simpa [AV.ren,AV.rens,eK] using h3
theorem AX{M:Mem}{x y:AV}{A:List Nat}{d:Nat}(hd0:0<d) (hd:d<1000000000) (hA:lok 1000000000 A=true) (hl:A.length≤100000000) (tA:bd A=A) (hle:d≤ay 1000000000 A) (hx:RowAt .u64 M x A) (hy:RowAt .u64 M y [d]):
  ACallsTo Tryz.prog 157 [x,y] M (.tuple [.slice M.length 0 (dig 1000000000 (ay 1000000000 A / d)).length none,.slice (M.length+1) 0 (dig 1000000000 (ay 1000000000 A%d)).length none]) (M++[.cells true 1 (iN .u64 (dig 1000000000 (ay 1000000000 A / d))),.cells true 1 (iN .u64 (dig 1000000000 (ay 1000000000 A%d)))]):=by
 obtain⟨O,hO,h⟩:=BV A d hd0 hd hA hl tA hle
 obtain⟨i1,i2,i3,i4⟩:=pK hd0 A hA
 have e1:ay 1000000000 (fC 1000000000 d A).1=ay 1000000000 A / d:=by
  rw[←i2,Nat.mul_comm,Nat.mul_add_div hd0,Nat.div_eq_of_lt i1,Nat.add_zero]
 have e2:(fC 1000000000 d A).2=ay 1000000000 A%d:=by
  rw[←i2,Nat.mul_comm,Nat.mul_add_mod,Nat.mod_eq_of_lt i1]
 have f1:bd (fC 1000000000 d A).1=dig 1000000000 (ay 1000000000 A / d):=by rw[←ez (by omega) i3,e1]
 have f2:bd [(fC 1000000000 d A).2]=dig 1000000000 (ay 1000000000 A%d):=by
  rw[←ez (B:=1000000000) (by omega) (by simp[lok];omega)]
  congr 1
 have:=(af ae (aw _) (nb.or hO) (ax _) h).1
 simp only[CallRes.mem,Option.getD_some,List.cons_append,List.nil_append] at this
 have h2:=ACallsTo.truncs (m2:=[.cells false 1 (iN .u64 A),.cells false 1 (iN .u64 [d]),.cells true 1 (iN .u64 (dig 1000000000 (ay 1000000000 A / d))),.cells true 1 (iN .u64 (dig 1000000000 (ay 1000000000 A%d)))]) this rfl (fun b s hb=>by
  match b with
  |0=>simp at hb;subst hb;exact⟨_,rfl,.inl rfl⟩
  |1=>simp at hb;subst hb;exact⟨_,rfl,.inl rfl⟩
  |2=>simp at hb;subst hb;exact⟨_,rfl,.row (by rw[←f1];exact dy _)⟩
  |3=>simp at hb;subst hb;exact⟨_,rfl,by have:=CutOf.row (k:=.u64) (o:=true) (es:=1) (dy [(fC 1000000000 d A).2]);rw[f2] at this;exact this⟩
  |b+4=>simp at hb)
 rw[f1,f2] at h2
 obtain⟨b,c,rfl,rfl,h3⟩:=ACallsTo.rows2 (B:=[d]) (new:=[.cells true 1 (iN .u64 (dig 1000000000 (ay 1000000000 A / d))),.cells true 1 (iN .u64 (dig 1000000000 (ay 1000000000 A%d)))]) rfl h2 hx hy
 simpa [AV.ren,AV.rens,eK] using h3
noncomputable def cI:Oracle:=fun c args M=>match c,args with
 |.fn 157,[x,y]=>match bB .u64 M x,bB .u64 M y with
  |some A,some [d]=>if lok 1000000000 A=true∧A.length≤100000000∧bd A=A∧0<d∧d<1000000000 then
    (if ay 1000000000 A<d then some ⟨.tuple [.nilslice,x],none,[]⟩ else some ⟨.tuple [.slice M.length 0 (dig 1000000000 (ay 1000000000 A / d)).length none,.slice (M.length+1) 0 (dig 1000000000 (ay 1000000000 A%d)).length none],none,[.cells true 1 (iN .u64 (dig 1000000000 (ay 1000000000 A / d))),.cells true 1 (iN .u64 (dig 1000000000 (ay 1000000000 A%d)))]⟩) else none
  |_,_=>none
 |c,args=>bG c args M
theorem DX:OracleOk Tryz.prog cI:=by
 refine ca fun c args M r h=>?_
 unfold cI at h
 split at h
 ·split at h
  ·rename_i hA hB
   split at h
   ·rename_i hc
    obtain⟨c1,c2,c3,c4,c5⟩:=hc
    split at h
    ·rename_i hlt
     cases h
     have:=rZ c1 (B:=[_]) (by simp[lok];exact c5) (by omega) c3 (by simp[bd];omega) (by simpa [ay] using hlt) (bI hA) (bI hB)
     refine ah ?_
     rw[List.append_nil];exact this
    ·rename_i hlt
     cases h
     exact ah (AX c4 c5 c1 c2 c3 (by omega) (bI hA) (bI hB))
   ·cases h
  ·cases h
 ·exact dJ nd h
def dG(A B:List Nat) (n m:Nat) (a b q raw rr:List Nat) (l:Mem):Mem:=
 .cells false 1 (iN .u64 A)::.cells false 1 (iN .u64 B)::.cells true 0 [.slice 5 0 m none]::.cells true 0 [.slice 6 0 n none]::.cells true 1 (iN .u64 a)::.cells true 1 (iN .u64 b)::.cells true 1 (iN .u64 q)::.cells true 1 (iN .u64 raw)::.absent::.cells true 1 (iN .u64 rr)::l
theorem Ak{K:Nat}(A B:List Nat) (n:Nat) (a q raw rr:List Nat) (b r d0 t:Nat) (ht:t=r / b) (hrr:rr.take (dig 1000000000 r).length=dig 1000000000 r) (hrl:(dig 1000000000 r).length≤rr.length)
  (hb0:0<b) (hd0:t<d0) (hdB:d0<1000000000) (hK:d0<K) (hlb:∀d,d≤d0→(dig 1000000000 (b*d)).length≤100000000) (hlbb:∀d,d≤d0→0<d→(dig 1000000000 b).length≤(dig 1000000000 (b*d)).length)
  {b1 c:Code}(hb:aj Tryz.f157=[b1,c]) (hlv:dW c=[13,12]):
  ∃F:Env→Bool→Env,∀env0 d,(ab env0 3=.ptr 2 0∧ab env0 5=.slice 9 0 (dig 1000000000 r).length none∧ab env0 12=.int .u64 d0∧ab env0 13=.slice 10 0 (dig 1000000000 (b*d0)).length none)→
   aU (aO Tryz.prog) dW cI K 146 2 true (.loop c) ⟨env0,dG A B n (dig 1000000000 b).length a (dig 1000000000 b) q raw rr [.cells true 1 (iN .u64 (dig 1000000000 (b*d0)))],d⟩=
    some (.exit 4,⟨F env0 d,dG A B n (dig 1000000000 b).length a (dig 1000000000 b) q raw rr [.cells true 1 (iN .u64 (dig 1000000000 (b*d0))),.cells true 1 (iN .u64 (dig 1000000000 (b*t)))],d⟩)∧
   (ab (F env0 d) 13=.slice 11 0 (dig 1000000000 (b*t)).length none∧ab (F env0 d) 12=.int .u64 (t:Int)∧(∀x∈[0,3,4,5,9,10,11],ab (F env0 d) x=ab env0 x)):=by
 refine bp hlv (fun env0=>ab env0 3=.ptr 2 0∧ab env0 5=.slice 9 0 (dig 1000000000 r).length none∧ab env0 12=.int .u64 d0∧ab env0 13=.slice 10 0 (dig 1000000000 (b*d0)).length none)
  (fun env0 env' =>ab env' 13=.slice 11 0 (dig 1000000000 (b*t)).length none∧ab env' 12=.int .u64 (t:Int)∧(∀x∈[0,3,4,5,9,10,11],ab env' x=ab env0 x)) ?_
 clear hlv
 rintro env0 dd ⟨h3,h5,h12,h13⟩
 simp[aj,aM,Tryz.f157] at hb
 obtain⟨_,hb⟩:=hb
 obtain⟨S,hS⟩:∃S:Nat→XS,(S d0=⟨az [13,12] (ad c) env0 ((13,.slice 10 0 (dig 1000000000 (b*d0)).length none)::(12,.int .u64 (d0:Int))::env0),dG A B n (dig 1000000000 b).length a (dig 1000000000 b) q raw rr [.cells true 1 (iN .u64 (dig 1000000000 (b*d0)))],dd⟩)∧
   (∀e,e≠d0→S e=⟨az [13,12] (ad c) env0 ((13,.slice 11 0 (dig 1000000000 (b*e)).length none)::(12,.int .u64 (e:Int))::env0),dG A B n (dig 1000000000 b).length a (dig 1000000000 b) q raw rr [.cells true 1 (iN .u64 (dig 1000000000 (b*d0))),.cells true 1 (iN .u64 (dig 1000000000 (b*e)))],dd⟩):=
  ⟨fun e=>if e=d0 then⟨az [13,12] (ad c) env0 ((13,.slice 10 0 (dig 1000000000 (b*d0)).length none)::(12,.int .u64 (d0:Int))::env0),dG A B n (dig 1000000000 b).length a (dig 1000000000 b) q raw rr [.cells true 1 (iN .u64 (dig 1000000000 (b*d0)))],dd⟩
   else⟨az [13,12] (ad c) env0 ((13,.slice 11 0 (dig 1000000000 (b*e)).length none)::(12,.int .u64 (e:Int))::env0),dG A B n (dig 1000000000 b).length a (dig 1000000000 b) q raw rr [.cells true 1 (iN .u64 (dig 1000000000 (b*d0))),.cells true 1 (iN .u64 (dig 1000000000 (b*e)))],dd⟩,by simp,fun e he=>by simp[he]⟩
 have hn0:(⟨az [13,12] (ad c) env0 env0,dG A B n (dig 1000000000 b).length a (dig 1000000000 b) q raw rr [.cells true 1 (iN .u64 (dig 1000000000 (b*d0)))],dd⟩:XS)=S d0:=by rw[hS.1];simp[az,h12,h13]
 rw[hn0]
 have hlen:(dG A B n (dig 1000000000 b).length a (dig 1000000000 b) q raw rr [.cells true 1 (iN .u64 (dig 1000000000 (b*d0)))]).length=11:=rfl
 rw[hlen]
 refine bK (α:=Nat) S (fun e=>e-t) (fun e=>t≤e∧e≤d0) (.exit 4) _ dd _ (by simp) ?_ K d0 ⟨by omega,Nat.le_refl _⟩ (by omega)
 rintro e ⟨he1,he2⟩
 have hrs:∀l,bB .u64 (dG A B n (dig 1000000000 b).length a (dig 1000000000 b) q raw rr l) (.slice 9 0 (dig 1000000000 r).length none)=some (dig 1000000000 r):=fun l=>ba rfl (by simpa using hrl) (by rw[fT,hrr])
 have hbs:∀l,bB .u64 (dG A B n (dig 1000000000 b).length a (dig 1000000000 b) q raw rr l) (.slice 5 0 (dig 1000000000 b).length none)=some (dig 1000000000 b):=fun l=>ba rfl (by simp) (List.take_of_length_le (by simp))
 have hps:∀l,bB .u64 (dG A B n (dig 1000000000 b).length a (dig 1000000000 b) q raw rr (.cells true 1 (iN .u64 (dig 1000000000 (b*d0)))::l)) (.slice 10 0 (dig 1000000000 (b*d0)).length none)=some (dig 1000000000 (b*d0)):=fun l=>ba rfl (by simp) (List.take_of_length_le (by simp))
 have hps2:∀x l,bB .u64 (dG A B n (dig 1000000000 b).length a (dig 1000000000 b) q raw rr (x::.cells true 1 (iN .u64 (dig 1000000000 (b*e)))::l)) (.slice 11 0 (dig 1000000000 (b*e)).length none)=some (dig 1000000000 (b*e)):=fun x l=>ba rfl (by simp) (List.take_of_length_le (by simp))
 have lo:∀v,lok 1000000000 (dig 1000000000 v)=true:=fun v=>ct (by omega) v
 have lt:∀v,bd (dig 1000000000 v)=dig 1000000000 v:=fun v=>cE (by omega) v
 have lv:∀v,ay 1000000000 (dig 1000000000 v)=v:=fun v=>bU (by omega) v
 have hle:=hlb e he2
 have hle9:(dig 1000000000 (b*e)).length≤1000000000:=by omega
 simp only[dG] at hrs hbs hps hps2 hS
 by_cases hq:e=t
 ·right
  have hne:e≠d0:=by omega
  have hc:¬0<ie (b*e) r:=by
   have:b*e≤r:=by rw[hq,ht];exact Nat.mul_div_le r b
   unfold ie;split
   ·omega
   ·rw[if_neg (by omega)];omega
  rw[hS.2 e hne,←hq]
  clear hS
  subst hb
  simp[cI,bG,bw,be,dG,h3,h5,hrs,hps2,lo,lt,lv,hle9,hc]
 ·left
  have hqe:t<e:=by omega
  have hgt:r<b*e:=by
   have:=(Nat.div_lt_iff_lt_mul hb0).1 (ht▸hqe)
   rwa [Nat.mul_comm] at this
  have hc:0<ie (b*e) r:=by unfold ie;rw[if_neg (by omega),if_pos hgt];omega
  have hbe:b≤b*e:=Nat.le_mul_of_pos_right b (by omega)
  have hsub:b*e-b=b*(e-1):=by rw[Nat.mul_sub,Nat.mul_one]
  have hl2:=hlbb e he2 (by omega)
  have w1:IntKind.u64.wrap ((e:Int)-1)=((e-1:Nat):Int):=by rw[bR (by omega) (by omega)];omega
  have hle2:(dig 1000000000 (b*e)).length≤100000000:=hle
  refine⟨e-1,?_⟩
  rw[hS.2 (e-1) (by omega)]
  by_cases hd:e=d0
  ·rw[hd] at hc hbe hsub hl2 w1 hle2 hle9 ⊢
   rw[hS.1]
   clear hS
   subst hb
   simp[cI,bG,bw,be,h3,h5,hrs,hbs,hps,lo,lt,lv,hle9,hc,hbe,hl2,hsub,w1,hle2]
   omega
  ·rw[hS.2 e hd]
   clear hS
   subst hb
   simp[cI,bG,bw,be,h3,h5,hrs,hbs,hps2,lo,lt,lv,hle9,hc,hbe,hl2,hsub,w1,hle2]
   omega
theorem yc{K:Nat}(A B:List Nat) (n:Nat) (a q raw rr:List Nat) (b r t:Nat) (ht:b*t≤r) (hrr:rr.take (dig 1000000000 r).length=dig 1000000000 r) (hrl:(dig 1000000000 r).length≤rr.length)
  (hK:0<K) (hlb:(dig 1000000000 (b*t)).length≤1000000000) {b1 c:Code}(hb:aj Tryz.f157=[b1,c]) (hlv:dW c=[13,12]):
  ∃F:Env→Bool→Env,∀env0 d,(ab env0 3=.ptr 2 0∧ab env0 5=.slice 9 0 (dig 1000000000 r).length none∧ab env0 12=.int .u64 t∧ab env0 13=.slice 10 0 (dig 1000000000 (b*t)).length none)→
   aU (aO Tryz.prog) dW cI K 146 2 true (.loop c) ⟨env0,dG A B n (dig 1000000000 b).length a (dig 1000000000 b) q raw rr [.cells true 1 (iN .u64 (dig 1000000000 (b*t)))],d⟩=
    some (.exit 4,⟨F env0 d,dG A B n (dig 1000000000 b).length a (dig 1000000000 b) q raw rr [.cells true 1 (iN .u64 (dig 1000000000 (b*t)))],d⟩)∧
   (ab (F env0 d) 13=.slice 10 0 (dig 1000000000 (b*t)).length none∧ab (F env0 d) 12=.int .u64 (t:Int)∧(∀x∈[0,3,4,5,9,10,11],ab (F env0 d) x=ab env0 x)):=by
 refine bp hlv (fun env0=>ab env0 3=.ptr 2 0∧ab env0 5=.slice 9 0 (dig 1000000000 r).length none∧ab env0 12=.int .u64 t∧ab env0 13=.slice 10 0 (dig 1000000000 (b*t)).length none)
  (fun env0 env' =>ab env' 13=.slice 10 0 (dig 1000000000 (b*t)).length none∧ab env' 12=.int .u64 (t:Int)∧(∀x∈[0,3,4,5,9,10,11],ab env' x=ab env0 x)) ?_
 clear hlv
 rintro env0 dd ⟨h3,h5,h12,h13⟩
 simp[aj,aM,Tryz.f157] at hb
 obtain⟨_,hb⟩:=hb
 obtain⟨K,rfl⟩:∃K',K=K' +1:=⟨K-1,by omega⟩
 have hrs:∀l,bB .u64 (dG A B n (dig 1000000000 b).length a (dig 1000000000 b) q raw rr l) (.slice 9 0 (dig 1000000000 r).length none)=some (dig 1000000000 r):=fun l=>ba rfl (by simpa using hrl) (by rw[fT,hrr])
 have hps:∀l,bB .u64 (dG A B n (dig 1000000000 b).length a (dig 1000000000 b) q raw rr (.cells true 1 (iN .u64 (dig 1000000000 (b*t)))::l)) (.slice 10 0 (dig 1000000000 (b*t)).length none)=some (dig 1000000000 (b*t)):=fun l=>ba rfl (by simp) (List.take_of_length_le (by simp))
 have lo:∀v,lok 1000000000 (dig 1000000000 v)=true:=fun v=>ct (by omega) v
 have lt:∀v,bd (dig 1000000000 v)=dig 1000000000 v:=fun v=>cE (by omega) v
 have lv:∀v,ay 1000000000 (dig 1000000000 v)=v:=fun v=>bU (by omega) v
 have hc:¬0<ie (b*t) r:=by
  unfold ie;split
  ·omega
  ·rw[if_neg (by omega)];omega
 simp only[dG] at hrs hps
 subst hb
 simp[fA,cI,bG,bw,be,dG,h3,h5,h12,h13,hrs,hps,lo,lt,lv,hlb,hc]
def tF(b:Nat):List Nat→List Nat
 | []=>[]
 |x::l=>if x+1000000000*(fC 1000000000 b l).2<b then x::dig 1000000000 (fC 1000000000 b l).2 else dig 1000000000 ((x+1000000000*(fC 1000000000 b l).2)%b)
theorem zJ{b:Nat}:∀{l:List Nat},lok 1000000000 l=true→(tF b l).take (dig 1000000000 (fC 1000000000 b l).2).length=dig 1000000000 (fC 1000000000 b l).2∧(dig 1000000000 (fC 1000000000 b l).2).length≤(tF b l).length
 | [],_=>by simp[tF,fC,dq]
 |x::l,h=>by
  rw[cu,Bool.and_eq_true,decide_eq_true_eq] at h
  have e:(fC 1000000000 b (x::l)).2=(x+1000000000*(fC 1000000000 b l).2)%b:=by simp only[fC];rw[Nat.mul_comm,Nat.add_comm]
  rw[e,tF]
  split
  ·rename_i hlt
   rw[Nat.mod_eq_of_lt hlt,←JR (by omega) h.1]
   exact⟨kV _,cF _⟩
  ·exact⟨List.take_of_length_le (Nat.le_refl _),Nat.le_refl _⟩
def fS(A B:List Nat) (a:List Nat) (b k:Nat):Mem:=
 [.cells false 1 (iN .u64 A),.cells false 1 (iN .u64 B),.cells true 0 [.slice 5 0 (dig 1000000000 b).length none],.cells true 0 [.slice 6 0 a.length none],.cells true 1 (iN .u64 a),.cells true 1 (iN .u64 (dig 1000000000 b)),.cells true 1 (iN .u64 (List.replicate k 0++(fC 1000000000 b (a.drop k)).1))]
  ++ if k=a.length then [] else [.cells true 1 (iN .u64 (tF b (a.drop k)))]
def uO(a:List Nat) (b k:Nat):AV:=if k=a.length then .nilslice else .slice 7 0 (dig 1000000000 (fC 1000000000 b (a.drop k)).2).length none
set_option maxHeartbeats 4000000 in
theorem Al{K:Nat}(A B a:List Nat) (b top:Nat) (ha:lok 1000000000 a=true) (hl:a.length≤10000000) (hm:2≤(dig 1000000000 b).length) (hn:(dig 1000000000 b).length≤a.length) (htop:(dig 1000000000 b)[(dig 1000000000 b).length-1]? =some top) (hK:2000000000<K)
  {b1 c:Code}(hb:aj Tryz.f157=[b1,c]∧dW b1=[11,5]∧dW c=[13,12]):
  ∃F:Env→Bool→Env,∀env0 d,(ab env0 0=.slice 4 0 a.length none∧ab env0 3=.ptr 2 0∧ab env0 4=.ptr 3 0∧ab env0 10=.int .u64 top∧ab env0 5=.nilslice∧ab env0 11=.int .i64 ((a.length:Int)-1))→
   aU (aO Tryz.prog) dW cI K 146 2 true (.loop b1) ⟨env0,fS A B a b a.length,d⟩=some (.exit 2,⟨F env0 d,fS A B a b 0,d⟩)∧
   (ab (F env0 d) 5=uO a b 0∧(∀x∈[3,4,9],ab (F env0 d) x=ab env0 x)):=by
 refine bp hb.2.1 (fun env0=>ab env0 0=.slice 4 0 a.length none∧ab env0 3=.ptr 2 0∧ab env0 4=.ptr 3 0∧ab env0 10=.int .u64 top∧ab env0 5=.nilslice∧ab env0 11=.int .i64 ((a.length:Int)-1))
  (fun env0 env' =>ab env' 5=uO a b 0∧(∀x∈[3,4,9],ab env' x=ab env0 x)) ?_
 rintro env0 dd ⟨h0,h3,h4,h10,h5,h11⟩
 have hb1:=hb.1
 simp[aj,aM,Tryz.f157] at hb1
 obtain⟨hb1,hb2⟩:=hb1
 have hn0:az [11,5] (ad b1) env0 ((11,.int .i64 ((a.length:Int)-1))::(5,uO a b a.length)::env0)=az [11,5] (ad b1) env0 env0:=by simp[az,h5,h11,uO]
 rw[←hn0]
 have hlen0:(fS A B a b a.length).length=7:=by simp[fS]
 rw[hlen0]
 refine bK (α:=Nat) (fun k=>⟨az [11,5] (ad b1) env0 ((11,.int .i64 ((k:Int)-1))::(5,uO a b k)::env0),fS A B a b k,dd⟩) id (fun k=>k≤a.length) (.exit 2) _ dd _ (by simp) ?_ K a.length (Nat.le_refl _) (by simp;omega)
 intro k hk
 clear hn0 hlen0
 have hbv:1000000000≤b:=by
  have h:=pX (B:=1000000000) (by omega) b (by rintro rfl;rw[dq] at hm;simp at hm)
  have:1000000000 ^ 1≤1000000000 ^ ((dig 1000000000 b).length-1):=Nat.pow_le_pow_right (by omega) (by omega)
  omega
 cases k with
 |zero=>
  right
  subst hb1
  simp
 |succ i=>
  left
  have hlt:i<a.length:=by omega
  obtain⟨x,hx,hx'⟩:=cV hlt
  have hxb:=eS ha hx
  have eA:a.drop i=x::a.drop (i+1):=by rw[List.drop_eq_getElem_cons hlt,hx']
  have hne:¬i=a.length:=by omega
  obtain⟨d1,d2,d3,d4⟩:=pK (B:=1000000000) (d:=b) (by omega) (a.drop (i+1)) (iQ ha _)
  obtain⟨r,hr⟩:∃r,r=(fC 1000000000 b (a.drop (i+1))).2:=⟨_,rfl⟩
  obtain⟨q,hq⟩:∃q,q=(fC 1000000000 b (a.drop (i+1))).1:=⟨_,rfl⟩
  obtain⟨raw,hraw⟩:∃raw,raw=tF b (a.drop (i+1)):=⟨_,rfl⟩
  obtain⟨t1,t2⟩:=zJ (b:=b) (iQ ha (i+1))
  obtain⟨r',hr'⟩:∃r',r' =x+1000000000*r:=⟨_,rfl⟩
  have hq2:(fC 1000000000 b (a.drop i)).1=r' / b::q:=by rw[eA,hq,hr',hr];simp only[fC];rw[Nat.mul_comm,Nat.add_comm]
  have hr2:(fC 1000000000 b (a.drop i)).2=r' %b:=by rw[eA,hr',hr];simp only[fC];rw[Nat.mul_comm,Nat.add_comm]
  have hrow2:tF b (a.drop i)=if r' <b then x::dig 1000000000 r else dig 1000000000 (r' %b):=by rw[eA,tF,←hr,←hr']
  have hqz:(List.replicate (i+1) 0++q:List Nat)=List.replicate i 0++0::q:=by rw[List.replicate_succ'];simp
  rw[←hr] at t1 t2 d1
  rw[←hraw] at t1 t2
  rw[←hq] at d4
  have htk:(iN .u64 raw).take (dig 1000000000 r).length=iN .u64 (dig 1000000000 r):=by rw[fT,t1]
  have hct:bd (x::dig 1000000000 r)=dig 1000000000 r' :=by rw[hr'];exact JR (by omega) hxb
  have hrl:(dig 1000000000 r).length≤a.length:=by
   have:(dig 1000000000 r).length≤(dig 1000000000 b).length:=by
    rcases Nat.lt_or_ge (dig 1000000000 b).length (dig 1000000000 r).length with h | h
    ·have:=dp (B:=1000000000) (by omega) h;omega
    ·exact h
   omega
  have w1:IntKind.i64.wrap ((i:Int)-1)=(i:Int)-1:=ag (by omega) (by omega)
  have hI:(i:Int)<(a.length:Int):=by omega
  have e1:(((i+1:Nat):Int)-1)=(i:Int):=by omega
  have hR0:uO a b i=.slice 7 0 (dig 1000000000 (r' %b)).length none:=by unfold uO;rw[if_neg hne,hr2]
  have hM0:fS A B a b i=[.cells false 1 (iN .u64 A),.cells false 1 (iN .u64 B),.cells true 0 [.slice 5 0 (dig 1000000000 b).length none],.cells true 0 [.slice 6 0 a.length none],.cells true 1 (iN .u64 a),.cells true 1 (iN .u64 (dig 1000000000 b)),.cells true 1 (iN .u64 (List.replicate i 0++r' / b::q)),
    .cells true 1 (iN .u64 (if r' <b then x::dig 1000000000 r else dig 1000000000 (r' %b)))]:=by unfold fS;rw[if_neg hne,hq2,hrow2];rfl
  have lo:∀v,lok 1000000000 (dig 1000000000 v)=true:=fun v=>ct (by omega) v
  have lt:∀v,bd (dig 1000000000 v)=dig 1000000000 v:=fun v=>cE (by omega) v
  have lv:∀v,ay 1000000000 (dig 1000000000 v)=v:=fun v=>bU (by omega) v
  have hrl2:(dig 1000000000 r).length+1≤1000000000:=by omega
  have hxl:lok 1000000000 (x::dig 1000000000 r)=true:=by rw[cu,lo];simp[hxb]
  have hrl' :(dig 1000000000 r').length≤(dig 1000000000 r).length+1:=by
   rw[←hct];exact cF (x::dig 1000000000 r)
  have hrl3:(dig 1000000000 r').length≤1000000000:=by omega
  refine⟨i,?_⟩
  rw[e1]
  refine bC (r:=_∧_) (show i≤a.length∧id i<id (i+1) from⟨by omega,by simp⟩) ?_
  by_cases hfirst:i+1=a.length
  ·have hd0:a.drop (i+1)=[]:=by rw[hfirst,List.drop_length]
   have hr0:r=0:=by rw[hr,hd0];rfl
   have hq0:q=[]:=by rw[hq,hd0];rfl
   have hr'x:r' =x:=by omega
   have hlt' :r' <b:=by omega
   have hR1:uO a b (i+1)=.nilslice:=by unfold uO;rw[if_pos hfirst]
   have hM1:fS A B a b (i+1)=[.cells false 1 (iN .u64 A),.cells false 1 (iN .u64 B),.cells true 0 [.slice 5 0 (dig 1000000000 b).length none],.cells true 0 [.slice 6 0 a.length none],.cells true 1 (iN .u64 a),.cells true 1 (iN .u64 (dig 1000000000 b)),.cells true 1 (iN .u64 (List.replicate i 0++0::q))]:=by
    unfold fS;rw[if_pos hfirst,←hq,hqz];simp
   rw[hM1,hM0,hR1,hR0,if_pos hlt',Nat.mod_eq_of_lt hlt',Nat.div_eq_of_lt hlt']
   have hc:ie r' b<0:=by unfold ie;rw[if_pos hlt'];omega
   rw[hr0,dq] at hct
   rw[hr0,dq]
   have hs8:∀a0 a1 a2 a3 a4 a5 a6 a7 l,bB .u64 (a0::a1::a2::a3::a4::a5::a6::a7::.cells true 1 [.int .u64 (x:Int)]::l) (.slice 8 0 1 none)=some [x]:=fun a0 a1 a2 a3 a4 a5 a6 a7 l=>ba (A:=[x]) rfl (by simp) rfl
   have hs8' :∀a0 a1 a2 a3 a4 a5 a6 a7 l,bB .u64 (a0::a1::a2::a3::a4::a5::a6::a7::.cells true 1 [.int .u64 (x:Int)]::l) (.slice 8 0 (dig 1000000000 r').length none)=some (dig 1000000000 r'):=fun a0 a1 a2 a3 a4 a5 a6 a7 l=>by
    have h1:=cF [x]
    rw[hct] at h1
    refine ba rfl (by simpa using h1) ?_
    have:([.int .u64 (x:Int)]:List AV)=iN .u64 [x]:=rfl
    rw[this,fT,←hct,kV]
   have hs5:∀a0 a1 a2 a3 a4 l,bB .u64 (a0::a1::a2::a3::a4::.cells true 1 (iN .u64 (dig 1000000000 b))::l) (.slice 5 0 (dig 1000000000 b).length none)=some (dig 1000000000 b):=fun a0 a1 a2 a3 a4 l=>ba rfl (by simp) (List.take_of_length_le (by simp))
   subst hb1
   simp[cI,bG,bw,be,h0,h3,hx',hI,hlt,hs8,hs8',hs5,hct,lo,lt,lv,hc,w1,hrl3,bV]
  ·have hR1:uO a b (i+1)=.slice 7 0 (dig 1000000000 r).length none:=by unfold uO;rw[if_neg hfirst,←hr]
   have hM1:fS A B a b (i+1)=[.cells false 1 (iN .u64 A),.cells false 1 (iN .u64 B),.cells true 0 [.slice 5 0 (dig 1000000000 b).length none],.cells true 0 [.slice 6 0 a.length none],.cells true 1 (iN .u64 a),.cells true 1 (iN .u64 (dig 1000000000 b)),.cells true 1 (iN .u64 (List.replicate i 0++0::q)),.cells true 1 (iN .u64 raw)]:=by
    unfold fS;rw[if_neg hfirst,←hq,←hraw,hqz];rfl
   have hs9:∀a0 a1 a2 a3 a4 a5 a6 a7 a8 l,bB .u64 (a0::a1::a2::a3::a4::a5::a6::a7::a8::.cells true 1 (.int .u64 (x:Int)::iN .u64 (dig 1000000000 r))::l) (.slice 9 0 (1+(dig 1000000000 r).length) none)=some (x::dig 1000000000 r):=fun a0 a1 a2 a3 a4 a5 a6 a7 a8 l=>
    ba (A:=x::dig 1000000000 r) rfl (by simp;omega) (List.take_of_length_le (by simp;omega))
   have hs9' :∀a0 a1 a2 a3 a4 a5 a6 a7 a8 l,bB .u64 (a0::a1::a2::a3::a4::a5::a6::a7::a8::.cells true 1 (.int .u64 (x:Int)::iN .u64 (dig 1000000000 r))::l) (.slice 9 0 (dig 1000000000 r').length none)=some (dig 1000000000 r'):=fun a0 a1 a2 a3 a4 a5 a6 a7 a8 l=>by
    refine ba rfl (by simpa using hrl') ?_
    rw[←bV,fT,←hct,kV]
   have hs5:∀a0 a1 a2 a3 a4 l,bB .u64 (a0::a1::a2::a3::a4::.cells true 1 (iN .u64 (dig 1000000000 b))::l) (.slice 5 0 (dig 1000000000 b).length none)=some (dig 1000000000 b):=fun a0 a1 a2 a3 a4 l=>ba rfl (by simp) (List.take_of_length_le (by simp))
   have g1:(1+(dig 1000000000 r).length)*8≤140737488355328:=by omega
   have g2:1+(dig 1000000000 r).length≤140737488355328:=by omega
   rw[hM1,hM0,hR1,hR0]
   by_cases hlt' :r' <b
   ·have hc:ie r' b<0:=by unfold ie;rw[if_pos hlt'];omega
    rw[if_pos hlt',Nat.mod_eq_of_lt hlt',Nat.div_eq_of_lt hlt']
    subst hb1
    simp[cI,bG,bw,be,h0,h3,hx',hI,hlt,hs9,hs9',hs5,hct,lo,lt,lv,hc,w1,hrl2,hrl3,t2,htk,g1,g2,bV]
   ·rw[if_neg hlt']
    have hc:¬ie r' b<0:=by unfold ie;rw[if_neg hlt'];split<;>omega
    have hrb:r' <1000000000*b:=by omega
    have hL:=uK (B:=1000000000) (by omega) rfl hrb (by omega)
    obtain⟨m,hmm⟩:∃m,m=(dig 1000000000 b).length:=⟨_,rfl⟩
    obtain⟨L,hLL⟩:∃L,L=(dig 1000000000 r').length:=⟨_,rfl⟩
    obtain⟨p1,hp1⟩:∃p1,p1=L-1:=⟨_,rfl⟩
    have hp1L:p1<(dig 1000000000 r').length:=by omega
    have wp1:IntKind.i64.wrap (((dig 1000000000 r').length:Int)-1)=(p1:Int):=by rw[ag (by omega) (by omega)];omega
    have hp1I:(p1:Int)<((dig 1000000000 r').length:Int):=by omega
    obtain⟨D1,hD1,hD1'⟩:=cV hp1L
    have hD1b:=eS (lo r') hD1
    have hcell:∀(j v:Nat),(dig 1000000000 r')[j]? =some v→(AV.int IntKind.u64 (x:Int)::iN .u64 (dig 1000000000 r))[j]? =some (AV.int IntKind.u64 (v:Int)):=fun j v hv=>by
     rw[←hct,iC,List.getElem?_take] at hv
     split at hv
     ·rw[←bV,NM,hv];rfl
     ·cases hv
    have hc1:=hcell _ _ hD1
    obtain⟨D,hDD,hDb⟩:∃D,((L=m∧D=D1)∨(L=m+1∧∃l,(dig 1000000000 r')[m-1]? =some l∧D=D1*1000000000+l))∧D<1000000000*1000000000:=by
     rcases hL with h | h
     ·exact⟨D1,.inl ⟨by omega,rfl⟩,by omega⟩
     ·obtain⟨l,hl1,_⟩:=cV (l:=dig 1000000000 r') (i:=m-1) (by omega)
      have:=eS (lo r') hl1
      exact⟨D1*1000000000+l,.inr ⟨by omega,l,hl1,rfl⟩,by omega⟩
    obtain⟨gt,g3,g4⟩:=PO (B:=1000000000) (r:=r') (b:=b) (m:=m) (D:=D) (top:=top) (by omega) hmm.symm (by omega) (by rw[hmm];exact htop) hrb (by omega) (by
     rcases hDD with⟨h1,rfl⟩ | ⟨h1,l,h2,rfl⟩
     ·left;exact⟨by omega,by rw[show m-1=p1 by omega];exact hD1⟩
     ·right;exact⟨by omega,D1,l,by rw[show m=p1 by omega];exact hD1,h2,rfl⟩)
    obtain⟨g,hg⟩:∃g,g=D / top:=⟨_,rfl⟩
    obtain⟨d0,hd0⟩:∃d0,d0=min g 999999999:=⟨_,rfl⟩
    obtain⟨t,ht⟩:∃t,t=r' / b:=⟨_,rfl⟩
    rw[←hg,←ht] at g3
    rw[←ht] at g4
    have htd:t≤d0:=by omega
    have hd0B:d0<1000000000:=by omega
    have hbt:b*t≤r' :=by rw[ht];exact Nat.mul_div_le r' b
    have hb0:0<b:=by omega
    have hd0K:d0<K:=by omega
    have hK0:0<K:=by omega
    have hd0I:(d0:Int)<1000000000:=by omega
    have hsub:r' -b*t=r' %b:=by
     have:=Nat.mod_add_div r' b
     rw[←ht] at this;omega
    have mono:∀u v,u≤v→(dig 1000000000 u).length≤(dig 1000000000 v).length:=fun u v h=>by
     rcases Nat.lt_or_ge (dig 1000000000 v).length (dig 1000000000 u).length with h' | h'
     ·have:=dp (B:=1000000000) (by omega) h';omega
     ·exact h'
    have hlb:∀d,d≤d0→(dig 1000000000 (b*d)).length≤100000000:=fun d hd=>by
     have h1:b*d<1000000000 ^ (m+1):=by
      have h2:=uL (B:=1000000000) (by omega) b
      rw[←hmm] at h2
      rw[Nat.pow_succ]
      exact Nat.mul_lt_mul_of_lt_of_lt h2 (by omega)
     have:=er (B:=1000000000) (by omega) h1
     omega
    have hlbb:∀d,d≤d0→0<d→(dig 1000000000 b).length≤(dig 1000000000 (b*d)).length:=fun d _ hd=>mono _ _ (Nat.le_mul_of_pos_right b hd)
    have hrowtk:(x::dig 1000000000 r).take (dig 1000000000 r').length=dig 1000000000 r' :=by rw[←hct,kV]
    have htopb:=eS (lo b) htop
    have hgD:g≤D:=by rw[hg];exact Nat.div_le_self _ _
    have wg:IntKind.u64.wrap (g:Int)=(g:Int):=bR (by omega) (by omega)
    have wD:IntKind.u64.wrap ((D:Int) / (top:Int))=(g:Int):=by rw[←Int.natCast_ediv,←hg];exact wg
    have wD' :IntKind.u64.wrap ((D:Int).tdiv (top:Int))=(g:Int):=by rw[tI,←hg];exact wg
    have htop0:¬top=0:=by omega
    have hmin:(if (999999999:Int)<(g:Int) then (999999999:Int) else (g:Int))=(d0:Int):=by split<;>omega
    have hlen1:(dig 1000000000 r').length≤100000000:=by omega
    have hlen2:(dig 1000000000 (b*t)).length≤(dig 1000000000 r').length:=mono _ _ hbt
    have hlen3:(dig 1000000000 b).length≤100000000:=by omega
    have hlenb:=hlb d0 (Nat.le_refl _)
    have htk2:(List.replicate i 0++0::q).take i=List.replicate i 0:=List.take_left' (by simp)
    have hdr2:(List.replicate i 0++0::q).drop (i+1)=q:=by rw[List.drop_append,List.drop_of_length_le (by simp)];simp
    have hql:i<(List.replicate i 0++0::q).length:=by simp
    have hs10:∀(v:Nat) a0 a1 a2 a3 a4 a5 a6 a7 a8 a9 l,bB .u64 (a0::a1::a2::a3::a4::a5::a6::a7::a8::a9::.cells true 1 (iN .u64 (dig 1000000000 v))::l) (.slice 10 0 (dig 1000000000 v).length none)=some (dig 1000000000 v):=fun v a0 a1 a2 a3 a4 a5 a6 a7 a8 a9 l=>ba rfl (by simp) (List.take_of_length_le (by simp))
    have hs11:∀(v:Nat) a0 a1 a2 a3 a4 a5 a6 a7 a8 a9 a10 l,bB .u64 (a0::a1::a2::a3::a4::a5::a6::a7::a8::a9::a10::.cells true 1 (iN .u64 (dig 1000000000 v))::l) (.slice 11 0 (dig 1000000000 v).length none)=some (dig 1000000000 v):=fun v a0 a1 a2 a3 a4 a5 a6 a7 a8 a9 a10 l=>ba rfl (by simp) (List.take_of_length_le (by simp))
    rw[←ht]
    rw[hmm] at hDD
    rw[hLL] at hDD
    subst hb1
    rcases Nat.lt_or_ge t d0 with htlt | htge
    ·obtain⟨F,hF⟩:=Ak (K:=K) A B a.length a (List.replicate i 0++0::q) raw (x::dig 1000000000 r) b r' d0 t ht hrowtk (by simpa using hrl') hb0 htlt hd0B hd0K hlb hlbb hb.1 hb.2.2
     simp only[dG,bV] at hF
     subst hb2
     rcases hDD with⟨h1,rfl⟩ | ⟨h1,l,h2,h3'⟩
     ·have hng:¬(dig 1000000000 b).length<(dig 1000000000 r').length:=by omega
      clear h1
      simp[cI,bG,bw,be,h0,h3,h4,h10,hx',hI,hlt,hs9,hs9',hs5,hct,lo,lt,lv,hc,w1,hrl2,hrl3,t2,htk,g1,g2,hng,hc1,wp1,hp1I,wD,htop0,hmin,hlen1,hlen2,hlen3,hd0I,hF,hs11,hbt,hsub,fT,oC,htk2,hdr2,Nat.testBit]
      rw[cR,bV]
     ·have hng:(dig 1000000000 b).length<(dig 1000000000 r').length:=by omega
      obtain⟨p2,hp2⟩:∃p2,p2=m-1:=⟨_,rfl⟩
      rw[←hmm,←hp2] at h2
      have hc2:=hcell _ _ h2
      have hlb2:=eS (lo r') h2
      have wp2:IntKind.i64.wrap (((dig 1000000000 r').length:Int)-2)=(p2:Int):=by rw[ag (by omega) (by omega)];omega
      have wl1:IntKind.u64.wrap ((D1:Int)*1000000000)=(D1:Int)*1000000000:=bR (by omega) (by omega)
      have wl2:IntKind.u64.wrap ((D1:Int)*1000000000+(l:Int))=(D:Int):=by rw[bR (by omega) (by omega)];omega
      have hp2I:(p2:Int)<((dig 1000000000 r').length:Int):=by omega
      clear h1
      simp[cI,bG,bw,be,h0,h3,h4,h10,hx',hI,hlt,hs9,hs9',hs5,hct,lo,lt,lv,hc,w1,hrl2,hrl3,t2,htk,g1,g2,hng,hc2,wp2,hp2I,wl1,wl2,hc1,wp1,hp1I,wD,htop0,hmin,hlen1,hlen2,hlen3,hd0I,hF,hs11,hbt,hsub,fT,oC,htk2,hdr2,Nat.testBit]
      rw[cR,bV]
    ·have htd0:t=d0:=by omega
     rw[←htd0] at hlenb hd0I hmin
     obtain⟨F,hF⟩:=yc (K:=K) A B a.length a (List.replicate i 0++0::q) raw (x::dig 1000000000 r) b r' t hbt hrowtk (by simpa using hrl') hK0 (by omega) hb.1 hb.2.2
     simp only[dG,bV] at hF
     subst hb2
     rcases hDD with⟨h1,rfl⟩ | ⟨h1,l,h2,h3'⟩
     ·have hng:¬(dig 1000000000 b).length<(dig 1000000000 r').length:=by omega
      clear h1
      simp[cI,bG,bw,be,h0,h3,h4,h10,hx',hI,hlt,hs9,hs9',hs5,hct,lo,lt,lv,hc,w1,hrl2,hrl3,t2,htk,g1,g2,hng,hc1,wp1,hp1I,wD,htop0,hmin,hlen1,hlen2,hlen3,hd0I,hF,hs10,hbt,hsub,fT,oC,htk2,hdr2,Nat.testBit]
      rw[cR,bV]
     ·have hng:(dig 1000000000 b).length<(dig 1000000000 r').length:=by omega
      obtain⟨p2,hp2⟩:∃p2,p2=m-1:=⟨_,rfl⟩
      rw[←hmm,←hp2] at h2
      have hc2:=hcell _ _ h2
      have hlb2:=eS (lo r') h2
      have wp2:IntKind.i64.wrap (((dig 1000000000 r').length:Int)-2)=(p2:Int):=by rw[ag (by omega) (by omega)];omega
      have wl1:IntKind.u64.wrap ((D1:Int)*1000000000)=(D1:Int)*1000000000:=bR (by omega) (by omega)
      have wl2:IntKind.u64.wrap ((D1:Int)*1000000000+(l:Int))=(D:Int):=by rw[bR (by omega) (by omega)];omega
      have hp2I:(p2:Int)<((dig 1000000000 r').length:Int):=by omega
      clear h1
      simp[cI,bG,bw,be,h0,h3,h4,h10,hx',hI,hlt,hs9,hs9',hs5,hct,lo,lt,lv,hc,w1,hrl2,hrl3,t2,htk,g1,g2,hng,hc2,wp2,hp2I,wl1,wl2,hc1,wp1,hp1I,wD,htop0,hmin,hlen1,hlen2,hlen3,hd0I,hF,hs10,hbt,hsub,fT,oC,htk2,hdr2,Nat.testBit]
      rw[cR,bV]
end Go.Proofs
