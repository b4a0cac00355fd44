/- See P53. -/
import Derived.Test.YtmhkeaphiadacaaGreatDoorP24
import Derived.Test.YtmhkeaphiadacaaGreatDoorP20
set_option linter.all false
namespace Go.Proofs
open Go.Eng
open Tryz
def sqP:List AV:=[.str [48],.str [48],.str [52],.str [48],.str [52],.str [52],.str [48],.str [52]]
def sqT:List AV:=[.int .i64 0,.int .i64 1,.int .i64 2,.int .i64 0,.int .i64 2,.int .i64 3]
theorem vW:ow (aC prog) ab (aO prog) NA 60 10 (.fn 41) [.agg [.slice 0 0 4 none,.slice 1 0 2 none]] [.cells false 2 sqP,.cells false 3 sqT]=some ⟨.int .i64 0,some [.cells false 2 sqP,.cells false 3 sqT],[]⟩:=by kernel_rfl
theorem BE:mB prog 41 [.agg [.slice 0 0 4 none,.slice 1 0 2 none]] [.cells false 2 sqP,.cells false 3 sqT] (.int .i64 0) [.cells false 2 sqP,.cells false 3 sqT]:=by have:=(kq af (aw _) (ax _) Mt 10).fn _ _ _ _ vW;simpa [HS.mem] using this
def Qd:List AV→List AV→Bool
 | [],[]=>true
 |.str a::l,.str b::r=>(a==b)&&Qd l r
 |.int .i64 a::l,.int .i64 b::r=>decide (a=b)&&Qd l r
 |_,_=>false
theorem FO:∀{l r:List AV},Qd l r=true→l=r
 | [],r,h=>by cases r<;>first | rfl | (unfold Qd at h;cases h)
 |v::l,r,h=>by
  unfold Qd at h;split at h
  ·rename_i h1;cases h1
  ·rename_i h1
   cases h1;simp only[Bool.and_eq_true,beq_iff_eq] at h;rw[h.1,FO h.2]
  ·rename_i h1
   cases h1;simp only[Bool.and_eq_true,decide_eq_true_eq] at h;rw[h.1,FO h.2]
  ·cases h
def Qc(M:Mem) (b e:Nat) (cs:List AV):Bool:=match M[b]? with
 |some (.cells _ es l)=>decide (es=e)&&Qd (l.take cs.length) cs
 |_=>false
theorem KT{M:Mem}{b e:Nat}{cs:List AV}{ks:List Nat}(h:Qc M b e cs=true)(hu:AV.aag cs=true):b<M.length∧vK ks M b (.cells false e cs):=by
 unfold Qc at h;split at h
 ·rename_i o es l hb
  simp only[Bool.and_eq_true,decide_eq_true_eq] at h;obtain⟨rfl,h2⟩:=h;have h2:=FO h2;refine⟨(List.getElem?_eq_some_iff.1 hb).1,bB hu,o,l,hb,fun j v hv=>?_⟩;have hj:=(List.getElem?_eq_some_iff.1 hv).1;have:l[j]? =cs[j]? :=by rw[←List.getElem?_take_of_lt hj,h2]
  have hr:=bR (ρ:=dr ks M.length) hu;rw[fN] at hr;have WR:(cs.map (AV.ren (dr ks M.length)))[j]? =cs[j]? :=by rw[hr]
  rw[List.getElem?_map,hv] at WR;rw[this,hv];exact WR.symm
 ·cases h
theorem BD(M:Mem)(b c:Nat)(h1:Qc M b 2 sqP=true)(h2:Qc M c 3 sqT=true):mB prog 41 [.agg [.slice b 0 4 none,.slice c 0 2 none]] M (.int .i64 0) M:=by
 have k1:=KT (ks:=[b,c]) h1 (by rfl);have k2:=KT (ks:=[b,c]) h2 (by rfl);have:=mB.frame (M:=M) (new:=[]) [b,c] (m:=[.cells false 2 sqP,.cells false 3 sqT]) rfl (by
  intro k hk;simp only[List.mem_cons,List.not_mem_nil,or_false] at hk;rcases hk with h | h
  ·rw[h];exact k1.1
  ·rw[h];exact k2.1) (by rfl) (fun i s hs=>by
  match i with
  |0=>simp at hs;subst hs;exact k1.2
  |1=>simp at hs;subst hs;exact k2.2
  |i+2=>simp at hs) rfl BE
 simpa [AV.aal,AV.ren,dr] using this
def EZ(c:Go.Eng.Callee) (args:List AV) (M:Mem):Option HS:=match c,args with
 |.fn 41,[.agg [.slice b 0 4 none,.slice c 0 2 none]]=>if Qc M b 2 sqP&&Qc M c 3 sqT then some ⟨.int .i64 0,none,[]⟩ else none
 |_,_=>none
theorem MJ:qS prog EZ:=by
 refine cJ fun c args M r h=>?_
 unfold EZ at h;split at h
 ·split at h
  ·rename_i hc
   simp only[Bool.and_eq_true] at hc;cases h;refine ak ?_;rw[List.append_nil];exact BD M _ _ hc.1 hc.2
  ·cases h
 ·cases h
def RY(r:HS):Bool:=(match r.v with
 |.bool b=>b
 |_=>false)&&r.new.isEmpty&&(match r.pre with
 |some p=>p.isEmpty
 |none=>true)
theorem Nb{r:HS}(h:RY r=true):r.v=.bool true∧r.mem []=[]:=by
 obtain⟨v,pre,new⟩:=r;simp only[RY,Bool.and_eq_true,List.isEmpty_iff] at h;obtain⟨⟨h1,rfl⟩,h3⟩:=h;constructor
 ·cases v<;>first | (cases h1;done) | skip
  simp only at h1;rw[h1]
 ·cases pre with
  |none=>rfl
  |some p=>simp only[List.isEmpty_iff] at h3;subst h3;rfl
noncomputable def Ny:aac:=aac.or EZ (aac.or (ar bd) (ar uU))
theorem Ms:qS prog Ny:=qS.or MJ (qS.or dX AB)
def dJ(l:List aaK):Prop:=∀e∈l,mB prog e.f e.args e.m e.v (e.m++e.new)
noncomputable def Nx(l:List aaK):aac:=aac.or (M7 l) Ny
theorem bY{l:List aaK}(h:dJ l):qS prog (Nx l):=qS.or (TV h) Ms
def Jf:List aaK:=[]
theorem I5:dJ Jf:=fun e he=>by cases he
def TQ:Mem:=[.cells false 2 [.str [48],.str [48],.str [52],.str [48],.str [52],.str [52],.str [48],.str [52]],.cells false 3 [.int .i64 0,.int .i64 1,.int .i64 2,.int .i64 0,.int .i64 2,.int .i64 3],.cells false 32 [.int .i64 1,.str [98,101,100,115],.slice 3 0 4 none,.slice 4 0 2 none,.slice 5 0 1 none,.str [],.str [],.str [],.str [],.str [],.str [],.str [],.str [],.str [],.str [],.kO,.str [],.str [],.str [],.str [],.str [],.str [],.str [],.str [],.str [],.int .i64 0,.int .i64 0,.int .i64 0,.int .i64 0,.str [],.str [],.str [],.int .i64 2,.str [102,97,117,108,116],.kO,.kO,.kO,.str [49],.str [48],.str [48],.str [50],.str [48],.str [48],.str [49],.str [],.str [],.str [],.kO,.str [],.str [],.str [],.str [],.str [],.str [],.str [],.str [],.str [],.int .i64 0,.int .i64 0,.int .i64 0,.int .i64 0,.str [],.str [],.str []],.cells false 1 [.str [48],.str [48],.str [48],.str [48]],.cells false 1 [.str [97],.str [98]],.cells false 1 [.slice 6 0 4 none],.cells false 1 [.str [50],.str [50],.str [50],.str [50]]]
def V4:Mem:=[.cells false 2 [.str [48],.str [48],.str [52],.str [48],.str [52],.str [52],.str [48],.str [52]],.cells false 3 [.int .i64 0,.int .i64 1,.int .i64 2,.int .i64 0,.int .i64 2,.int .i64 3],.cells false 1 [.str [48],.str [48],.str [48],.str [48]],.cells false 1 [.str [97],.str [98]],.cells false 1 [.slice 5 0 4 none],.cells false 1 [.str [50],.str [50],.str [50],.str [50]]]
def Su:List AV:=[.slice 0 0 4 none,.slice 1 0 2 none,.str [103],.slice 2 0 2 none]
def V5:Mem:=[.cells false 2 [.str [48],.str [48],.str [52],.str [48],.str [52],.str [52],.str [48],.str [52]],.cells false 3 [.int .i64 0,.int .i64 1,.int .i64 2,.int .i64 0,.int .i64 2,.int .i64 3]]
def QT:aaK:=⟨31,[],[],.agg Su,[.cells true 2 [.str [48],.str [48],.str [52],.str [48],.str [52],.str [52],.str [48],.str [52]],.cells true 3 [.int .i64 0,.int .i64 1,.int .i64 2,.int .i64 0,.int .i64 2,.int .i64 3],.cells true 32 [.int .i64 1,.str [98,101,100,115],.slice 3 0 4 none,.slice 4 0 2 none,.slice 5 0 1 none,.str [],.str [],.str [],.str [],.str [],.str [],.str [],.str [],.str [],.str [],.kO,.str [],.str [],.str [],.str [],.str [],.str [],.str [],.str [],.str [],.int .i64 0,.int .i64 0,.int .i64 0,.int .i64 0,.str [],.str [],.str [],.int .i64 2,.str [102,97,117,108,116],.kO,.kO,.kO,.str [49],.str [48],.str [48],.str [50],.str [48],.str [48],.str [49],.str [],.str [],.str [],.kO,.str [],.str [],.str [],.str [],.str [],.str [],.str [],.str [],.str [],.int .i64 0,.int .i64 0,.int .i64 0,.int .i64 0,.str [],.str [],.str []],.cells true 1 [.str [48],.str [48],.str [48],.str [48]],.cells true 1 [.str [97],.str [98]],.cells true 1 [.slice 6 0 4 none],.cells true 1 [.str [50],.str [50],.str [50],.str [50]]]⟩
def Jg:List aaK:=QT::Jf
theorem I6:dJ Jg:=List.forall_mem_cons.2 ⟨bU (lv:=ab) (K:=60) (n:=30) af (aw _) (ax _) (bY I5) (by as_aux_lemma=>kernel_rfl),I5⟩
def QU:aaK:=⟨43,[.agg [.slice 0 0 4 none,.slice 1 0 2 none],.agg [.int .i64 1,.str [98,101,100,115],.slice 2 0 4 none,.slice 3 0 2 none,.slice 4 0 1 none,.str [],.str [],.str [],.str [],.str [],.str [],.str [],.str [],.str [],.str [],.kO,.str [],.str [],.str [],.str [],.str [],.str [],.str [],.str [],.str [],.int .i64 0,.int .i64 0,.int .i64 0,.int .i64 0,.str [],.str [],.str []]],V4,.int .i64 0,[]⟩
def Jh:List aaK:=QU::Jg
theorem I7:dJ Jh:=List.forall_mem_cons.2 ⟨bU (lv:=ab) (K:=60) (n:=30) af (aw _) (ax _) (bY I6) (by as_aux_lemma=>kernel_rfl),I6⟩
def QV:aaK:=⟨43,[.agg [.slice 0 0 4 none,.slice 1 0 2 none],.agg [.int .i64 2,.str [102,97,117,108,116],.kO,.kO,.kO,.str [49],.str [48],.str [48],.str [50],.str [48],.str [48],.str [49],.str [],.str [],.str [],.kO,.str [],.str [],.str [],.str [],.str [],.str [],.str [],.str [],.str [],.int .i64 0,.int .i64 0,.int .i64 0,.int .i64 0,.str [],.str [],.str []]],V5,.int .i64 0,[]⟩
def Ji:List aaK:=QV::Jh
theorem I8:dJ Ji:=List.forall_mem_cons.2 ⟨bU (lv:=ab) (K:=60) (n:=30) af (aw _) (ax _) (bY I7) (by as_aux_lemma=>kernel_rfl),I7⟩
def QW:aaK:=⟨20,[.agg Su],TQ,.int .i64 0,[]⟩
def Jj:List aaK:=QW::Ji
theorem I9:dJ Jj:=List.forall_mem_cons.2 ⟨bU (lv:=ab) (K:=60) (n:=30) af (aw _) (ax _) (bY I8) (by as_aux_lemma=>kernel_rfl),I8⟩
def QX:aaK:=⟨174,[.agg [.slice 0 0 4 none,.slice 1 0 2 none],.agg [.str [49],.str [49],.str [50]]],V5,.tuple [.int .i64 0,.agg [.str [49,50],.str [48],.str [52]],.bool true],[]⟩
def Jk:List aaK:=QX::Jj
theorem Ja:dJ Jk:=List.forall_mem_cons.2 ⟨bU (lv:=ab) (K:=60) (n:=30) af (aw _) (ax _) (bY I9) (by as_aux_lemma=>kernel_rfl),I9⟩
def QY:aaK:=⟨116,[.agg [.slice 0 0 4 none,.slice 1 0 2 none],.agg [.slice 2 0 4 none,.slice 3 0 2 none,.slice 4 0 1 none],.agg [.str [49],.str [49],.str [50]]],V4,.int .i64 1,[]⟩
def Jl:List aaK:=QY::Jk
theorem Jb:dJ Jl:=List.forall_mem_cons.2 ⟨bU (lv:=ab) (K:=60) (n:=30) af (aw _) (ax _) (bY Ja) (by as_aux_lemma=>kernel_rfl),Ja⟩
def QZ:aaK:=⟨52,[.agg Su,.agg [.str [49],.str [49],.str [50]]],TQ,.agg [.str [98],.slice 7 0 2 none,.int .i64 0,.str [49],.str [49],.str [50]],[.cells true 1 [.int .i64 0,.int .i64 1]]⟩
def Jm:List aaK:=QZ::Jl
theorem Jc:dJ Jm:=List.forall_mem_cons.2 ⟨bU (lv:=ab) (K:=60) (n:=30) af (aw _) (ax _) (bY Jb) (by as_aux_lemma=>kernel_rfl),Jb⟩
def Q0:aaK:=⟨22,[.agg Su,.agg [.str [49],.str [49],.str [50]]],TQ,.tuple [.str [98],.int .i64 0],[]⟩
def Jn:List aaK:=Q0::Jm
theorem Jd:dJ Jn:=List.forall_mem_cons.2 ⟨bU (lv:=ab) (K:=60) (n:=30) af (aw _) (ax _) (bY Jc) (by as_aux_lemma=>kernel_rfl),Jc⟩
def Q1:aaK:=⟨174,[.agg [.slice 0 0 4 none,.slice 1 0 2 none],.agg [.str [51],.str [49],.str [49]]],V5,.tuple [.int .i64 0,.agg [.str [52],.str [56],.str [52]],.bool true],[]⟩
def Jo:List aaK:=Q1::Jn
theorem Je:dJ Jo:=List.forall_mem_cons.2 ⟨bU (lv:=ab) (K:=60) (n:=30) af (aw _) (ax _) (bY Jd) (by as_aux_lemma=>kernel_rfl),Jd⟩
def Q2:aaK:=⟨116,[.agg [.slice 0 0 4 none,.slice 1 0 2 none],.agg [.slice 2 0 4 none,.slice 3 0 2 none,.slice 4 0 1 none],.agg [.str [51],.str [49],.str [49]]],V4,.int .i64 0,[]⟩
def CW:List aaK:=Q2::Jo
theorem CN:dJ CW:=List.forall_mem_cons.2 ⟨bU (lv:=ab) (K:=60) (n:=30) af (aw _) (ax _) (bY Je) (by as_aux_lemma=>kernel_rfl),Je⟩
def OT:aaK:=⟨52,[.agg Su,.agg [.str [51],.str [49],.str [50]]],TQ,.agg [.str [97],.slice 7 0 2 none,.int .i64 0,.str [51],.str [49],.str [49]],[.cells true 1 [.int .i64 1,.int .i64 0]]⟩
def CX:List aaK:=OT::CW
theorem CO:dJ CX:=List.forall_mem_cons.2 ⟨bU (lv:=ab) (K:=60) (n:=30) af (aw _) (ax _) (bY CN) (by as_aux_lemma=>kernel_rfl),CN⟩
def OU:aaK:=⟨22,[.agg Su,.agg [.str [51],.str [49],.str [50]]],TQ,.tuple [.str [97],.int .i64 0],[]⟩
def CY:List aaK:=OU::CX
theorem CP:dJ CY:=List.forall_mem_cons.2 ⟨bU (lv:=ab) (K:=60) (n:=30) af (aw _) (ax _) (bY CO) (by as_aux_lemma=>kernel_rfl),CO⟩
def OV:aaK:=⟨174,[.agg [.slice 0 0 4 none,.slice 1 0 2 none],.agg [.str [49],.str [49],.str [45,49]]],V5,.tuple [.int .i64 0,.agg [.str [49,50],.str [48],.str [52]],.bool true],[]⟩
def CZ:List aaK:=OV::CY
theorem CQ:dJ CZ:=List.forall_mem_cons.2 ⟨bU (lv:=ab) (K:=60) (n:=30) af (aw _) (ax _) (bY CP) (by as_aux_lemma=>kernel_rfl),CP⟩
def OW:aaK:=⟨116,[.agg [.slice 0 0 4 none,.slice 1 0 2 none],.agg [.slice 2 0 4 none,.slice 3 0 2 none,.slice 4 0 1 none],.agg [.str [49],.str [49],.str [45,49]]],V4,.int .i64 (-1),[]⟩
def C8:List aaK:=OW::CZ
theorem CR:dJ C8:=List.forall_mem_cons.2 ⟨bU (lv:=ab) (K:=60) (n:=30) af (aw _) (ax _) (bY CQ) (by as_aux_lemma=>kernel_rfl),CQ⟩
def OX:aaK:=⟨52,[.agg Su,.agg [.str [49],.str [49],.str [45,49]]],TQ,.agg [.str [103],.slice 7 0 2 none,.int .i64 (-1),.str [49],.str [49],.str [45,49]],[.cells true 1 [.int .i64 0,.int .i64 (-1)]]⟩
def C9:List aaK:=OX::C8
theorem CS:dJ C9:=List.forall_mem_cons.2 ⟨bU (lv:=ab) (K:=60) (n:=30) af (aw _) (ax _) (bY CR) (by as_aux_lemma=>kernel_rfl),CR⟩
def OY:aaK:=⟨22,[.agg Su,.agg [.str [49],.str [49],.str [45,49]]],TQ,.tuple [.str [103],.int .i64 0],[]⟩
def Da:List aaK:=OY::C9
theorem CT:dJ Da:=List.forall_mem_cons.2 ⟨bU (lv:=ab) (K:=60) (n:=30) af (aw _) (ax _) (bY CS) (by as_aux_lemma=>kernel_rfl),CS⟩
def OZ:aaK:=⟨26,[.agg Su],TQ,.tuple [.slice 7 0 3 none,.int .i64 0],[.cells true 1 [.str [103],.str [97],.str [98]]]⟩
def Db:List aaK:=OZ::Da
theorem CU:dJ Db:=List.forall_mem_cons.2 ⟨bU (lv:=ab) (K:=60) (n:=30) af (aw _) (ax _) (bY CT) (by as_aux_lemma=>kernel_rfl),CT⟩
def O0:aaK:=⟨24,[.agg Su,.agg [.str [51],.str [49],.str [50]],.int .i64 1],TQ,.tuple [.agg [.str [51],.str [49],.str [49]],.int .i64 0],[]⟩
def Dc:List aaK:=O0::Db
theorem OS:dJ Dc:=List.forall_mem_cons.2 ⟨bU (lv:=ab) (K:=60) (n:=30) af (aw _) (ax _) (bY CU) (by as_aux_lemma=>kernel_rfl),CU⟩
theorem Mr:(ow (aC prog) ab (aO prog) (Nx Dc) 60 30 (.fn 6) [] []).map RY=some true:=by kernel_rfl
theorem ux(M:Mem):mB prog 6 [] M (.bool true) M:=by have h:=Mr;rw[Option.map_eq_some_iff] at h;obtain⟨r,h1,h2⟩:=h;have:=(kq af (aw _) (ax _) (bY OS) 30).fn _ _ _ _ h1;obtain⟨e1,e2⟩:=Nb h2;rw[e1,e2] at this;exact mB.lift rfl rfl this M
end Go.Proofs
