/- See N58. -/
import Derived.Test.YtmhkeaphiadacaaGreatDoorN32
import Derived.Test.YtmhkeaphiadacaaGreatDoorN24
import Derived.Test.YtmhkeaphiadacaaGreatDoorN28
import Derived.Test.YtmhkeaphiadacaaGreatDoorN08
import Derived.KernelRfl
set_option linter.all false
namespace Go.Proofs
open Go.Eng
def sqP:List AV:=[.str [48],.str [48],.str [52],.str [48],.str [52],.str [52],.str [48],.str [52]]
def sqT:List AV:=[.int .i64 0,.int .i64 1,.int .i64 2,.int .i64 0,.int .i64 2,.int .i64 3]
theorem tz:sf (az Tryz.prog) ad (aI Tryz.prog) JO 60 10 (.fn 41) [.agg [.slice 0 0 4 none,.slice 1 0 2 none]] [.cells false 2 sqP,.cells false 3 sqT]=some ⟨.int .i64 0,some [.cells false 2 sqP,.cells false 3 sqT],[]⟩:=by
 kernel_rfl
theorem zh:ACallsTo Tryz.prog 41 [.agg [.slice 0 0 4 none,.slice 1 0 2 none]] [.cells false 2 sqP,.cells false 3 sqT] (.int .i64 0) [.cells false 2 sqP,.cells false 3 sqT]:=by
 have:=(jn aa (ai _) (aj _) IL 10).fn _ _ _ _ tz
 simpa [CallRes.mem] using this
def L7:List AV→List AV→Bool
 | [],[]=>true
 |.str a::l,.str b::r=>(a==b)&&L7 l r
 |.int .i64 a::l,.int .i64 b::r=>decide (a=b)&&L7 l r
 |_,_=>false
theorem CE:∀{l r:List AV},L7 l r=true→l=r
 | [],r,h=>by cases r<;>first | rfl | (unfold L7 at h;cases h)
 |v::l,r,h=>by
  unfold L7 at h
  split at h
  ·rename_i h1;cases h1
  ·rename_i h1
   cases h1
   simp only[Bool.and_eq_true,beq_iff_eq] at h
   rw[h.1,CE h.2]
  ·rename_i h1
   cases h1
   simp only[Bool.and_eq_true,decide_eq_true_eq] at h
   rw[h.1,CE h.2]
  ·cases h
def L6(M:Mem) (b e:Nat) (cs:List AV):Bool:=match M[b]? with
 |some (.cells _ es l)=>decide (es=e)&&L7 (l.take cs.length) cs
 |_=>false
theorem Hr{M:Mem}{b e:Nat}{cs:List AV}{ks:List Nat}(h:L6 M b e cs=true) (hu:AV.closeds cs=true):b<M.length∧SubSlot ks M b (.cells false e cs):=by
 unfold L6 at h
 split at h
 ·rename_i o es l hb
  simp only[Bool.and_eq_true,decide_eq_true_eq] at h
  obtain⟨rfl,h2⟩:=h
  have h2:=CE h2
  refine⟨(List.getElem?_eq_some_iff.1 hb).1,cx hu,o,l,hb,fun j v hv=>?_⟩
  have hj:=(List.getElem?_eq_some_iff.1 hv).1
  have:l[j]? =cs[j]? :=by
   rw[←List.getElem?_take_of_lt hj,h2]
  have hr:=bu (ρ:=da ks M.length) hu
  rw[ft] at hr
  have hr2:(cs.map (AV.ren (da ks M.length)))[j]? =cs[j]? :=by rw[hr]
  rw[List.getElem?_map,hv] at hr2
  rw[this,hv];exact hr2.symm
 ·cases h
theorem zg(M:Mem) (b c:Nat) (h1:L6 M b 2 sqP=true) (h2:L6 M c 3 sqT=true):ACallsTo Tryz.prog 41 [.agg [.slice b 0 4 none,.slice c 0 2 none]] M (.int .i64 0) M:=by
 have k1:=Hr (ks:=[b,c]) h1 (by rfl)
 have k2:=Hr (ks:=[b,c]) h2 (by rfl)
 have:=ACallsTo.frame (M:=M) (new:=[]) [b,c] (m:=[.cells false 2 sqP,.cells false 3 sqT]) rfl (by
  intro k hk
  simp only[List.mem_cons,List.not_mem_nil,or_false] at hk
  rcases hk with h | h
  ·rw[h];exact k1.1
  ·rw[h];exact k2.1) (by rfl) (fun i s hs=>by
  match i with
  |0=>simp at hs;subst hs;exact k1.2
  |1=>simp at hs;subst hs;exact k2.2
  |i+2=>simp at hs) rfl zh
 simpa [AV.rens,AV.ren,da] using this
def B4(c:Go.Eng.Callee) (args:List AV) (M:Mem):Option CallRes:=match c,args with
 |.fn 41,[.agg [.slice b 0 4 none,.slice c 0 2 none]]=>if L6 M b 2 sqP&&L6 M c 3 sqT then some ⟨.int .i64 0,none,[]⟩ else none
 |_,_=>none
theorem IZ:OracleOk Tryz.prog B4:=by
 refine cO fun c args M r h=>?_
 unfold B4 at h
 split at h
 ·split at h
  ·rename_i hc
   simp only[Bool.and_eq_true] at hc
   cases h
   refine ap ?_
   rw[List.append_nil]
   exact zg M _ _ hc.1 hc.2
  ·cases h
 ·cases h
def NJ(r:CallRes):Bool:=(match r.v with
 |.bool b=>b
 |_=>false)&&r.new.isEmpty&&(match r.pre with
 |some p=>p.isEmpty
 |none=>true)
theorem Jq{r:CallRes}(h:NJ r=true):r.v=.bool true∧r.mem []=[]:=by
 obtain⟨v,pre,new⟩:=r
 simp only[NJ,Bool.and_eq_true,List.isEmpty_iff] at h
 obtain⟨⟨h1,rfl⟩,h3⟩:=h
 constructor
 ·cases v<;>first | (cases h1;done) | skip
  simp only at h1
  rw[h1]
 ·cases pre with
  |none=>rfl
  |some p=>simp only[List.isEmpty_iff] at h3;subst h3;rfl
noncomputable def JN:Oracle:=Oracle.or B4 (Oracle.or (ao bh) (ao rO))
theorem IK:OracleOk Tryz.prog JN:=OracleOk.or IZ (OracleOk.or dF xR)
def cY(l:List Memo):Prop:=∀e∈l,ACallsTo Tryz.prog e.f e.args e.m e.v (e.m++e.new)
noncomputable def JM(l:List Memo):Oracle:=Oracle.or (Jl l) JN
theorem bJ{l:List Memo}(h:cY l):OracleOk Tryz.prog (JM l):=OracleOk.or (Pw h) IK
def FT:List Memo:=[]
theorem FI:cY FT:=fun e he=>by cases he
def MB:Memo:=⟨31,[],[],.agg [.slice 0 0 4 none,.slice 1 0 2 none,.str [103],.slice 2 0 2 none],[.cells true 2 [.str [48],.str [48],.str [52],.str [48],.str [52],.str [52],.str [48],.str [52]],.cells true 3 [.int .i64 0,.int .i64 1,.int .i64 2,.int .i64 0,.int .i64 2,.int .i64 3],.cells true 32 [.int .i64 1,.str [98,101,100,115],.slice 3 0 4 none,.slice 4 0 2 none,.slice 5 0 1 none,.str [],.str [],.str [],.str [],.str [],.str [],.str [],.str [],.str [],.str [],.nilslice,.str [],.str [],.str [],.str [],.str [],.str [],.str [],.str [],.str [],.int .i64 0,.int .i64 0,.int .i64 0,.int .i64 0,.str [],.str [],.str [],.int .i64 2,.str [102,97,117,108,116],.nilslice,.nilslice,.nilslice,.str [49],.str [48],.str [48],.str [50],.str [48],.str [48],.str [49],.str [],.str [],.str [],.nilslice,.str [],.str [],.str [],.str [],.str [],.str [],.str [],.str [],.str [],.int .i64 0,.int .i64 0,.int .i64 0,.int .i64 0,.str [],.str [],.str []],.cells true 1 [.str [48],.str [48],.str [48],.str [48]],.cells true 1 [.str [97],.str [98]],.cells true 1 [.slice 6 0 4 none],.cells true 1 [.str [50],.str [50],.str [50],.str [50]]]⟩
def FU:List Memo:=MB::FT
theorem FJ:cY FU:=List.forall_mem_cons.2 ⟨cB (lv:=ad) (K:=60) (n:=30) aa (ai _) (aj _) (bJ FI) (by as_aux_lemma=>kernel_rfl),FI⟩
def MC:Memo:=⟨43,[.agg [.slice 0 0 4 none,.slice 1 0 2 none],.agg [.int .i64 1,.str [98,101,100,115],.slice 2 0 4 none,.slice 3 0 2 none,.slice 4 0 1 none,.str [],.str [],.str [],.str [],.str [],.str [],.str [],.str [],.str [],.str [],.nilslice,.str [],.str [],.str [],.str [],.str [],.str [],.str [],.str [],.str [],.int .i64 0,.int .i64 0,.int .i64 0,.int .i64 0,.str [],.str [],.str []]],[.cells false 2 [.str [48],.str [48],.str [52],.str [48],.str [52],.str [52],.str [48],.str [52]],.cells false 3 [.int .i64 0,.int .i64 1,.int .i64 2,.int .i64 0,.int .i64 2,.int .i64 3],.cells false 1 [.str [48],.str [48],.str [48],.str [48]],.cells false 1 [.str [97],.str [98]],.cells false 1 [.slice 5 0 4 none],.cells false 1 [.str [50],.str [50],.str [50],.str [50]]],.int .i64 0,[]⟩
def FV:List Memo:=MC::FU
theorem FK:cY FV:=List.forall_mem_cons.2 ⟨cB (lv:=ad) (K:=60) (n:=30) aa (ai _) (aj _) (bJ FJ) (by as_aux_lemma=>kernel_rfl),FJ⟩
def MD:Memo:=⟨43,[.agg [.slice 0 0 4 none,.slice 1 0 2 none],.agg [.int .i64 2,.str [102,97,117,108,116],.nilslice,.nilslice,.nilslice,.str [49],.str [48],.str [48],.str [50],.str [48],.str [48],.str [49],.str [],.str [],.str [],.nilslice,.str [],.str [],.str [],.str [],.str [],.str [],.str [],.str [],.str [],.int .i64 0,.int .i64 0,.int .i64 0,.int .i64 0,.str [],.str [],.str []]],[.cells false 2 [.str [48],.str [48],.str [52],.str [48],.str [52],.str [52],.str [48],.str [52]],.cells false 3 [.int .i64 0,.int .i64 1,.int .i64 2,.int .i64 0,.int .i64 2,.int .i64 3]],.int .i64 0,[]⟩
def FW:List Memo:=MD::FV
theorem FL:cY FW:=List.forall_mem_cons.2 ⟨cB (lv:=ad) (K:=60) (n:=30) aa (ai _) (aj _) (bJ FK) (by as_aux_lemma=>kernel_rfl),FK⟩
def ME:Memo:=⟨20,[.agg [.slice 0 0 4 none,.slice 1 0 2 none,.str [103],.slice 2 0 2 none]],[.cells false 2 [.str [48],.str [48],.str [52],.str [48],.str [52],.str [52],.str [48],.str [52]],.cells false 3 [.int .i64 0,.int .i64 1,.int .i64 2,.int .i64 0,.int .i64 2,.int .i64 3],.cells false 32 [.int .i64 1,.str [98,101,100,115],.slice 3 0 4 none,.slice 4 0 2 none,.slice 5 0 1 none,.str [],.str [],.str [],.str [],.str [],.str [],.str [],.str [],.str [],.str [],.nilslice,.str [],.str [],.str [],.str [],.str [],.str [],.str [],.str [],.str [],.int .i64 0,.int .i64 0,.int .i64 0,.int .i64 0,.str [],.str [],.str [],.int .i64 2,.str [102,97,117,108,116],.nilslice,.nilslice,.nilslice,.str [49],.str [48],.str [48],.str [50],.str [48],.str [48],.str [49],.str [],.str [],.str [],.nilslice,.str [],.str [],.str [],.str [],.str [],.str [],.str [],.str [],.str [],.int .i64 0,.int .i64 0,.int .i64 0,.int .i64 0,.str [],.str [],.str []],.cells false 1 [.str [48],.str [48],.str [48],.str [48]],.cells false 1 [.str [97],.str [98]],.cells false 1 [.slice 6 0 4 none],.cells false 1 [.str [50],.str [50],.str [50],.str [50]]],.int .i64 0,[]⟩
def FX:List Memo:=ME::FW
theorem FM:cY FX:=List.forall_mem_cons.2 ⟨cB (lv:=ad) (K:=60) (n:=30) aa (ai _) (aj _) (bJ FL) (by as_aux_lemma=>kernel_rfl),FL⟩
def MF:Memo:=⟨174,[.agg [.slice 0 0 4 none,.slice 1 0 2 none],.agg [.str [49],.str [49],.str [50]]],[.cells false 2 [.str [48],.str [48],.str [52],.str [48],.str [52],.str [52],.str [48],.str [52]],.cells false 3 [.int .i64 0,.int .i64 1,.int .i64 2,.int .i64 0,.int .i64 2,.int .i64 3]],.tuple [.int .i64 0,.agg [.str [49,50],.str [48],.str [52]],.bool true],[]⟩
def FY:List Memo:=MF::FX
theorem FN:cY FY:=List.forall_mem_cons.2 ⟨cB (lv:=ad) (K:=60) (n:=30) aa (ai _) (aj _) (bJ FM) (by as_aux_lemma=>kernel_rfl),FM⟩
def MG:Memo:=⟨116,[.agg [.slice 0 0 4 none,.slice 1 0 2 none],.agg [.slice 2 0 4 none,.slice 3 0 2 none,.slice 4 0 1 none],.agg [.str [49],.str [49],.str [50]]],[.cells false 2 [.str [48],.str [48],.str [52],.str [48],.str [52],.str [52],.str [48],.str [52]],.cells false 3 [.int .i64 0,.int .i64 1,.int .i64 2,.int .i64 0,.int .i64 2,.int .i64 3],.cells false 1 [.str [48],.str [48],.str [48],.str [48]],.cells false 1 [.str [97],.str [98]],.cells false 1 [.slice 5 0 4 none],.cells false 1 [.str [50],.str [50],.str [50],.str [50]]],.int .i64 1,[]⟩
def FZ:List Memo:=MG::FY
theorem FP:cY FZ:=List.forall_mem_cons.2 ⟨cB (lv:=ad) (K:=60) (n:=30) aa (ai _) (aj _) (bJ FN) (by as_aux_lemma=>kernel_rfl),FN⟩
def MH:Memo:=⟨52,[.agg [.slice 0 0 4 none,.slice 1 0 2 none,.str [103],.slice 2 0 2 none],.agg [.str [49],.str [49],.str [50]]],[.cells false 2 [.str [48],.str [48],.str [52],.str [48],.str [52],.str [52],.str [48],.str [52]],.cells false 3 [.int .i64 0,.int .i64 1,.int .i64 2,.int .i64 0,.int .i64 2,.int .i64 3],.cells false 32 [.int .i64 1,.str [98,101,100,115],.slice 3 0 4 none,.slice 4 0 2 none,.slice 5 0 1 none,.str [],.str [],.str [],.str [],.str [],.str [],.str [],.str [],.str [],.str [],.nilslice,.str [],.str [],.str [],.str [],.str [],.str [],.str [],.str [],.str [],.int .i64 0,.int .i64 0,.int .i64 0,.int .i64 0,.str [],.str [],.str [],.int .i64 2,.str [102,97,117,108,116],.nilslice,.nilslice,.nilslice,.str [49],.str [48],.str [48],.str [50],.str [48],.str [48],.str [49],.str [],.str [],.str [],.nilslice,.str [],.str [],.str [],.str [],.str [],.str [],.str [],.str [],.str [],.int .i64 0,.int .i64 0,.int .i64 0,.int .i64 0,.str [],.str [],.str []],.cells false 1 [.str [48],.str [48],.str [48],.str [48]],.cells false 1 [.str [97],.str [98]],.cells false 1 [.slice 6 0 4 none],.cells false 1 [.str [50],.str [50],.str [50],.str [50]]],.agg [.str [98],.slice 7 0 2 none,.int .i64 0,.str [49],.str [49],.str [50]],[.cells true 1 [.int .i64 0,.int .i64 1]]⟩
def F0:List Memo:=MH::FZ
theorem FQ:cY F0:=List.forall_mem_cons.2 ⟨cB (lv:=ad) (K:=60) (n:=30) aa (ai _) (aj _) (bJ FP) (by as_aux_lemma=>kernel_rfl),FP⟩
def MI:Memo:=⟨22,[.agg [.slice 0 0 4 none,.slice 1 0 2 none,.str [103],.slice 2 0 2 none],.agg [.str [49],.str [49],.str [50]]],[.cells false 2 [.str [48],.str [48],.str [52],.str [48],.str [52],.str [52],.str [48],.str [52]],.cells false 3 [.int .i64 0,.int .i64 1,.int .i64 2,.int .i64 0,.int .i64 2,.int .i64 3],.cells false 32 [.int .i64 1,.str [98,101,100,115],.slice 3 0 4 none,.slice 4 0 2 none,.slice 5 0 1 none,.str [],.str [],.str [],.str [],.str [],.str [],.str [],.str [],.str [],.str [],.nilslice,.str [],.str [],.str [],.str [],.str [],.str [],.str [],.str [],.str [],.int .i64 0,.int .i64 0,.int .i64 0,.int .i64 0,.str [],.str [],.str [],.int .i64 2,.str [102,97,117,108,116],.nilslice,.nilslice,.nilslice,.str [49],.str [48],.str [48],.str [50],.str [48],.str [48],.str [49],.str [],.str [],.str [],.nilslice,.str [],.str [],.str [],.str [],.str [],.str [],.str [],.str [],.str [],.int .i64 0,.int .i64 0,.int .i64 0,.int .i64 0,.str [],.str [],.str []],.cells false 1 [.str [48],.str [48],.str [48],.str [48]],.cells false 1 [.str [97],.str [98]],.cells false 1 [.slice 6 0 4 none],.cells false 1 [.str [50],.str [50],.str [50],.str [50]]],.tuple [.str [98],.int .i64 0],[]⟩
def F1:List Memo:=MI::F0
theorem FR:cY F1:=List.forall_mem_cons.2 ⟨cB (lv:=ad) (K:=60) (n:=30) aa (ai _) (aj _) (bJ FQ) (by as_aux_lemma=>kernel_rfl),FQ⟩
def MJ:Memo:=⟨174,[.agg [.slice 0 0 4 none,.slice 1 0 2 none],.agg [.str [51],.str [49],.str [49]]],[.cells false 2 [.str [48],.str [48],.str [52],.str [48],.str [52],.str [52],.str [48],.str [52]],.cells false 3 [.int .i64 0,.int .i64 1,.int .i64 2,.int .i64 0,.int .i64 2,.int .i64 3]],.tuple [.int .i64 0,.agg [.str [52],.str [56],.str [52]],.bool true],[]⟩
def F3:List Memo:=MJ::F1
theorem FS:cY F3:=List.forall_mem_cons.2 ⟨cB (lv:=ad) (K:=60) (n:=30) aa (ai _) (aj _) (bJ FR) (by as_aux_lemma=>kernel_rfl),FR⟩
def MK:Memo:=⟨116,[.agg [.slice 0 0 4 none,.slice 1 0 2 none],.agg [.slice 2 0 4 none,.slice 3 0 2 none,.slice 4 0 1 none],.agg [.str [51],.str [49],.str [49]]],[.cells false 2 [.str [48],.str [48],.str [52],.str [48],.str [52],.str [52],.str [48],.str [52]],.cells false 3 [.int .i64 0,.int .i64 1,.int .i64 2,.int .i64 0,.int .i64 2,.int .i64 3],.cells false 1 [.str [48],.str [48],.str [48],.str [48]],.cells false 1 [.str [97],.str [98]],.cells false 1 [.slice 5 0 4 none],.cells false 1 [.str [50],.str [50],.str [50],.str [50]]],.int .i64 0,[]⟩
def An:List Memo:=MK::F3
theorem Af:cY An:=List.forall_mem_cons.2 ⟨cB (lv:=ad) (K:=60) (n:=30) aa (ai _) (aj _) (bJ FS) (by as_aux_lemma=>kernel_rfl),FS⟩
def K0:Memo:=⟨52,[.agg [.slice 0 0 4 none,.slice 1 0 2 none,.str [103],.slice 2 0 2 none],.agg [.str [51],.str [49],.str [50]]],[.cells false 2 [.str [48],.str [48],.str [52],.str [48],.str [52],.str [52],.str [48],.str [52]],.cells false 3 [.int .i64 0,.int .i64 1,.int .i64 2,.int .i64 0,.int .i64 2,.int .i64 3],.cells false 32 [.int .i64 1,.str [98,101,100,115],.slice 3 0 4 none,.slice 4 0 2 none,.slice 5 0 1 none,.str [],.str [],.str [],.str [],.str [],.str [],.str [],.str [],.str [],.str [],.nilslice,.str [],.str [],.str [],.str [],.str [],.str [],.str [],.str [],.str [],.int .i64 0,.int .i64 0,.int .i64 0,.int .i64 0,.str [],.str [],.str [],.int .i64 2,.str [102,97,117,108,116],.nilslice,.nilslice,.nilslice,.str [49],.str [48],.str [48],.str [50],.str [48],.str [48],.str [49],.str [],.str [],.str [],.nilslice,.str [],.str [],.str [],.str [],.str [],.str [],.str [],.str [],.str [],.int .i64 0,.int .i64 0,.int .i64 0,.int .i64 0,.str [],.str [],.str []],.cells false 1 [.str [48],.str [48],.str [48],.str [48]],.cells false 1 [.str [97],.str [98]],.cells false 1 [.slice 6 0 4 none],.cells false 1 [.str [50],.str [50],.str [50],.str [50]]],.agg [.str [97],.slice 7 0 2 none,.int .i64 0,.str [51],.str [49],.str [49]],[.cells true 1 [.int .i64 1,.int .i64 0]]⟩
def Ao:List Memo:=K0::An
theorem Ag:cY Ao:=List.forall_mem_cons.2 ⟨cB (lv:=ad) (K:=60) (n:=30) aa (ai _) (aj _) (bJ Af) (by as_aux_lemma=>kernel_rfl),Af⟩
def K5:Memo:=⟨22,[.agg [.slice 0 0 4 none,.slice 1 0 2 none,.str [103],.slice 2 0 2 none],.agg [.str [51],.str [49],.str [50]]],[.cells false 2 [.str [48],.str [48],.str [52],.str [48],.str [52],.str [52],.str [48],.str [52]],.cells false 3 [.int .i64 0,.int .i64 1,.int .i64 2,.int .i64 0,.int .i64 2,.int .i64 3],.cells false 32 [.int .i64 1,.str [98,101,100,115],.slice 3 0 4 none,.slice 4 0 2 none,.slice 5 0 1 none,.str [],.str [],.str [],.str [],.str [],.str [],.str [],.str [],.str [],.str [],.nilslice,.str [],.str [],.str [],.str [],.str [],.str [],.str [],.str [],.str [],.int .i64 0,.int .i64 0,.int .i64 0,.int .i64 0,.str [],.str [],.str [],.int .i64 2,.str [102,97,117,108,116],.nilslice,.nilslice,.nilslice,.str [49],.str [48],.str [48],.str [50],.str [48],.str [48],.str [49],.str [],.str [],.str [],.nilslice,.str [],.str [],.str [],.str [],.str [],.str [],.str [],.str [],.str [],.int .i64 0,.int .i64 0,.int .i64 0,.int .i64 0,.str [],.str [],.str []],.cells false 1 [.str [48],.str [48],.str [48],.str [48]],.cells false 1 [.str [97],.str [98]],.cells false 1 [.slice 6 0 4 none],.cells false 1 [.str [50],.str [50],.str [50],.str [50]]],.tuple [.str [97],.int .i64 0],[]⟩
def Ap:List Memo:=K5::Ao
theorem Ah:cY Ap:=List.forall_mem_cons.2 ⟨cB (lv:=ad) (K:=60) (n:=30) aa (ai _) (aj _) (bJ Ag) (by as_aux_lemma=>kernel_rfl),Ag⟩
def K6:Memo:=⟨174,[.agg [.slice 0 0 4 none,.slice 1 0 2 none],.agg [.str [49],.str [49],.str [45,49]]],[.cells false 2 [.str [48],.str [48],.str [52],.str [48],.str [52],.str [52],.str [48],.str [52]],.cells false 3 [.int .i64 0,.int .i64 1,.int .i64 2,.int .i64 0,.int .i64 2,.int .i64 3]],.tuple [.int .i64 0,.agg [.str [49,50],.str [48],.str [52]],.bool true],[]⟩
def Aq:List Memo:=K6::Ap
theorem Ai:cY Aq:=List.forall_mem_cons.2 ⟨cB (lv:=ad) (K:=60) (n:=30) aa (ai _) (aj _) (bJ Ah) (by as_aux_lemma=>kernel_rfl),Ah⟩
def K7:Memo:=⟨116,[.agg [.slice 0 0 4 none,.slice 1 0 2 none],.agg [.slice 2 0 4 none,.slice 3 0 2 none,.slice 4 0 1 none],.agg [.str [49],.str [49],.str [45,49]]],[.cells false 2 [.str [48],.str [48],.str [52],.str [48],.str [52],.str [52],.str [48],.str [52]],.cells false 3 [.int .i64 0,.int .i64 1,.int .i64 2,.int .i64 0,.int .i64 2,.int .i64 3],.cells false 1 [.str [48],.str [48],.str [48],.str [48]],.cells false 1 [.str [97],.str [98]],.cells false 1 [.slice 5 0 4 none],.cells false 1 [.str [50],.str [50],.str [50],.str [50]]],.int .i64 (-1),[]⟩
def Ar:List Memo:=K7::Aq
theorem Aj:cY Ar:=List.forall_mem_cons.2 ⟨cB (lv:=ad) (K:=60) (n:=30) aa (ai _) (aj _) (bJ Ai) (by as_aux_lemma=>kernel_rfl),Ai⟩
def K8:Memo:=⟨52,[.agg [.slice 0 0 4 none,.slice 1 0 2 none,.str [103],.slice 2 0 2 none],.agg [.str [49],.str [49],.str [45,49]]],[.cells false 2 [.str [48],.str [48],.str [52],.str [48],.str [52],.str [52],.str [48],.str [52]],.cells false 3 [.int .i64 0,.int .i64 1,.int .i64 2,.int .i64 0,.int .i64 2,.int .i64 3],.cells false 32 [.int .i64 1,.str [98,101,100,115],.slice 3 0 4 none,.slice 4 0 2 none,.slice 5 0 1 none,.str [],.str [],.str [],.str [],.str [],.str [],.str [],.str [],.str [],.str [],.nilslice,.str [],.str [],.str [],.str [],.str [],.str [],.str [],.str [],.str [],.int .i64 0,.int .i64 0,.int .i64 0,.int .i64 0,.str [],.str [],.str [],.int .i64 2,.str [102,97,117,108,116],.nilslice,.nilslice,.nilslice,.str [49],.str [48],.str [48],.str [50],.str [48],.str [48],.str [49],.str [],.str [],.str [],.nilslice,.str [],.str [],.str [],.str [],.str [],.str [],.str [],.str [],.str [],.int .i64 0,.int .i64 0,.int .i64 0,.int .i64 0,.str [],.str [],.str []],.cells false 1 [.str [48],.str [48],.str [48],.str [48]],.cells false 1 [.str [97],.str [98]],.cells false 1 [.slice 6 0 4 none],.cells false 1 [.str [50],.str [50],.str [50],.str [50]]],.agg [.str [103],.slice 7 0 2 none,.int .i64 (-1),.str [49],.str [49],.str [45,49]],[.cells true 1 [.int .i64 0,.int .i64 (-1)]]⟩
def As:List Memo:=K8::Ar
theorem Ak:cY As:=List.forall_mem_cons.2 ⟨cB (lv:=ad) (K:=60) (n:=30) aa (ai _) (aj _) (bJ Aj) (by as_aux_lemma=>kernel_rfl),Aj⟩
def K9:Memo:=⟨22,[.agg [.slice 0 0 4 none,.slice 1 0 2 none,.str [103],.slice 2 0 2 none],.agg [.str [49],.str [49],.str [45,49]]],[.cells false 2 [.str [48],.str [48],.str [52],.str [48],.str [52],.str [52],.str [48],.str [52]],.cells false 3 [.int .i64 0,.int .i64 1,.int .i64 2,.int .i64 0,.int .i64 2,.int .i64 3],.cells false 32 [.int .i64 1,.str [98,101,100,115],.slice 3 0 4 none,.slice 4 0 2 none,.slice 5 0 1 none,.str [],.str [],.str [],.str [],.str [],.str [],.str [],.str [],.str [],.str [],.nilslice,.str [],.str [],.str [],.str [],.str [],.str [],.str [],.str [],.str [],.int .i64 0,.int .i64 0,.int .i64 0,.int .i64 0,.str [],.str [],.str [],.int .i64 2,.str [102,97,117,108,116],.nilslice,.nilslice,.nilslice,.str [49],.str [48],.str [48],.str [50],.str [48],.str [48],.str [49],.str [],.str [],.str [],.nilslice,.str [],.str [],.str [],.str [],.str [],.str [],.str [],.str [],.str [],.int .i64 0,.int .i64 0,.int .i64 0,.int .i64 0,.str [],.str [],.str []],.cells false 1 [.str [48],.str [48],.str [48],.str [48]],.cells false 1 [.str [97],.str [98]],.cells false 1 [.slice 6 0 4 none],.cells false 1 [.str [50],.str [50],.str [50],.str [50]]],.tuple [.str [103],.int .i64 0],[]⟩
def At:List Memo:=K9::As
theorem Al:cY At:=List.forall_mem_cons.2 ⟨cB (lv:=ad) (K:=60) (n:=30) aa (ai _) (aj _) (bJ Ak) (by as_aux_lemma=>kernel_rfl),Ak⟩
def La:Memo:=⟨26,[.agg [.slice 0 0 4 none,.slice 1 0 2 none,.str [103],.slice 2 0 2 none]],[.cells false 2 [.str [48],.str [48],.str [52],.str [48],.str [52],.str [52],.str [48],.str [52]],.cells false 3 [.int .i64 0,.int .i64 1,.int .i64 2,.int .i64 0,.int .i64 2,.int .i64 3],.cells false 32 [.int .i64 1,.str [98,101,100,115],.slice 3 0 4 none,.slice 4 0 2 none,.slice 5 0 1 none,.str [],.str [],.str [],.str [],.str [],.str [],.str [],.str [],.str [],.str [],.nilslice,.str [],.str [],.str [],.str [],.str [],.str [],.str [],.str [],.str [],.int .i64 0,.int .i64 0,.int .i64 0,.int .i64 0,.str [],.str [],.str [],.int .i64 2,.str [102,97,117,108,116],.nilslice,.nilslice,.nilslice,.str [49],.str [48],.str [48],.str [50],.str [48],.str [48],.str [49],.str [],.str [],.str [],.nilslice,.str [],.str [],.str [],.str [],.str [],.str [],.str [],.str [],.str [],.int .i64 0,.int .i64 0,.int .i64 0,.int .i64 0,.str [],.str [],.str []],.cells false 1 [.str [48],.str [48],.str [48],.str [48]],.cells false 1 [.str [97],.str [98]],.cells false 1 [.slice 6 0 4 none],.cells false 1 [.str [50],.str [50],.str [50],.str [50]]],.tuple [.slice 7 0 3 none,.int .i64 0],[.cells true 1 [.str [103],.str [97],.str [98]]]⟩
def Au:List Memo:=La::At
theorem Am:cY Au:=List.forall_mem_cons.2 ⟨cB (lv:=ad) (K:=60) (n:=30) aa (ai _) (aj _) (bJ Al) (by as_aux_lemma=>kernel_rfl),Al⟩
def Lb:Memo:=⟨24,[.agg [.slice 0 0 4 none,.slice 1 0 2 none,.str [103],.slice 2 0 2 none],.agg [.str [51],.str [49],.str [50]],.int .i64 1],[.cells false 2 [.str [48],.str [48],.str [52],.str [48],.str [52],.str [52],.str [48],.str [52]],.cells false 3 [.int .i64 0,.int .i64 1,.int .i64 2,.int .i64 0,.int .i64 2,.int .i64 3],.cells false 32 [.int .i64 1,.str [98,101,100,115],.slice 3 0 4 none,.slice 4 0 2 none,.slice 5 0 1 none,.str [],.str [],.str [],.str [],.str [],.str [],.str [],.str [],.str [],.str [],.nilslice,.str [],.str [],.str [],.str [],.str [],.str [],.str [],.str [],.str [],.int .i64 0,.int .i64 0,.int .i64 0,.int .i64 0,.str [],.str [],.str [],.int .i64 2,.str [102,97,117,108,116],.nilslice,.nilslice,.nilslice,.str [49],.str [48],.str [48],.str [50],.str [48],.str [48],.str [49],.str [],.str [],.str [],.nilslice,.str [],.str [],.str [],.str [],.str [],.str [],.str [],.str [],.str [],.int .i64 0,.int .i64 0,.int .i64 0,.int .i64 0,.str [],.str [],.str []],.cells false 1 [.str [48],.str [48],.str [48],.str [48]],.cells false 1 [.str [97],.str [98]],.cells false 1 [.slice 6 0 4 none],.cells false 1 [.str [50],.str [50],.str [50],.str [50]]],.tuple [.agg [.str [51],.str [49],.str [49]],.int .i64 0],[]⟩
def Av:List Memo:=Lb::Au
theorem KZ:cY Av:=List.forall_mem_cons.2 ⟨cB (lv:=ad) (K:=60) (n:=30) aa (ai _) (aj _) (bJ Am) (by as_aux_lemma=>kernel_rfl),Am⟩
theorem IJ:(sf (az Tryz.prog) ad (aI Tryz.prog) (JM Av) 60 30 (.fn 6) [] []).map NJ=some true:=by
 kernel_rfl
theorem rm(M:Mem):ACallsTo Tryz.prog 6 [] M (.bool true) M:=by
 have h:=IJ
 rw[Option.map_eq_some_iff] at h
 obtain⟨r,h1,h2⟩:=h
 have:=(jn aa (ai _) (aj _) (bJ KZ) 30).fn _ _ _ _ h1
 obtain⟨e1,e2⟩:=Jq h2
 rw[e1,e2] at this
 exact ACallsTo.lift rfl rfl this M
end Go.Proofs
