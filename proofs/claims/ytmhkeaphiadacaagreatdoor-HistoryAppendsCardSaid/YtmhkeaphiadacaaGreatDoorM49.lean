/- See M58. -/
import Derived.Test.YtmhkeaphiadacaaGreatDoorM32
import Derived.Test.YtmhkeaphiadacaaGreatDoorM24
import Derived.Test.YtmhkeaphiadacaaGreatDoorM28
import Derived.Test.YtmhkeaphiadacaaGreatDoorM08
import Derived.KernelRfl
set_option linter.all false
namespace Go.Proofs
open Go.Eng
def sqP:List AV:=[.str [48],.str [48],.str [52],.str [48],.str [52],.str [52],.str [48],.str [52]]
def sqT:List AV:=[.int .i64 0,.int .i64 1,.int .i64 2,.int .i64 0,.int .i64 2,.int .i64 3]
theorem sV:q9 (aA Tryz.prog) ab (aF Tryz.prog) JE 60 10 (.fn 41) [.agg [.slice 0 0 4 none,.slice 1 0 2 none]] [.cells false 2 sqP,.cells false 3 sqT]=some ⟨.int .i64 0,some [.cells false 2 sqP,.cells false 3 sqT],[]⟩:=by
 kernel_rfl
theorem zi:ACallsTo Tryz.prog 41 [.agg [.slice 0 0 4 none,.slice 1 0 2 none]] [.cells false 2 sqP,.cells false 3 sqT] (.int .i64 0) [.cells false 2 sqP,.cells false 3 sqT]:=by
 have:=(jq aa (aj _) (al _) Ip 10).fn _ _ _ _ sV
 simpa [CallRes.mem] using this
def JK:List AV→List AV→Bool
 | [],[]=>true
 |.str a::l,.str b::r=>(a==b)&&JK l r
 |.int .i64 a::l,.int .i64 b::r=>decide (a=b)&&JK l r
 |_,_=>false
theorem Bi:∀{l r:List AV},JK l r=true→l=r
 | [],r,h=>by cases r<;>first | rfl | (unfold JK at h;cases h)
 |v::l,r,h=>by
  unfold JK at h
  split at h
  ·rename_i h1;cases h1
  ·rename_i h1
   cases h1
   simp only[Bool.and_eq_true,beq_iff_eq] at h
   rw[h.1,Bi h.2]
  ·rename_i h1
   cases h1
   simp only[Bool.and_eq_true,decide_eq_true_eq] at h
   rw[h.1,Bi h.2]
  ·cases h
def Lp(M:Mem) (b e:Nat) (cs:List AV):Bool:=match M[b]? with
 |some (.cells _ es l)=>decide (es=e)&&JK (l.take cs.length) cs
 |_=>false
theorem GR{M:Mem}{b e:Nat}{cs:List AV}{ks:List Nat}(h:Lp M b e cs=true) (hu:AV.closeds cs=true):b<M.length∧SubSlot ks M b (.cells false e cs):=by
 unfold Lp at h
 split at h
 ·rename_i o es l hb
  simp only[Bool.and_eq_true,decide_eq_true_eq] at h
  obtain⟨rfl,h2⟩:=h
  have h2:=Bi h2
  refine⟨(List.getElem?_eq_some_iff.1 hb).1,cn hu,o,l,hb,fun j v hv=>?_⟩
  have hj:=(List.getElem?_eq_some_iff.1 hv).1
  have:l[j]? =cs[j]? :=by
   rw[←List.getElem?_take_of_lt hj,h2]
  have hr:=bA (ρ:=cR ks M.length) hu
  rw[fg] at hr
  have hr2:(cs.map (AV.ren (cR ks M.length)))[j]? =cs[j]? :=by rw[hr]
  rw[List.getElem?_map,hv] at hr2
  rw[this,hv];exact hr2.symm
 ·cases h
theorem zo(M:Mem) (b c:Nat) (h1:Lp M b 2 sqP=true) (h2:Lp M c 3 sqT=true):ACallsTo Tryz.prog 41 [.agg [.slice b 0 4 none,.slice c 0 2 none]] M (.int .i64 0) M:=by
 have k1:=GR (ks:=[b,c]) h1 (by rfl)
 have k2:=GR (ks:=[b,c]) h2 (by rfl)
 have:=ACallsTo.frame (M:=M) (new:=[]) [b,c] (m:=[.cells false 2 sqP,.cells false 3 sqT]) rfl (by
  intro k hk
  simp only[List.mem_cons,List.not_mem_nil,or_false] at hk
  rcases hk with h | h
  ·rw[h];exact k1.1
  ·rw[h];exact k2.1) (by rfl) (fun i s hs=>by
  match i with
  |0=>simp at hs;subst hs;exact k1.2
  |1=>simp at hs;subst hs;exact k2.2
  |i+2=>simp at hs) rfl zi
 simpa [AV.rens,AV.ren,cR] using this
def AW(c:Go.Eng.Callee) (args:List AV) (M:Mem):Option CallRes:=match c,args with
 |.fn 41,[.agg [.slice b 0 4 none,.slice c 0 2 none]]=>if Lp M b 2 sqP&&Lp M c 3 sqT then some ⟨.int .i64 0,none,[]⟩ else none
 |_,_=>none
theorem Ib:OracleOk Tryz.prog AW:=by
 refine cH fun c args M r h=>?_
 unfold AW at h
 split at h
 ·split at h
  ·rename_i hc
   simp only[Bool.and_eq_true] at hc
   cases h
   refine au ?_
   rw[List.append_nil]
   exact zo M _ _ hc.1 hc.2
  ·cases h
 ·cases h
def Nf(r:CallRes):Bool:=(match r.v with
 |.bool b=>b
 |_=>false)&&r.new.isEmpty&&(match r.pre with
 |some p=>p.isEmpty
 |none=>true)
theorem IT{r:CallRes}(h:Nf r=true):r.v=.bool true∧r.mem []=[]:=by
 obtain⟨v,pre,new⟩:=r
 simp only[Nf,Bool.and_eq_true,List.isEmpty_iff] at h
 obtain⟨⟨h1,rfl⟩,h3⟩:=h
 constructor
 ·cases v<;>first | (cases h1;done) | skip
  simp only at h1
  rw[h1]
 ·cases pre with
  |none=>rfl
  |some p=>simp only[List.isEmpty_iff] at h3;subst h3;rfl
noncomputable def Jm:Oracle:=Oracle.or AW (Oracle.or (ao aZ) (ao qR))
theorem IV:OracleOk Tryz.prog Jm:=OracleOk.or Ib (OracleOk.or dA yx)
def cT(l:List Memo):Prop:=∀e∈l,ACallsTo Tryz.prog e.f e.args e.m e.v (e.m++e.new)
noncomputable def JA(l:List Memo):Oracle:=Oracle.or (If l) Jm
theorem bC{l:List Memo}(h:cT l):OracleOk Tryz.prog (JA l):=OracleOk.or (O3 h) IV
def Fa:List Memo:=[]
theorem GT:cT Fa:=fun e he=>by cases he
def Nv:Memo:=⟨31,[],[],.agg [.slice 0 0 4 none,.slice 1 0 2 none,.str [103],.slice 2 0 2 none],[.cells true 2 [.str [48],.str [48],.str [52],.str [48],.str [52],.str [52],.str [48],.str [52]],.cells true 3 [.int .i64 0,.int .i64 1,.int .i64 2,.int .i64 0,.int .i64 2,.int .i64 3],.cells true 32 [.int .i64 1,.str [98,101,100,115],.slice 3 0 4 none,.slice 4 0 2 none,.slice 5 0 1 none,.str [],.str [],.str [],.str [],.str [],.str [],.str [],.str [],.str [],.str [],.nilslice,.str [],.str [],.str [],.str [],.str [],.str [],.str [],.str [],.str [],.int .i64 0,.int .i64 0,.int .i64 0,.int .i64 0,.str [],.str [],.str [],.int .i64 2,.str [102,97,117,108,116],.nilslice,.nilslice,.nilslice,.str [49],.str [48],.str [48],.str [50],.str [48],.str [48],.str [49],.str [],.str [],.str [],.nilslice,.str [],.str [],.str [],.str [],.str [],.str [],.str [],.str [],.str [],.int .i64 0,.int .i64 0,.int .i64 0,.int .i64 0,.str [],.str [],.str []],.cells true 1 [.str [48],.str [48],.str [48],.str [48]],.cells true 1 [.str [97],.str [98]],.cells true 1 [.slice 6 0 4 none],.cells true 1 [.str [50],.str [50],.str [50],.str [50]]]⟩
def De:List Memo:=Nv::Fa
theorem GX:cT De:=List.forall_mem_cons.2 ⟨cr (lv:=ab) (K:=60) (n:=30) aa (aj _) (al _) (bC GT) (by as_aux_lemma=>kernel_rfl),GT⟩
def Mv:Memo:=⟨43,[.agg [.slice 0 0 4 none,.slice 1 0 2 none],.agg [.int .i64 1,.str [98,101,100,115],.slice 2 0 4 none,.slice 3 0 2 none,.slice 4 0 1 none,.str [],.str [],.str [],.str [],.str [],.str [],.str [],.str [],.str [],.str [],.nilslice,.str [],.str [],.str [],.str [],.str [],.str [],.str [],.str [],.str [],.int .i64 0,.int .i64 0,.int .i64 0,.int .i64 0,.str [],.str [],.str []]],[.cells false 2 [.str [48],.str [48],.str [52],.str [48],.str [52],.str [52],.str [48],.str [52]],.cells false 3 [.int .i64 0,.int .i64 1,.int .i64 2,.int .i64 0,.int .i64 2,.int .i64 3],.cells false 1 [.str [48],.str [48],.str [48],.str [48]],.cells false 1 [.str [97],.str [98]],.cells false 1 [.slice 5 0 4 none],.cells false 1 [.str [50],.str [50],.str [50],.str [50]]],.int .i64 0,[]⟩
def GN:List Memo:=Mv::De
theorem FW:cT GN:=List.forall_mem_cons.2 ⟨cr (lv:=ab) (K:=60) (n:=30) aa (aj _) (al _) (bC GX) (by as_aux_lemma=>kernel_rfl),GX⟩
def M8:Memo:=⟨43,[.agg [.slice 0 0 4 none,.slice 1 0 2 none],.agg [.int .i64 2,.str [102,97,117,108,116],.nilslice,.nilslice,.nilslice,.str [49],.str [48],.str [48],.str [50],.str [48],.str [48],.str [49],.str [],.str [],.str [],.nilslice,.str [],.str [],.str [],.str [],.str [],.str [],.str [],.str [],.str [],.int .i64 0,.int .i64 0,.int .i64 0,.int .i64 0,.str [],.str [],.str []]],[.cells false 2 [.str [48],.str [48],.str [52],.str [48],.str [52],.str [52],.str [48],.str [52]],.cells false 3 [.int .i64 0,.int .i64 1,.int .i64 2,.int .i64 0,.int .i64 2,.int .i64 3]],.int .i64 0,[]⟩
def Fm:List Memo:=M8::GN
theorem EF:cT Fm:=List.forall_mem_cons.2 ⟨cr (lv:=ab) (K:=60) (n:=30) aa (aj _) (al _) (bC FW) (by as_aux_lemma=>kernel_rfl),FW⟩
def L7:Memo:=⟨20,[.agg [.slice 0 0 4 none,.slice 1 0 2 none,.str [103],.slice 2 0 2 none]],[.cells false 2 [.str [48],.str [48],.str [52],.str [48],.str [52],.str [52],.str [48],.str [52]],.cells false 3 [.int .i64 0,.int .i64 1,.int .i64 2,.int .i64 0,.int .i64 2,.int .i64 3],.cells false 32 [.int .i64 1,.str [98,101,100,115],.slice 3 0 4 none,.slice 4 0 2 none,.slice 5 0 1 none,.str [],.str [],.str [],.str [],.str [],.str [],.str [],.str [],.str [],.str [],.nilslice,.str [],.str [],.str [],.str [],.str [],.str [],.str [],.str [],.str [],.int .i64 0,.int .i64 0,.int .i64 0,.int .i64 0,.str [],.str [],.str [],.int .i64 2,.str [102,97,117,108,116],.nilslice,.nilslice,.nilslice,.str [49],.str [48],.str [48],.str [50],.str [48],.str [48],.str [49],.str [],.str [],.str [],.nilslice,.str [],.str [],.str [],.str [],.str [],.str [],.str [],.str [],.str [],.int .i64 0,.int .i64 0,.int .i64 0,.int .i64 0,.str [],.str [],.str []],.cells false 1 [.str [48],.str [48],.str [48],.str [48]],.cells false 1 [.str [97],.str [98]],.cells false 1 [.slice 6 0 4 none],.cells false 1 [.str [50],.str [50],.str [50],.str [50]]],.int .i64 0,[]⟩
def E3:List Memo:=L7::Fm
theorem GS:cT E3:=List.forall_mem_cons.2 ⟨cr (lv:=ab) (K:=60) (n:=30) aa (aj _) (al _) (bC EF) (by as_aux_lemma=>kernel_rfl),EF⟩
def Na:Memo:=⟨174,[.agg [.slice 0 0 4 none,.slice 1 0 2 none],.agg [.str [49],.str [49],.str [50]]],[.cells false 2 [.str [48],.str [48],.str [52],.str [48],.str [52],.str [52],.str [48],.str [52]],.cells false 3 [.int .i64 0,.int .i64 1,.int .i64 2,.int .i64 0,.int .i64 2,.int .i64 3]],.tuple [.int .i64 0,.agg [.str [49,50],.str [48],.str [52]],.bool true],[]⟩
def Cm:List Memo:=Na::E3
theorem EC:cT Cm:=List.forall_mem_cons.2 ⟨cr (lv:=ab) (K:=60) (n:=30) aa (aj _) (al _) (bC GS) (by as_aux_lemma=>kernel_rfl),GS⟩
def MY:Memo:=⟨116,[.agg [.slice 0 0 4 none,.slice 1 0 2 none],.agg [.slice 2 0 4 none,.slice 3 0 2 none,.slice 4 0 1 none],.agg [.str [49],.str [49],.str [50]]],[.cells false 2 [.str [48],.str [48],.str [52],.str [48],.str [52],.str [52],.str [48],.str [52]],.cells false 3 [.int .i64 0,.int .i64 1,.int .i64 2,.int .i64 0,.int .i64 2,.int .i64 3],.cells false 1 [.str [48],.str [48],.str [48],.str [48]],.cells false 1 [.str [97],.str [98]],.cells false 1 [.slice 5 0 4 none],.cells false 1 [.str [50],.str [50],.str [50],.str [50]]],.int .i64 1,[]⟩
def Gy:List Memo:=MY::Cm
theorem EN:cT Gy:=List.forall_mem_cons.2 ⟨cr (lv:=ab) (K:=60) (n:=30) aa (aj _) (al _) (bC EC) (by as_aux_lemma=>kernel_rfl),EC⟩
def M6:Memo:=⟨52,[.agg [.slice 0 0 4 none,.slice 1 0 2 none,.str [103],.slice 2 0 2 none],.agg [.str [49],.str [49],.str [50]]],[.cells false 2 [.str [48],.str [48],.str [52],.str [48],.str [52],.str [52],.str [48],.str [52]],.cells false 3 [.int .i64 0,.int .i64 1,.int .i64 2,.int .i64 0,.int .i64 2,.int .i64 3],.cells false 32 [.int .i64 1,.str [98,101,100,115],.slice 3 0 4 none,.slice 4 0 2 none,.slice 5 0 1 none,.str [],.str [],.str [],.str [],.str [],.str [],.str [],.str [],.str [],.str [],.nilslice,.str [],.str [],.str [],.str [],.str [],.str [],.str [],.str [],.str [],.int .i64 0,.int .i64 0,.int .i64 0,.int .i64 0,.str [],.str [],.str [],.int .i64 2,.str [102,97,117,108,116],.nilslice,.nilslice,.nilslice,.str [49],.str [48],.str [48],.str [50],.str [48],.str [48],.str [49],.str [],.str [],.str [],.nilslice,.str [],.str [],.str [],.str [],.str [],.str [],.str [],.str [],.str [],.int .i64 0,.int .i64 0,.int .i64 0,.int .i64 0,.str [],.str [],.str []],.cells false 1 [.str [48],.str [48],.str [48],.str [48]],.cells false 1 [.str [97],.str [98]],.cells false 1 [.slice 6 0 4 none],.cells false 1 [.str [50],.str [50],.str [50],.str [50]]],.agg [.str [98],.slice 7 0 2 none,.int .i64 0,.str [49],.str [49],.str [50]],[.cells true 1 [.int .i64 0,.int .i64 1]]⟩
def FQ:List Memo:=M6::Gy
theorem FC:cT FQ:=List.forall_mem_cons.2 ⟨cr (lv:=ab) (K:=60) (n:=30) aa (aj _) (al _) (bC EN) (by as_aux_lemma=>kernel_rfl),EN⟩
def LS:Memo:=⟨22,[.agg [.slice 0 0 4 none,.slice 1 0 2 none,.str [103],.slice 2 0 2 none],.agg [.str [49],.str [49],.str [50]]],[.cells false 2 [.str [48],.str [48],.str [52],.str [48],.str [52],.str [52],.str [48],.str [52]],.cells false 3 [.int .i64 0,.int .i64 1,.int .i64 2,.int .i64 0,.int .i64 2,.int .i64 3],.cells false 32 [.int .i64 1,.str [98,101,100,115],.slice 3 0 4 none,.slice 4 0 2 none,.slice 5 0 1 none,.str [],.str [],.str [],.str [],.str [],.str [],.str [],.str [],.str [],.str [],.nilslice,.str [],.str [],.str [],.str [],.str [],.str [],.str [],.str [],.str [],.int .i64 0,.int .i64 0,.int .i64 0,.int .i64 0,.str [],.str [],.str [],.int .i64 2,.str [102,97,117,108,116],.nilslice,.nilslice,.nilslice,.str [49],.str [48],.str [48],.str [50],.str [48],.str [48],.str [49],.str [],.str [],.str [],.nilslice,.str [],.str [],.str [],.str [],.str [],.str [],.str [],.str [],.str [],.int .i64 0,.int .i64 0,.int .i64 0,.int .i64 0,.str [],.str [],.str []],.cells false 1 [.str [48],.str [48],.str [48],.str [48]],.cells false 1 [.str [97],.str [98]],.cells false 1 [.slice 6 0 4 none],.cells false 1 [.str [50],.str [50],.str [50],.str [50]]],.tuple [.str [98],.int .i64 0],[]⟩
def Ef:List Memo:=LS::FQ
theorem Ee:cT Ef:=List.forall_mem_cons.2 ⟨cr (lv:=ab) (K:=60) (n:=30) aa (aj _) (al _) (bC FC) (by as_aux_lemma=>kernel_rfl),FC⟩
def Nl:Memo:=⟨174,[.agg [.slice 0 0 4 none,.slice 1 0 2 none],.agg [.str [51],.str [49],.str [49]]],[.cells false 2 [.str [48],.str [48],.str [52],.str [48],.str [52],.str [52],.str [48],.str [52]],.cells false 3 [.int .i64 0,.int .i64 1,.int .i64 2,.int .i64 0,.int .i64 2,.int .i64 3]],.tuple [.int .i64 0,.agg [.str [52],.str [56],.str [52]],.bool true],[]⟩
def Ex:List Memo:=Nl::Ef
theorem GM:cT Ex:=List.forall_mem_cons.2 ⟨cr (lv:=ab) (K:=60) (n:=30) aa (aj _) (al _) (bC Ee) (by as_aux_lemma=>kernel_rfl),Ee⟩
def L8:Memo:=⟨116,[.agg [.slice 0 0 4 none,.slice 1 0 2 none],.agg [.slice 2 0 4 none,.slice 3 0 2 none,.slice 4 0 1 none],.agg [.str [51],.str [49],.str [49]]],[.cells false 2 [.str [48],.str [48],.str [52],.str [48],.str [52],.str [52],.str [48],.str [52]],.cells false 3 [.int .i64 0,.int .i64 1,.int .i64 2,.int .i64 0,.int .i64 2,.int .i64 3],.cells false 1 [.str [48],.str [48],.str [48],.str [48]],.cells false 1 [.str [97],.str [98]],.cells false 1 [.slice 5 0 4 none],.cells false 1 [.str [50],.str [50],.str [50],.str [50]]],.int .i64 0,[]⟩
def Ab:List Memo:=L8::Ex
theorem zI:cT Ab:=List.forall_mem_cons.2 ⟨cr (lv:=ab) (K:=60) (n:=30) aa (aj _) (al _) (bC GM) (by as_aux_lemma=>kernel_rfl),GM⟩
def KX:Memo:=⟨52,[.agg [.slice 0 0 4 none,.slice 1 0 2 none,.str [103],.slice 2 0 2 none],.agg [.str [51],.str [49],.str [50]]],[.cells false 2 [.str [48],.str [48],.str [52],.str [48],.str [52],.str [52],.str [48],.str [52]],.cells false 3 [.int .i64 0,.int .i64 1,.int .i64 2,.int .i64 0,.int .i64 2,.int .i64 3],.cells false 32 [.int .i64 1,.str [98,101,100,115],.slice 3 0 4 none,.slice 4 0 2 none,.slice 5 0 1 none,.str [],.str [],.str [],.str [],.str [],.str [],.str [],.str [],.str [],.str [],.nilslice,.str [],.str [],.str [],.str [],.str [],.str [],.str [],.str [],.str [],.int .i64 0,.int .i64 0,.int .i64 0,.int .i64 0,.str [],.str [],.str [],.int .i64 2,.str [102,97,117,108,116],.nilslice,.nilslice,.nilslice,.str [49],.str [48],.str [48],.str [50],.str [48],.str [48],.str [49],.str [],.str [],.str [],.nilslice,.str [],.str [],.str [],.str [],.str [],.str [],.str [],.str [],.str [],.int .i64 0,.int .i64 0,.int .i64 0,.int .i64 0,.str [],.str [],.str []],.cells false 1 [.str [48],.str [48],.str [48],.str [48]],.cells false 1 [.str [97],.str [98]],.cells false 1 [.slice 6 0 4 none],.cells false 1 [.str [50],.str [50],.str [50],.str [50]]],.agg [.str [97],.slice 7 0 2 none,.int .i64 0,.str [51],.str [49],.str [49]],[.cells true 1 [.int .i64 1,.int .i64 0]]⟩
def AI:List Memo:=KX::Ab
theorem zY:cT AI:=List.forall_mem_cons.2 ⟨cr (lv:=ab) (K:=60) (n:=30) aa (aj _) (al _) (bC zI) (by as_aux_lemma=>kernel_rfl),zI⟩
def Lz:Memo:=⟨22,[.agg [.slice 0 0 4 none,.slice 1 0 2 none,.str [103],.slice 2 0 2 none],.agg [.str [51],.str [49],.str [50]]],[.cells false 2 [.str [48],.str [48],.str [52],.str [48],.str [52],.str [52],.str [48],.str [52]],.cells false 3 [.int .i64 0,.int .i64 1,.int .i64 2,.int .i64 0,.int .i64 2,.int .i64 3],.cells false 32 [.int .i64 1,.str [98,101,100,115],.slice 3 0 4 none,.slice 4 0 2 none,.slice 5 0 1 none,.str [],.str [],.str [],.str [],.str [],.str [],.str [],.str [],.str [],.str [],.nilslice,.str [],.str [],.str [],.str [],.str [],.str [],.str [],.str [],.str [],.int .i64 0,.int .i64 0,.int .i64 0,.int .i64 0,.str [],.str [],.str [],.int .i64 2,.str [102,97,117,108,116],.nilslice,.nilslice,.nilslice,.str [49],.str [48],.str [48],.str [50],.str [48],.str [48],.str [49],.str [],.str [],.str [],.nilslice,.str [],.str [],.str [],.str [],.str [],.str [],.str [],.str [],.str [],.int .i64 0,.int .i64 0,.int .i64 0,.int .i64 0,.str [],.str [],.str []],.cells false 1 [.str [48],.str [48],.str [48],.str [48]],.cells false 1 [.str [97],.str [98]],.cells false 1 [.slice 6 0 4 none],.cells false 1 [.str [50],.str [50],.str [50],.str [50]]],.tuple [.str [97],.int .i64 0],[]⟩
def zG:List Memo:=Lz::AI
theorem AG:cT zG:=List.forall_mem_cons.2 ⟨cr (lv:=ab) (K:=60) (n:=30) aa (aj _) (al _) (bC zY) (by as_aux_lemma=>kernel_rfl),zY⟩
def JM:Memo:=⟨174,[.agg [.slice 0 0 4 none,.slice 1 0 2 none],.agg [.str [49],.str [49],.str [45,49]]],[.cells false 2 [.str [48],.str [48],.str [52],.str [48],.str [52],.str [52],.str [48],.str [52]],.cells false 3 [.int .i64 0,.int .i64 1,.int .i64 2,.int .i64 0,.int .i64 2,.int .i64 3]],.tuple [.int .i64 0,.agg [.str [49,50],.str [48],.str [52]],.bool true],[]⟩
def AL:List Memo:=JM::zG
theorem AA:cT AL:=List.forall_mem_cons.2 ⟨cr (lv:=ab) (K:=60) (n:=30) aa (aj _) (al _) (bC AG) (by as_aux_lemma=>kernel_rfl),AG⟩
def LB:Memo:=⟨116,[.agg [.slice 0 0 4 none,.slice 1 0 2 none],.agg [.slice 2 0 4 none,.slice 3 0 2 none,.slice 4 0 1 none],.agg [.str [49],.str [49],.str [45,49]]],[.cells false 2 [.str [48],.str [48],.str [52],.str [48],.str [52],.str [52],.str [48],.str [52]],.cells false 3 [.int .i64 0,.int .i64 1,.int .i64 2,.int .i64 0,.int .i64 2,.int .i64 3],.cells false 1 [.str [48],.str [48],.str [48],.str [48]],.cells false 1 [.str [97],.str [98]],.cells false 1 [.slice 5 0 4 none],.cells false 1 [.str [50],.str [50],.str [50],.str [50]]],.int .i64 (-1),[]⟩
def Ax:List Memo:=LB::AL
theorem zU:cT Ax:=List.forall_mem_cons.2 ⟨cr (lv:=ab) (K:=60) (n:=30) aa (aj _) (al _) (bC AA) (by as_aux_lemma=>kernel_rfl),AA⟩
def Ld:Memo:=⟨52,[.agg [.slice 0 0 4 none,.slice 1 0 2 none,.str [103],.slice 2 0 2 none],.agg [.str [49],.str [49],.str [45,49]]],[.cells false 2 [.str [48],.str [48],.str [52],.str [48],.str [52],.str [52],.str [48],.str [52]],.cells false 3 [.int .i64 0,.int .i64 1,.int .i64 2,.int .i64 0,.int .i64 2,.int .i64 3],.cells false 32 [.int .i64 1,.str [98,101,100,115],.slice 3 0 4 none,.slice 4 0 2 none,.slice 5 0 1 none,.str [],.str [],.str [],.str [],.str [],.str [],.str [],.str [],.str [],.str [],.nilslice,.str [],.str [],.str [],.str [],.str [],.str [],.str [],.str [],.str [],.int .i64 0,.int .i64 0,.int .i64 0,.int .i64 0,.str [],.str [],.str [],.int .i64 2,.str [102,97,117,108,116],.nilslice,.nilslice,.nilslice,.str [49],.str [48],.str [48],.str [50],.str [48],.str [48],.str [49],.str [],.str [],.str [],.nilslice,.str [],.str [],.str [],.str [],.str [],.str [],.str [],.str [],.str [],.int .i64 0,.int .i64 0,.int .i64 0,.int .i64 0,.str [],.str [],.str []],.cells false 1 [.str [48],.str [48],.str [48],.str [48]],.cells false 1 [.str [97],.str [98]],.cells false 1 [.slice 6 0 4 none],.cells false 1 [.str [50],.str [50],.str [50],.str [50]]],.agg [.str [103],.slice 7 0 2 none,.int .i64 (-1),.str [49],.str [49],.str [45,49]],[.cells true 1 [.int .i64 0,.int .i64 (-1)]]⟩
def zT:List Memo:=Ld::Ax
theorem zF:cT zT:=List.forall_mem_cons.2 ⟨cr (lv:=ab) (K:=60) (n:=30) aa (aj _) (al _) (bC zU) (by as_aux_lemma=>kernel_rfl),zU⟩
def K6:Memo:=⟨22,[.agg [.slice 0 0 4 none,.slice 1 0 2 none,.str [103],.slice 2 0 2 none],.agg [.str [49],.str [49],.str [45,49]]],[.cells false 2 [.str [48],.str [48],.str [52],.str [48],.str [52],.str [52],.str [48],.str [52]],.cells false 3 [.int .i64 0,.int .i64 1,.int .i64 2,.int .i64 0,.int .i64 2,.int .i64 3],.cells false 32 [.int .i64 1,.str [98,101,100,115],.slice 3 0 4 none,.slice 4 0 2 none,.slice 5 0 1 none,.str [],.str [],.str [],.str [],.str [],.str [],.str [],.str [],.str [],.str [],.nilslice,.str [],.str [],.str [],.str [],.str [],.str [],.str [],.str [],.str [],.int .i64 0,.int .i64 0,.int .i64 0,.int .i64 0,.str [],.str [],.str [],.int .i64 2,.str [102,97,117,108,116],.nilslice,.nilslice,.nilslice,.str [49],.str [48],.str [48],.str [50],.str [48],.str [48],.str [49],.str [],.str [],.str [],.nilslice,.str [],.str [],.str [],.str [],.str [],.str [],.str [],.str [],.str [],.int .i64 0,.int .i64 0,.int .i64 0,.int .i64 0,.str [],.str [],.str []],.cells false 1 [.str [48],.str [48],.str [48],.str [48]],.cells false 1 [.str [97],.str [98]],.cells false 1 [.slice 6 0 4 none],.cells false 1 [.str [50],.str [50],.str [50],.str [50]]],.tuple [.str [103],.int .i64 0],[]⟩
def Aj:List Memo:=K6::zT
theorem An:cT Aj:=List.forall_mem_cons.2 ⟨cr (lv:=ab) (K:=60) (n:=30) aa (aj _) (al _) (bC zF) (by as_aux_lemma=>kernel_rfl),zF⟩
def Kn:Memo:=⟨26,[.agg [.slice 0 0 4 none,.slice 1 0 2 none,.str [103],.slice 2 0 2 none]],[.cells false 2 [.str [48],.str [48],.str [52],.str [48],.str [52],.str [52],.str [48],.str [52]],.cells false 3 [.int .i64 0,.int .i64 1,.int .i64 2,.int .i64 0,.int .i64 2,.int .i64 3],.cells false 32 [.int .i64 1,.str [98,101,100,115],.slice 3 0 4 none,.slice 4 0 2 none,.slice 5 0 1 none,.str [],.str [],.str [],.str [],.str [],.str [],.str [],.str [],.str [],.str [],.nilslice,.str [],.str [],.str [],.str [],.str [],.str [],.str [],.str [],.str [],.int .i64 0,.int .i64 0,.int .i64 0,.int .i64 0,.str [],.str [],.str [],.int .i64 2,.str [102,97,117,108,116],.nilslice,.nilslice,.nilslice,.str [49],.str [48],.str [48],.str [50],.str [48],.str [48],.str [49],.str [],.str [],.str [],.nilslice,.str [],.str [],.str [],.str [],.str [],.str [],.str [],.str [],.str [],.int .i64 0,.int .i64 0,.int .i64 0,.int .i64 0,.str [],.str [],.str []],.cells false 1 [.str [48],.str [48],.str [48],.str [48]],.cells false 1 [.str [97],.str [98]],.cells false 1 [.slice 6 0 4 none],.cells false 1 [.str [50],.str [50],.str [50],.str [50]]],.tuple [.slice 7 0 3 none,.int .i64 0],[.cells true 1 [.str [103],.str [97],.str [98]]]⟩
def zO:List Memo:=Kn::Aj
theorem Ai:cT zO:=List.forall_mem_cons.2 ⟨cr (lv:=ab) (K:=60) (n:=30) aa (aj _) (al _) (bC An) (by as_aux_lemma=>kernel_rfl),An⟩
def Kg:Memo:=⟨24,[.agg [.slice 0 0 4 none,.slice 1 0 2 none,.str [103],.slice 2 0 2 none],.agg [.str [51],.str [49],.str [50]],.int .i64 1],[.cells false 2 [.str [48],.str [48],.str [52],.str [48],.str [52],.str [52],.str [48],.str [52]],.cells false 3 [.int .i64 0,.int .i64 1,.int .i64 2,.int .i64 0,.int .i64 2,.int .i64 3],.cells false 32 [.int .i64 1,.str [98,101,100,115],.slice 3 0 4 none,.slice 4 0 2 none,.slice 5 0 1 none,.str [],.str [],.str [],.str [],.str [],.str [],.str [],.str [],.str [],.str [],.nilslice,.str [],.str [],.str [],.str [],.str [],.str [],.str [],.str [],.str [],.int .i64 0,.int .i64 0,.int .i64 0,.int .i64 0,.str [],.str [],.str [],.int .i64 2,.str [102,97,117,108,116],.nilslice,.nilslice,.nilslice,.str [49],.str [48],.str [48],.str [50],.str [48],.str [48],.str [49],.str [],.str [],.str [],.nilslice,.str [],.str [],.str [],.str [],.str [],.str [],.str [],.str [],.str [],.int .i64 0,.int .i64 0,.int .i64 0,.int .i64 0,.str [],.str [],.str []],.cells false 1 [.str [48],.str [48],.str [48],.str [48]],.cells false 1 [.str [97],.str [98]],.cells false 1 [.slice 6 0 4 none],.cells false 1 [.str [50],.str [50],.str [50],.str [50]]],.tuple [.agg [.str [51],.str [49],.str [49]],.int .i64 0],[]⟩
def AB:List Memo:=Kg::zO
theorem KH:cT AB:=List.forall_mem_cons.2 ⟨cr (lv:=ab) (K:=60) (n:=30) aa (aj _) (al _) (bC Ai) (by as_aux_lemma=>kernel_rfl),Ai⟩
theorem IR:(q9 (aA Tryz.prog) ab (aF Tryz.prog) (JA AB) 60 30 (.fn 6) [] []).map Nf=some true:=by
 kernel_rfl
theorem mg(M:Mem):ACallsTo Tryz.prog 6 [] M (.bool true) M:=by
 have h:=IR
 rw[Option.map_eq_some_iff] at h
 obtain⟨r,h1,h2⟩:=h
 have:=(jq aa (aj _) (al _) (bC KH) 30).fn _ _ _ _ h1
 obtain⟨e1,e2⟩:=IT h2
 rw[e1,e2] at this
 exact ACallsTo.lift rfl rfl this M
end Go.Proofs
