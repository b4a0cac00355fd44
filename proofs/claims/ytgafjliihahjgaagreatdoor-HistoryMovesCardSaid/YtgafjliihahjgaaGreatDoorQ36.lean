/- See Q54. -/
import Derived.Test.YtgafjliihahjgaaGreatDoorQ24
import Derived.Test.YtgafjliihahjgaaGreatDoorQ20
set_option linter.all false
namespace Go.Proofs
open Go.Eng
def sqP:List AV:=[.str [48],.str [48],.str [52],.str [48],.str [52],.str [52],.str [48],.str [52]]
def sqT:List AV:=[.int .i64 0,.int .i64 1,.int .i64 2,.int .i64 0,.int .i64 2,.int .i64 3]
theorem tP:pM (aM Tryz.prog) ad (aL Tryz.prog) KC 60 10 (.fn 59) [.agg [.slice 0 0 4 none,.slice 1 0 2 none]] [.cells false 2 sqP,.cells false 3 sqT]=some ⟨.int .i64 0,some [.cells false 2 sqP,.cells false 3 sqT],[]⟩:=by kernel_rfl
theorem zN:ACallsTo Tryz.prog 59 [.agg [.slice 0 0 4 none,.slice 1 0 2 none]] [.cells false 2 sqP,.cells false 3 sqT] (.int .i64 0) [.cells false 2 sqP,.cells false 3 sqT]:=by have:=(fI ae (aw _) (az _) Jp 10).fn _ _ _ _ tP;simpa [CallRes.mem] using this
def Nj:List AV→List AV→Bool
 | [],[]=>true
 |.str a::l,.str b::r=>(a==b)&&Nj l r
 |.int .i64 a::l,.int .i64 b::r=>decide (a=b)&&Nj l r
 |_,_=>false
theorem Dv:∀{l r:List AV},Nj l r=true→l=r
 | [],r,h=>by cases r<;>first | rfl | (unfold Nj at h;cases h)
 |v::l,r,h=>by
  unfold Nj at h;split at h
  ·rename_i h1;cases h1
  ·rename_i h1
   cases h1;simp only[Bool.and_eq_true,beq_iff_eq] at h;rw[h.1,Dv h.2]
  ·rename_i h1
   cases h1;simp only[Bool.and_eq_true,decide_eq_true_eq] at h;rw[h.1,Dv h.2]
  ·cases h
def Ni(M:Mem) (b e:Nat) (cs:List AV):Bool:=match M[b]? with
 |some (.cells _ es l)=>decide (es=e)&&Nj (l.take cs.length) cs
 |_=>false
theorem H9{M:Mem}{b e:Nat}{cs:List AV}{ks:List Nat}(h:Ni M b e cs=true) (hu:AV.closeds cs=true):b<M.length∧SubSlot ks M b (.cells false e cs):=by
 unfold Ni at h;split at h
 ·rename_i o es l hb
  simp only[Bool.and_eq_true,decide_eq_true_eq] at h;obtain⟨rfl,h2⟩:=h;have h2:=Dv h2;refine⟨(List.getElem?_eq_some_iff.1 hb).1,cK hu,o,l,hb,fun j v hv=>?_⟩;have hj:=(List.getElem?_eq_some_iff.1 hv).1;have:l[j]? =cs[j]? :=by rw[←List.getElem?_take_of_lt hj,h2]
  have hr:=bH (ρ:=ar ks M.length) hu;rw[fb] at hr;have hr2:(cs.map (AV.ren (ar ks M.length)))[j]? =cs[j]? :=by rw[hr]
  rw[List.getElem?_map,hv] at hr2;rw[this,hv];exact hr2.symm
 ·cases h
theorem zM(M:Mem) (b c:Nat) (h1:Ni M b 2 sqP=true) (h2:Ni M c 3 sqT=true):ACallsTo Tryz.prog 59 [.agg [.slice b 0 4 none,.slice c 0 2 none]] M (.int .i64 0) M:=by
 have k1:=H9 (ks:=[b,c]) h1 (by rfl);have k2:=H9 (ks:=[b,c]) h2 (by rfl);have:=ACallsTo.frame (M:=M) (new:=[]) [b,c] (m:=[.cells false 2 sqP,.cells false 3 sqT]) rfl (by
  intro k hk;simp only[List.mem_cons,List.not_mem_nil,or_false] at hk;rcases hk with h | h
  ·rw[h];exact k1.1
  ·rw[h];exact k2.1) (by rfl) (fun i s hs=>by
  match i with
  |0=>simp at hs;subst hs;exact k1.2
  |1=>simp at hs;subst hs;exact k2.2
  |i+2=>simp at hs) rfl zN
 simpa [AV.rens,AV.ren,ar] using this
def CI(c:Go.Eng.Callee) (args:List AV) (M:Mem):Option CallRes:=match c,args with
 |.fn 59,[.agg [.slice b 0 4 none,.slice c 0 2 none]]=>if Ni M b 2 sqP&&Ni M c 3 sqT then some ⟨.int .i64 0,none,[]⟩ else none
 |_,_=>none
theorem JD:OracleOk Tryz.prog CI:=by
 refine cO fun c args M r h=>?_
 unfold CI at h;split at h
 ·split at h
  ·rename_i hc
   simp only[Bool.and_eq_true] at hc;cases h;refine ag ?_;rw[List.append_nil];exact zM M _ _ hc.1 hc.2
  ·cases h
 ·cases h
def PE(r:CallRes):Bool:=(match r.v with
 |.bool b=>b
 |_=>false)&&r.new.isEmpty&&(match r.pre with
 |some p=>p.isEmpty
 |none=>true)
theorem Kd{r:CallRes}(h:PE r=true):r.v=.bool true∧r.mem []=[]:=by
 obtain⟨v,pre,new⟩:=r;simp only[PE,Bool.and_eq_true,List.isEmpty_iff] at h;obtain⟨⟨h1,rfl⟩,h3⟩:=h;constructor
 ·cases v<;>first | (cases h1;done) | skip
  simp only at h1;rw[h1]
 ·cases pre with
  |none=>rfl
  |some p=>simp only[List.isEmpty_iff] at h3;subst h3;rfl
noncomputable def KB:Oracle:=Oracle.or CI (Oracle.or (af aA) (af si))
theorem Jo:OracleOk Tryz.prog KB:=OracleOk.or JD (OracleOk.or bK yr)
def dj(l:List Memo):Prop:=∀e∈l,ACallsTo Tryz.prog e.f e.args e.m e.v (e.m++e.new)
noncomputable def KA(l:List Memo):Oracle:=Oracle.or (J8 l) KB
theorem bS{l:List Memo}(h:dj l):OracleOk Tryz.prog (KA l):=OracleOk.or (Rp h) Jo
def Gv:List Memo:=[]
theorem Gk:dj Gv:=fun e he=>by cases he
def Rk:Mem:=[.cells false 2 [.str [48],.str [48],.str [52],.str [48],.str [52],.str [52],.str [48],.str [52]],.cells false 3 [.int .i64 0,.int .i64 1,.int .i64 2,.int .i64 0,.int .i64 2,.int .i64 3],.cells false 32 [.int .i64 1,.str [98,101,100,115],.slice 3 0 4 none,.slice 4 0 2 none,.slice 5 0 1 none,.str [],.str [],.str [],.str [],.str [],.str [],.str [],.str [],.str [],.str [],.nilslice,.str [],.str [],.str [],.str [],.str [],.str [],.str [],.str [],.str [],.int .i64 0,.int .i64 0,.int .i64 0,.int .i64 0,.str [],.str [],.str [],.int .i64 2,.str [102,97,117,108,116],.nilslice,.nilslice,.nilslice,.str [49],.str [48],.str [48],.str [50],.str [48],.str [48],.str [49],.str [],.str [],.str [],.nilslice,.str [],.str [],.str [],.str [],.str [],.str [],.str [],.str [],.str [],.int .i64 0,.int .i64 0,.int .i64 0,.int .i64 0,.str [],.str [],.str []],.cells false 1 [.str [48],.str [48],.str [48],.str [48]],.cells false 1 [.str [97],.str [98]],.cells false 1 [.slice 6 0 4 none],.cells false 1 [.str [50],.str [50],.str [50],.str [50]]]
def Tu:Mem:=[.cells false 2 [.str [48],.str [48],.str [52],.str [48],.str [52],.str [52],.str [48],.str [52]],.cells false 3 [.int .i64 0,.int .i64 1,.int .i64 2,.int .i64 0,.int .i64 2,.int .i64 3],.cells false 1 [.str [48],.str [48],.str [48],.str [48]],.cells false 1 [.str [97],.str [98]],.cells false 1 [.slice 5 0 4 none],.cells false 1 [.str [50],.str [50],.str [50],.str [50]]]
def Qe:List AV:=[.slice 0 0 4 none,.slice 1 0 2 none,.str [103],.slice 2 0 2 none]
def Tv:Mem:=[.cells false 2 [.str [48],.str [48],.str [52],.str [48],.str [52],.str [52],.str [48],.str [52]],.cells false 3 [.int .i64 0,.int .i64 1,.int .i64 2,.int .i64 0,.int .i64 2,.int .i64 3]]
def Ol:Memo:=⟨24,[],[],.agg Qe,[.cells true 2 [.str [48],.str [48],.str [52],.str [48],.str [52],.str [52],.str [48],.str [52]],.cells true 3 [.int .i64 0,.int .i64 1,.int .i64 2,.int .i64 0,.int .i64 2,.int .i64 3],.cells true 32 [.int .i64 1,.str [98,101,100,115],.slice 3 0 4 none,.slice 4 0 2 none,.slice 5 0 1 none,.str [],.str [],.str [],.str [],.str [],.str [],.str [],.str [],.str [],.str [],.nilslice,.str [],.str [],.str [],.str [],.str [],.str [],.str [],.str [],.str [],.int .i64 0,.int .i64 0,.int .i64 0,.int .i64 0,.str [],.str [],.str [],.int .i64 2,.str [102,97,117,108,116],.nilslice,.nilslice,.nilslice,.str [49],.str [48],.str [48],.str [50],.str [48],.str [48],.str [49],.str [],.str [],.str [],.nilslice,.str [],.str [],.str [],.str [],.str [],.str [],.str [],.str [],.str [],.int .i64 0,.int .i64 0,.int .i64 0,.int .i64 0,.str [],.str [],.str []],.cells true 1 [.str [48],.str [48],.str [48],.str [48]],.cells true 1 [.str [97],.str [98]],.cells true 1 [.slice 6 0 4 none],.cells true 1 [.str [50],.str [50],.str [50],.str [50]]]⟩
def Gw:List Memo:=Ol::Gv
theorem Gl:dj Gw:=List.forall_mem_cons.2 ⟨cR (lv:=ad) (K:=60) (n:=30) ae (aw _) (az _) (bS Gk) (by as_aux_lemma=>kernel_rfl),Gk⟩
def Om:Memo:=⟨61,[.agg [.slice 0 0 4 none,.slice 1 0 2 none],.agg [.int .i64 1,.str [98,101,100,115],.slice 2 0 4 none,.slice 3 0 2 none,.slice 4 0 1 none,.str [],.str [],.str [],.str [],.str [],.str [],.str [],.str [],.str [],.str [],.nilslice,.str [],.str [],.str [],.str [],.str [],.str [],.str [],.str [],.str [],.int .i64 0,.int .i64 0,.int .i64 0,.int .i64 0,.str [],.str [],.str []]],Tu,.int .i64 0,[]⟩
def Gx:List Memo:=Om::Gw
theorem Gm:dj Gx:=List.forall_mem_cons.2 ⟨cR (lv:=ad) (K:=60) (n:=30) ae (aw _) (az _) (bS Gl) (by as_aux_lemma=>kernel_rfl),Gl⟩
def On:Memo:=⟨61,[.agg [.slice 0 0 4 none,.slice 1 0 2 none],.agg [.int .i64 2,.str [102,97,117,108,116],.nilslice,.nilslice,.nilslice,.str [49],.str [48],.str [48],.str [50],.str [48],.str [48],.str [49],.str [],.str [],.str [],.nilslice,.str [],.str [],.str [],.str [],.str [],.str [],.str [],.str [],.str [],.int .i64 0,.int .i64 0,.int .i64 0,.int .i64 0,.str [],.str [],.str []]],Tv,.int .i64 0,[]⟩
def Gy:List Memo:=On::Gx
theorem Gn:dj Gy:=List.forall_mem_cons.2 ⟨cR (lv:=ad) (K:=60) (n:=30) ae (aw _) (az _) (bS Gm) (by as_aux_lemma=>kernel_rfl),Gm⟩
def Oo:Memo:=⟨35,[.agg Qe],Rk,.int .i64 0,[]⟩
def Gz:List Memo:=Oo::Gy
theorem Gp:dj Gz:=List.forall_mem_cons.2 ⟨cR (lv:=ad) (K:=60) (n:=30) ae (aw _) (az _) (bS Gn) (by as_aux_lemma=>kernel_rfl),Gn⟩
def Oq:Memo:=⟨134,[.agg [.slice 0 0 4 none,.slice 1 0 2 none],.agg [.str [49],.str [49],.str [50]]],Tv,.tuple [.int .i64 0,.agg [.str [49,50],.str [48],.str [52]],.bool true],[]⟩
def GA:List Memo:=Oq::Gz
theorem Gq:dj GA:=List.forall_mem_cons.2 ⟨cR (lv:=ad) (K:=60) (n:=30) ae (aw _) (az _) (bS Gp) (by as_aux_lemma=>kernel_rfl),Gp⟩
def Ot:Memo:=⟨84,[.agg [.slice 0 0 4 none,.slice 1 0 2 none],.agg [.slice 2 0 4 none,.slice 3 0 2 none,.slice 4 0 1 none],.agg [.str [49],.str [49],.str [50]]],Tu,.int .i64 1,[]⟩
def GB:List Memo:=Ot::GA
theorem Gr:dj GB:=List.forall_mem_cons.2 ⟨cR (lv:=ad) (K:=60) (n:=30) ae (aw _) (az _) (bS Gq) (by as_aux_lemma=>kernel_rfl),Gq⟩
def Ou:Memo:=⟨30,[.agg Qe,.agg [.str [49],.str [49],.str [50]]],Rk,.agg [.str [98],.slice 7 0 2 none,.int .i64 0,.str [49],.str [49],.str [50]],[.cells true 1 [.int .i64 0,.int .i64 1]]⟩
def GC:List Memo:=Ou::GB
theorem Gs:dj GC:=List.forall_mem_cons.2 ⟨cR (lv:=ad) (K:=60) (n:=30) ae (aw _) (az _) (bS Gr) (by as_aux_lemma=>kernel_rfl),Gr⟩
def Ov:Memo:=⟨10,[.agg Qe,.agg [.str [49],.str [49],.str [50]]],Rk,.tuple [.str [98],.int .i64 0],[]⟩
def GD:List Memo:=Ov::GC
theorem Gt:dj GD:=List.forall_mem_cons.2 ⟨cR (lv:=ad) (K:=60) (n:=30) ae (aw _) (az _) (bS Gs) (by as_aux_lemma=>kernel_rfl),Gs⟩
def Ow:Memo:=⟨134,[.agg [.slice 0 0 4 none,.slice 1 0 2 none],.agg [.str [51],.str [49],.str [49]]],Tv,.tuple [.int .i64 0,.agg [.str [52],.str [56],.str [52]],.bool true],[]⟩
def GF:List Memo:=Ow::GD
theorem Gu:dj GF:=List.forall_mem_cons.2 ⟨cR (lv:=ad) (K:=60) (n:=30) ae (aw _) (az _) (bS Gt) (by as_aux_lemma=>kernel_rfl),Gt⟩
def Ox:Memo:=⟨84,[.agg [.slice 0 0 4 none,.slice 1 0 2 none],.agg [.slice 2 0 4 none,.slice 3 0 2 none,.slice 4 0 1 none],.agg [.str [51],.str [49],.str [49]]],Tu,.int .i64 0,[]⟩
def AT:List Memo:=Ox::GF
theorem AL:dj AT:=List.forall_mem_cons.2 ⟨cR (lv:=ad) (K:=60) (n:=30) ae (aw _) (az _) (bS Gu) (by as_aux_lemma=>kernel_rfl),Gu⟩
def LZ:Memo:=⟨30,[.agg Qe,.agg [.str [51],.str [49],.str [50]]],Rk,.agg [.str [97],.slice 7 0 2 none,.int .i64 0,.str [51],.str [49],.str [49]],[.cells true 1 [.int .i64 1,.int .i64 0]]⟩
def AU:List Memo:=LZ::AT
theorem AM:dj AU:=List.forall_mem_cons.2 ⟨cR (lv:=ad) (K:=60) (n:=30) ae (aw _) (az _) (bS AL) (by as_aux_lemma=>kernel_rfl),AL⟩
def L3:Memo:=⟨10,[.agg Qe,.agg [.str [51],.str [49],.str [50]]],Rk,.tuple [.str [97],.int .i64 0],[]⟩
def AW:List Memo:=L3::AU
theorem AN:dj AW:=List.forall_mem_cons.2 ⟨cR (lv:=ad) (K:=60) (n:=30) ae (aw _) (az _) (bS AM) (by as_aux_lemma=>kernel_rfl),AM⟩
def L4:Memo:=⟨134,[.agg [.slice 0 0 4 none,.slice 1 0 2 none],.agg [.str [49],.str [49],.str [45,49]]],Tv,.tuple [.int .i64 0,.agg [.str [49,50],.str [48],.str [52]],.bool true],[]⟩
def AX:List Memo:=L4::AW
theorem AO:dj AX:=List.forall_mem_cons.2 ⟨cR (lv:=ad) (K:=60) (n:=30) ae (aw _) (az _) (bS AN) (by as_aux_lemma=>kernel_rfl),AN⟩
def L5:Memo:=⟨84,[.agg [.slice 0 0 4 none,.slice 1 0 2 none],.agg [.slice 2 0 4 none,.slice 3 0 2 none,.slice 4 0 1 none],.agg [.str [49],.str [49],.str [45,49]]],Tu,.int .i64 (-1),[]⟩
def AY:List Memo:=L5::AX
theorem AP:dj AY:=List.forall_mem_cons.2 ⟨cR (lv:=ad) (K:=60) (n:=30) ae (aw _) (az _) (bS AO) (by as_aux_lemma=>kernel_rfl),AO⟩
def L6:Memo:=⟨30,[.agg Qe,.agg [.str [49],.str [49],.str [45,49]]],Rk,.agg [.str [103],.slice 7 0 2 none,.int .i64 (-1),.str [49],.str [49],.str [45,49]],[.cells true 1 [.int .i64 0,.int .i64 (-1)]]⟩
def AZ:List Memo:=L6::AY
theorem AQ:dj AZ:=List.forall_mem_cons.2 ⟨cR (lv:=ad) (K:=60) (n:=30) ae (aw _) (az _) (bS AP) (by as_aux_lemma=>kernel_rfl),AP⟩
def L7:Memo:=⟨10,[.agg Qe,.agg [.str [49],.str [49],.str [45,49]]],Rk,.tuple [.str [103],.int .i64 0],[]⟩
def A0:List Memo:=L7::AZ
theorem AR:dj A0:=List.forall_mem_cons.2 ⟨cR (lv:=ad) (K:=60) (n:=30) ae (aw _) (az _) (bS AQ) (by as_aux_lemma=>kernel_rfl),AQ⟩
def L8:Memo:=⟨17,[.agg Qe],Rk,.tuple [.slice 7 0 3 none,.int .i64 0],[.cells true 1 [.str [103],.str [97],.str [98]]]⟩
def A4:List Memo:=L8::A0
theorem AS:dj A4:=List.forall_mem_cons.2 ⟨cR (lv:=ad) (K:=60) (n:=30) ae (aw _) (az _) (bS AR) (by as_aux_lemma=>kernel_rfl),AR⟩
def L9:Memo:=⟨12,[.agg Qe,.agg [.str [51],.str [49],.str [50]],.int .i64 1],Rk,.tuple [.agg [.str [51],.str [49],.str [49]],.int .i64 0],[]⟩
def A5:List Memo:=L9::A4
theorem LY:dj A5:=List.forall_mem_cons.2 ⟨cR (lv:=ad) (K:=60) (n:=30) ae (aw _) (az _) (bS AS) (by as_aux_lemma=>kernel_rfl),AS⟩
theorem Jn:(pM (aM Tryz.prog) ad (aL Tryz.prog) (KA A5) 60 30 (.fn 7) [] []).map PE=some true:=by kernel_rfl
theorem rN(M:Mem):ACallsTo Tryz.prog 7 [] M (.bool true) M:=by have h:=Jn;rw[Option.map_eq_some_iff] at h;obtain⟨r,h1,h2⟩:=h;have:=(fI ae (aw _) (az _) (bS LY) 30).fn _ _ _ _ h1;obtain⟨e1,e2⟩:=Kd h2;rw[e1,e2] at this;exact ACallsTo.lift rfl rfl this M
end Go.Proofs
