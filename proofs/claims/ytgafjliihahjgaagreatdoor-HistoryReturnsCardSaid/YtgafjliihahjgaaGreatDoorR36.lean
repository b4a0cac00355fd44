/- See R54. -/
import Derived.Test.YtgafjliihahjgaaGreatDoorR24
import Derived.Test.YtgafjliihahjgaaGreatDoorR20
set_option linter.all false
namespace Go.Proofs
open Go.Eng
open Tryz
def sqP:List AV:=[.str [48],.str [48],.str [52],.str [48],.str [52],.str [52],.str [48],.str [52]]
def sqT:List AV:=[.int .i64 0,.int .i64 1,.int .i64 2,.int .i64 0,.int .i64 2,.int .i64 3]
theorem vP:uQ (aM prog) aa (aT prog) M8 60 10 (.fn 59) [.agg [.slice 0 0 4 none,.slice 1 0 2 none]] [.cells false 2 sqP,.cells false 3 sqT]=some ⟨.int .i64 0,some [.cells false 2 sqP,.cells false 3 sqT],[]⟩:=by kernel_rfl
theorem BI:kF prog 59 [.agg [.slice 0 0 4 none,.slice 1 0 2 none]] [.cells false 2 sqP,.cells false 3 sqT] (.int .i64 0) [.cells false 2 sqP,.cells false 3 sqT]:=by have:=(jg ae (aq _) (au _) LO 10).fn _ _ _ _ vP;simpa [HS.mem] using this
def PZ:List AV→List AV→Bool
 | [],[]=>true
 |.str a::l,.str b::r=>(a==b)&&PZ l r
 |.int .i64 a::l,.int .i64 b::r=>decide (a=b)&&PZ l r
 |_,_=>false
theorem FA:∀{l r:List AV},PZ l r=true→l=r
 | [],r,h=>by cases r<;>first | rfl | (unfold PZ at h;cases h)
 |v::l,r,h=>by
  unfold PZ at h;split at h
  ·rename_i h1;cases h1
  ·rename_i h1
   cases h1;simp only[Bool.and_eq_true,beq_iff_eq] at h;rw[h.1,FA h.2]
  ·rename_i h1
   cases h1;simp only[Bool.and_eq_true,decide_eq_true_eq] at h;rw[h.1,FA h.2]
  ·cases h
def PY(M:Mem) (b e:Nat) (cs:List AV):Bool:=match M[b]? with
 |some (.cells _ es l)=>decide (es=e)&&PZ (l.take cs.length) cs
 |_=>false
theorem KE{M:Mem}{b e:Nat}{cs:List AV}{ks:List Nat}(h:PY M b e cs=true)(hu:AV.aeG cs=true):b<M.length∧so ks M b (.cells false e cs):=by
 unfold PY at h;split at h
 ·rename_i o es l hb
  simp only[Bool.and_eq_true,decide_eq_true_eq] at h;obtain⟨rfl,h2⟩:=h;have h2:=FA h2;refine⟨(gL hb),cH hu,o,l,hb,fun j v hv=>?_⟩;have hj:=(gL hv);have:l[j]? =cs[j]? :=by rw[←List.getElem?_take_of_lt hj,h2]
  have hr:=bQ (ρ:=aF ks M.length) hu;rw[fV] at hr;have Yc:(cs.map (AV.ren (aF ks M.length)))[j]? =cs[j]? :=by rw[hr]
  rw[List.getElem?_map,hv] at Yc;rw[this,hv];exact Yc.symm
 ·cases h
theorem BH(M:Mem)(b c:Nat)(h1:PY M b 2 sqP=true)(h2:PY M c 3 sqT=true):kF prog 59 [.agg [.slice b 0 4 none,.slice c 0 2 none]] M (.int .i64 0) M:=by
 have k1:=KE (ks:=[b,c]) h1 (by rfl);have k2:=KE (ks:=[b,c]) h2 (by rfl);have:=kF.frame (M:=M) (new:=[]) [b,c] (m:=[.cells false 2 sqP,.cells false 3 sqT]) rfl (by
  intro k hk;simp only[List.mem_cons,List.not_mem_nil,or_false] at hk;rcases hk with h | h
  ·rw[h];exact k1.1
  ·rw[h];exact k2.1) (by rfl) (fun i s hs=>by
  match i with
  |0=>simp at hs;subst hs;exact k1.2
  |1=>simp at hs;subst hs;exact k2.2
  |i+2=>simp at hs) rfl BI
 simpa [AV.aeM,AV.ren,aF] using this
def EL(c:Go.Eng.Callee) (args:List AV) (M:Mem):Option HS:=match c,args with
 |.fn 59,[.agg [.slice b 0 4 none,.slice c 0 2 none]]=>if PY M b 2 sqP&&PY M c 3 sqT then some ⟨.int .i64 0,none,[]⟩ else none
 |_,_=>none
theorem L5:kP prog EL:=by
 refine dq fun c args M r h=>?_
 unfold EL at h;split at h
 ·split at h
  ·rename_i hc
   simp only[Bool.and_eq_true] at hc;cases h;refine af ?_;rw[List.append_nil];exact BH M _ _ hc.1 hc.2
  ·cases h
 ·cases h
def SJ(r:HS):Bool:=(match r.v with
 |.bool b=>b
 |_=>false)&&r.new.isEmpty&&(match r.pre with
 |some p=>p.isEmpty
 |none=>true)
theorem MG{r:HS}(h:SJ r=true):r.v=.bool true∧r.mem []=[]:=by
 obtain⟨v,pre,new⟩:=r;simp only[SJ,Bool.and_eq_true,List.isEmpty_iff] at h;obtain⟨⟨h1,rfl⟩,h3⟩:=h;constructor
 ·cases v<;>first | (cases h1;done) | skip
  simp only at h1;rw[h1]
 ·cases pre with
  |none=>rfl
  |some p=>simp only[List.isEmpty_iff] at h3;subst h3;rfl
noncomputable def M7:adM:=adM.or EL (adM.or (ag ao) (ag uG))
theorem LN:kP prog M7:=kP.or L5 (kP.or bP Am)
def dK(l:List ae7):Prop:=∀e∈l,kF prog e.f e.args e.m e.v (e.m++e.new)
noncomputable def M6(l:List ae7):adM:=adM.or (MC l) M7
theorem ca{l:List ae7}(h:dK l):kP prog (M6 l):=kP.or (UM h) LN
def IN:List ae7:=[]
theorem ID:dK IN:=fun e he=>by cases he
def UH:Mem:=[.cells false 2 [.str [48],.str [48],.str [52],.str [48],.str [52],.str [52],.str [48],.str [52]],.cells false 3 [.int .i64 0,.int .i64 1,.int .i64 2,.int .i64 0,.int .i64 2,.int .i64 3],.cells false 32 [.int .i64 1,.str [98,101,100,115],.slice 3 0 4 none,.slice 4 0 2 none,.slice 5 0 1 none,.str [],.str [],.str [],.str [],.str [],.str [],.str [],.str [],.str [],.str [],.kK,.str [],.str [],.str [],.str [],.str [],.str [],.str [],.str [],.str [],.int .i64 0,.int .i64 0,.int .i64 0,.int .i64 0,.str [],.str [],.str [],.int .i64 2,.str [102,97,117,108,116],.kK,.kK,.kK,.str [49],.str [48],.str [48],.str [50],.str [48],.str [48],.str [49],.str [],.str [],.str [],.kK,.str [],.str [],.str [],.str [],.str [],.str [],.str [],.str [],.str [],.int .i64 0,.int .i64 0,.int .i64 0,.int .i64 0,.str [],.str [],.str []],.cells false 1 [.str [48],.str [48],.str [48],.str [48]],.cells false 1 [.str [97],.str [98]],.cells false 1 [.slice 6 0 4 none],.cells false 1 [.str [50],.str [50],.str [50],.str [50]]]
def Xo:Mem:=[.cells false 2 [.str [48],.str [48],.str [52],.str [48],.str [52],.str [52],.str [48],.str [52]],.cells false 3 [.int .i64 0,.int .i64 1,.int .i64 2,.int .i64 0,.int .i64 2,.int .i64 3],.cells false 1 [.str [48],.str [48],.str [48],.str [48]],.cells false 1 [.str [97],.str [98]],.cells false 1 [.slice 5 0 4 none],.cells false 1 [.str [50],.str [50],.str [50],.str [50]]]
def Tn:List AV:=[.slice 0 0 4 none,.slice 1 0 2 none,.str [103],.slice 2 0 2 none]
def Xp:Mem:=[.cells false 2 [.str [48],.str [48],.str [52],.str [48],.str [52],.str [52],.str [48],.str [52]],.cells false 3 [.int .i64 0,.int .i64 1,.int .i64 2,.int .i64 0,.int .i64 2,.int .i64 3]]
def Q3:ae7:=⟨24,[],[],.agg Tn,[.cells true 2 [.str [48],.str [48],.str [52],.str [48],.str [52],.str [52],.str [48],.str [52]],.cells true 3 [.int .i64 0,.int .i64 1,.int .i64 2,.int .i64 0,.int .i64 2,.int .i64 3],.cells true 32 [.int .i64 1,.str [98,101,100,115],.slice 3 0 4 none,.slice 4 0 2 none,.slice 5 0 1 none,.str [],.str [],.str [],.str [],.str [],.str [],.str [],.str [],.str [],.str [],.kK,.str [],.str [],.str [],.str [],.str [],.str [],.str [],.str [],.str [],.int .i64 0,.int .i64 0,.int .i64 0,.int .i64 0,.str [],.str [],.str [],.int .i64 2,.str [102,97,117,108,116],.kK,.kK,.kK,.str [49],.str [48],.str [48],.str [50],.str [48],.str [48],.str [49],.str [],.str [],.str [],.kK,.str [],.str [],.str [],.str [],.str [],.str [],.str [],.str [],.str [],.int .i64 0,.int .i64 0,.int .i64 0,.int .i64 0,.str [],.str [],.str []],.cells true 1 [.str [48],.str [48],.str [48],.str [48]],.cells true 1 [.str [97],.str [98]],.cells true 1 [.slice 6 0 4 none],.cells true 1 [.str [50],.str [50],.str [50],.str [50]]]⟩
def IP:List ae7:=Q3::IN
theorem IE:dK IP:=List.forall_mem_cons.2 ⟨du (lv:=aa) (K:=60) (n:=30) ae (aq _) (au _) (ca ID) (by as_aux_lemma=>kernel_rfl),ID⟩
def Q4:ae7:=⟨61,[.agg [.slice 0 0 4 none,.slice 1 0 2 none],.agg [.int .i64 1,.str [98,101,100,115],.slice 2 0 4 none,.slice 3 0 2 none,.slice 4 0 1 none,.str [],.str [],.str [],.str [],.str [],.str [],.str [],.str [],.str [],.str [],.kK,.str [],.str [],.str [],.str [],.str [],.str [],.str [],.str [],.str [],.int .i64 0,.int .i64 0,.int .i64 0,.int .i64 0,.str [],.str [],.str []]],Xo,.int .i64 0,[]⟩
def IQ:List ae7:=Q4::IP
theorem IF:dK IQ:=List.forall_mem_cons.2 ⟨du (lv:=aa) (K:=60) (n:=30) ae (aq _) (au _) (ca IE) (by as_aux_lemma=>kernel_rfl),IE⟩
def Q5:ae7:=⟨61,[.agg [.slice 0 0 4 none,.slice 1 0 2 none],.agg [.int .i64 2,.str [102,97,117,108,116],.kK,.kK,.kK,.str [49],.str [48],.str [48],.str [50],.str [48],.str [48],.str [49],.str [],.str [],.str [],.kK,.str [],.str [],.str [],.str [],.str [],.str [],.str [],.str [],.str [],.int .i64 0,.int .i64 0,.int .i64 0,.int .i64 0,.str [],.str [],.str []]],Xp,.int .i64 0,[]⟩
def IS:List ae7:=Q5::IQ
theorem IG:dK IS:=List.forall_mem_cons.2 ⟨du (lv:=aa) (K:=60) (n:=30) ae (aq _) (au _) (ca IF) (by as_aux_lemma=>kernel_rfl),IF⟩
def Q6:ae7:=⟨35,[.agg Tn],UH,.int .i64 0,[]⟩
def IT:List ae7:=Q6::IS
theorem IH:dK IT:=List.forall_mem_cons.2 ⟨du (lv:=aa) (K:=60) (n:=30) ae (aq _) (au _) (ca IG) (by as_aux_lemma=>kernel_rfl),IG⟩
def Q7:ae7:=⟨134,[.agg [.slice 0 0 4 none,.slice 1 0 2 none],.agg [.str [49],.str [49],.str [50]]],Xp,.tuple [.int .i64 0,.agg [.str [49,50],.str [48],.str [52]],.bool true],[]⟩
def IU:List ae7:=Q7::IT
theorem II:dK IU:=List.forall_mem_cons.2 ⟨du (lv:=aa) (K:=60) (n:=30) ae (aq _) (au _) (ca IH) (by as_aux_lemma=>kernel_rfl),IH⟩
def Q8:ae7:=⟨84,[.agg [.slice 0 0 4 none,.slice 1 0 2 none],.agg [.slice 2 0 4 none,.slice 3 0 2 none,.slice 4 0 1 none],.agg [.str [49],.str [49],.str [50]]],Xo,.int .i64 1,[]⟩
def IV:List ae7:=Q8::IU
theorem IJ:dK IV:=List.forall_mem_cons.2 ⟨du (lv:=aa) (K:=60) (n:=30) ae (aq _) (au _) (ca II) (by as_aux_lemma=>kernel_rfl),II⟩
def Q9:ae7:=⟨30,[.agg Tn,.agg [.str [49],.str [49],.str [50]]],UH,.agg [.str [98],.slice 7 0 2 none,.int .i64 0,.str [49],.str [49],.str [50]],[.cells true 1 [.int .i64 0,.int .i64 1]]⟩
def IW:List ae7:=Q9::IV
theorem IK:dK IW:=List.forall_mem_cons.2 ⟨du (lv:=aa) (K:=60) (n:=30) ae (aq _) (au _) (ca IJ) (by as_aux_lemma=>kernel_rfl),IJ⟩
def Ra:ae7:=⟨10,[.agg Tn,.agg [.str [49],.str [49],.str [50]]],UH,.tuple [.str [98],.int .i64 0],[]⟩
def IX:List ae7:=Ra::IW
theorem IL:dK IX:=List.forall_mem_cons.2 ⟨du (lv:=aa) (K:=60) (n:=30) ae (aq _) (au _) (ca IK) (by as_aux_lemma=>kernel_rfl),IK⟩
def Rb:ae7:=⟨134,[.agg [.slice 0 0 4 none,.slice 1 0 2 none],.agg [.str [51],.str [49],.str [49]]],Xp,.tuple [.int .i64 0,.agg [.str [52],.str [56],.str [52]],.bool true],[]⟩
def IY:List ae7:=Rb::IX
theorem IM:dK IY:=List.forall_mem_cons.2 ⟨du (lv:=aa) (K:=60) (n:=30) ae (aq _) (au _) (ca IL) (by as_aux_lemma=>kernel_rfl),IL⟩
def Rc:ae7:=⟨84,[.agg [.slice 0 0 4 none,.slice 1 0 2 none],.agg [.slice 2 0 4 none,.slice 3 0 2 none,.slice 4 0 1 none],.agg [.str [51],.str [49],.str [49]]],Xo,.int .i64 0,[]⟩
def CP:List ae7:=Rc::IY
theorem CH:dK CP:=List.forall_mem_cons.2 ⟨du (lv:=aa) (K:=60) (n:=30) ae (aq _) (au _) (ca IM) (by as_aux_lemma=>kernel_rfl),IM⟩
def OO:ae7:=⟨30,[.agg Tn,.agg [.str [51],.str [49],.str [50]]],UH,.agg [.str [97],.slice 7 0 2 none,.int .i64 0,.str [51],.str [49],.str [49]],[.cells true 1 [.int .i64 1,.int .i64 0]]⟩
def CQ:List ae7:=OO::CP
theorem CI:dK CQ:=List.forall_mem_cons.2 ⟨du (lv:=aa) (K:=60) (n:=30) ae (aq _) (au _) (ca CH) (by as_aux_lemma=>kernel_rfl),CH⟩
def OP:ae7:=⟨10,[.agg Tn,.agg [.str [51],.str [49],.str [50]]],UH,.tuple [.str [97],.int .i64 0],[]⟩
def CR:List ae7:=OP::CQ
theorem CJ:dK CR:=List.forall_mem_cons.2 ⟨du (lv:=aa) (K:=60) (n:=30) ae (aq _) (au _) (ca CI) (by as_aux_lemma=>kernel_rfl),CI⟩
def OQ:ae7:=⟨134,[.agg [.slice 0 0 4 none,.slice 1 0 2 none],.agg [.str [49],.str [49],.str [45,49]]],Xp,.tuple [.int .i64 0,.agg [.str [49,50],.str [48],.str [52]],.bool true],[]⟩
def CS:List ae7:=OQ::CR
theorem CK:dK CS:=List.forall_mem_cons.2 ⟨du (lv:=aa) (K:=60) (n:=30) ae (aq _) (au _) (ca CJ) (by as_aux_lemma=>kernel_rfl),CJ⟩
def OR:ae7:=⟨84,[.agg [.slice 0 0 4 none,.slice 1 0 2 none],.agg [.slice 2 0 4 none,.slice 3 0 2 none,.slice 4 0 1 none],.agg [.str [49],.str [49],.str [45,49]]],Xo,.int .i64 (-1),[]⟩
def CT:List ae7:=OR::CS
theorem CL:dK CT:=List.forall_mem_cons.2 ⟨du (lv:=aa) (K:=60) (n:=30) ae (aq _) (au _) (ca CK) (by as_aux_lemma=>kernel_rfl),CK⟩
def OS:ae7:=⟨30,[.agg Tn,.agg [.str [49],.str [49],.str [45,49]]],UH,.agg [.str [103],.slice 7 0 2 none,.int .i64 (-1),.str [49],.str [49],.str [45,49]],[.cells true 1 [.int .i64 0,.int .i64 (-1)]]⟩
def CU:List ae7:=OS::CT
theorem CM:dK CU:=List.forall_mem_cons.2 ⟨du (lv:=aa) (K:=60) (n:=30) ae (aq _) (au _) (ca CL) (by as_aux_lemma=>kernel_rfl),CL⟩
def OT:ae7:=⟨10,[.agg Tn,.agg [.str [49],.str [49],.str [45,49]]],UH,.tuple [.str [103],.int .i64 0],[]⟩
def CV:List ae7:=OT::CU
theorem CN:dK CV:=List.forall_mem_cons.2 ⟨du (lv:=aa) (K:=60) (n:=30) ae (aq _) (au _) (ca CM) (by as_aux_lemma=>kernel_rfl),CM⟩
def OU:ae7:=⟨17,[.agg Tn],UH,.tuple [.slice 7 0 3 none,.int .i64 0],[.cells true 1 [.str [103],.str [97],.str [98]]]⟩
def CW:List ae7:=OU::CV
theorem CO:dK CW:=List.forall_mem_cons.2 ⟨du (lv:=aa) (K:=60) (n:=30) ae (aq _) (au _) (ca CN) (by as_aux_lemma=>kernel_rfl),CN⟩
def OV:ae7:=⟨12,[.agg Tn,.agg [.str [51],.str [49],.str [50]],.int .i64 1],UH,.tuple [.agg [.str [51],.str [49],.str [49]],.int .i64 0],[]⟩
def CX:List ae7:=OV::CW
theorem ON:dK CX:=List.forall_mem_cons.2 ⟨du (lv:=aa) (K:=60) (n:=30) ae (aq _) (au _) (ca CO) (by as_aux_lemma=>kernel_rfl),CO⟩
theorem LM:(uQ (aM prog) aa (aT prog) (M6 CX) 60 30 (.fn 7) [] []).map SJ=some true:=by kernel_rfl
theorem uh(M:Mem):kF prog 7 [] M (.bool true) M:=by have h:=LM;rw[Option.map_eq_some_iff] at h;obtain⟨r,h1,h2⟩:=h;have:=(jg ae (aq _) (au _) (ca ON) 30).fn _ _ _ _ h1;obtain⟨e1,e2⟩:=MG h2;rw[e1,e2] at this;exact kF.lift rfl rfl this M
end Go.Proofs
