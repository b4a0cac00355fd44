/- See F54. -/
import Derived.Test.YtgafjliihahjgaaGreatDoorF19
import Derived.Test.YtgafjliihahjgaaGreatDoorF15
set_option linter.all false
namespace Go.Proofs
open Go.Eng
open Tryz
def sqP:List AV:=[.str [48],.str [48],.str [52],.str [48],.str [52],.str [52],.str [48],.str [52]]
def sqT:List AV:=[.int .i64 0,.int .i64 1,.int .i64 2,.int .i64 0,.int .i64 2,.int .i64 3]
theorem w9:sN (aN prog) ab (aK prog) Ps 60 10 (.fn 59) [.agg [.slice 0 0 4 none,.slice 1 0 2 none]] [.cells false 2 sqP,.cells false 3 sqT]=some ⟨.int .i64 0,some [.cells false 2 sqP,.cells false 3 sqT],[]⟩:=by kernel_rfl
theorem CV:kO prog 59 [.agg [.slice 0 0 4 none,.slice 1 0 2 none]] [.cells false 2 sqP,.cells false 3 sqT] (.int .i64 0) [.cells false 2 sqP,.cells false 3 sqT]:=by have:=(gG ae (ar _) (au _) NY 10).fn _ _ _ _ w9;simpa [aeQ.mem] using this
def Sa:List AV→List AV→Bool
 | [],[]=>true
 |.str a::l,.str b::r=>(a==b)&&Sa l r
 |.int .i64 a::l,.int .i64 b::r=>decide (a=b)&&Sa l r
 |_,_=>false
theorem Hh:∀{l r:List AV},Sa l r=true→l=r
 | [],r,h=>by cases r<;>first | rfl | (unfold Sa at h;cases h)
 |v::l,r,h=>by
  unfold Sa at h;split at h
  next Z=>cases Z
  ·rename_i Z
   cases Z;simp only[Bool.and_eq_true,beq_iff_eq] at h;rw[h.1,Hh h.2]
  ·rename_i Z
   cases Z;simp only[Bool.and_eq_true,decide_eq_true_eq] at h;rw[h.1,Hh h.2]
  ·cases h
def R9(M:Mem)(b e:Nat)(cs:List AV):Bool:=match M[b]? with
 |some (.cells _ es l)=>decide (es=e)&&Sa (l.take cs.length) cs
 |_=>false
theorem My{M:Mem}{b e:Nat}{cs:List AV}{ks:List Nat}(h:R9 M b e cs=true)(hu:AV.ae0 cs=true):b<M.length∧tI ks M b (.cells false e cs):=by
 unfold R9 at h;split at h
 ·rename_i o es l V
  simp only[Bool.and_eq_true,decide_eq_true_eq] at h;obtain⟨rfl,X⟩:=h;have X:=Hh X;refine⟨(gL V),cI hu,o,l,V,fun j v W=>?_⟩;have O:=gL W;have:l[j]? =cs[j]? :=by rw[←List.getElem?_take_of_lt O,X]
  have S:=ca (ρ:=dL ks M.length) hu;rw[gb] at S;have Z:(cs.map (AV.ren (dL ks M.length)))[j]? =cs[j]? :=by rw[S]
  rw[List.getElem?_map,W] at Z;rw[this,W];exact Z.symm
 ·cases h
theorem CU(M:Mem)(b c:Nat)(A:R9 M b 2 sqP=true)(G:R9 M c 3 sqT=true):kO prog 59 [.agg [.slice b 0 4 none,.slice c 0 2 none]] M (.int .i64 0) M:=by
 have X:=My (ks:=[b,c]) A (by rfl);have W:=My (ks:=[b,c]) G (by rfl);have:=kO.frame (M:=M) (new:=[]) [b,c] (m:=[.cells false 2 sqP,.cells false 3 sqT]) rfl (by
  intro k V;simp only[lM] at V;rcases V with h | h
  ·rw[h];exact X.1
  ·rw[h];exact W.1) (by rfl) (fun i s Z=>by
  match i with
  |0=>simp at Z;subst Z;exact X.2
  |1=>simp at Z;subst Z;exact W.2
  |i+2=>simp at Z) rfl CV
 simpa [AV.ae3,AV.ren,dL] using this
def Gn(c:Go.Eng.Callee)(args:List AV)(M:Mem):Option aeQ:=match c,args with
 |.fn 59,[.agg [.slice b 0 4 none,.slice c 0 2 none]]=>if R9 M b 2 sqP&&R9 M c 3 sqT then some ⟨.int .i64 0,none,[]⟩ else none
 |_,_=>none
theorem On:HS prog Gn:=by
 refine dE fun c Z M r h=>?_
 unfold Gn at h;split at h
 ·split at h
  ·rename_i hc
   simp only[Bool.and_eq_true] at hc;cases h;refine aI ?_;rw[List.append_nil];exact CU M _ _ hc.1 hc.2
  ·cases h
 ·cases h
def UU(r:aeQ):Bool:=(match r.v with
 |.bool b=>b
 |_=>false)&&r.new.isEmpty&&(match r.pre with
 |some p=>p.isEmpty
 |none=>true)
theorem O2{r:aeQ}(h:UU r=true):r.v=.bool true∧r.mem []=[]:=by
 obtain⟨v,Z,W⟩:=r;simp only[UU,Bool.and_eq_true,List.isEmpty_iff] at h;obtain⟨⟨X,rfl⟩,h3⟩:=h;constructor
 ·cases v<;>first | (cases X;done) | skip
  simp only at X;rw[X]
 ·cases Z with
  |none=>rfl
  |some p=>simp only[List.isEmpty_iff] at h3;subst h3;rfl
noncomputable def Pr:aeT:=aeT.or Gn (aeT.or (af aj) (af vy))
theorem NX:HS prog Pr:=HS.or On (HS.or bj By)
def dW(l:List afp):Prop:=∀e∈l,kO prog e.f e.args e.m e.v (e.m++e.new)
noncomputable def Pq(l:List afp):aeT:=aeT.or (OV l) Pr
theorem cz{l:List afp}(h:dW l):HS prog (Pq l):=HS.or (WV h) NX
def Kz:List afp:=[]
theorem Kp:dW Kz:=fun e he=>by cases he
def WQ:Mem:=[.cells false 2 [.str [48],.str [48],.str [52],.str [48],.str [52],.str [52],.str [48],.str [52]],.cells false 3 [.int .i64 0,.int .i64 1,.int .i64 2,.int .i64 0,.int .i64 2,.int .i64 3],.cells false 32 [.int .i64 1,.str [98,101,100,115],.slice 3 0 4 none,.slice 4 0 2 none,.slice 5 0 1 none,.str [],.str [],.str [],.str [],.str [],.str [],.str [],.str [],.str [],.str [],.y9,.str [],.str [],.str [],.str [],.str [],.str [],.str [],.str [],.str [],.int .i64 0,.int .i64 0,.int .i64 0,.int .i64 0,.str [],.str [],.str [],.int .i64 2,.str [102,97,117,108,116],.y9,.y9,.y9,.str [49],.str [48],.str [48],.str [50],.str [48],.str [48],.str [49],.str [],.str [],.str [],.y9,.str [],.str [],.str [],.str [],.str [],.str [],.str [],.str [],.str [],.int .i64 0,.int .i64 0,.int .i64 0,.int .i64 0,.str [],.str [],.str []],.cells false 1 [.str [48],.str [48],.str [48],.str [48]],.cells false 1 [.str [97],.str [98]],.cells false 1 [.slice 6 0 4 none],.cells false 1 [.str [50],.str [50],.str [50],.str [50]]]
def Zx:Mem:=[.cells false 2 [.str [48],.str [48],.str [52],.str [48],.str [52],.str [52],.str [48],.str [52]],.cells false 3 [.int .i64 0,.int .i64 1,.int .i64 2,.int .i64 0,.int .i64 2,.int .i64 3],.cells false 1 [.str [48],.str [48],.str [48],.str [48]],.cells false 1 [.str [97],.str [98]],.cells false 1 [.slice 5 0 4 none],.cells false 1 [.str [50],.str [50],.str [50],.str [50]]]
def Vz:List AV:=[.slice 0 0 4 none,.slice 1 0 2 none,.str [103],.slice 2 0 2 none]
def Zy:Mem:=[.cells false 2 [.str [48],.str [48],.str [52],.str [48],.str [52],.str [52],.str [48],.str [52]],.cells false 3 [.int .i64 0,.int .i64 1,.int .i64 2,.int .i64 0,.int .i64 2,.int .i64 3]]
def Tq:afp:=⟨24,[],[],.agg Vz,[.cells true 2 [.str [48],.str [48],.str [52],.str [48],.str [52],.str [52],.str [48],.str [52]],.cells true 3 [.int .i64 0,.int .i64 1,.int .i64 2,.int .i64 0,.int .i64 2,.int .i64 3],.cells true 32 [.int .i64 1,.str [98,101,100,115],.slice 3 0 4 none,.slice 4 0 2 none,.slice 5 0 1 none,.str [],.str [],.str [],.str [],.str [],.str [],.str [],.str [],.str [],.str [],.y9,.str [],.str [],.str [],.str [],.str [],.str [],.str [],.str [],.str [],.int .i64 0,.int .i64 0,.int .i64 0,.int .i64 0,.str [],.str [],.str [],.int .i64 2,.str [102,97,117,108,116],.y9,.y9,.y9,.str [49],.str [48],.str [48],.str [50],.str [48],.str [48],.str [49],.str [],.str [],.str [],.y9,.str [],.str [],.str [],.str [],.str [],.str [],.str [],.str [],.str [],.int .i64 0,.int .i64 0,.int .i64 0,.int .i64 0,.str [],.str [],.str []],.cells true 1 [.str [48],.str [48],.str [48],.str [48]],.cells true 1 [.str [97],.str [98]],.cells true 1 [.slice 6 0 4 none],.cells true 1 [.str [50],.str [50],.str [50],.str [50]]]⟩
def KA:List afp:=Tq::Kz
theorem Kq:dW KA:=List.forall_mem_cons.2 ⟨dJ (lv:=ab) (K:=60) (n:=30) ae (ar _) (au _) (cz Kp) (by as_aux_lemma=>kernel_rfl),Kp⟩
def Ts:afp:=⟨61,[.agg [.slice 0 0 4 none,.slice 1 0 2 none],.agg [.int .i64 1,.str [98,101,100,115],.slice 2 0 4 none,.slice 3 0 2 none,.slice 4 0 1 none,.str [],.str [],.str [],.str [],.str [],.str [],.str [],.str [],.str [],.str [],.y9,.str [],.str [],.str [],.str [],.str [],.str [],.str [],.str [],.str [],.int .i64 0,.int .i64 0,.int .i64 0,.int .i64 0,.str [],.str [],.str []]],Zx,.int .i64 0,[]⟩
def KB:List afp:=Ts::KA
theorem Kr:dW KB:=List.forall_mem_cons.2 ⟨dJ (lv:=ab) (K:=60) (n:=30) ae (ar _) (au _) (cz Kq) (by as_aux_lemma=>kernel_rfl),Kq⟩
def Tt:afp:=⟨61,[.agg [.slice 0 0 4 none,.slice 1 0 2 none],.agg [.int .i64 2,.str [102,97,117,108,116],.y9,.y9,.y9,.str [49],.str [48],.str [48],.str [50],.str [48],.str [48],.str [49],.str [],.str [],.str [],.y9,.str [],.str [],.str [],.str [],.str [],.str [],.str [],.str [],.str [],.int .i64 0,.int .i64 0,.int .i64 0,.int .i64 0,.str [],.str [],.str []]],Zy,.int .i64 0,[]⟩
def KC:List afp:=Tt::KB
theorem Ks:dW KC:=List.forall_mem_cons.2 ⟨dJ (lv:=ab) (K:=60) (n:=30) ae (ar _) (au _) (cz Kr) (by as_aux_lemma=>kernel_rfl),Kr⟩
def Tu:afp:=⟨35,[.agg Vz],WQ,.int .i64 0,[]⟩
def KD:List afp:=Tu::KC
theorem Kt:dW KD:=List.forall_mem_cons.2 ⟨dJ (lv:=ab) (K:=60) (n:=30) ae (ar _) (au _) (cz Ks) (by as_aux_lemma=>kernel_rfl),Ks⟩
def Tv:afp:=⟨134,[.agg [.slice 0 0 4 none,.slice 1 0 2 none],.agg [.str [49],.str [49],.str [50]]],Zy,.tuple [.int .i64 0,.agg [.str [49,50],.str [48],.str [52]],.bool true],[]⟩
def KE:List afp:=Tv::KD
theorem Ku:dW KE:=List.forall_mem_cons.2 ⟨dJ (lv:=ab) (K:=60) (n:=30) ae (ar _) (au _) (cz Kt) (by as_aux_lemma=>kernel_rfl),Kt⟩
def Tw:afp:=⟨84,[.agg [.slice 0 0 4 none,.slice 1 0 2 none],.agg [.slice 2 0 4 none,.slice 3 0 2 none,.slice 4 0 1 none],.agg [.str [49],.str [49],.str [50]]],Zx,.int .i64 1,[]⟩
def KF:List afp:=Tw::KE
theorem Kv:dW KF:=List.forall_mem_cons.2 ⟨dJ (lv:=ab) (K:=60) (n:=30) ae (ar _) (au _) (cz Ku) (by as_aux_lemma=>kernel_rfl),Ku⟩
def Tx:afp:=⟨30,[.agg Vz,.agg [.str [49],.str [49],.str [50]]],WQ,.agg [.str [98],.slice 7 0 2 none,.int .i64 0,.str [49],.str [49],.str [50]],[.cells true 1 [.int .i64 0,.int .i64 1]]⟩
def KG:List afp:=Tx::KF
theorem Kw:dW KG:=List.forall_mem_cons.2 ⟨dJ (lv:=ab) (K:=60) (n:=30) ae (ar _) (au _) (cz Kv) (by as_aux_lemma=>kernel_rfl),Kv⟩
def Ty:afp:=⟨10,[.agg Vz,.agg [.str [49],.str [49],.str [50]]],WQ,.tuple [.str [98],.int .i64 0],[]⟩
def KH:List afp:=Ty::KG
theorem Kx:dW KH:=List.forall_mem_cons.2 ⟨dJ (lv:=ab) (K:=60) (n:=30) ae (ar _) (au _) (cz Kw) (by as_aux_lemma=>kernel_rfl),Kw⟩
def Tz:afp:=⟨134,[.agg [.slice 0 0 4 none,.slice 1 0 2 none],.agg [.str [51],.str [49],.str [49]]],Zy,.tuple [.int .i64 0,.agg [.str [52],.str [56],.str [52]],.bool true],[]⟩
def KI:List afp:=Tz::KH
theorem Ky:dW KI:=List.forall_mem_cons.2 ⟨dJ (lv:=ab) (K:=60) (n:=30) ae (ar _) (au _) (cz Kx) (by as_aux_lemma=>kernel_rfl),Kx⟩
def TA:afp:=⟨84,[.agg [.slice 0 0 4 none,.slice 1 0 2 none],.agg [.slice 2 0 4 none,.slice 3 0 2 none,.slice 4 0 1 none],.agg [.str [51],.str [49],.str [49]]],Zx,.int .i64 0,[]⟩
def D3:List afp:=TA::KI
theorem DV:dW D3:=List.forall_mem_cons.2 ⟨dJ (lv:=ab) (K:=60) (n:=30) ae (ar _) (au _) (cz Ky) (by as_aux_lemma=>kernel_rfl),Ky⟩
def Q1:afp:=⟨30,[.agg Vz,.agg [.str [51],.str [49],.str [50]]],WQ,.agg [.str [97],.slice 7 0 2 none,.int .i64 0,.str [51],.str [49],.str [49]],[.cells true 1 [.int .i64 1,.int .i64 0]]⟩
def D4:List afp:=Q1::D3
theorem DW:dW D4:=List.forall_mem_cons.2 ⟨dJ (lv:=ab) (K:=60) (n:=30) ae (ar _) (au _) (cz DV) (by as_aux_lemma=>kernel_rfl),DV⟩
def Q2:afp:=⟨10,[.agg Vz,.agg [.str [51],.str [49],.str [50]]],WQ,.tuple [.str [97],.int .i64 0],[]⟩
def D5:List afp:=Q2::D4
theorem DX:dW D5:=List.forall_mem_cons.2 ⟨dJ (lv:=ab) (K:=60) (n:=30) ae (ar _) (au _) (cz DW) (by as_aux_lemma=>kernel_rfl),DW⟩
def Q3:afp:=⟨134,[.agg [.slice 0 0 4 none,.slice 1 0 2 none],.agg [.str [49],.str [49],.str [45,49]]],Zy,.tuple [.int .i64 0,.agg [.str [49,50],.str [48],.str [52]],.bool true],[]⟩
def D6:List afp:=Q3::D5
theorem DY:dW D6:=List.forall_mem_cons.2 ⟨dJ (lv:=ab) (K:=60) (n:=30) ae (ar _) (au _) (cz DX) (by as_aux_lemma=>kernel_rfl),DX⟩
def Q4:afp:=⟨84,[.agg [.slice 0 0 4 none,.slice 1 0 2 none],.agg [.slice 2 0 4 none,.slice 3 0 2 none,.slice 4 0 1 none],.agg [.str [49],.str [49],.str [45,49]]],Zx,.int .i64 (-1),[]⟩
def D7:List afp:=Q4::D6
theorem DZ:dW D7:=List.forall_mem_cons.2 ⟨dJ (lv:=ab) (K:=60) (n:=30) ae (ar _) (au _) (cz DY) (by as_aux_lemma=>kernel_rfl),DY⟩
def Q5:afp:=⟨30,[.agg Vz,.agg [.str [49],.str [49],.str [45,49]]],WQ,.agg [.str [103],.slice 7 0 2 none,.int .i64 (-1),.str [49],.str [49],.str [45,49]],[.cells true 1 [.int .i64 0,.int .i64 (-1)]]⟩
def D8:List afp:=Q5::D7
theorem D0:dW D8:=List.forall_mem_cons.2 ⟨dJ (lv:=ab) (K:=60) (n:=30) ae (ar _) (au _) (cz DZ) (by as_aux_lemma=>kernel_rfl),DZ⟩
def Q6:afp:=⟨10,[.agg Vz,.agg [.str [49],.str [49],.str [45,49]]],WQ,.tuple [.str [103],.int .i64 0],[]⟩
def D9:List afp:=Q6::D8
theorem D1:dW D9:=List.forall_mem_cons.2 ⟨dJ (lv:=ab) (K:=60) (n:=30) ae (ar _) (au _) (cz D0) (by as_aux_lemma=>kernel_rfl),D0⟩
def Q7:afp:=⟨17,[.agg Vz],WQ,.tuple [.slice 7 0 3 none,.int .i64 0],[.cells true 1 [.str [103],.str [97],.str [98]]]⟩
def Ea:List afp:=Q7::D9
theorem D2:dW Ea:=List.forall_mem_cons.2 ⟨dJ (lv:=ab) (K:=60) (n:=30) ae (ar _) (au _) (cz D1) (by as_aux_lemma=>kernel_rfl),D1⟩
def Q8:afp:=⟨12,[.agg Vz,.agg [.str [51],.str [49],.str [50]],.int .i64 1],WQ,.tuple [.agg [.str [51],.str [49],.str [49]],.int .i64 0],[]⟩
def Eb:List afp:=Q8::Ea
theorem Q0:dW Eb:=List.forall_mem_cons.2 ⟨dJ (lv:=ab) (K:=60) (n:=30) ae (ar _) (au _) (cz D2) (by as_aux_lemma=>kernel_rfl),D2⟩
theorem NW:(sN (aN prog) ab (aK prog) (Pq Eb) 60 30 (.fn 7) [] []).map UU=some true:=by kernel_rfl
theorem ve(M:Mem):kO prog 7 [] M (.bool true) M:=by have h:=NW;rw[Option.map_eq_some_iff] at h;obtain⟨r,Z,X⟩:=h;have:=(gG ae (ar _) (au _) (cz Q0) 30).fn _ _ _ _ Z;obtain⟨W,V⟩:=O2 X;rw[W,V] at this;exact kO.lift rfl rfl this M
end Go.Proofs
