/- See K51. -/
import Derived.Test.YtffdedmakncfmaaGreatDoorK32
import Derived.Test.YtffdedmakncfmaaGreatDoorK36
set_option linter.all false
namespace Go.Proofs
open Go.Eng
def sqP:List AV:=[.str [48],.str [48],.str [52],.str [48],.str [52],.str [52],.str [48],.str [52]]
def sqT:List AV:=[.int .i64 0,.int .i64 1,.int .i64 2,.int .i64 0,.int .i64 2,.int .i64 3]
theorem tY:AG (aO Tryz.prog) ad (aN Tryz.prog) JH 60 10 (.fn 131) [.agg [.slice 0 0 4 none,.slice 1 0 2 none]] [.cells false 2 sqP,.cells false 3 sqT]=some ⟨.int .i64 0,some [.cells false 2 sqP,.cells false 3 sqT],[]⟩:=by
 kernel_rfl
theorem zZ:ACallsTo Tryz.prog 131 [.agg [.slice 0 0 4 none,.slice 1 0 2 none]] [.cells false 2 sqP,.cells false 3 sqT] (.int .i64 0) [.cells false 2 sqP,.cells false 3 sqT]:=by
 have:=(mj ae (aw _) (ax _) ID 10).fn _ _ _ _ tY
 simpa [CallRes.mem] using this
def Mr:List AV→List AV→Bool
 | [],[]=>true
 |.str a::l,.str b::r=>(a==b)&&Mr l r
 |.int .i64 a::l,.int .i64 b::r=>decide (a=b)&&Mr l r
 |_,_=>false
theorem CY:∀{l r:List AV},Mr l r=true→l=r
 | [],r,h=>by cases r<;>first | rfl | (unfold Mr at h;cases h)
 |v::l,r,h=>by
  unfold Mr at h
  split at h
  ·rename_i h1;cases h1
  ·rename_i h1
   cases h1
   simp only[Bool.and_eq_true,beq_iff_eq] at h
   rw[h.1,CY h.2]
  ·rename_i h1
   cases h1
   simp only[Bool.and_eq_true,decide_eq_true_eq] at h
   rw[h.1,CY h.2]
  ·cases h
def Mo(M:Mem) (b e:Nat) (cs:List AV):Bool:=match M[b]? with
 |some (.cells _ es l)=>decide (es=e)&&Mr (l.take cs.length) cs
 |_=>false
theorem Hr{M:Mem}{b e:Nat}{cs:List AV}{ks:List Nat}(h:Mo M b e cs=true) (hu:AV.closeds cs=true):b<M.length∧SubSlot ks M b (.cells false e cs):=by
 unfold Mo at h
 split at h
 ·rename_i o es l hb
  simp only[Bool.and_eq_true,decide_eq_true_eq] at h
  obtain⟨rfl,h2⟩:=h
  have h2:=CY h2
  refine⟨(List.getElem?_eq_some_iff.1 hb).1,aR hu,o,l,hb,fun j v hv=>?_⟩
  have hj:=(List.getElem?_eq_some_iff.1 hv).1
  have:l[j]? =cs[j]? :=by
   rw[←List.getElem?_take_of_lt hj,h2]
  have hr:=aJ (ρ:=eK ks M.length) hu
  rw[fZ] at hr
  have hr2:(cs.map (AV.ren (eK ks M.length)))[j]? =cs[j]? :=by rw[hr]
  rw[List.getElem?_map,hv] at hr2
  rw[this,hv];exact hr2.symm
 ·cases h
theorem zY(M:Mem) (b c:Nat) (h1:Mo M b 2 sqP=true) (h2:Mo M c 3 sqT=true):ACallsTo Tryz.prog 131 [.agg [.slice b 0 4 none,.slice c 0 2 none]] M (.int .i64 0) M:=by
 have k1:=Hr (ks:=[b,c]) h1 (by rfl)
 have k2:=Hr (ks:=[b,c]) h2 (by rfl)
 have:=ACallsTo.frame (M:=M) (new:=[]) [b,c] (m:=[.cells false 2 sqP,.cells false 3 sqT]) rfl (by
  intro k hk
  simp only[List.mem_cons,List.not_mem_nil,or_false] at hk
  rcases hk with h | h
  ·rw[h];exact k1.1
  ·rw[h];exact k2.1) (by rfl) (fun i s hs=>by
  match i with
  |0=>simp at hs;subst hs;exact k1.2
  |1=>simp at hs;subst hs;exact k2.2
  |i+2=>simp at hs) rfl zZ
 simpa [AV.rens,AV.ren,eK] using this
def Cm(c:Go.Eng.Callee) (args:List AV) (M:Mem):Option CallRes:=match c,args with
 |.fn 131,[.agg [.slice b 0 4 none,.slice c 0 2 none]]=>if Mo M b 2 sqP&&Mo M c 3 sqT then some ⟨.int .i64 0,none,[]⟩ else none
 |_,_=>none
theorem IP:OracleOk Tryz.prog Cm:=by
 refine ca fun c args M r h=>?_
 unfold Cm at h
 split at h
 ·split at h
  ·rename_i hc
   simp only[Bool.and_eq_true] at hc
   cases h
   refine ah ?_
   rw[List.append_nil]
   exact zY M _ _ hc.1 hc.2
  ·cases h
 ·cases h
def Oa(r:CallRes):Bool:=(match r.v with
 |.bool b=>b
 |_=>false)&&r.new.isEmpty&&(match r.pre with
 |some p=>p.isEmpty
 |none=>true)
theorem Jk{r:CallRes}(h:Oa r=true):r.v=.bool true∧r.mem []=[]:=by
 obtain⟨v,pre,new⟩:=r
 simp only[Oa,Bool.and_eq_true,List.isEmpty_iff] at h
 obtain⟨⟨h1,rfl⟩,h3⟩:=h
 constructor
 ·cases v<;>first | (cases h1;done) | skip
  simp only at h1
  rw[h1]
 ·cases pre with
  |none=>rfl
  |some p=>simp only[List.isEmpty_iff] at h3;subst h3;rfl
noncomputable def F6:Oracle:=Oracle.or Cm (Oracle.or (ai aP) (ai dC))
theorem F7:OracleOk Tryz.prog F6:=OracleOk.or IP (OracleOk.or cA fP)
theorem As:(AG (aO Tryz.prog) ad (aN Tryz.prog) F6 60 20 (.fn 6) [] []).map Oa=some true:=by
 kernel_rfl
theorem jf(M:Mem):ACallsTo Tryz.prog 6 [] M (.bool true) M:=by
 have h:=As
 rw[Option.map_eq_some_iff] at h
 obtain⟨r,h1,h2⟩:=h
 have:=(mj ae (aw _) (ax _) F7 20).fn _ _ _ _ h1
 obtain⟨e1,e2⟩:=Jk h2
 rw[e1,e2] at this
 exact ACallsTo.lift rfl rfl this M
end Go.Proofs
