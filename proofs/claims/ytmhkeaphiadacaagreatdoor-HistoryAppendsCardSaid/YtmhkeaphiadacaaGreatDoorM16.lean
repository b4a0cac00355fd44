/- See M58. -/
import Derived.Test.YtmhkeaphiadacaaGreatDoorM15
import Derived.Test.YtmhkeaphiadacaaGreatDoorM10
set_option linter.all false
namespace Go.Proofs
open Go.Eng
theorem Ka(n:Int) (mem:Mem):ACallsTo Tryz.prog 191 [.str (bW n)] mem (.int .i64 (m6 n)) mem:=by
 have hG:aF Tryz.prog 191=some Tryz.f191:=by kernel_rfl
 refine aq cW (lv:=fun _=>[]) (K:=1) rfl rfl ?_ mem
 by_cases h0:n=0
 ·simp[ad,hG,Tryz.f191,iK,m6,h0]
 ·by_cases h1:n<0
  ·simp[ad,hG,Tryz.f191,ao,aJ,iK,kG,h1,h0,m6]
  ·simp[ad,hG,Tryz.f191,ao,aJ,iK,kG,h1,h0,m6]
theorem On(n:Int) (hn:iz n=true) (mem:Mem):ACallsTo Tryz.prog 127 [.int .i64 n] mem (.str (bW n)) mem:=by
 have hG:aF Tryz.prog 127=some Tryz.f127:=by kernel_rfl
 refine aq cW (lv:=fun _=>[]) (K:=1) rfl rfl ?_ mem
 simp[ad,hG,Tryz.f127,ao,aJ,hn]
theorem A7(r c:Bool):yJ (aA Tryz.prog) 234 r c .nilIface .nilIface=if r||c then some true else none:=J0 (by kernel_rfl) r c
theorem I6(n:Int) (m:Int) (hm:m≤18) (hl:(bW n).length≤1000000000) (mem:Mem):ACallsTo Tryz.prog 216 [.str (bW n),.int .i64 m] mem (if (bW n).length≤m then .tuple [.int .i64 n,.bool true] else .tuple [.int .i64 0,.bool false]) mem:=by
 have hG:aF Tryz.prog 216=some Tryz.f216:=by kernel_rfl
 refine aq cW (lv:=fun _=>[]) (K:=1) rfl (by split<;>rfl) ?_ mem
 by_cases h:((bW n).length:Int)≤m
 ·have h2:¬m<((bW n).length:Int):=by omega
  have h3:(bW n).length≤18:=by omega
  simp[ad,hG,Tryz.f216,ao,aJ,h,h2,h3,lH,A7]
 ·have h2:m<((bW n).length:Int):=by omega
  simp[ad,hG,Tryz.f216,h,h2]
noncomputable def bS(f:FuncId) (args:List AV):Option AV:=
 match f,args with
 |191,[.str s]=>match nE s with
  |some n=>some (.int .i64 (m6 n))
  |none=>none
 |_,_=>aJ f args
theorem nN:OracleOk Tryz.prog (ao bS):=by
 have hs:=cW
 refine bI fun f args v h mem=>?_
 unfold bS at h
 split at h
 ·split at h
  ·rename_i n hn;cases h;rw[dG hn];exact Ka n mem
  ·cases h
 ·have:=hs.fn f args mem ⟨v,none,[]⟩ (by unfold ao;simp only;rw[h])
  simpa [CallRes.mem] using this
theorem LK(n:Int) (hl:(bW n).length≤1000000000) (mem:Mem):ACallsTo Tryz.prog 201 [.str (bW n)] mem (.str (bW (-n))) mem:=by
 have hG:aF Tryz.prog 201=some Tryz.f201:=by kernel_rfl
 refine aq nN (lv:=fun _=>[]) (K:=1) rfl rfl ?_ mem
 by_cases h0:n=0
 ·subst h0
  simp[ad,hG,Tryz.f201,ao,bS,bT,m6]
 ·by_cases h1:n<0
  ·have h2:1≤(bW n).length:=oM n
   have h3:((1:Int)≤(bW n).length):=by omega
   have h4:List.take ((bW n).length-1) (List.drop 1 (bW n))=bW (-n):=by
    rw[List.take_of_length_le (by simp),Cd h1]
   simp[ad,hG,Tryz.f201,ao,bS,bT,m6,h1,h3]
   rw[←List.drop_one]
   exact h4
  ·have h5:1+(bW n).length≤9223372036854775807:=by omega
   simp[ad,hG,Tryz.f201,ao,bS,bT,m6,h0,h1,h5,dT,oP (show 0<n by omega)]
theorem zm(a b:Int) (mem:Mem):ACallsTo Tryz.prog 179 [.str (bW a),.str (bW b)] mem (.int .i64 (G9 a b)) mem:=by
 have hG:aF Tryz.prog 179=some Tryz.f179:=by kernel_rfl
 refine aq nN (lv:=fun _=>[]) (K:=1) rfl rfl ?_ mem
 rw[PI]
 have hs:∀n,-1≤m6 n∧m6 n≤1:=by intro n;unfold m6;repeat' split<;>omega
 by_cases h0:m6 a=m6 b
 ·by_cases h1:(aI a.natAbs).length=(aI b.natAbs).length
  ·have hc:IntKind.i64.wrap (m6 b*Gs a.natAbs b.natAbs)=m6 b*Gs a.natAbs b.natAbs:=by
    have h1:=hs b
    have h2: -1≤Gs a.natAbs b.natAbs∧Gs a.natAbs b.natAbs≤1:=by unfold Gs;repeat' split<;>omega
    have h3: -1≤m6 b*Gs a.natAbs b.natAbs∧m6 b*Gs a.natAbs b.natAbs≤1:=by
     generalize m6 b=x at*
     generalize Gs a.natAbs b.natAbs=y at*
     have hx:x= -1∨x=0∨x=1:=by omega
     rcases hx with rfl | rfl | rfl<;>omega
    exact ai (by omega) (by omega)
   simp[ad,hG,Tryz.f179,ao,bS,aJ,bT,jh,h0,h1,tw h1,hc]
  ·have hw:IntKind.i64.wrap (- m6 b)= - m6 b:=by have:=hs b;exact ai (by omega) (by omega)
   have h1i:¬((aI a.natAbs).length:Int)=(aI b.natAbs).length:=by omega
   by_cases h2:(aI a.natAbs).length<(aI b.natAbs).length
   ·simp[ad,hG,Tryz.f179,ao,bS,aJ,bT,jh,h0,h1,h1i,h2,hw]
   ·simp[ad,hG,Tryz.f179,ao,bS,aJ,bT,jh,h0,h1,h1i,h2]
 ·by_cases h2:m6 a<m6 b
  ·simp[ad,hG,Tryz.f179,ao,bS,bT,h0,h2]
  ·simp[ad,hG,Tryz.f179,ao,bS,bT,h0,h2]
theorem xx{O:Oracle}{K:Nat}{lv:Code→List Nat}(s:List UInt8) (hs:s.length≤1000000000) (env0:Env) (d:Bool) (h3:ac env0 3=.str s) (h32:ac env0 32=.int .i64 s.length) {b:Code}(hb:am Tryz.f189=[b]):
  ∀(k i:Nat),i≤s.length→s.length≤i+k→∃env',dN [33] (ab b) env0 0 (aH (aA Tryz.prog) lv O K 47 0 true b) (k+1) ⟨aw [33] (ab b) env0 ((33,.int .i64 i)::env0),[],d⟩=
   some (if (s.drop i).all isD then .exit 0 else .ret,⟨env',[],d⟩)∧((s.drop i).all isD=false→ac env' 2=.int .i64 2):=by
 simp[am,aB,Tryz.f189] at hb
 have last:∀k,∃env',dN [33] (ab b) env0 0 (aH (aA Tryz.prog) lv O K 47 0 true b) (k+1) ⟨aw [33] (ab b) env0 ((33,.int .i64 s.length)::env0),[],d⟩=
   some (if (s.drop s.length).all isD then .exit 0 else .ret,⟨env',[],d⟩)∧((s.drop s.length).all isD=false→ac env' 2=.int .i64 2):=by
  intro k
  subst hb
  simp[dN,h32]
 intro k
 induction k with
 |zero=>
  intro i hi1 hi2
  have hi' :i=s.length:=by omega
  subst hi'
  exact last 0
 |succ k ih=>
  intro i hi1 hi2
  by_cases hi' :i=s.length
  ·subst hi';exact last (k+1)
  have hlt:i<s.length:=by omega
  have hlt' :(i:Int)<s.length:=by omega
  obtain⟨c,hc⟩:∃c,s[i]? =some c:=⟨s[i],by simp[hlt]⟩
  have hd:s.drop i=c::s.drop (i+1):=by
   rw[List.drop_eq_getElem_cons hlt]
   congr 1
   have:=List.getElem?_eq_getElem hlt
   rw[hc] at this
   exact(Option.some.inj this).symm
  have hw:IntKind.i64.wrap ((i:Int)+1)=((i+1:Nat):Int):=by rw[ai (by omega) (by omega)];omega
  obtain⟨env',e1,e2⟩:=ih (i+1) (by omega) (by omega)
  subst hb
  unfold dN
  by_cases h1:c.toNat<48
  ·have hn:isD c=false:=by unfold isD;simp;omega
   have h1' :((c.toNat:Int)<48):=by omega
   simp[h3,h32,hlt',hc,h1',hd,hn]
  ·have h1' :¬((c.toNat:Int)<48):=by omega
   by_cases h2:57<c.toNat
   ·have hn:isD c=false:=by unfold isD;simp;omega
    have h2' :(57<(c.toNat:Int)):=by omega
    simp[h3,h32,hlt',hc,h1',h2',hd,hn]
   ·have hn:isD c=true:=by unfold isD;simp;omega
    have h2' :¬(57<(c.toNat:Int)):=by omega
    refine⟨env',?_,?_⟩
    ·simp[h3,h32,hlt',hc,h1',h2',hd,hn,hw]
     simp at e1
     exact e1
    ·rw[hd];simpa [hn] using e2
theorem vy{O:Oracle}{K:Nat}{lv:Code→List Nat}(s:List UInt8) (hs:s.length≤1000000000) (hK:s.length<K) {b:Code}(hb:am Tryz.f189=[b]) (hlv:lv b=[33]):
  ∃F:Env→Bool→Env,∀env0 d,(ac env0 3=.str s∧ac env0 32=.int .i64 s.length∧ac env0 33=.int .i64 0)→
   aH (aA Tryz.prog) lv O K 47 0 true (.loop b) ⟨env0,[],d⟩=some (if s.all isD then .exit 0 else .ret,⟨F env0 d,[],d⟩)∧(s.all isD=false→ac (F env0 d) 2=.int .i64 2):=by
 refine me (p:=fun env0 _=>ac env0 3=.str s∧ac env0 32=.int .i64 s.length∧ac env0 33=.int .i64 0) (q:=fun env0 d e' =>aH (aA Tryz.prog) lv O K 47 0 true (.loop b) ⟨env0,[],d⟩=some (if s.all isD then .exit 0 else .ret,⟨e',[],d⟩)∧(s.all isD=false→ac e' 2=.int .i64 2)) ?_
 rintro env0 d ⟨h3,h32,h33⟩
 obtain⟨env',e1,e2⟩:=xx (O:=O) (K:=K) (lv:=lv) s hs env0 d h3 h32 hb (K-1) 0 (by omega) (by omega)
 refine⟨env',?_,by simpa using e2⟩
 rw[ay,hlv]
 have hn:aw [33] (ab b) env0 ((33,.int .i64 (0:Nat))::env0)=aw [33] (ab b) env0 env0:=by simp[aw,h33]
 rw[hn,show K-1+1=K by omega] at e1
 simpa using e1
def okT(mn:Bool) (t:List UInt8):Bool:=match t with
 | []=>false
 |c::r=>decide (r.length<200)&& !(c==48&&(decide (0<r.length)||mn))&&(c::r).all isD
theorem QM{c:UInt8}:((c.toNat:Int)=48)↔c=48:=by
 constructor
 ·intro e
  apply UInt8.toNat_inj.1
  have:c.toNat=48:=by omega
  rw[this];rfl
 ·rintro rfl;rfl
theorem CZ(s:List UInt8) (hs:s.length≤1000000000) (mem:Mem):ACallsTo Tryz.prog 189 [.str s] mem (.int .i64 (if okT (Lib.hasPrefix s [45]) (Lib.trimPrefix s [45]) then 0 else 2)) mem:=by
 have hG:aF Tryz.prog 189=some Tryz.f189:=by kernel_rfl
 refine aq cW (lv:=fun _=>[33]) (K:=s.length+1) rfl rfl ?_ mem
 have ht:(Lib.trimPrefix s [45]).length≤s.length:=by unfold Lib.trimPrefix;split<;>simp
 cases htp:Lib.trimPrefix s [45] with
 |nil=>simp[ad,hG,Tryz.f189,ao,aJ,htp,okT]
 |cons c r=>
  rw[htp] at ht
  simp only[List.length_cons] at ht
  obtain⟨b,hb⟩:∃b,am Tryz.f189=[b]:=⟨_,rfl⟩
  obtain⟨F,hF⟩:=vy (O:=ao aJ) (K:=s.length+1) (lv:=fun _=>[33]) (c::r) (by simp;omega) (by simp;omega) hb rfl
  simp[am,aB,Tryz.f189] at hb
  subst hb
  simp only[List.length_cons] at hF
  by_cases h1:r.length<200
  ·have h1' :¬(200<(r.length:Int)+1):=by omega
   by_cases h2:c=48
   ·subst h2
    by_cases h3:0<r.length
    ·have h3' :1<(r.length:Int)+1:=by omega
     simp[ad,hG,Tryz.f189,ao,aJ,htp,okT,h1,h1',h3,h3']
    ·have h3' :¬1<(r.length:Int)+1:=by omega
     have hr:r=[]:=List.eq_nil_of_length_eq_zero (by omega)
     subst hr
     cases hmn:Lib.hasPrefix s [45] with
     |true=>simp[ad,hG,Tryz.f189,ao,aJ,htp,okT,hmn]
     |false=>
      have hd:isD 48=true:=by decide
      simp[ad,hG,Tryz.f189,ao,aJ,htp,okT,hmn,hF,hd]
   ·have h2' :¬((c.toNat:Int)=48):=fun e=>h2 (QM.1 e)
    cases hall:(c::r).all isD with
    |true=>simp[ad,hG,Tryz.f189,ao,aJ,htp,okT,h1,h1',h2,h2',hF,hall]
    |false=>simp[ad,hG,Tryz.f189,ao,aJ,htp,okT,h1,h1',h2,h2',hF,hall]
  ·have h1' :(200<(r.length:Int)+1):=by omega
   simp[ad,hG,Tryz.f189,ao,aJ,htp,okT,h1,h1']
end Go.Proofs
