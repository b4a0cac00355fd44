/- See N58. -/
import Derived.Test.YtmhkeaphiadacaaGreatDoorN15
import Derived.Test.YtmhkeaphiadacaaGreatDoorN10
set_option linter.all false
namespace Go.Proofs
open Go.Eng
theorem KJ(n:Int) (mem:Mem):ACallsTo Tryz.prog 191 [.str (cd n)] mem (.int .i64 (nq n)) mem:=by
 have hG:aI Tryz.prog 191=some Tryz.f191:=by kernel_rfl
 refine aw de (lv:=fun _=>[]) (K:=1) rfl rfl ?_ mem
 by_cases h0:n=0
 ·simp[ab,hG,Tryz.f191,iU,nq,h0]
 ·by_cases h1:n<0
  ·simp[ab,hG,Tryz.f191,ao,aL,iU,kV,h1,h0,nq]
  ·simp[ab,hG,Tryz.f191,ao,aL,iU,kV,h1,h0,nq]
theorem Oe(n:Int) (hn:iK n=true) (mem:Mem):ACallsTo Tryz.prog 127 [.int .i64 n] mem (.str (cd n)) mem:=by
 have hG:aI Tryz.prog 127=some Tryz.f127:=by kernel_rfl
 refine aw de (lv:=fun _=>[]) (K:=1) rfl rfl ?_ mem
 simp[ab,hG,Tryz.f127,ao,aL,hn]
theorem BY(r c:Bool):zf (az Tryz.prog) 234 r c .nilIface .nilIface=if r||c then some true else none:=Lw (by kernel_rfl) r c
theorem H9(n:Int) (m:Int) (hm:m≤18) (hl:(cd n).length≤1000000000) (mem:Mem):ACallsTo Tryz.prog 216 [.str (cd n),.int .i64 m] mem (if (cd n).length≤m then .tuple [.int .i64 n,.bool true] else .tuple [.int .i64 0,.bool false]) mem:=by
 have hG:aI Tryz.prog 216=some Tryz.f216:=by kernel_rfl
 refine aw de (lv:=fun _=>[]) (K:=1) rfl (by split<;>rfl) ?_ mem
 by_cases h:((cd n).length:Int)≤m
 ·have h2:¬m<((cd n).length:Int):=by omega
  have h3:(cd n).length≤18:=by omega
  simp[ab,hG,Tryz.f216,ao,aL,h,h2,h3,lI,BY]
 ·have h2:m<((cd n).length:Int):=by omega
  simp[ab,hG,Tryz.f216,h,h2]
noncomputable def bX(f:FuncId) (args:List AV):Option AV:=
 match f,args with
 |191,[.str s]=>match nQ s with
  |some n=>some (.int .i64 (nq n))
  |none=>none
 |_,_=>aL f args
theorem om:OracleOk Tryz.prog (ao bX):=by
 have hs:=de
 refine bN fun f args v h mem=>?_
 unfold bX at h
 split at h
 ·split at h
  ·rename_i n hn;cases h;rw[dH hn];exact KJ n mem
  ·cases h
 ·have:=hs.fn f args mem ⟨v,none,[]⟩ (by unfold ao;simp only;rw[h])
  simpa [CallRes.mem] using this
theorem Mm(n:Int) (hl:(cd n).length≤1000000000) (mem:Mem):ACallsTo Tryz.prog 201 [.str (cd n)] mem (.str (cd (-n))) mem:=by
 have hG:aI Tryz.prog 201=some Tryz.f201:=by kernel_rfl
 refine aw om (lv:=fun _=>[]) (K:=1) rfl rfl ?_ mem
 by_cases h0:n=0
 ·subst h0
  simp[ab,hG,Tryz.f201,ao,bX,bZ,nq]
 ·by_cases h1:n<0
  ·have h2:1≤(cd n).length:=oL n
   have h3:((1:Int)≤(cd n).length):=by omega
   have h4:List.take ((cd n).length-1) (List.drop 1 (cd n))=cd (-n):=by
    rw[List.take_of_length_le (by simp),Cv h1]
   simp[ab,hG,Tryz.f201,ao,bX,bZ,nq,h1,h3]
   rw[←List.drop_one]
   exact h4
  ·have h5:1+(cd n).length≤9223372036854775807:=by omega
   simp[ab,hG,Tryz.f201,ao,bX,bZ,nq,h0,h1,h5,dX,oM (show 0<n by omega)]
theorem zi(a b:Int) (mem:Mem):ACallsTo Tryz.prog 179 [.str (cd a),.str (cd b)] mem (.int .i64 (HG a b)) mem:=by
 have hG:aI Tryz.prog 179=some Tryz.f179:=by kernel_rfl
 refine aw om (lv:=fun _=>[]) (K:=1) rfl rfl ?_ mem
 rw[Ql]
 have hs:∀n,-1≤nq n∧nq n≤1:=by intro n;unfold nq;repeat' split<;>omega
 by_cases h0:nq a=nq b
 ·by_cases h1:(aK a.natAbs).length=(aK b.natAbs).length
  ·have hc:IntKind.i64.wrap (nq b*GN a.natAbs b.natAbs)=nq b*GN a.natAbs b.natAbs:=by
    have h1:=hs b
    have h2: -1≤GN a.natAbs b.natAbs∧GN a.natAbs b.natAbs≤1:=by unfold GN;repeat' split<;>omega
    have h3: -1≤nq b*GN a.natAbs b.natAbs∧nq b*GN a.natAbs b.natAbs≤1:=by
     generalize nq b=x at*
     generalize GN a.natAbs b.natAbs=y at*
     have hx:x= -1∨x=0∨x=1:=by omega
     rcases hx with rfl | rfl | rfl<;>omega
    exact al (by omega) (by omega)
   simp[ab,hG,Tryz.f179,ao,bX,aL,bZ,jz,h0,h1,tY h1,hc]
  ·have hw:IntKind.i64.wrap (- nq b)= - nq b:=by have:=hs b;exact al (by omega) (by omega)
   have h1i:¬((aK a.natAbs).length:Int)=(aK b.natAbs).length:=by omega
   by_cases h2:(aK a.natAbs).length<(aK b.natAbs).length
   ·simp[ab,hG,Tryz.f179,ao,bX,aL,bZ,jz,h0,h1,h1i,h2,hw]
   ·simp[ab,hG,Tryz.f179,ao,bX,aL,bZ,jz,h0,h1,h1i,h2]
 ·by_cases h2:nq a<nq b
  ·simp[ab,hG,Tryz.f179,ao,bX,bZ,h0,h2]
  ·simp[ab,hG,Tryz.f179,ao,bX,bZ,h0,h2]
theorem xn{O:Oracle}{K:Nat}{lv:Code→List Nat}(s:List UInt8) (hs:s.length≤1000000000) (env0:Env) (d:Bool) (h3:ac env0 3=.str s) (h32:ac env0 32=.int .i64 s.length) {b:Code}(hb:am Tryz.f189=[b]):
  ∀(k i:Nat),i≤s.length→s.length≤i+k→∃env',dS [33] (ad b) env0 0 (aO (az Tryz.prog) lv O K 47 0 true b) (k+1) ⟨ay [33] (ad b) env0 ((33,.int .i64 i)::env0),[],d⟩=
   some (if (s.drop i).all isD then .exit 0 else .ret,⟨env',[],d⟩)∧((s.drop i).all isD=false→ac env' 2=.int .i64 2):=by
 simp[am,aJ,Tryz.f189] at hb
 have last:∀k,∃env',dS [33] (ad b) env0 0 (aO (az Tryz.prog) lv O K 47 0 true b) (k+1) ⟨ay [33] (ad b) env0 ((33,.int .i64 s.length)::env0),[],d⟩=
   some (if (s.drop s.length).all isD then .exit 0 else .ret,⟨env',[],d⟩)∧((s.drop s.length).all isD=false→ac env' 2=.int .i64 2):=by
  intro k
  subst hb
  simp[dS,h32]
 intro k
 induction k with
 |zero=>
  intro i hi1 hi2
  have hi' :i=s.length:=by omega
  subst hi'
  exact last 0
 |succ k ih=>
  intro i hi1 hi2
  by_cases hi' :i=s.length
  ·subst hi';exact last (k+1)
  have hlt:i<s.length:=by omega
  have hlt' :(i:Int)<s.length:=by omega
  obtain⟨c,hc⟩:∃c,s[i]? =some c:=⟨s[i],by simp[hlt]⟩
  have hd:s.drop i=c::s.drop (i+1):=by
   rw[List.drop_eq_getElem_cons hlt]
   congr 1
   have:=List.getElem?_eq_getElem hlt
   rw[hc] at this
   exact(Option.some.inj this).symm
  have hw:IntKind.i64.wrap ((i:Int)+1)=((i+1:Nat):Int):=by rw[al (by omega) (by omega)];omega
  obtain⟨env',e1,e2⟩:=ih (i+1) (by omega) (by omega)
  subst hb
  unfold dS
  by_cases h1:c.toNat<48
  ·have hn:isD c=false:=by unfold isD;simp;omega
   have h1' :((c.toNat:Int)<48):=by omega
   simp[h3,h32,hlt',hc,h1',hd,hn]
  ·have h1' :¬((c.toNat:Int)<48):=by omega
   by_cases h2:57<c.toNat
   ·have hn:isD c=false:=by unfold isD;simp;omega
    have h2' :(57<(c.toNat:Int)):=by omega
    simp[h3,h32,hlt',hc,h1',h2',hd,hn]
   ·have hn:isD c=true:=by unfold isD;simp;omega
    have h2' :¬(57<(c.toNat:Int)):=by omega
    refine⟨env',?_,?_⟩
    ·simp[h3,h32,hlt',hc,h1',h2',hd,hn,hw]
     simp at e1
     exact e1
    ·rw[hd];simpa [hn] using e2
theorem vE{O:Oracle}{K:Nat}{lv:Code→List Nat}(s:List UInt8) (hs:s.length≤1000000000) (hK:s.length<K) {b:Code}(hb:am Tryz.f189=[b]) (hlv:lv b=[33]):
  ∃F:Env→Bool→Env,∀env0 d,(ac env0 3=.str s∧ac env0 32=.int .i64 s.length∧ac env0 33=.int .i64 0)→
   aO (az Tryz.prog) lv O K 47 0 true (.loop b) ⟨env0,[],d⟩=some (if s.all isD then .exit 0 else .ret,⟨F env0 d,[],d⟩)∧(s.all isD=false→ac (F env0 d) 2=.int .i64 2):=by
 refine kX (p:=fun env0 _=>ac env0 3=.str s∧ac env0 32=.int .i64 s.length∧ac env0 33=.int .i64 0) (q:=fun env0 d e' =>aO (az Tryz.prog) lv O K 47 0 true (.loop b) ⟨env0,[],d⟩=some (if s.all isD then .exit 0 else .ret,⟨e',[],d⟩)∧(s.all isD=false→ac e' 2=.int .i64 2)) ?_
 rintro env0 d ⟨h3,h32,h33⟩
 obtain⟨env',e1,e2⟩:=xn (O:=O) (K:=K) (lv:=lv) s hs env0 d h3 h32 hb (K-1) 0 (by omega) (by omega)
 refine⟨env',?_,by simpa using e2⟩
 rw[aC,hlv]
 have hn:ay [33] (ad b) env0 ((33,.int .i64 (0:Nat))::env0)=ay [33] (ad b) env0 env0:=by simp[ay,h33]
 rw[hn,show K-1+1=K by omega] at e1
 simpa using e1
def okT(mn:Bool) (t:List UInt8):Bool:=match t with
 | []=>false
 |c::r=>decide (r.length<200)&& !(c==48&&(decide (0<r.length)||mn))&&(c::r).all isD
theorem Rr{c:UInt8}:((c.toNat:Int)=48)↔c=48:=by
 constructor
 ·intro e
  apply UInt8.toNat_inj.1
  have:c.toNat=48:=by omega
  rw[this];rfl
 ·rintro rfl;rfl
theorem CM(s:List UInt8) (hs:s.length≤1000000000) (mem:Mem):ACallsTo Tryz.prog 189 [.str s] mem (.int .i64 (if okT (Lib.hasPrefix s [45]) (Lib.trimPrefix s [45]) then 0 else 2)) mem:=by
 have hG:aI Tryz.prog 189=some Tryz.f189:=by kernel_rfl
 refine aw de (lv:=fun _=>[33]) (K:=s.length+1) rfl rfl ?_ mem
 have ht:(Lib.trimPrefix s [45]).length≤s.length:=by unfold Lib.trimPrefix;split<;>simp
 cases htp:Lib.trimPrefix s [45] with
 |nil=>simp[ab,hG,Tryz.f189,ao,aL,htp,okT]
 |cons c r=>
  rw[htp] at ht
  simp only[List.length_cons] at ht
  obtain⟨b,hb⟩:∃b,am Tryz.f189=[b]:=⟨_,rfl⟩
  obtain⟨F,hF⟩:=vE (O:=ao aL) (K:=s.length+1) (lv:=fun _=>[33]) (c::r) (by simp;omega) (by simp;omega) hb rfl
  simp[am,aJ,Tryz.f189] at hb
  subst hb
  simp only[List.length_cons] at hF
  by_cases h1:r.length<200
  ·have h1' :¬(200<(r.length:Int)+1):=by omega
   by_cases h2:c=48
   ·subst h2
    by_cases h3:0<r.length
    ·have h3' :1<(r.length:Int)+1:=by omega
     simp[ab,hG,Tryz.f189,ao,aL,htp,okT,h1,h1',h3,h3']
    ·have h3' :¬1<(r.length:Int)+1:=by omega
     have hr:r=[]:=List.eq_nil_of_length_eq_zero (by omega)
     subst hr
     cases hmn:Lib.hasPrefix s [45] with
     |true=>simp[ab,hG,Tryz.f189,ao,aL,htp,okT,hmn]
     |false=>
      have hd:isD 48=true:=by decide
      simp[ab,hG,Tryz.f189,ao,aL,htp,okT,hmn,hF,hd]
   ·have h2' :¬((c.toNat:Int)=48):=fun e=>h2 (Rr.1 e)
    cases hall:(c::r).all isD with
    |true=>simp[ab,hG,Tryz.f189,ao,aL,htp,okT,h1,h1',h2,h2',hF,hall]
    |false=>simp[ab,hG,Tryz.f189,ao,aL,htp,okT,h1,h1',h2,h2',hF,hall]
  ·have h1' :(200<(r.length:Int)+1):=by omega
   simp[ab,hG,Tryz.f189,ao,aL,htp,okT,h1,h1']
end Go.Proofs
