/- See N58. -/
import Derived.Test.YtmhkeaphiadacaaGreatDoorN16
import Derived.Test.YtmhkeaphiadacaaGreatDoorN10
import Derived.Test.YtmhkeaphiadacaaGreatDoorN07
set_option linter.all false
namespace Go.Proofs
open Go.Eng
theorem cT{α:Type}{p q:α→Prop}{r:Prop}(hr:r) (h:∃s,p s∧q s):∃s,p s∧q s∧r:=let ⟨s,a,b⟩:=h;⟨s,a,b,hr⟩
theorem uY(n:Int):(aK n.natAbs).length≤(cd n).length:=by
 cases n with
 |ofNat u=>exact Nat.le_refl _
 |negSucc u=>simp[cd]
theorem ua{n:Int}{k:Nat}(h:(cd n).length≤k):n.natAbs<10 ^ k:=by
 have h1:=dA n.natAbs
 have h2:=uY n
 have h3:10 ^ (aK n.natAbs).length≤10 ^ k:=Nat.pow_le_pow_right (by omega) (by omega)
 omega
noncomputable def cJ(f:FuncId) (args:List AV):Option AV:=
 match f,args with
 |216,[.str s,.int .i64 m]=>match nQ s with
  |some n=>if m≤18∧s.length≤1000000000 then some (if (s.length:Int)≤m then .tuple [.int .i64 n,.bool true] else .tuple [.int .i64 0,.bool false]) else none
  |none=>none
 |127,[.int .i64 n]=>if iK n then some (.str (cd n)) else none
 |201,[.str s]=>match nQ s with
  |some n=>if s.length≤1000000000 then some (.str (cd (-n))) else none
  |none=>none
 |179,[.str s,.str t]=>match nQ s,nQ t with
  |some m,some n=>some (.int .i64 (HG m n))
  |_,_=>none
 |f,args=>bX f args
theorem uD:OracleOk Tryz.prog (ao cJ):=bN fun f args v h mem=>by
 unfold cJ at h
 split at h
 ·split at h
  ·rename_i n hn
   split at h
   ·rename_i hc
    cases h
    rw[dH hn] at hc ⊢
    exact H9 n _ hc.1 hc.2 mem
   ·cases h
  ·cases h
 ·split at h
  ·rename_i hc;cases h;exact Oe _ hc mem
  ·cases h
 ·split at h
  ·rename_i n hn
   split at h
   ·rename_i hc
    cases h
    rw[dH hn] at hc ⊢
    exact Mm n hc mem
   ·cases h
  ·cases h
 ·split at h
  ·rename_i m n hm hn
   cases h
   rw[dH hm,dH hn]
   exact zi m n mem
  ·cases h
 ·have:=om.fn _ _ mem ⟨v,none,[]⟩ (by unfold ao;simp only;rw[h])
  simpa [CallRes.mem] using this
end Go.Proofs
namespace Go.Eng
open Classical in
theorem q9{β:Type}[Inhabited β] {p:Env→Bool→Prop}{q:Env→Bool→β→Prop}(h:∀e d,p e d→∃x,q e d x):∃F:Env→Bool→β,∀e d,p e d→q e d (F e d):=
 ⟨fun e d=>if hp:p e d then Classical.choose (h e d hp) else default,fun e d hp=>by simp only[dif_pos hp];exact Classical.choose_spec (h e d hp)⟩
theorem lU{α:Type}{f:XS→Option (Exit×XS)}{lv wr:List Nat}{env0:Env}{m1:Nat}(S:α→XS) (m:α→Nat) (Inv:α→Prop) (e0:Exit) (d' :Bool) (Q:Env→Mem→Prop) (he:e0≠ .normal)
  (h:∀a,Inv a→(∃a' s',f (S a)=some (.normal,s')∧nO lv wr env0 m1 s' =S a' ∧Inv a' ∧m a' <m a)∨(∃env' mem',f (S a)=some (e0,⟨env',mem',d'⟩)∧Q env' mem')):
  ∀k a,Inv a→m a<k→∃env' mem',dS lv wr env0 m1 f k (S a)=some (e0,⟨env',mem',d'⟩)∧Q env' mem'
 |0,a,_,hk=>by omega
 |k+1,a,ha,hk=>by
  unfold dS
  rcases h a ha with⟨a',s',h1,h2,h3,h4⟩ | ⟨env',mem',h1,h3⟩
  ·rw[h1]
   simp only[h2]
   exact lU S m Inv e0 d' Q he h k a' h3 (by omega)
  ·rw[h1]
   refine⟨env',mem',?_,h3⟩
   cases e0<;>first | rfl | exact absurd rfl he
theorem ng{β:Type}[Inhabited β] {T:TypeId→Option TyI}{lv:Code→List Nat}{O:Oracle}{K N m0:Nat}{tp:Bool}{b:Code}{L:List Nat}(hlv:lv b=L) {mem:Mem}{e:Exit}(pre:Env→Prop) (post:Env→Env→Mem→β→Prop)
  (h:∀env0 d,pre env0→∃env' mem',dS L (ad b) env0 mem.length (aO T lv O K N m0 tp b) K ⟨ay L (ad b) env0 env0,mem,d⟩=some (e,⟨env',mem',d⟩)∧∃x,post env0 env' mem' x):
  ∃F:Env→Bool→Env×Mem×β,∀env0 d,pre env0→aO T lv O K N m0 tp (.loop b) ⟨env0,mem,d⟩=some (e,⟨(F env0 d).1,(F env0 d).2.1,d⟩)∧post env0 (F env0 d).1 (F env0 d).2.1 (F env0 d).2.2:=by
 refine q9 (β:=Env×Mem×β) (p:=fun env0 _=>pre env0) (q:=fun env0 d x=>aO T lv O K N m0 tp (.loop b) ⟨env0,mem,d⟩=some (e,⟨x.1,x.2.1,d⟩)∧post env0 x.1 x.2.1 x.2.2) ?_
 intro env0 d hp
 obtain⟨env',mem',h1,x,h2⟩:=h env0 d hp
 exact⟨(env',mem',x),by rw[aC,hlv];exact h1,h2⟩
end Go.Eng
namespace Go.Proofs
open Go.Eng
def tE(c:Code):List Nat:=if (ad c).contains 9 then [9,10] else [5,7]
theorem zF{O:Oracle}{K:Nat}(n m:Int) (hK:m.natAbs<K) {b0 b:Code}(hb:am Tryz.f190=[b0,b]):
  ∃F:Env→Bool→Env,∀env0 d,(ac env0 5=.int .i64 n∧ac env0 7=.int .i64 m)→
   aO (az Tryz.prog) tE O K 56 0 true (.loop b0) ⟨env0,[],d⟩=some (.exit 0,⟨F env0 d,[],d⟩)∧(∃g:Int,ac (F env0 d) 5=.int .i64 g∧g.natAbs=n.natAbs.gcd m.natAbs):=by
 have hlv:tE b0=[5,7]:=by
  simp[am,aJ,Tryz.f190] at hb
  obtain⟨rfl,rfl⟩:=hb
  decide
 refine bD hlv (fun env0=>ac env0 5=.int .i64 n∧ac env0 7=.int .i64 m) (fun _ env' =>∃g:Int,ac env' 5=.int .i64 g∧g.natAbs=n.natAbs.gcd m.natAbs) ?_
 rintro env0 d ⟨h5,h7⟩
 have hn:ay [5,7] (ad b0) env0 ((5,.int .i64 n)::(7,.int .i64 m)::env0)=ay [5,7] (ad b0) env0 env0:=by simp[ay,h5,h7]
 rw[←hn]
 refine bR (α:=Int×Int) (fun s=>⟨ay [5,7] (ad b0) env0 ((5,.int .i64 s.1)::(7,.int .i64 s.2)::env0),[],d⟩) (fun s=>s.2.natAbs) (fun s=>s.1.natAbs.gcd s.2.natAbs=n.natAbs.gcd m.natAbs) (.exit 0) _ d _ (by simp) ?_ K (n,m) rfl hK
 rintro ⟨x,y⟩ hg
 simp only at hg ⊢
 simp[am,aJ,Tryz.f190] at hb
 obtain⟨rfl,rfl⟩:=hb
 by_cases hy:y=0
 ·right
  subst hy
  simp only[Int.natAbs_zero,Nat.gcd_zero_right] at hg
  simp[hg]
 ·left
  have hlt:(x.tmod y).natAbs<y.natAbs:=by
   rw[Int.natAbs_tmod]
   exact Nat.mod_lt _ (by omega)
  refine⟨(y,x.tmod y),?_⟩
  refine cT (show y.natAbs.gcd (x.tmod y).natAbs=n.natAbs.gcd m.natAbs∧_ from⟨by rw[Int.natAbs_tmod,←hg,Nat.gcd_comm x.natAbs,Nat.gcd_rec y.natAbs x.natAbs,Nat.gcd_comm],hlt⟩) ?_
  simp[hy]
set_option maxHeartbeats 1600000 in
theorem Kz(a b:Int) (ha:(cd a).length≤18) (hb:(cd b).length≤18) (mem:Mem):
  ACallsTo Tryz.prog 190 [.str (cd a),.str (cd b)] mem (.str (aK (a.natAbs.gcd b.natAbs))) mem:=by
 have hG:aI Tryz.prog 190=some Tryz.f190:=by kernel_rfl
 refine aw uD (lv:=tE) (K:=2*b.natAbs+2) rfl rfl ?_ mem
 obtain⟨b0,b1,hb1⟩:∃b0 b1,am Tryz.f190=[b0,b1]:=⟨_,_,rfl⟩
 have la1:(cd a).length≤1000000000:=by omega
 have lb1:(cd b).length≤1000000000:=by omega
 have q1:((cd a).length:Int)≤18:=by omega
 have q2:((cd b).length:Int)≤18:=by omega
 have s1:=ua ha
 have s2:=ua hb
 obtain⟨F,hF⟩:=zF (O:=ao cJ) (K:=2*b.natAbs+2) a b (by omega) hb1
 obtain⟨G,hG2⟩:=q9 (β:=Int) (p:=fun env0 _=>ac env0 5=.int .i64 a∧ac env0 7=.int .i64 b) (q:=fun env0 d g=>ac (F env0 d) 5=.int .i64 g∧g.natAbs=a.natAbs.gcd b.natAbs) (fun env0 d h=>(hF env0 d h).2)
 have hgl:a.natAbs.gcd b.natAbs<10 ^ 18:=by
  by_cases h0:a.natAbs=0
  ·rw[h0,Nat.gcd_zero_left];exact s2
  ·exact Nat.lt_of_le_of_lt (Nat.gcd_le_left _ (by omega)) s1
 obtain⟨g,hg⟩:∃g,g=a.natAbs.gcd b.natAbs:=⟨_,rfl⟩
 rw[←hg] at hgl hG2 ⊢
 have w1:∀z:Int,z.natAbs=g→IntKind.i64.wrap (-z)= -z:=fun z hz=>al (by omega) (by omega)
 have w2:∀z:Int,z.natAbs=g→(if z< -z then -z else z)=(g:Int):=fun z hz=>by split<;>omega
 have hf:iK (g:Int)=true:=by unfold iK;simp;omega
 have hgs:cd (g:Int)=aK g:=rfl
 simp[am,aJ,Tryz.f190] at hb1
 obtain⟨rfl,rfl⟩:=hb1
 simp[ab,hG,Tryz.f190,ao,cJ,bZ,la1,lb1,q1,q2,hF,hG2,w1,w2,hf,hgs]
end Go.Proofs
