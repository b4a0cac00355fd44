/- See N58. -/
import Derived.Test.YtmhkeaphiadacaaGreatDoorN45
import Derived.Test.YtmhkeaphiadacaaGreatDoorN33
set_option linter.all false
namespace Go.Proofs
open Go.Eng
def bG(s:Slot):Bool:=s.own||match s with | .absent=>true | _=>false
theorem ue(bs:List Nat) (n j:Nat) (r:Rec):su bs n j r=(r.v.refsOk (fun b=>decide (b<r.nx.length))&&
  (cf r||(fc bs n j&&(r.wr.isEmpty||(aS bs j&&r.wr.all (fun b=>dh r.tm b&&(match r.nx[b]? with | some s=>s.refsOk (fun b=>decide (b<r.nx.length)) | none=>true))))&&
   (r.nx.drop r.mem.length).all fun s=>bG s&&s.refsOk (fun b=>decide (b<r.nx.length))))):=rfl
theorem dJ(es:Nat) (cs:List AV):bG (.cells true es cs)=true:=rfl
theorem eD:bG .absent=true:=rfl
theorem cW(f:Nat→Bool) (o:Bool) (es:Nat) (cs:List AV):Slot.refsOk f (.cells o es cs)=AV.refsOkL f cs:=rfl
theorem gW(b o n:Nat) (c:Option Nat):(AV.slice b o n c).cellOk=true:=rfl
theorem qo(a:List UInt8):(AV.str a).cellOk=true:=rfl
theorem qi(k:IntKind) (n:Int):(AV.int k n).cellOk=true:=rfl
theorem kN(b:Bool):(AV.bool b).cellOk=true:=rfl
theorem qj:AV.nilslice.cellOk=true:=rfl
theorem qm(b o:Nat):(AV.ptr b o).cellOk=true:=rfl
def fJ(c:Code):List Nat:=[18]
end Go.Proofs
namespace Go.Proofs
open Go.Eng
end Go.Proofs
namespace Go.Proofs
open Go.Eng
end Go.Proofs
namespace Go.Proofs
open Go.Eng
end Go.Proofs
namespace Go.Eng
mutual
theorem AV.refsOk_mono{f g:Nat→Bool}(h:∀b,f b=true→g b=true):∀v:AV,AV.refsOk f v=true→AV.refsOk g v=true
 |.ptr b _,hv=>by simp only[AV.refsOk] at hv ⊢;exact h _ hv
 |.slice b _ _ _,hv=>by simp only[AV.refsOk] at hv ⊢;exact h _ hv
 |.map b,hv=>by simp only[AV.refsOk] at hv ⊢;exact h _ hv
 |.yield b,hv=>by simp only[AV.refsOk] at hv ⊢;exact h _ hv
 |.agg cs,hv=>by simp only[AV.refsOk] at hv ⊢;exact AV.refsOkL_mono h cs hv
 |.tuple cs,hv=>by simp only[AV.refsOk] at hv ⊢;exact AV.refsOkL_mono h cs hv
 |.iface _ v,hv=>by simp only[AV.refsOk] at hv ⊢;exact AV.refsOk_mono h v hv
 |.func _ cs,hv=>by simp only[AV.refsOk] at hv ⊢;exact AV.refsOkL_mono h cs hv
 |.undef,_=>rfl
 |.bool _,_=>rfl
 |.int _ _,_=>rfl
 |.str _,_=>rfl
 |.nilptr,_=>rfl
 |.nilslice,_=>rfl
 |.nilmap,_=>rfl
 |.nilFunc,_=>rfl
 |.nilIface,_=>rfl
theorem AV.refsOkL_mono{f g:Nat→Bool}(h:∀b,f b=true→g b=true):∀vs:List AV,AV.refsOkL f vs=true→AV.refsOkL g vs=true
 | [],_=>rfl
 |v::vs,hv=>by
  simp only[AV.refsOkL,Bool.and_eq_true] at hv ⊢
  exact⟨AV.refsOk_mono h v hv.1,AV.refsOkL_mono h vs hv.2⟩
end
theorem Slot.refsOk_mono{f g:Nat→Bool}(h:∀b,f b=true→g b=true):∀x:Slot,Slot.refsOk f x=true→Slot.refsOk g x=true
 |.absent,_=>rfl
 |.cells _ _ cs,hx=>AV.refsOkL_mono h cs hx
 |.map es,hx=>by
  simp only[Slot.refsOk,List.all_eq_true,Bool.and_eq_true] at hx ⊢
  exact fun e he=>⟨AV.refsOk_mono h _ (hx e he).1,AV.refsOk_mono h _ (hx e he).2⟩
 |.fmap es,hx=>by
  simp only[Slot.refsOk,List.all_eq_true,Bool.and_eq_true] at hx ⊢
  exact fun e he=>⟨AV.refsOk_mono h _ (hx e he).1,AV.refsOk_mono h _ (hx e he).2⟩
 |.loop r,hx=>by
  simp only[Slot.refsOk,List.all_eq_true] at hx ⊢
  exact fun e he=>AV.refsOk_mono h _ (hx e he)
end Go.Eng
namespace Go.Proofs
open Go.Eng
theorem gG(s:Sheet) (d:Deed) (hd:d.Ok) (i:Nat) (hi:i<6) (M:Mem) (p t:Nat) (o o' :Bool) (hp:M[p]? =some (.cells o 2 (pC s.P))) (ht:M[t]? =some (.cells o' 3 (tC s.T))):
  ∃ev x1 x2 x3 x4 x5,ACallsTo Tryz.prog 9 [shB s p t,.agg d.cells,.int .i64 i] M (.agg ev) (M++[x1,x2,x3,x4,x5])∧gn s p t (bl d i) M.length [x1,x2,x3,x4,x5] ev∧fb M.length [x1,x2,x3,x4,x5] ev (bl d i)∧(ev.length=32∧ev[1]? =some (.str (bj i)))∧
   (∀x∈ev,x.cellOk=true)∧(∀k,M.length+5≤k→AV.refsOkL (fun b=>decide (b<k)) ev=true)∧(bG x1=true∧bG x2=true∧bG x3=true∧bG x4=true∧bG x5=true)∧
   ∀k,M.length+5≤k→x1.refsOk (fun b=>decide (b<k))=true∧x2.refsOk (fun b=>decide (b<k))=true∧x3.refsOk (fun b=>decide (b<k))=true∧x4.refsOk (fun b=>decide (b<k))=true∧x5.refsOk (fun b=>decide (b<k))=true:=by
 obtain⟨ev,x1,x2,x3,x4,x5,h1,h2,h3,h4,h5,h6,h7⟩:=If s d hd i hi M p t o o' hp ht
 have up:∀k,M.length+5≤k→∀b,decide (b<M.length+5)=true→decide (b<k)=true:=fun k hk b hb=>by
  simp only[decide_eq_true_eq] at hb ⊢;omega
 have ho:∀x∈[x1,x2,x3,x4,x5],bG x=true∧x.refsOk (fun b=>decide (b<M.length+5))=true:=by
  intro x hx
  have:=List.all_eq_true.1 h5 x hx
  simp only[Bool.and_eq_true] at this
  exact⟨this.1,this.2⟩
 refine⟨ev,x1,x2,x3,x4,x5,h1,h2,h3,h4,fun x hx=>?_,fun k hk=>AV.refsOkL_mono (up k hk) ev h6,⟨(ho x1 (by simp)).1,(ho x2 (by simp)).1,(ho x3 (by simp)).1,(ho x4 (by simp)).1,(ho x5 (by simp)).1⟩,fun k hk=>?_⟩
 ·have:=h7 x hx
  cases x<;>first | rfl | exact this
 ·exact⟨Slot.refsOk_mono (up k hk) _ (ho x1 (by simp)).2,Slot.refsOk_mono (up k hk) _ (ho x2 (by simp)).2,Slot.refsOk_mono (up k hk) _ (ho x3 (by simp)).2,Slot.refsOk_mono (up k hk) _ (ho x4 (by simp)).2,Slot.refsOk_mono (up k hk) _ (ho x5 (by simp)).2⟩
end Go.Proofs
