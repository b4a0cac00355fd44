/- See K51. -/
import Derived.Test.YtffdedmakncfmaaGreatDoorK30
set_option linter.all false
namespace Go.Proofs
open Go.Eng
def kC:List (List UInt8×List UInt8)→List AV
 | []=>[]
 |k::l=>.str k.1::.str k.2::kC l
theorem sU:∀l:List (List UInt8×List UInt8),(kC l).length=2*l.length
 | []=>rfl
 |_::l=>by simp only[kC,List.length_cons,sU l];omega
theorem NX:∀(l:List (List UInt8×List UInt8)) (i:Nat),(kC l).drop (i*2)=kC (l.drop i)
 |l,0=>by simp
 | [],i+1=>by simp[kC]
 |k::l,i+1=>by
  have:(i+1)*2=i*2+1+1:=by omega
  rw[this]
  simp only[kC,List.drop_succ_cons]
  exact NX l i
theorem Md{l:List (List UInt8×List UInt8)}{i:Nat}{k:List UInt8×List UInt8}(h:l[i]? =some k):
  ((kC l).drop (i*2)).take 2=[.str k.1,.str k.2]∧(kC l)[i*2]? =some (.str k.1)∧(kC l)[i*2+1]? =some (.str k.2):=by
 have hd:l.drop i=k::l.drop (i+1):=by
  rw[List.getElem?_eq_some_iff] at h
  obtain⟨h1,h2⟩:=h
  rw[←h2];exact List.drop_eq_getElem_cons h1
 have e:=NX l i
 rw[hd] at e
 refine⟨by rw[e];rfl,?_,?_⟩
 ·have:(kC l)[i*2]? =((kC l).drop (i*2))[0]? :=by rw[List.getElem?_drop];rfl
  rw[this,e];rfl
 ·have:(kC l)[i*2+1]? =((kC l).drop (i*2))[1]? :=by rw[List.getElem?_drop]
  rw[this,e];rfl
theorem Jd(n:Nat):∀l:List (List UInt8×List UInt8),AV.refsL n (kC l)=[]
 | []=>by simp[kC,AV.refsL]
 |k::l=>by simp[kC,AV.refsL,AV.refs,Jd n l]
def kT(Q:List (Rat×Rat)):List (List UInt8×List UInt8):=Q.map fun q=>(aB q.1,aB q.2)
theorem kS(Q:List (Rat×Rat)):(kT Q).length=Q.length:=by simp[kT]
theorem Q0{Q:List (Rat×Rat)}{i:Nat}{q:Rat×Rat}(h:Q[i]? =some q):(kT Q)[i]? =some (aB q.1,aB q.2):=by simp[kT,h]
def Br(p:Option Rat) (q:Rat):Bool:=match p with
 |some r=>decide (r<q)
 |none=>true
def ckE(p:Option Rat):List (List UInt8×List UInt8)→Int
 | []=>0
 |k::l=>if xA k.1=0∧xA k.2=0 then (if Br p ((dU k.1).getD 0) then ckE (dU k.1) l else 6) else 2
def Nn(L:List (List UInt8×List UInt8)) (n:Nat) (p:Option Rat):Prop:=
 (n=0∧p=none)∨(∃m q k,n=m+1∧p=some q∧L[m]? =some k∧k.1=aB q∧(au q.num.natAbs).length≤200∧(au q.den).length≤200)
set_option maxHeartbeats 1600000 in
theorem ni{K:Nat}(L:List (List UInt8×List UInt8)) (hL:∀k∈L,k.1.length≤1000000000∧k.2.length≤1000000000) (hl:L.length≤1000000000) (hK:L.length<K) {b:Code}(hb:aj Tryz.f64=[b]):
  ∃F:Env→Bool→Env×Mem×(List UInt8×List UInt8),∀env0 d,(ab env0 0=.slice 0 0 L.length none∧ab env0 8=.slice 0 0 L.length none∧ab env0 9=.int .i64 L.length∧ab env0 10=.int .i64 0)→
   aU (aO Tryz.prog) (fun _=>[10]) (ai aP) K 40 1 true (.loop b) ⟨env0,[.cells false 2 (kC L)],d⟩=some (if ckE none L=0 then .exit 0 else .ret,⟨(F env0 d).1,(F env0 d).2.1,d⟩)∧
    ((ckE none L=0→(F env0 d).2.1=[.cells false 2 (kC L)])∧(ckE none L≠0→(F env0 d).2.1=[.cells false 2 (kC L),.cells true 0 [.str (F env0 d).2.2.1,.str (F env0 d).2.2.2]]∧ab (F env0 d).1 2=.int .i64 (ckE none L))):=by
 refine zh (β:=List UInt8×List UInt8) rfl (fun env0=>(ab env0 0=.slice 0 0 L.length none∧ab env0 8=.slice 0 0 L.length none∧ab env0 9=.int .i64 L.length∧ab env0 10=.int .i64 0)) (fun _ env' mem' x=>(ckE none L=0→mem' =[.cells false 2 (kC L)])∧(ckE none L≠0→mem' =[.cells false 2 (kC L),.cells true 0 [.str x.1,.str x.2]]∧ab env' 2=.int .i64 (ckE none L))) ?_
 rintro env0 d ⟨h0,h8,h9,h10⟩
 simp[aj,aM,Tryz.f64] at hb
 have hn:az [10] (ad b) env0 ((10,.int .i64 ((0:Nat):Int))::env0)=az [10] (ad b) env0 env0:=by simp[az,h10]
 rw[←hn]
 have kl:(kC L).length=2*L.length:=sU L
 refine uP (α:=Nat) (fun n=>⟨az [10] (ad b) env0 ((10,.int .i64 (n:Int))::env0),[.cells false 2 (kC L)],d⟩) (fun n=>L.length-n) (fun n=>n≤L.length∧∃p,Nn L n p∧ckE none L=ckE p (L.drop n)) (if ckE none L=0 then .exit 0 else .ret) d (fun env' mem' =>∃x:List UInt8×List UInt8,(ckE none L=0→mem' =[.cells false 2 (kC L)])∧(ckE none L≠0→mem' =[.cells false 2 (kC L),.cells true 0 [.str x.1,.str x.2]]∧ab env' 2=.int .i64 (ckE none L))) (by split<;>simp) ?_ K 0 ⟨by omega,none,.inl ⟨rfl,rfl⟩,by rw[List.drop_zero]⟩ (by omega)
 rintro n ⟨hn1,p,hp,he⟩
 clear hn
 subst hb
 by_cases hlt:n<L.length
 ·obtain⟨k,hk⟩:∃k,L[n]? =some k:=⟨L[n],List.getElem?_eq_getElem hlt⟩
  obtain⟨k1,k2,k3⟩:=Md hk
  obtain⟨l1,l2⟩:=hL k (List.mem_of_getElem? hk)
  have hd:L.drop n=k::L.drop (n+1):=by
   rw[List.getElem?_eq_some_iff] at hk
   obtain⟨h1,h2⟩:=hk
   rw[←h2];exact List.drop_eq_getElem_cons h1
  rw[hd,ckE] at he
  have w1:IntKind.i64.wrap ((n:Int)+1)=((n+1:Nat):Int):=by rw[ag (by omega) (by omega)];omega
  have k4:n*2+2≤(kC L).length:=by omega
  by_cases c1:xA k.1=0
  ·by_cases c2:xA k.2=0
   ·rw[if_pos ⟨c1,c2⟩] at he
    obtain⟨q,hq,hqs,q1,q2⟩:=PI c1
    rw[hq] at he
    have q1' :(au q.num.natAbs).length≤40000:=by omega
    have q2' :(au q.den).length≤40000:=by omega
    simp only[Option.getD_some] at he
    rcases hp with⟨rfl,rfl⟩ | ⟨m,r,j,rfl,rfl,hj,hjs,r1,r2⟩
    ·rw[if_pos (by rfl)] at he
     left
     refine⟨1,?_⟩
     have hz:(0:Int)<L.length:=by omega
     have b1:Nn L 1 (some q):=.inr ⟨0,q,k,rfl,rfl,hk,hqs,q1,q2⟩
     have w3:IntKind.i64.wrap 1=1:=rfl
     simp at k1 k4 hlt
     simp[h0,h8,h9,hlt,ai,aP,l1,l2,c1,c2,k1,k4,w3,Jd,Nat.testBit]
     exact⟨⟨by omega,_,b1,by simpa using he⟩,by omega⟩
    ·obtain⟨j1,j2,j3⟩:=Md hj
     have w2:IntKind.i64.wrap (((m+1:Nat):Int)-1)=(m:Int):=by rw[ag (by omega) (by omega)];omega
     have r1' :(au r.num.natAbs).length≤40000:=by omega
     have r2' :(au r.den).length≤40000:=by omega
     obtain⟨n,hn⟩:∃n,n=m+1:=⟨_,rfl⟩
     rw[←hn] at hk k1 k2 k3 k4 w1 w2 hlt hn1 he hd ⊢
     have n0:(0:Int)<n:=by omega
     have n0' :0<n:=by omega
     have hm:m<L.length:=by omega
     rw[hqs] at l1 c1 k1
     rw[hjs] at j2
     have b1:Nn L (n+1) (some q):=.inr ⟨n,q,k,rfl,rfl,hk,hqs,q1,q2⟩
     obtain⟨v,hv⟩:∃v,v=n+1:=⟨_,rfl⟩
     rw[←hv] at w1 b1 he
     by_cases hrq:r<q
     ·have c:¬yS q r≤0:=fun h=>by have:=I5.1 h;grind
      rw[if_pos (by simp[Br,hrq])] at he
      left
      refine⟨v,?_⟩
      simp[h0,h8,h9,hlt,hm,n0',ai,aP,aY,aC,l1,l2,c1,c2,k1,k4,j2,w1,w2,q1',q2',r1',r2',c,Jd,Nat.testBit]
      exact⟨⟨by omega,_,b1,he⟩,by omega⟩
     ·have c:yS q r≤0:=I5.2 (by grind)
      rw[if_neg (by simp[Br,hrq])] at he
      right
      rw[he]
      simp[h0,h8,h9,hlt,hm,n0',ai,aP,aY,aC,l1,l2,c1,c2,k1,k4,j2,w2,q1',q2',r1',r2',c,Nat.testBit]
      exact⟨_,_,⟨rfl,rfl⟩,⟨_,_,rfl⟩,rfl⟩
   ·rw[if_neg (fun h=>c2 h.2)] at he
    right
    rw[he]
    simp[h8,h9,hlt,ai,aP,l1,l2,c1,c2,k1,k4]
    exact⟨_,_,⟨rfl,rfl⟩,⟨k.1,k.2,rfl⟩,rfl⟩
  ·rw[if_neg (fun h=>c1 h.1)] at he
   right
   rw[he]
   simp[h8,h9,hlt,ai,aP,l1,c1,k1,k4]
   exact⟨_,_,⟨rfl,rfl⟩,⟨k.1,k.2,rfl⟩,rfl⟩
 ·right
  have e:L.drop n=[]:=List.drop_of_length_le (by omega)
  rw[e,ckE] at he
  rw[he]
  simp[h9,hlt]
def knE(L:List (List UInt8×List UInt8)):Int:=if 20<L.length then 4 else ckE none L
theorem tU(L:List (List UInt8×List UInt8)) (hL:∀k∈L,k.1.length≤1000000000∧k.2.length≤1000000000) (hl:L.length≤1000000000):
  ACallsTo Tryz.prog 64 [.slice 0 0 L.length none] [.cells false 2 (kC L)] (.int .i64 (knE L)) [.cells false 2 (kC L)]:=by
 have hG:aN Tryz.prog 64=some Tryz.f64:=by kernel_rfl
 obtain⟨b,hb⟩:∃b,aj Tryz.f64=[b]:=⟨_,rfl⟩
 obtain⟨F,hF⟩:=ni (K:=L.length+1) L hL hl (by omega) hb
 simp[aj,aM,Tryz.f64] at hb
 subst hb
 have h:aa (aO Tryz.prog) (fun _=>[10]) (aN Tryz.prog) (ai aP) (L.length+1) 64 [.slice 0 0 L.length none] [.cells false 2 (kC L)]=some ⟨.int .i64 (knE L),none,[]⟩:=by
  unfold knE
  by_cases h20:20<L.length
  ·rw[if_pos h20]
   have h20I:(20:Int)<L.length:=by omega
   simp[aa,hG,Tryz.f64,h20I]
  ·rw[if_neg h20]
   have h20I:¬(20:Int)<L.length:=by omega
   by_cases hc:ckE none L=0
   ·rw[if_pos hc] at hF
    have hF1:=fun env0 d h=>(hF env0 d h).1
    have hF2:=fun env0 d h=>(hF env0 d h).2.1 hc
    clear hF
    simp[aa,hG,Tryz.f64,h20I,hF1,hF2,hc]
   ·rw[if_neg hc] at hF
    have hF1:=fun env0 d h=>(hF env0 d h).1
    have hF2:=fun env0 d h=>((hF env0 d h).2.2 hc).1
    have hF3:=fun env0 d h=>((hF env0 d h).2.2 hc).2
    clear hF
    simp[aa,hG,Tryz.f64,h20I,hF1,hF2,hF3]
 have:=(af ae (aw _) cA (ax _) h).1
 simpa [CallRes.mem] using this
end Go.Proofs
namespace Go.Proofs
open Go.Eng
end Go.Proofs
namespace Go.Proofs
open Go.Eng
end Go.Proofs
