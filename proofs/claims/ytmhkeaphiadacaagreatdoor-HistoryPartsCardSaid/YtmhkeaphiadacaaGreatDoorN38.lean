/- See N58. -/
import Derived.Test.YtmhkeaphiadacaaGreatDoorN22
import Derived.Test.YtmhkeaphiadacaaGreatDoorN08
import Derived.Test.YtmhkeaphiadacaaGreatDoorN20
import Derived.Test.YtmhkeaphiadacaaGreatDoorN10
import Derived.Test.YtmhkeaphiadacaaGreatDoorN18
import Derived.Test.YtmhkeaphiadacaaGreatDoorN30
set_option linter.all false
namespace Go.Proofs
open Go.Eng
def kC:List (List UInt8×List UInt8)→List AV
 | []=>[]
 |k::l=>.str k.1::.str k.2::kC l
theorem gr:∀l:List (List UInt8×List UInt8),(kC l).length=2*l.length
 | []=>rfl
 |_::l=>by simp only[kC,List.length_cons,gr l];omega
theorem Nt:∀(l:List (List UInt8×List UInt8)) (i:Nat),(kC l).drop (i*2)=kC (l.drop i)
 |l,0=>by simp
 | [],i+1=>by simp[kC]
 |k::l,i+1=>by
  have:(i+1)*2=i*2+1+1:=by omega
  rw[this]
  simp only[kC,List.drop_succ_cons]
  exact Nt l i
theorem Ps{l:List (List UInt8×List UInt8)}{i:Nat}{k:List UInt8×List UInt8}(h:l[i]? =some k):
  ((kC l).drop (i*2)).take 2=[.str k.1,.str k.2]∧(kC l)[i*2]? =some (.str k.1)∧(kC l)[i*2+1]? =some (.str k.2):=by
 have hd:l.drop i=k::l.drop (i+1):=by
  rw[List.getElem?_eq_some_iff] at h
  obtain⟨h1,h2⟩:=h
  rw[←h2];exact List.drop_eq_getElem_cons h1
 have e:=Nt l i
 rw[hd] at e
 refine⟨by rw[e];rfl,?_,?_⟩
 ·have:(kC l)[i*2]? =((kC l).drop (i*2))[0]? :=by rw[List.getElem?_drop];rfl
  rw[this,e];rfl
 ·have:(kC l)[i*2+1]? =((kC l).drop (i*2))[1]? :=by rw[List.getElem?_drop]
  rw[this,e];rfl
theorem qN(n:Nat):∀l:List (List UInt8×List UInt8),AV.refsL n (kC l)=[]
 | []=>by simp[kC,AV.refsL]
 |k::l=>by simp[kC,AV.refsL,AV.refs,qN n l]
def kT(Q:List (Rat×Rat)):List (List UInt8×List UInt8):=Q.map fun q=>(aN q.1,aN q.2)
theorem iD(Q:List (Rat×Rat)):(kT Q).length=Q.length:=by simp[kT]
def A8(p:Option Rat) (q:Rat):Bool:=match p with
 |some r=>decide (r<q)
 |none=>true
def ckE(p:Option Rat):List (List UInt8×List UInt8)→Int
 | []=>0
 |k::l=>if vZ k.1=0∧vZ k.2=0 then (if A8 p ((dE k.1).getD 0) then ckE (dE k.1) l else 6) else 2
def M5(L:List (List UInt8×List UInt8)) (n:Nat) (p:Option Rat):Prop:=
 (n=0∧p=none)∨(∃m q k,n=m+1∧p=some q∧L[m]? =some k∧k.1=aN q∧(aK q.num.natAbs).length≤200∧(aK q.den).length≤200)
theorem Hl(q:Rat):(aK q.num.natAbs).length≤(aN q).length∧(aK q.den).length≤(aN q).length:=by
 have h:=uY q.num
 unfold aN
 split
 ·rename_i h1
  have h2:=sG q.num.natAbs
  rw[h1]
  exact⟨h,by have:(aK 1).length=1:=rfl;omega⟩
 ·simp only[List.length_append,List.length_cons]
  exact⟨by omega,by omega⟩
set_option maxHeartbeats 1600000 in
theorem n7{K:Nat}(L:List (List UInt8×List UInt8)) (hL:∀k∈L,k.1.length≤9∧k.2.length≤9) (hl:L.length≤1000000000) (hK:L.length<K) {b:Code}(hb:am Tryz.f210=[b]):
  ∃F:Env→Bool→Env×Mem×(List UInt8×List UInt8),∀env0 d,(ac env0 0=.slice 0 0 L.length none∧ac env0 8=.slice 0 0 L.length none∧ac env0 9=.int .i64 L.length∧ac env0 10=.int .i64 0)→
   aO (az Tryz.prog) (fun _=>[10]) (ao bh) K 40 1 true (.loop b) ⟨env0,[.cells false 2 (kC L)],d⟩=some (if ckE none L=0 then .exit 0 else .ret,⟨(F env0 d).1,(F env0 d).2.1,d⟩)∧
    ((ckE none L=0→(F env0 d).2.1=[.cells false 2 (kC L)])∧(ckE none L≠0→(F env0 d).2.1=[.cells false 2 (kC L),.cells true 0 [.str (F env0 d).2.2.1,.str (F env0 d).2.2.2]]∧ac (F env0 d).1 2=.int .i64 (ckE none L))):=by
 refine ng (β:=List UInt8×List UInt8) rfl (fun env0=>(ac env0 0=.slice 0 0 L.length none∧ac env0 8=.slice 0 0 L.length none∧ac env0 9=.int .i64 L.length∧ac env0 10=.int .i64 0)) (fun _ env' mem' x=>(ckE none L=0→mem' =[.cells false 2 (kC L)])∧(ckE none L≠0→mem' =[.cells false 2 (kC L),.cells true 0 [.str x.1,.str x.2]]∧ac env' 2=.int .i64 (ckE none L))) ?_
 rintro env0 d ⟨h0,h8,h9,h10⟩
 simp[am,aJ,Tryz.f210] at hb
 have hn:ay [10] (ad b) env0 ((10,.int .i64 ((0:Nat):Int))::env0)=ay [10] (ad b) env0 env0:=by simp[ay,h10]
 rw[←hn]
 have kl:(kC L).length=2*L.length:=gr L
 refine lU (α:=Nat) (fun n=>⟨ay [10] (ad b) env0 ((10,.int .i64 (n:Int))::env0),[.cells false 2 (kC L)],d⟩) (fun n=>L.length-n) (fun n=>n≤L.length∧∃p,M5 L n p∧ckE none L=ckE p (L.drop n)) (if ckE none L=0 then .exit 0 else .ret) d (fun env' mem' =>∃x:List UInt8×List UInt8,(ckE none L=0→mem' =[.cells false 2 (kC L)])∧(ckE none L≠0→mem' =[.cells false 2 (kC L),.cells true 0 [.str x.1,.str x.2]]∧ac env' 2=.int .i64 (ckE none L))) (by split<;>simp) ?_ K 0 ⟨by omega,none,.inl ⟨rfl,rfl⟩,by rw[List.drop_zero]⟩ (by omega)
 rintro n ⟨hn1,p,hp,he⟩
 clear hn
 subst hb
 by_cases hlt:n<L.length
 ·obtain⟨k,hk⟩:∃k,L[n]? =some k:=⟨L[n],List.getElem?_eq_getElem hlt⟩
  obtain⟨k1,k2,k3⟩:=Ps hk
  obtain⟨l1,l2⟩:=hL k (List.mem_of_getElem? hk)
  have l1' :k.1.length≤18:=by omega
  have l2' :k.2.length≤18:=by omega
  have hd:L.drop n=k::L.drop (n+1):=by
   rw[List.getElem?_eq_some_iff] at hk
   obtain⟨h1,h2⟩:=hk
   rw[←h2];exact List.drop_eq_getElem_cons h1
  rw[hd,ckE] at he
  have w1:IntKind.i64.wrap ((n:Int)+1)=((n+1:Nat):Int):=by rw[al (by omega) (by omega)];omega
  have k4:n*2+2≤(kC L).length:=by omega
  by_cases c1:vZ k.1=0
  ·by_cases c2:vZ k.2=0
   ·rw[if_pos ⟨c1,c2⟩] at he
    obtain⟨q,hq,hqs,q1,q2⟩:=Pe c1
    rw[hq] at he
    have ql:=Hl q
    rw[←hqs] at ql
    have q1' :(aK q.num.natAbs).length≤9:=by omega
    have q2' :(aK q.den).length≤9:=by omega
    clear ql
    simp only[Option.getD_some] at he
    rcases hp with⟨rfl,rfl⟩ | ⟨m,r,j,rfl,rfl,hj,hjs,r1,r2⟩
    ·rw[if_pos (by rfl)] at he
     left
     refine⟨1,?_⟩
     have hz:(0:Int)<L.length:=by omega
     have b1:M5 L 1 (some q):=.inr ⟨0,q,k,rfl,rfl,hk,hqs,q1,q2⟩
     have w3:IntKind.i64.wrap 1=1:=rfl
     simp at k1 k4 hlt
     simp[h0,h8,h9,hlt,ao,bh,l1',l2',c1,c2,k1,k4,w3,qN,Nat.testBit]
     exact⟨⟨by omega,_,b1,by simpa using he⟩,by omega⟩
    ·obtain⟨j1,j2,j3⟩:=Ps hj
     have w2:IntKind.i64.wrap (((m+1:Nat):Int)-1)=(m:Int):=by rw[al (by omega) (by omega)];omega
     have rl:=Hl r
     have rl2:=(hL j (List.mem_of_getElem? hj)).1
     rw[←hjs] at rl
     have r1' :(aK r.num.natAbs).length≤9:=by omega
     have r2' :(aK r.den).length≤9:=by omega
     clear rl rl2
     obtain⟨n,hn⟩:∃n,n=m+1:=⟨_,rfl⟩
     rw[←hn] at hk k1 k2 k3 k4 w1 w2 hlt hn1 he hd ⊢
     have n0:(0:Int)<n:=by omega
     have n0' :0<n:=by omega
     have hm:m<L.length:=by omega
     rw[hqs] at l1 l1' c1 k1
     rw[hjs] at j2
     have b1:M5 L (n+1) (some q):=.inr ⟨n,q,k,rfl,rfl,hk,hqs,q1,q2⟩
     obtain⟨v,hv⟩:∃v,v=n+1:=⟨_,rfl⟩
     rw[←hv] at w1 b1 he
     by_cases hrq:r<q
     ·have c:¬yk q r≤0:=fun h=>by have:=Ja.1 h;grind
      rw[if_pos (by simp[A8,hrq])] at he
      left
      refine⟨v,?_⟩
      simp[h0,h8,h9,hlt,hm,n0,n0',ao,bh,bn,aR,l1',l2',c1,c2,k1,k4,j2,w1,w2,q1',q2',r1',r2',c,qN,Nat.testBit]
      exact⟨⟨by omega,_,b1,he⟩,by omega⟩
     ·have c:yk q r≤0:=Ja.2 (by grind)
      rw[if_neg (by simp[A8,hrq])] at he
      right
      rw[he]
      simp[h0,h8,h9,hlt,hm,n0,n0',ao,bh,bn,aR,l1',l2',c1,c2,k1,k4,j2,w2,q1',q2',r1',r2',c,Nat.testBit]
      exact⟨_,_,⟨rfl,rfl⟩,⟨_,_,rfl⟩,rfl⟩
   ·rw[if_neg (fun h=>c2 h.2)] at he
    right
    rw[he]
    simp[h0,h8,h9,hlt,ao,bh,l1',l2',c1,c2,k1,k4,Nat.testBit]
    exact⟨_,_,⟨rfl,rfl⟩,⟨k.1,k.2,rfl⟩,rfl⟩
  ·rw[if_neg (fun h=>c1 h.1)] at he
   right
   rw[he]
   simp[h0,h8,h9,hlt,ao,bh,l1',l2',c1,k1,k4,Nat.testBit]
   exact⟨_,_,⟨rfl,rfl⟩,⟨k.1,k.2,rfl⟩,rfl⟩
 ·right
  have e:L.drop n=[]:=List.drop_of_length_le (by omega)
  rw[e,ckE] at he
  rw[he]
  simp[h9,hlt]
def knE(L:List (List UInt8×List UInt8)):Int:=if 20<L.length then 4 else ckE none L
theorem sY(L:List (List UInt8×List UInt8)) (hL:∀k∈L,k.1.length≤9∧k.2.length≤9) (hl:L.length≤1000000000):
  ACallsTo Tryz.prog 210 [.slice 0 0 L.length none] [.cells false 2 (kC L)] (.int .i64 (knE L)) [.cells false 2 (kC L)]:=by
 have hG:aI Tryz.prog 210=some Tryz.f210:=by kernel_rfl
 obtain⟨b,hb⟩:∃b,am Tryz.f210=[b]:=⟨_,rfl⟩
 obtain⟨F,hF⟩:=n7 (K:=L.length+1) L hL hl (by omega) hb
 simp[am,aJ,Tryz.f210] at hb
 subst hb
 have h:ab (az Tryz.prog) (fun _=>[10]) (aI Tryz.prog) (ao bh) (L.length+1) 210 [.slice 0 0 L.length none] [.cells false 2 (kC L)]=some ⟨.int .i64 (knE L),none,[]⟩:=by
  unfold knE
  by_cases h20:20<L.length
  ·rw[if_pos h20]
   have h20I:(20:Int)<L.length:=by omega
   simp[ab,hG,Tryz.f210,h20I,h20]
  ·rw[if_neg h20]
   have h20I:¬(20:Int)<L.length:=by omega
   by_cases hc:ckE none L=0
   ·rw[if_pos hc] at hF
    have hF1:=fun env0 d h=>(hF env0 d h).1
    have hF2:=fun env0 d h=>(hF env0 d h).2.1 hc
    clear hF
    simp[ab,hG,Tryz.f210,h20I,h20,hF1,hF2,qN,hc]
   ·rw[if_neg hc] at hF
    have hF1:=fun env0 d h=>(hF env0 d h).1
    have hF2:=fun env0 d h=>((hF env0 d h).2.2 hc).1
    have hF3:=fun env0 d h=>((hF env0 d h).2.2 hc).2
    clear hF
    simp[ab,hG,Tryz.f210,h20I,h20,hF1,hF2,hF3,qN]
 have:=(ae aa (ai _) dF (aj _) h).1
 simpa [CallRes.mem] using this
def wh(d:Deed) (j:Nat):P2:=(((d.N.tmod 3+2*j:Int):Rat),mkRat ((HJ d.K j%4:Nat)-1:Int) (1+d.K.2.2.2%2))
def co(d:Deed) (c:Nat):List P2:=(List.range c).map (wh d)
theorem Jh(d:Deed) (c:Nat):co d (c+1)=co d c++[wh d c]:=by simp[co,List.range_succ]
theorem eC(d:Deed) (c:Nat):(co d c).length=c:=by simp[co]
def Bi:List AV:=[.int .i64 0,.str [],.nilslice,.nilslice,.nilslice,.str [],.str [],.str [],.str [],.str [],.str [],.str [],.str [],.str [],.str [],.nilslice,.str [],.str [],.str [],.str [],.str [],.str [],.str [],.str [],.str [],.int .i64 0,.int .i64 0,.int .i64 0,.int .i64 0,.str [],.str [],.str []]
def GV(d:Deed) (n k:Nat) (nm:List UInt8) (v:Z3) (o:Int) (s:Z3) (x:AV):Mem:=
 [.absent,.absent,.cells true 0 [.slice 0 0 n none,.slice 1 0 k none],.cells true 0 d.cells,.cells true 0 Bi,.cells true 0 [.str (zS v.1),.str (zS v.2.1),.str (zS v.2.2)],.cells true 0 [.str (zS v.1),.str (zS v.2.1),.str (zS v.2.2),.str (zS o)],.cells true 0 (bq nm v x s)]
def yx(d:Deed) (n k:Nat) (nm:List UInt8) (v:Z3) (o:Int) (s:Z3) (j:Nat):Mem:=if j=0 then GV d n k nm v o s .nilslice else GV d n k nm v o s (.slice 8 0 j none)++[.cells true 2 (pC (co d j))]
theorem tZ{d:Deed}{n k:Nat}{nm:List UInt8}{v:Z3}{o:Int}{s:Z3}{j:Nat}(h:0<j):yx d n k nm v o s j=GV d n k nm v o s (.slice 8 0 j none)++[.cells true 2 (pC (co d j))]:=if_neg (by omega)
theorem Kl(n:Nat):AV.refsL n Bi=[]:=rfl
theorem P0(f:Nat→Bool):AV.refsOkL f Bi=true:=rfl
theorem N9(f:Nat→Option Nat):AV.rens f Bi=Bi:=rfl
set_option maxRecDepth 8192 in
set_option maxHeartbeats 12800000 in
theorem zE{K:Nat}(d:Deed) (hd:d.Ok) (n k:Nat) (nm:List UInt8) (v:Z3) (o:Int) (s:Z3) (c:Nat) (hc:c≤3) (hK:c<K) {b:Code}(hb:am Tryz.f9=[b]):
  ∃F:Env→Env,∀env0,(ac env0 4=.ptr 3 0∧ac env0 9=.ptr 7 0∧ac env0 121=.int .i64 c∧ac env0 122=.int .i64 0∧ac env0 6=.ptr 4 0)→
   aO (az Tryz.prog) (fun _=>[122,122]) (cS d) K 172 2 true (.loop b) ⟨env0,yx d n k nm v o s 0,false⟩=some (.exit 1,⟨F env0,yx d n k nm v o s c,decide (0<c)⟩)∧ac (F env0) 9=.ptr 7 0∧ac (F env0) 6=.ptr 4 0:=by
 refine qO (L:=[122,122]) rfl false _ (fun env0=>ac env0 4=.ptr 3 0∧ac env0 9=.ptr 7 0∧ac env0 121=.int .i64 c∧ac env0 122=.int .i64 0∧ac env0 6=.ptr 4 0) (fun env0 env' =>ac env' 9=.ptr 7 0∧ac env' 6=.ptr 4 0) ?_
 rintro env0 ⟨h4,h9,h121,h122,h6⟩
 obtain⟨os,hops⟩:∃os,aG Tryz.f9=os:=⟨_,rfl⟩
 have hbs:=aV hops (ls:=[[0,0,2,6,14,30,63,0,255],[0,1,3,7,15,0,32,96,255,0,1023],[0,0,0,4,12,28,60,0,128,384,896,1920,0,4096,12288,28672,61440,131068,262142,524287,1048575,2097151],[0,0,0,4,12,28,60,0,128,384,896,1920,0,4096,12288,28672,61440,131068,262142,524287,1048575,2097151],[0,1,3,0,8,24,56,0,128,504,1016,0,0,6144,14336,30720,63488,129024,0,262144,786432,1835008,3932160,8126464,16777208,33554424,67108856,134217727,268435455,536870911,1073741823],[0,0,2,6,14,30,62,126,0,510,1022,2047,4095,8191],[0,0,0,0,0,0,63,0,128,384,896,2047,4095,0,8192,24576,57344,122880,0,262144,786432,1835008,3932160,0,8388608,25165824,58720256,125829120,268427264,536870911,1073741823,2147483647]]) (by kernel_rfl)
 simp only[aG,bC,Tryz.f9,List.nil_append,List.append_nil,List.cons_append] at hops
 subst hops
 simp only[List.map_cons,List.map_nil,List.cons.injEq,and_true] at hbs
 obtain⟨-,-,-,-,hb4,-,-⟩:=hbs
 have k26:fc [0,1,3,0,8,24,56,0,128,504,1016,0,0,6144,14336,30720,63488,129024,0,262144,786432,1835008,3932160,8126464,16777208,33554424,67108856,134217727,268435455,536870911,1073741823] 31 26=true:=by decide
 have k27:fc [0,1,3,0,8,24,56,0,128,504,1016,0,0,6144,14336,30720,63488,129024,0,262144,786432,1835008,3932160,8126464,16777208,33554424,67108856,134217727,268435455,536870911,1073741823] 31 27=true:=by decide
 have k30:fc [0,1,3,0,8,24,56,0,128,504,1016,0,0,6144,14336,30720,63488,129024,0,262144,786432,1835008,3932160,8126464,16777208,33554424,67108856,134217727,268435455,536870911,1073741823] 31 30=true:=by decide
 have j27:aS [0,1,3,0,8,24,56,0,128,504,1016,0,0,6144,14336,30720,63488,129024,0,262144,786432,1835008,3932160,8126464,16777208,33554424,67108856,134217727,268435455,536870911,1073741823] 27=true:=by decide
 have j30:aS [0,1,3,0,8,24,56,0,128,504,1016,0,0,6144,14336,30720,63488,129024,0,262144,786432,1835008,3932160,8126464,16777208,33554424,67108856,134217727,268435455,536870911,1073741823] 30=true:=by decide
 simp[am,aJ,Tryz.f9] at hb
 have hn0:ay [122,122] (ad b) env0 ((122,.int .i64 ((0:Nat):Int))::env0)=ay [122,122] (ad b) env0 env0:=by simp[ay,h122]
 rw[←hn0]
 have hm1:(yx d n k nm v o s 0).length=8:=rfl
 refine bR (α:=Nat) (fun j=>⟨ay [122,122] (ad b) env0 ((122,.int .i64 (j:Int))::env0),yx d n k nm v o s j,decide (0<j)⟩) (fun j=>c-j) (fun j=>j≤c) (.exit 1) _ _ _ (by simp) ?_ K 0 (by omega) (by omega)
 intro j hn1
 clear hn0
 subst hb
 by_cases hlt:j<c
 ·left
  have hk1:=Jh d j
  have hkp:wh d j=(((d.N.tmod 3+2*j:Int):Rat),mkRat ((HJ d.K j%4:Nat)-1:Int) (1+d.K.2.2.2%2)):=rfl
  have q1:=uf d j (by omega)
  have q2:=Jo hd.K j
  have q3:=pj d.N 3 (by decide)
  simp only[Int.cast_ofNat_Int] at q3
  have hN:=hd.N
  unfold HI at hN
  have hN7:=Pg d
  have h11:d.cells[11]? =some (.int .u8 (d.K.2.2.2:Nat)):=rfl
  have wN:IntKind.i64.wrap d.N=d.N:=bo (by omega) (by omega)
  obtain⟨y,hy⟩:∃y,y=d.N.tmod 3:=⟨_,rfl⟩
  rw[←hy] at q3 hkp
  have l0:=iC d
  have r0:=fo d
  have o0:=oG d
  have n0:=oH d
  have hdO:∀c a M,cS d c a M=cS d c a M:=fun _ _ _=>rfl
  obtain⟨C,hC⟩:∃C,C=d.cells:=⟨_,rfl⟩
  have hC' :d.cells=C:=hC.symm
  rw[←hC] at q1 hN7 h11 l0
  simp only[←hC] at r0 o0 n0
  obtain⟨X,hX⟩:∃X,X=HJ d.K j:=⟨_,rfl⟩
  rw[←hX] at q1 q2 hkp
  have j7:∀h,C[7]'h=_:=fun h=>Option.some.inj ((List.getElem?_eq_getElem h).symm.trans hN7)
  have j11:∀h,C[11]'h=_:=fun h=>Option.some.inj ((List.getElem?_eq_getElem h).symm.trans h11)
  have j8:∀h,C[8+j]'h=_:=fun h=>Option.some.inj ((List.getElem?_eq_getElem h).symm.trans q1)
  have t4:((X:Nat):Int).tmod 4=((X%4:Nat):Int):=rfl
  have x4:X%4<4:=Nat.mod_lt _ (by decide)
  obtain⟨x,hx⟩:∃x,x=X%4:=⟨_,rfl⟩
  rw[←hx] at t4 x4 hkp
  have wX:IntKind.i64.wrap (X:Int)=(X:Int):=bo (by omega) (by omega)
  have wx:IntKind.i64.wrap ((x:Int)-1)=(x:Int)-1:=bo (by omega) (by omega)
  have t2:((d.K.2.2.2:Nat):Int).tmod 2=((d.K.2.2.2%2:Nat):Int):=rfl
  have x2:d.K.2.2.2%2<2:=Nat.mod_lt _ (by decide)
  obtain⟨w,hw⟩:∃x,x=d.K.2.2.2%2:=⟨_,rfl⟩
  rw[←hw] at t2 x2 hkp
  have ww:IntKind.i64.wrap (w:Int)=(w:Int):=bo (by omega) (by omega)
  have ww1:IntKind.i64.wrap (1+(w:Int))=((1+w:Nat):Int):=by rw[bo (by omega) (by omega)];omega
  obtain⟨D,hD⟩:∃D,D=1+w:=⟨_,rfl⟩
  rw[←hD] at ww1 hkp
  have hDp:0<D:=by omega
  have hDl:D<100000000:=by omega
  have w2j:IntKind.i64.wrap (2*(j:Int))=2*(j:Int):=bo (by omega) (by omega)
  have wyj:IntKind.i64.wrap (y+2*(j:Int))=y+2*(j:Int):=bo (by omega) (by omega)
  obtain⟨Y,hY⟩:∃Y,Y=y+2*(j:Int):=⟨_,rfl⟩
  rw[←hY] at wyj hkp
  have gY:Y.natAbs<100000000:=by omega
  obtain⟨Z,hZ⟩:∃Z,Z=(x:Int)-1:=⟨_,rfl⟩
  rw[←hZ] at wx hkp
  have gZ:Z.natAbs<100000000:=by omega
  have hpc:pC [wh d j]=[.str (zS Y),.str (aN (mkRat Z D))]:=by rw[hkp];rfl
  have w1:IntKind.i64.wrap ((j:Int)+1)=((j+1:Nat):Int):=by rw[al (by omega) (by omega)];omega
  obtain⟨m,hm⟩:∃m,m=j+1:=⟨_,rfl⟩
  rw[←hm] at w1 hk1
  have hmp:0<m:=by omega
  have hKm:pC (co d m)=pC (co d j)++[.str (zS Y),.str (aN (mkRat Z D))]:=by rw[hk1,yS,hpc]
  have hj3:(j:Int)<4:=by omega
  have hj3' :j<4:=by omega
  have hjc:(j:Int)<c:=by omega
  refine⟨m,?_⟩
  rw[tZ hmp,hKm]
  by_cases hj0:j=0
  ·have e0:yx d n k nm v o s j=GV d n k nm v o s .nilslice:=if_pos hj0
   have e1:co d j=[]:=by rw[hj0];rfl
   have hd0:decide (0<j)=false:=by simp[hj0]
   have hmd:decide (0<m)=true:=by simpa using hmp
   have hm0:m=1:=by omega
   rw[e0,hd0,e1,hm0]
   rw[hm0] at w1
   have e2:pC []++[.str (zS Y),.str (aN (mkRat Z D))]=[.str (zS Y),.str (aN (mkRat Z D))]:=rfl
   rw[e2]
   simp[GV,bq,hC',h4,h9,h121,hlt,hjc,l0,r0,o0,n0,q1,j7,j8,j11,hj3,hj3',Kl,P0,N9,wN,←hy,t4,t2,wX,wx,ww,ww1,w2j,wyj,←hY,←hZ,gY,gZ,hDp,hDl,w1,hm1,cS,ao,cj,-aF,eG hb4,fS,ky,su,cf,k26,k27,k30,j27,j30,bB,ar,Nat.testBit]
   omega
  ·have hpos:0<j:=by omega
   have hd1:decide (0<j)=true:=by simpa using hpos
   have hmd:decide (0<m)=true:=by simpa using hmp
   rw[tZ hpos,hd1]
   have hPl:(pC (co d j)).length=j*2:=by rw[sJ,eC]
   obtain⟨P,hP⟩:∃P,P=co d j:=⟨_,rfl⟩
   rw[←hP] at hPl ⊢
   have g3:(pC P).take (j*2)=pC P:=List.take_of_length_le (by omega)
   have g4:m*32≤140737488355328:=by omega
   have g5:m≤140737488355328:=by omega
   simp[GV,bq,hC',h4,h9,h121,hlt,hjc,l0,r0,o0,n0,q1,j7,j8,j11,hj3,hj3',Kl,P0,N9,wN,←hy,t4,t2,wX,wx,ww,ww1,w2j,wyj,←hY,←hZ,gY,gZ,hDp,hDl,w1,hm1,hPl,←hm,hmd,g3,g4,g5,cC,oZ,eg,cS,ao,cj,-aF,eG hb4,fS,ky,su,cf,k26,k27,k30,j27,j30,bB,ar,Nat.testBit]
   omega
 ·right
  have e:j=c:=by omega
  subst e
  simp[h9,h6,h121,hlt]
set_option maxRecDepth 8192 in
set_option maxHeartbeats 12800000 in
theorem wV(d:Deed) (hd:d.Ok) (n k i:Nat) (hi:i<6) (hn:0<n) (hl:n≤1000) (hk:d.kind%5=2):
  ACallsTo Tryz.prog 9 [.agg [.slice 0 0 n none,.slice 1 0 k none],.agg d.cells,.int .i64 i] [.absent,.absent] (.agg (bq (bj i) (bf d.A) (.slice 2 0 (1+d.K.1%3) none) (dm (bf d.A) (qq d.B)))) ([.absent,.absent]++[.cells true 2 (pC (co d (1+d.K.1%3)))]):=by
 have hG:aI Tryz.prog 9=some Tryz.f9:=by kernel_rfl
 obtain⟨os,hops⟩:∃os,aG Tryz.f9=os:=⟨_,rfl⟩
 have hbs:=aV hops (ls:=[[0,0,2,6,14,30,63,0,255],[0,1,3,7,15,0,32,96,255,0,1023],[0,0,0,4,12,28,60,0,128,384,896,1920,0,4096,12288,28672,61440,131068,262142,524287,1048575,2097151],[0,0,0,4,12,28,60,0,128,384,896,1920,0,4096,12288,28672,61440,131068,262142,524287,1048575,2097151],[0,1,3,0,8,24,56,0,128,504,1016,0,0,6144,14336,30720,63488,129024,0,262144,786432,1835008,3932160,8126464,16777208,33554424,67108856,134217727,268435455,536870911,1073741823],[0,0,2,6,14,30,62,126,0,510,1022,2047,4095,8191],[0,0,0,0,0,0,63,0,128,384,896,2047,4095,0,8192,24576,57344,122880,0,262144,786432,1835008,3932160,0,8388608,25165824,58720256,125829120,268427264,536870911,1073741823,2147483647]]) (by kernel_rfl)
 simp only[aG,bC,Tryz.f9,List.nil_append,List.append_nil,List.cons_append] at hops
 subst hops
 simp only[List.map_cons,List.map_nil,List.cons.injEq,and_true] at hbs
 obtain⟨hb0,hb1,hb2,hb3,hb4,hb5,hb6⟩:=hbs
 have a08:aS [0,0,2,6,14,30,63,0,255] 8=true:=by decide
 have a110:aS [0,1,3,7,15,0,32,96,255,0,1023] 10=true:=by decide
 have a321:aS [0,0,0,4,12,28,60,0,128,384,896,1920,0,4096,12288,28672,61440,131068,262142,524287,1048575,2097151] 21=true:=by decide
 have a221:aS [0,0,0,4,12,28,60,0,128,384,896,1920,0,4096,12288,28672,61440,131068,262142,524287,1048575,2097151] 21=true:=by decide
 have a513:aS [0,0,2,6,14,30,62,126,0,510,1022,2047,4095,8191] 13=true:=by decide
 have a631:aS [0,0,0,0,0,0,63,0,128,384,896,2047,4095,0,8192,24576,57344,122880,0,262144,786432,1835008,3932160,0,8388608,25165824,58720256,125829120,268427264,536870911,1073741823,2147483647] 31=true:=by decide
 obtain⟨b,hb⟩:∃b,am Tryz.f9=[b]:=⟨_,rfl⟩
 have c3:d.K.1%3<3:=Nat.mod_lt _ (by decide)
 obtain⟨F,hF⟩:=zE (K:=9) d hd n k (bj i) (bf d.A) (d.N.tmod 5) (dm (bf d.A) (qq d.B)) (1+d.K.1%3) (by omega) (by omega) hb
 have hcp:0<1+d.K.1%3:=by omega
 have hcd:decide (0<1+d.K.1%3)=true:=by simpa using hcp
 rw[tZ hcp,hcd] at hF
 have hF0:yx d n k (bj i) (bf d.A) (d.N.tmod 5) (dm (bf d.A) (qq d.B)) 0=GV d n k (bj i) (bf d.A) (d.N.tmod 5) (dm (bf d.A) (qq d.B)) .nilslice:=rfl
 rw[hF0] at hF
 simp[am,aJ,Tryz.f9] at hb
 subst hb
 have hN:=hd.N
 have hB:=sj hd.B
 have hA:=sj hd.A
 have n1:=cr d.A
 have m1:=gc d.B
 have q3:=pj d.N 5 (by decide)
 have h8:=Qr d
 have h0:=Qn d
 have h4:=Qo d
 have h5:=Qp d
 have h6:=Qq d
 have h7:=Pg d
 have h1:=Qs d
 have l0:=iC d
 have r0:=fo d
 have o0:=oG d
 have okd:=fV d hd
 clear hd
 obtain⟨kd,⟨A1,A2,A3⟩,⟨B1,B2,B3⟩,N,⟨K1,K2,K3,K4⟩⟩:=d
 simp only at hF c3 hk hN hB hA n1 m1 q3 h8 h0 h4 h5 h6 h7 h1 ⊢
 simp only[Int.cast_ofNat_Int] at q3
 unfold HI at hN
 obtain⟨hB1,hB2,hB3⟩:=hB
 simp only at hB1 hB2 hB3
 have wN:IntKind.i64.wrap N=N:=bo (by omega) (by omega)
 have wB1:IntKind.i64.wrap B1=B1:=bo (by omega) (by omega)
 have wB2:IntKind.i64.wrap B2=B2:=bo (by omega) (by omega)
 have wB3:IntKind.i64.wrap B3=B3:=bo (by omega) (by omega)
 have hkt:((kd:Nat):Int).tmod 5=2:=by
  have:((kd:Nat):Int).tmod 5=((kd%5:Nat):Int):=rfl
  rw[this,hk];rfl
 obtain⟨⟨nx,ny,nz⟩,e1⟩:∃v,v=bf (A1,A2,A3):=⟨_,rfl⟩
 rw[←e1] at n1
 have e2:qq (B1,B2,B3)=(B1.tmod 3,B2.tmod 3,B3.tmod 3):=rfl
 rw[e2] at m1
 obtain⟨o,ho⟩:∃o,o=N.tmod 5:=⟨_,rfl⟩
 rw[←ho] at q3
 have go:o.natAbs<100000000:=by omega
 have gi:i<100000000:=by omega
 obtain⟨bx,hbx⟩:∃o,o=B1.tmod 3:=⟨_,rfl⟩
 obtain⟨by',hby⟩:∃o,o=B2.tmod 3:=⟨_,rfl⟩
 obtain⟨bz,hbz⟩:∃o,o=B3.tmod 3:=⟨_,rfl⟩
 rw[←hbx,←hby,←hbz] at m1 e2
 obtain⟨g1,g2,g3⟩:=m1
 simp only at g1 g2 g3
 have g1' :bx.natAbs≤10000:=by omega
 have g2' :by'.natAbs≤10000:=by omega
 have g3' :bz.natAbs≤10000:=by omega
 have m2:fI 2 (bx,by',bz):=⟨g1,g2,g3⟩
 obtain⟨C,hC⟩:∃C,C=Deed.cells ⟨kd,(A1,A2,A3),(B1,B2,B3),N,(K1,K2,K3,K4)⟩:=⟨_,rfl⟩
 rw[←hC] at h8 h0 h4 h5 h6 h7 h1 l0 r0 o0
 have hC' :Deed.cells ⟨kd,(A1,A2,A3),(B1,B2,B3),N,(K1,K2,K3,K4)⟩=C:=hC.symm
 have tk:C.take 12=C:=List.take_of_length_le (by omega)
 have j8:∀h,C[8]'h=_:=fun h=>Option.some.inj ((List.getElem?_eq_getElem h).symm.trans h8)
 have j0:∀h,C[0]'h=_:=fun h=>Option.some.inj ((List.getElem?_eq_getElem h).symm.trans h0)
 have j4:∀h,C[4]'h=_:=fun h=>Option.some.inj ((List.getElem?_eq_getElem h).symm.trans h4)
 have j5:∀h,C[5]'h=_:=fun h=>Option.some.inj ((List.getElem?_eq_getElem h).symm.trans h5)
 have j6:∀h,C[6]'h=_:=fun h=>Option.some.inj ((List.getElem?_eq_getElem h).symm.trans h6)
 have j7:∀h,C[7]'h=_:=fun h=>Option.some.inj ((List.getElem?_eq_getElem h).symm.trans h7)
 have hp:=fH
 rw[e2,←e1,←ho] at hF
 obtain⟨⟨sx,sy,sz⟩,hs⟩:∃v,v=dm (nx,ny,nz) (bx,by',bz):=⟨_,rfl⟩
 rw[←hs] at hF
 simp only[GV,bq,bj,Bi,←hC,List.cons_append,List.nil_append] at hF
 have hF1:=fun env0 h=>(hF env0 h).1
 have hG9:=fun env0 h=>(hF env0 h).2.1
 have hG6:=fun env0 h=>(hF env0 h).2.2
 clear hF
 have t3:((K1:Nat):Int).tmod 3=((K1%3:Nat):Int):=rfl
 obtain⟨x,hx⟩:∃x,x=K1%3:=⟨_,rfl⟩
 rw[←hx] at t3 c3 hF1 hG9 hG6
 have w13:IntKind.i64.wrap (x:Int)=(x:Int):=bo (by omega) (by omega)
 have w14:IntKind.i64.wrap (1+(x:Int))=((1+x:Nat):Int):=by rw[bo (by omega) (by omega)];omega
 obtain⟨c,hc⟩:∃c,c=1+x:=⟨_,rfl⟩
 rw[←hc] at w14 hF1 hG9 hG6
 have c1:=w14
 have w1:IntKind.i64.wrap 1=1:=rfl
 have w2:IntKind.i64.wrap 2=2:=rfl
 have w3:IntKind.i64.wrap 3=3:=rfl
 have w4:IntKind.i64.wrap 4=4:=rfl
 have w5:IntKind.i64.wrap 5=5:=rfl
 have w0:IntKind.i64.wrap 0=0:=rfl
 have u12:IntKind.i64.wrap (1+1)=2:=rfl
 have u13:IntKind.i64.wrap (1+2)=3:=rfl
 have u14:IntKind.i64.wrap (1+3)=4:=rfl
 have u15:IntKind.i64.wrap (1+4)=5:=rfl
 have hip:=eh (n:=(i:Int)) (by omega)
 have hip' :(zS (i:Int)).length+1≤9223372036854775807:=by unfold zS;omega
 have hip2:1+(zS (i:Int)).length≤9223372036854775807:=by omega
 have h:ab (az Tryz.prog) (fun _=>[122,122]) (aI Tryz.prog) (cS ⟨kd,(A1,A2,A3),(B1,B2,B3),N,(K1,K2,K3,K4)⟩) 9 9 [.agg [.slice 0 0 n none,.slice 1 0 k none],.agg C,.int .i64 i] [.absent,.absent]=some ⟨(.agg (bq (bj i) (bf (A1,A2,A3)) (.slice 2 0 (1+K1%3) none) (dm (bf (A1,A2,A3)) (qq (B1,B2,B3))))),some [.absent,.absent],[.cells true 2 (pC (co ⟨kd,(A1,A2,A3),(B1,B2,B3),N,(K1,K2,K3,K4)⟩ (1+K1%3)))]⟩:=by
  rw[e2,←e1,←hs,←hx,←hc]
  simp[ab,hG,Tryz.f9,cS,ao,cj,zA,l0,r0,o0,j8,j0,j4,j5,j6,j7,h1,hA,←e1,hC',tk,hkt,wN,wB1,wB2,wB3,←ho,←hbx,←hby,←hbz,go,gi,g1',g2',g3',hp,n1,m2,w0,w1,w2,w3,w4,w5,u12,u13,u14,u15,hip',hip2,dX,bB,ar,-aF,bQ hb0,bQ hb1,bQ hb3,ie,nI,zb,kB,cf,qL,bef,a08,a110,a321,Nat.testBit,hF1,hG9,hG6,←hs,c1,t3,w13,bq,bj,fw,cC,eg]
 have:=(ae aa (ai _) okd (aj _) h).1
 rw[←hC]
 simpa [CallRes.mem] using this
end Go.Proofs
