/- See R54. -/
import Derived.Test.YtgafjliihahjgaaGreatDoorR22
set_option linter.all false
set_option maxRecDepth 100000
set_option maxHeartbeats 40000000
namespace Go.Proofs
open Go.Eng
open Tryz
def kC:List (List UInt8×List UInt8)→List AV
 | []=>[]
 |k::l=>.str k.1::.str k.2::kC l
theorem fF:∀l:List (List UInt8×List UInt8),(kC l).length=2*l.length
 | []=>rfl
 |_::l=>by simp only[kC,List.length_cons,fF l];omega
theorem Sg:∀(l:List (List UInt8×List UInt8)) (i:Nat),(kC l).drop (i*2)=kC (l.drop i)
 |l,0=>by simp
 | [],i+1=>by simp[kC]
 |k::l,i+1=>by
  have:(i+1)*2=i*2+1+1:=by omega
  rw[this];simp only[kC,List.drop_succ_cons];exact Sg l i
variable{i:Nat}
theorem Mt{l:List (List UInt8×List UInt8)}{k:List UInt8×List UInt8}(h:l[i]? =some k):
  ((kC l).drop (i*2)).take 2=[.str k.1,.str k.2]∧(kC l)[i*2]? =some (.str k.1)∧(kC l)[i*2+1]? =some (.str k.2):=by
 have hd:l.drop i=k::l.drop (i+1):=by rw[List.getElem?_eq_some_iff] at h;obtain⟨h1,h2⟩:=h;rw[←h2];exact List.drop_eq_getElem_cons h1
 have e:=Sg l i;rw[hd] at e;refine⟨by rw[e];rfl,?_,?_⟩
 ·have:(kC l)[i*2]? =((kC l).drop (i*2))[0]? :=by rw[List.getElem?_drop];rfl
  rw[this,e];rfl
 ·have:(kC l)[i*2+1]? =((kC l).drop (i*2))[1]? :=by rw[List.getElem?_drop]
  rw[this,e];rfl
theorem Mu(n:Nat):∀l:List (List UInt8×List UInt8),AV.aeR n (kC l)=[]
 | []=>by simp[kC,AV.aeR]
 |k::l=>by simp[kC,AV.aeR,AV.refs,Mu n l]
def kT(Q:List (Rat×Rat)):List (List UInt8×List UInt8):=Q.map fun q=>(aw q.1,aw q.2)
theorem fG(Q:List (Rat×Rat)):(kT Q).length=Q.length:=by simp[kT]
theorem Sj{Q:List (Rat×Rat)}{q:Rat×Rat}(h:Q[i]? =some q):(kT Q)[i]? =some (aw q.1,aw q.2):=by simp[kT,h]
def VX(Q:List (Rat×Rat)):Prop:=∀q∈Q,aeF q.1∧aeF q.2
theorem Vj(f:Nat→Option Nat):∀l:List (List UInt8×List UInt8),AV.aeM f (kC l)=kC l
 | []=>by simp[kC,AV.aeM]
 |k::l=>by simp[kC,AV.aeM,AV.ren,Vj f l]
def DA(p:Option Rat) (q:Rat):Bool:=match p with
 |some r=>decide (r<q)
 |none=>true
def ckE(p:Option Rat):List (List UInt8×List UInt8)→Int
 | []=>0
 |k::l=>if xk k.1=0∧xk k.2=0 then (if DA p ((dJ k.1).getD 0) then ckE (dJ k.1) l else 6) else 2
def RH(L:List (List UInt8×List UInt8)) (n:Nat) (p:Option Rat):Prop:=
 (n=0∧p=none)∨(∃m q k,n=m+1∧p=some q∧L[m]? =some k∧k.1=aw q∧(aQ q.num.natAbs).length≤200∧(aQ q.den).length≤200)
theorem Kx(q:Rat):(aQ q.num.natAbs).length≤(aw q).length∧(aQ q.den).length≤(aw q).length:=by
 have h:=xA q.num;unfold aw;split
 ·rename_i h1
  have h2:=vj q.num.natAbs;rw[h1];exact⟨h,by have:(aQ 1).length=1:=rfl;omega⟩
 ·simp only[List.length_append,List.length_cons]
  exact⟨by omega,by omega⟩
variable{K:Nat}{b:Code}
theorem pj(L:List (List UInt8×List UInt8))(hL:∀k∈L,k.1.length≤9∧k.2.length≤9)(hl:L.length≤1000000000)(hK:L.length<K)(hb:ai f256=[b]):
  ∃F:Env→Bool→Env×Mem×(List UInt8×List UInt8),∀z' d,(ab z' 0=.slice 0 0 L.length none∧ab z' 8=.slice 0 0 L.length none∧ab z' 9=.int .i64 L.length∧ab z' 10=.int .i64 0)→
   aN (aM prog) (fun _=>[10]) (ag ao) K 40 1 true (.loop b) ⟨z',[.cells false 2 (kC L)],d⟩=some (if ckE none L=0 then .exit 0 else .ret,⟨(F z' d).1,(F z' d).2.1,d⟩)∧
    ((ckE none L=0→(F z' d).2.1=[.cells false 2 (kC L)])∧(ckE none L≠0→(F z' d).2.1=[.cells false 2 (kC L),.cells true 0 [.str (F z' d).2.2.1,.str (F z' d).2.2.2]]∧ab (F z' d).1 2=.int .i64 (ckE none L))):=by
 refine iz (β:=List UInt8×List UInt8) rfl (fun z'=>(ab z' 0=.slice 0 0 L.length none∧ab z' 8=.slice 0 0 L.length none∧ab z' 9=.int .i64 L.length∧ab z' 10=.int .i64 0)) (fun _ AC mem' x=>(ckE none L=0→mem' =[.cells false 2 (kC L)])∧(ckE none L≠0→mem' =[.cells false 2 (kC L),.cells true 0 [.str x.1,.str x.2]]∧ab AC 2=.int .i64 (ckE none L))) ?_;rintro z' d ⟨h0,h8,h9,Zv⟩;simp[ai,aK,f256] at hb;have hn:aD [10] (aa b) z' ((10,.int .i64 ((0:Nat):Int))::z')=aD [10] (aa b) z' z':=by simp[aD,Zv]
 rw[←hn];have kl:(kC L).length=2*L.length:=fF L;refine iE (α:=Nat) (fun n=>⟨aD [10] (aa b) z' ((10,.int .i64 (n:Int))::z'),[.cells false 2 (kC L)],d⟩) (fun n=>L.length-n) (fun n=>n≤L.length∧∃p,RH L n p∧ckE none L=ckE p (L.drop n)) (if ckE none L=0 then .exit 0 else .ret) d (fun AC mem' =>∃x:List UInt8×List UInt8,(ckE none L=0→mem' =[.cells false 2 (kC L)])∧(ckE none L≠0→mem' =[.cells false 2 (kC L),.cells true 0 [.str x.1,.str x.2]]∧ab AC 2=.int .i64 (ckE none L))) (by split<;>simp) ?_ K 0 ⟨by omega,none,.inl ⟨rfl,rfl⟩,by rw[List.drop_zero]⟩ (by omega);rintro n ⟨Za,p,hp,he⟩;clear hn;subst hb;by_cases A':n<L.length
 ·obtain⟨k,hk⟩:∃k,L[n]? =some k:=⟨L[n],List.getElem?_eq_getElem A'⟩
  obtain⟨k1,k2,k3⟩:=Mt hk;obtain⟨l1,l2⟩:=hL k (List.mem_of_getElem? hk);have l1' :k.1.length≤18:=by omega
  have l2' :k.2.length≤18:=by omega
  have hd:L.drop n=k::L.drop (n+1):=by rw[List.getElem?_eq_some_iff] at hk;obtain⟨h1,h2⟩:=hk;rw[←h2];exact List.drop_eq_getElem_cons h1
  rw[hd,ckE] at he;have w1:IntKind.i64.wrap ((n:Int)+1)=((n+1:Nat):Int):=by rw[al (by omega) (by omega)];omega
  have k4:n*2+2≤(kC L).length:=by omega
  by_cases c1:xk k.1=0
  ·by_cases c2:xk k.2=0
   ·rw[if_pos ⟨c1,c2⟩] at he
    obtain⟨q,hq,hqs,q1,q2⟩:=Uo c1;rw[hq] at he;have ql:=Kx q;rw[←hqs] at ql;have q1' :(aQ q.num.natAbs).length≤9:=by omega
    have q2' :(aQ q.den).length≤9:=by omega
    clear ql;simp only[Option.getD_some] at he;rcases hp with⟨rfl,rfl⟩ | ⟨m,r,j,rfl,rfl,hj,hjs,r1,r2⟩
    ·rw[if_pos (by rfl)] at he
     left;refine⟨1,?_⟩;have hz:(0:Int)<L.length:=by omega
     have b1:RH L 1 (some q):=.inr ⟨0,q,k,rfl,rfl,hk,hqs,q1,q2⟩;have w3:IntKind.i64.wrap 1=1:=rfl;simp at k1 k4 A';simp[h0,h8,h9,A',ag,ao,l1',l2',c1,c2,k1,k4,w3,Mu,Nat.testBit];exact⟨⟨by omega,_,b1,by simpa using he⟩,by omega⟩
    ·obtain⟨j1,j2,j3⟩:=Mt hj
     have w2:IntKind.i64.wrap (((m+1:Nat):Int)-1)=(m:Int):=by rw[al (by omega) (by omega)];omega
     have rl:=Kx r;have rl2:=(hL j (List.mem_of_getElem? hj)).1;rw[←hjs] at rl;have r1' :(aQ r.num.natAbs).length≤9:=by omega
     have r2' :(aQ r.den).length≤9:=by omega
     clear rl rl2;obtain⟨n,hn⟩:∃n,n=m+1:=⟨_,rfl⟩
     rw[←hn] at hk k1 k2 k3 k4 w1 w2 A' Za he hd ⊢;have n0:(0:Int)<n:=by omega
     have n0' :0<n:=by omega
     have hm:m<L.length:=by omega
     rw[hqs] at l1 l1' c1 k1;rw[hjs] at j2;have b1:RH L (n+1) (some q):=.inr ⟨n,q,k,rfl,rfl,hk,hqs,q1,q2⟩;obtain⟨v,hv⟩:∃v,v=n+1:=⟨_,rfl⟩
     rw[←hv] at w1 b1 he;by_cases hrq:r<q
     ·have c:¬mo q r≤0:=fun h=>by have:=tH.1 h;grind
      rw[if_pos (by simp[DA,hrq])] at he;left;refine⟨v,?_⟩;simp[h0,h8,h9,A',hm,n0',ag,ao,aH,aB,l1',l2',c1,c2,k1,k4,j2,w1,w2,q1',q2',r1',r2',c,Mu,Nat.testBit];exact⟨⟨by omega,_,b1,he⟩,by omega⟩
     ·have c:mo q r≤0:=tH.2 (by grind)
      rw[if_neg (by simp[DA,hrq])] at he;right;rw[he];simp[h0,h8,h9,A',hm,n0',ag,ao,aH,aB,l1',l2',c1,c2,k1,k4,j2,w2,q1',q2',r1',r2',c,Nat.testBit];exact⟨_,_,⟨rfl,rfl⟩,⟨_,_,rfl⟩,rfl⟩
   ·rw[if_neg (fun h=>c2 h.2)] at he
    right;rw[he];simp[h8,h9,A',ag,ao,l1',l2',c1,c2,k1,k4];exact⟨_,_,⟨rfl,rfl⟩,⟨k.1,k.2,rfl⟩,rfl⟩
  ·rw[if_neg (fun h=>c1 h.1)] at he
   right;rw[he];simp[h8,h9,A',ag,ao,l1',c1,k1,k4];exact⟨_,_,⟨rfl,rfl⟩,⟨k.1,k.2,rfl⟩,rfl⟩
 ·right
  have e:L.drop n=[]:=List.drop_of_length_le (by omega);rw[e,ckE] at he;rw[he];simp[h9,A']
def knE(L:List (List UInt8×List UInt8)):Int:=if 20<L.length then 4 else ckE none L
theorem vB(L:List (List UInt8×List UInt8))(hL:∀k∈L,k.1.length≤9∧k.2.length≤9)(hl:L.length≤1000000000):
  kF prog 256 [.slice 0 0 L.length none] [.cells false 2 (kC L)] (.int .i64 (knE L)) [.cells false 2 (kC L)]:=by
 have hG:aT prog 256=some f256:=by kernel_rfl
 obtain⟨b,hb⟩:∃b,ai f256=[b]:=⟨_,rfl⟩
 obtain⟨F,hF⟩:=pj (K:=L.length+1) L hL hl (by omega) hb;simp[ai,aK,f256] at hb;subst hb;refine bB (lv:=(fun _=>[10])) (K:=(L.length+1)) bP ?_;unfold knE;by_cases h20:20<L.length
 ·rw[if_pos h20]
  have abF:(20:Int)<L.length:=by omega
  simp[ad,hG,f256,abF]
 ·rw[if_neg h20]
  have abF:¬(20:Int)<L.length:=by omega
  by_cases hc:ckE none L=0
  ·rw[if_pos hc] at hF
   have I':=fun z' d h=>(hF z' d h).1
   have T':=fun z' d h=>(hF z' d h).2.1 hc
   clear hF;simp[ad,hG,f256,abF,I',T',hc]
  ·rw[if_neg hc] at hF
   have I':=fun z' d h=>(hF z' d h).1
   have T':=fun z' d h=>((hF z' d h).2.2 hc).1
   have Yh:=fun z' d h=>((hF z' d h).2.2 hc).2
   clear hF;simp[ad,hG,f256,abF,I',T',Yh]
def tK(d:aeN) (j:Nat):P2:=(((d.N.tmod 3+2*j:Int):Rat),mkRat ((Kp d.K j%4:Nat)-1:Int) (1+d.K.2.2.2%2))
def bV(d:aeN) (c:Nat):List P2:=(List.range c).map (tK d)
theorem My(d:aeN)(c:Nat):bV d (c+1)=bV d c++[tK d c]:=by simp[bV,List.range_succ]
theorem cW(d:aeN)(c:Nat):(bV d c).length=c:=by simp[bV]
def KT:List AV:=[.int .i64 0,.str [],.kK,.kK,.kK,.str [],.str [],.str [],.str [],.str [],.str [],.str [],.str [],.str [],.str [],.kK,.str [],.str [],.str [],.str [],.str [],.str [],.str [],.str [],.str [],.int .i64 0,.int .i64 0,.int .i64 0,.int .i64 0,.str [],.str [],.str []]
def J0(d:aeN) (n k:Nat) (nm:List UInt8) (v:Z3) (o:Int) (s:Z3) (x:AV):Mem:=
 [.kO,.kO,.cells true 0 [.slice 0 0 n none,.slice 1 0 k none],.cells true 0 d.cells,.cells true 0 KT,.cells true 0 [.str (zS v.1),.str (zS v.2.1),.str (zS v.2.2)],.cells true 0 [.str (zS v.1),.str (zS v.2.1),.str (zS v.2.2),.str (zS o)],.cells true 0 (bO nm v x s)]
def AR(d:aeN) (n k:Nat) (nm:List UInt8) (v:Z3) (o:Int) (s:Z3) (j:Nat):Mem:=if j=0 then J0 d n k nm v o s .kK else J0 d n k nm v o s (.slice 8 0 j none)++[.cells true 2 (pC (bV d j))]
theorem wE{d:aeN}{n k:Nat}{nm:List UInt8}{v:Z3}{o:Int}{s:Z3}{j:Nat}(h:0<j):AR d n k nm v o s j=J0 d n k nm v o s (.slice 8 0 j none)++[.cells true 2 (pC (bV d j))]:=if_neg (by omega)
theorem NS(n:Nat):AV.aeR n KT=[]:=rfl
theorem Tk(f:Nat→Option Nat):AV.aeM f KT=KT:=rfl
def agY:=bj (rfl:aG f28=_) (ls:=[[0,0,2,6,14,30,63,0,255],[0,1,3,7,15,0,32,96,255,0,1023],[0,0,0,4,12,28,60,0,128,384,896,1920,0,4096,12288,28672,61440,131068,262142,524287,1048575,2097151],[0,0,0,4,12,28,60,0,128,384,896,1920,0,4096,12288,28672,61440,131068,262142,524287,1048575,2097151],[0,1,3,0,8,24,56,0,128,504,1016,0,0,6144,14336,30720,63488,129024,0,262144,786432,1835008,3932160,8126464,16777208,33554424,67108856,134217727,268435455,536870911,1073741823],[0,0,2,6,14,30,62,126,0,510,1022,2047,4095,8191],[0,0,0,0,0,0,63,0,128,384,896,2047,4095,0,8192,24576,57344,122880,0,262144,786432,1835008,3932160,0,8388608,25165824,58720256,125829120,268427264,536870911,1073741823,2147483647]]) (by kernel_rfl)
theorem B7(d:aeN)(hd:d.Ok)(n k:Nat)(nm:List UInt8)(v:Z3)(o:Int)(s:Z3)(c:Nat)(hc:c≤3)(hK:c<K)(hb:ai f28=[b]):
  ∃F:Env→Env,∀z',(ab z' 4=.ptr 3 0∧ab z' 9=.ptr 7 0∧ab z' 121=.int .i64 c∧ab z' 122=.int .i64 0∧ab z' 6=.ptr 4 0)→
   aN (aM prog) (fun _=>[122,122]) (dE d) K 172 2 true (.loop b) ⟨z',AR d n k nm v o s 0,false⟩=some (.exit 1,⟨F z',AR d n k nm v o s c,decide (0<c)⟩)∧ab (F z') 9=.ptr 7 0∧ab (F z') 6=.ptr 4 0:=by
 refine tM (L:=[122,122]) rfl false _ (fun z'=>ab z' 4=.ptr 3 0∧ab z' 9=.ptr 7 0∧ab z' 121=.int .i64 c∧ab z' 122=.int .i64 0∧ab z' 6=.ptr 4 0) (fun z' AC =>ab AC 9=.ptr 7 0∧ab AC 6=.ptr 4 0) ?_;rintro z' ⟨h4,h9,ab0,adT,h6⟩;have IR:=agY;simp only[aG,bF,f28,List.nil_append,List.append_nil,List.cons_append,List.map_cons,List.map_nil,List.cons.injEq,and_true] at IR;obtain⟨-,-,-,-,hb4,-,-⟩:=IR;have k26:qf [0,1,3,0,8,24,56,0,128,504,1016,0,0,6144,14336,30720,63488,129024,0,262144,786432,1835008,3932160,8126464,16777208,33554424,67108856,134217727,268435455,536870911,1073741823] 31 26=true:=by decide
 have k27:qf [0,1,3,0,8,24,56,0,128,504,1016,0,0,6144,14336,30720,63488,129024,0,262144,786432,1835008,3932160,8126464,16777208,33554424,67108856,134217727,268435455,536870911,1073741823] 31 27=true:=by decide
 have k30:qf [0,1,3,0,8,24,56,0,128,504,1016,0,0,6144,14336,30720,63488,129024,0,262144,786432,1835008,3932160,8126464,16777208,33554424,67108856,134217727,268435455,536870911,1073741823] 31 30=true:=by decide
 have j27:aX [0,1,3,0,8,24,56,0,128,504,1016,0,0,6144,14336,30720,63488,129024,0,262144,786432,1835008,3932160,8126464,16777208,33554424,67108856,134217727,268435455,536870911,1073741823] 27=true:=by decide
 have j30:aX [0,1,3,0,8,24,56,0,128,504,1016,0,0,6144,14336,30720,63488,129024,0,262144,786432,1835008,3932160,8126464,16777208,33554424,67108856,134217727,268435455,536870911,1073741823] 30=true:=by decide
 simp[ai,aK,f28] at hb;have YF:aD [122,122] (aa b) z' ((122,.int .i64 ((0:Nat):Int))::z')=aD [122,122] (aa b) z' z':=by simp[aD,adT]
 rw[←YF];have YY:(AR d n k nm v o s 0).length=8:=rfl;refine cV (α:=Nat) (fun j=>⟨aD [122,122] (aa b) z' ((122,.int .i64 (j:Int))::z'),AR d n k nm v o s j,decide (0<j)⟩) (fun j=>c-j) (fun j=>j≤c) (.exit 1) _ _ _ (by simp) ?_ K 0 (by omega) (by omega);intro j Za;clear YF;subst hb;by_cases A':j<c
 ·left
  have Zn:=My d j;have Zc:tK d j=(((d.N.tmod 3+2*j:Int):Rat),mkRat ((Kp d.K j%4:Nat)-1:Int) (1+d.K.2.2.2%2)):=rfl;have q1:=wK d j (by omega);have q2:=ME hd.K j;have q3:=nv d.N 3 (by decide);simp only[Int.cast_ofNat_Int] at q3;have hN:=hd.N;unfold yY at hN;have hN7:=Uq d;have h11:d.cells[11]? =some (.int .u8 (d.K.2.2.2:Nat)):=rfl;have wN:IntKind.i64.wrap d.N=d.N:=bN (by omega) (by omega);obtain⟨y,hy⟩:∃y,y=d.N.tmod 3:=⟨_,rfl⟩
  rw[←hy] at q3 Zc;have l0:=xm d;have r0:=gR d;have o0:=JP d;have n0:=Dc d;have hdO:∀c a M,dE d c a M=dE d c a M:=fun _ _ _=>rfl
  obtain⟨C,hC⟩:∃C,C=d.cells:=⟨_,rfl⟩
  have hC' :d.cells=C:=hC.symm;rw[←hC] at q1 hN7 h11 l0;simp only[←hC] at r0 o0 n0;obtain⟨X,hX⟩:∃X,X=Kp d.K j:=⟨_,rfl⟩
  rw[←hX] at q1 q2 Zc;have j7:∀h,C[7]'h=_:=gE hN7
  have j11:∀h,C[11]'h=_:=gE h11
  have j8:∀h,C[8+j]'h=_:=gE q1
  have t4:((X:Nat):Int).tmod 4=((X%4:Nat):Int):=rfl;have x4:X%4<4:=Nat.mod_lt _ (by decide);obtain⟨x,hx⟩:∃x,x=X%4:=⟨_,rfl⟩
  rw[←hx] at t4 x4 Zc;have wX:IntKind.i64.wrap (X:Int)=(X:Int):=bN (by omega) (by omega);have wx:IntKind.i64.wrap ((x:Int)-1)=(x:Int)-1:=bN (by omega) (by omega);have t2:((d.K.2.2.2:Nat):Int).tmod 2=((d.K.2.2.2%2:Nat):Int):=rfl;have x2:d.K.2.2.2%2<2:=Nat.mod_lt _ (by decide);obtain⟨w,hw⟩:∃x,x=d.K.2.2.2%2:=⟨_,rfl⟩
  rw[←hw] at t2 x2 Zc;have ww:IntKind.i64.wrap (w:Int)=(w:Int):=bN (by omega) (by omega);have ww1:IntKind.i64.wrap (1+(w:Int))=((1+w:Nat):Int):=by rw[bN (by omega) (by omega)];omega
  obtain⟨D,hD⟩:∃D,D=1+w:=⟨_,rfl⟩
  rw[←hD] at ww1 Zc;have hDp:0<D:=by omega
  have hDl:D<100000000:=by omega
  have w2j:IntKind.i64.wrap (2*(j:Int))=2*(j:Int):=bN (by omega) (by omega);have wyj:IntKind.i64.wrap (y+2*(j:Int))=y+2*(j:Int):=bN (by omega) (by omega);obtain⟨Y,hY⟩:∃Y,Y=y+2*(j:Int):=⟨_,rfl⟩
  rw[←hY] at wyj Zc;have gY:Y.natAbs<100000000:=by omega
  obtain⟨Z,hZ⟩:∃Z,Z=(x:Int)-1:=⟨_,rfl⟩
  rw[←hZ] at wx Zc;have gZ:Z.natAbs<100000000:=by omega
  have hpc:pC [tK d j]=[.str (zS Y),.str (aw (mkRat Z D))]:=by rw[Zc];rfl
  have w1:IntKind.i64.wrap ((j:Int)+1)=((j+1:Nat):Int):=by rw[al (by omega) (by omega)];omega
  obtain⟨m,hm⟩:∃m,m=j+1:=⟨_,rfl⟩
  rw[←hm] at w1 Zn;have hmp:0<m:=by omega
  have hKm:pC (bV d m)=pC (bV d j)++[.str (zS Y),.str (aw (mkRat Z D))]:=by rw[Zn,Bj,hpc]
  have hj3:(j:Int)<4:=by omega
  have acL :j<4:=by omega
  have hjc:(j:Int)<c:=by omega
  refine⟨m,?_⟩;rw[wE hmp,hKm];by_cases hj0:j=0
  ·have e0:AR d n k nm v o s j=J0 d n k nm v o s .kK:=if_pos hj0
   have e1:bV d j=[]:=by rw[hj0];rfl
   have hd0:decide (0<j)=false:=by simp[hj0]
   have hmd:decide (0<m)=true:=by simpa using hmp
   have Yt:m=1:=by omega
   rw[e0,hd0,e1,Yt];rw[Yt] at w1;have e2:pC []++[.str (zS Y),.str (aw (mkRat Z D))]=[.str (zS Y),.str (aw (mkRat Z D))]:=rfl;rw[e2];simp[J0,bO,hC',h4,h9,ab0,hjc,l0,r0,n0,q1,j7,j11,hj3,NS,Tk,wN,←hy,t4,t2,wX,wx,ww,ww1,w2j,wyj,←hY,←hZ,gY,gZ,hDp,hDl,w1,YY,dE,ag,cQ,-aE,jo hb4,j9,qv,xw,bW,k26,k27,k30,j27,j30,cM,aR,Nat.testBit];omega
  ·have XQ:0<j:=by omega
   have hd1:decide (0<j)=true:=by simpa using XQ
   have hmd:decide (0<m)=true:=by simpa using hmp
   rw[wE XQ,hd1];have hPl:(pC (bV d j)).length=j*2:=by rw[vm,cW]
   obtain⟨P,hP⟩:∃P,P=bV d j:=⟨_,rfl⟩
   rw[←hP] at hPl ⊢;have g3:(pC P).take (j*2)=pC P:=List.take_of_length_le (by omega);have g4:m*32≤140737488355328:=by omega
   have g5:m≤140737488355328:=by omega
   simp[J0,bO,hC',h4,h9,ab0,hjc,l0,r0,n0,q1,j7,j11,hj3,NS,Tk,wN,←hy,t4,t2,wX,wx,ww,ww1,w2j,wyj,←hY,←hZ,gY,gZ,hDp,hDl,w1,YY,hPl,←hm,hmd,g3,g4,g5,dV,Bk,gA,dE,ag,cQ,-aE,jo hb4,j9,qv,xw,bW,k26,k27,k30,j27,j30,cM,aR,Nat.testBit];omega
 ·right
  have e:j=c:=by omega
  subst e;simp[h9,h6,ab0]
theorem ahf:aX [0,0,0,4,12,28,60,0,128,384,896,1920,0,4096,12288,28672,61440,131068,262142,524287,1048575,2097151] 21=true:=by decide
theorem zl(d:aeN)(hd:d.Ok)(n k i:Nat)(hi:i<6)(hn:0<n)(hl:n≤1000)(hk:d.kind%5=2):
  kF prog 28 [.agg [.slice 0 0 n none,.slice 1 0 k none],.agg d.cells,.int .i64 i] [.kO,.kO] (.agg (bO (bH i) (bG d.A) (.slice 2 0 (1+d.K.1%3) none) (dU (bG d.A) (se d.B)))) ([.kO,.kO]++[.cells true 2 (pC (bV d (1+d.K.1%3)))]):=by
 have hG:aT prog 28=some f28:=by kernel_rfl
 have IR:=agY;simp only[aG,bF,f28,List.nil_append,List.append_nil,List.cons_append,List.map_cons,List.map_nil,List.cons.injEq,and_true] at IR;obtain⟨XY,hb1,Yl,ZP,hb4,hb5,hb6⟩:=IR;have a08:aX [0,0,2,6,14,30,63,0,255] 8=true:=by decide
 have abZ:aX [0,1,3,7,15,0,32,96,255,0,1023] 10=true:=by decide
 have adr:aX [0,0,2,6,14,30,62,126,0,510,1022,2047,4095,8191] 13=true:=by decide
 have ads:aX [0,0,0,0,0,0,63,0,128,384,896,2047,4095,0,8192,24576,57344,122880,0,262144,786432,1835008,3932160,0,8388608,25165824,58720256,125829120,268427264,536870911,1073741823,2147483647] 31=true:=by decide
 obtain⟨b,hb⟩:∃b,ai f28=[b]:=⟨_,rfl⟩
 have c3:d.K.1%3<3:=Nat.mod_lt _ (by decide);obtain⟨F,hF⟩:=B7 (K:=9) d hd n k (bH i) (bG d.A) (d.N.tmod 5) (dU (bG d.A) (se d.B)) (1+d.K.1%3) (by omega) (by omega) hb;have hcp:0<1+d.K.1%3:=by omega
 have hcd:decide (0<1+d.K.1%3)=true:=by simpa using hcp
 rw[wE hcp,hcd] at hF;have hF0:AR d n k (bH i) (bG d.A) (d.N.tmod 5) (dU (bG d.A) (se d.B)) 0=J0 d n k (bH i) (bG d.A) (d.N.tmod 5) (dU (bG d.A) (se d.B)) .kK:=rfl;rw[hF0] at hF;simp[ai,aK,f28] at hb;subst hb;have hN:=hd.N;have hB:=uU hd.B;have hA:=uU hd.A;have n1:=bZ d.A;have m1:=gd d.B;have q3:=nv d.N 5 (by decide);have h8:=VS d;have h0:=VO d;have h4:=VP d;have h5:=VQ d;have h6:=VR d;have h7:=Uq d;have h1:=VT d;have l0:=xm d;have r0:=gR d;have o0:=JP d;have okd:=iq d hd;clear hd;obtain⟨kd,⟨A1,A2,A3⟩,⟨B1,B2,B3⟩,N,⟨K1,K2,K3,K4⟩⟩:=d;simp only at hF c3 hk hN hB hA n1 m1 q3 h8 h0 h4 h5 h6 h7 h1 ⊢;simp only[Int.cast_ofNat_Int] at q3;unfold yY at hN;obtain⟨hB1,hB2,hB3⟩:=hB;simp only at hB1 hB2 hB3;have wN:IntKind.i64.wrap N=N:=bN (by omega) (by omega);have wB1:IntKind.i64.wrap B1=B1:=bN (by omega) (by omega);have wB2:IntKind.i64.wrap B2=B2:=bN (by omega) (by omega);have wB3:IntKind.i64.wrap B3=B3:=bN (by omega) (by omega);have ZX:((kd:Nat):Int).tmod 5=2:=by have:((kd:Nat):Int).tmod 5=((kd%5:Nat):Int):=rfl;rw[this,hk];rfl
 obtain⟨⟨nx,ny,nz⟩,e1⟩:∃v,v=bG (A1,A2,A3):=⟨_,rfl⟩
 rw[←e1] at n1;have e2:se (B1,B2,B3)=(B1.tmod 3,B2.tmod 3,B3.tmod 3):=rfl;rw[e2] at m1;obtain⟨o,ho⟩:∃o,o=N.tmod 5:=⟨_,rfl⟩
 rw[←ho] at q3;have go:o.natAbs<100000000:=by omega
 have gi:i<100000000:=by omega
 obtain⟨bx,ZQ⟩:∃o,o=B1.tmod 3:=⟨_,rfl⟩
 obtain⟨ZA,hby⟩:∃o,o=B2.tmod 3:=⟨_,rfl⟩
 obtain⟨bz,Zo⟩:∃o,o=B3.tmod 3:=⟨_,rfl⟩
 rw[←ZQ,←hby,←Zo] at m1 e2;obtain⟨g1,g2,g3⟩:=m1;simp only at g1 g2 g3;have g1' :bx.natAbs≤10000:=by omega
 have g2' :ZA.natAbs≤10000:=by omega
 have g3' :bz.natAbs≤10000:=by omega
 have m2:eS 2 (bx,ZA,bz):=⟨g1,g2,g3⟩;obtain⟨C,hC⟩:∃C,C=aeN.cells ⟨kd,(A1,A2,A3),(B1,B2,B3),N,(K1,K2,K3,K4)⟩:=⟨_,rfl⟩
 rw[←hC] at h8 h0 h4 h5 h6 h7 h1 l0 r0 o0;have hC' :aeN.cells ⟨kd,(A1,A2,A3),(B1,B2,B3),N,(K1,K2,K3,K4)⟩=C:=hC.symm;have tk:C.take 12=C:=List.take_of_length_le (by omega);have j8:∀h,C[8]'h=_:=gE h8
 have j0:∀h,C[0]'h=_:=gE h0
 have j4:∀h,C[4]'h=_:=gE h4
 have j5:∀h,C[5]'h=_:=gE h5
 have j6:∀h,C[6]'h=_:=gE h6
 have j7:∀h,C[7]'h=_:=gE h7
 have hp:=gU;rw[e2,←e1,←ho] at hF;obtain⟨⟨sx,sy,sz⟩,hs⟩:∃v,v=dU (nx,ny,nz) (bx,ZA,bz):=⟨_,rfl⟩
 rw[←hs] at hF;simp only[J0,bO,bH,KT,←hC,List.cons_append,List.nil_append] at hF;have I':=fun z' h=>(hF z' h).1
 have hG9:=fun z' h=>(hF z' h).2.1
 have hG6:=fun z' h=>(hF z' h).2.2
 clear hF;have t3:((K1:Nat):Int).tmod 3=((K1%3:Nat):Int):=rfl;obtain⟨x,hx⟩:∃x,x=K1%3:=⟨_,rfl⟩
 rw[←hx] at t3 c3 I' hG9 hG6;have w13:IntKind.i64.wrap (x:Int)=(x:Int):=bN (by omega) (by omega);have w14:IntKind.i64.wrap (1+(x:Int))=((1+x:Nat):Int):=by rw[bN (by omega) (by omega)];omega
 obtain⟨c,hc⟩:∃c,c=1+x:=⟨_,rfl⟩
 rw[←hc] at w14 I' hG9 hG6;have c1:=w14;have u12:IntKind.i64.wrap (1+1)=2:=rfl;have u13:IntKind.i64.wrap (1+2)=3:=rfl;have u14:IntKind.i64.wrap (1+3)=4:=rfl;have u15:IntKind.i64.wrap (1+4)=5:=rfl;have hip:=fQ (n:=(i:Int)) (by omega);have aaS :(zS (i:Int)).length+1≤9223372036854775807:=by unfold zS;omega
 have Zb:1+(zS (i:Int)).length≤9223372036854775807:=by omega
 have h:ad (aM prog) (fun _=>[122,122]) (aT prog) (dE ⟨kd,(A1,A2,A3),(B1,B2,B3),N,(K1,K2,K3,K4)⟩) 9 28 [.agg [.slice 0 0 n none,.slice 1 0 k none],.agg C,.int .i64 i] [.kO,.kO]=some ⟨(.agg (bO (bH i) (bG (A1,A2,A3)) (.slice 2 0 (1+K1%3) none) (dU (bG (A1,A2,A3)) (se (B1,B2,B3))))),some [.kO,.kO],[.cells true 2 (pC (bV ⟨kd,(A1,A2,A3),(B1,B2,B3),N,(K1,K2,K3,K4)⟩ (1+K1%3)))]⟩:=by rw[e2,←e1,←hs,←hx,←hc];simp[ad,hG,f28,dE,ag,cQ,zA,l0,j8,j0,j4,j5,j6,j7,h1,hA,←e1,ZX,wN,wB1,wB2,wB3,←ho,←ZQ,←hby,←Zo,go,gi,g1',g2',g3',hp,n1,m2,w2,w3,Zb,gk,cM,aR,-aE,cq XY,cq hb1,cq ZP,jz,oM,By,my,bW,oU,bef,a08,abZ,ahf,Nat.testBit,I',hG9,hG6,←hs,c1,t3,w13,bO,bH,dV,gA]
 have:=(ak ae (aq _) okd (au _) h).1;rw[←hC];simpa [HS.mem] using this
end Go.Proofs
