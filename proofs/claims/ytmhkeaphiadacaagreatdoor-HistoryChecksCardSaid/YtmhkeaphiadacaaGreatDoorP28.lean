/- See P53. -/
import Derived.Test.YtmhkeaphiadacaaGreatDoorP22
set_option linter.all false
set_option maxRecDepth 100000
set_option maxHeartbeats 40000000
namespace Go.Proofs
open Go.Eng
open Tryz
def kC:List (List UInt8×List UInt8)→List AV
 | []=>[]
 |k::l=>.str k.1::.str k.2::kC l
theorem A9:∀l:List (List UInt8×List UInt8),(kC l).length=2*l.length
 | []=>rfl
 |_::l=>by simp only[kC,List.length_cons,A9 l];omega
theorem RL:∀(l:List (List UInt8×List UInt8)) (i:Nat),(kC l).drop (i*2)=kC (l.drop i)
 |l,0=>by simp
 | [],i+1=>by simp[kC]
 |k::l,i+1=>by
  have:(i+1)*2=i*2+1+1:=by omega
  rw[this];simp only[kC,List.drop_succ_cons];exact RL l i
theorem UO{l:List (List UInt8×List UInt8)}{i:Nat}{k:List UInt8×List UInt8}(h:l[i]? =some k):
  ((kC l).drop (i*2)).take 2=[.str k.1,.str k.2]∧(kC l)[i*2]? =some (.str k.1)∧(kC l)[i*2+1]? =some (.str k.2):=by
 have hd:l.drop i=k::l.drop (i+1):=by rw[List.getElem?_eq_some_iff] at h;obtain⟨h1,h2⟩:=h;rw[←h2];exact List.drop_eq_getElem_cons h1
 have e:=RL l i;rw[hd] at e;refine⟨by rw[e];rfl,?_,?_⟩
 ·have:(kC l)[i*2]? =((kC l).drop (i*2))[0]? :=by rw[List.getElem?_drop];rfl
  rw[this,e];rfl
 ·have:(kC l)[i*2+1]? =((kC l).drop (i*2))[1]? :=by rw[List.getElem?_drop]
  rw[this,e];rfl
theorem M1(n:Nat):∀l:List (List UInt8×List UInt8),AV.aas n (kC l)=[]
 | []=>by simp[kC,AV.aas]
 |k::l=>by simp[kC,AV.aas,AV.refs,M1 n l]
def kT(Q:List (Rat×Rat)):List (List UInt8×List UInt8):=Q.map fun q=>(aN q.1,aN q.2)
theorem qP(Q:List (Rat×Rat)):(kT Q).length=Q.length:=by simp[kT]
def DH(p:Option Rat) (q:Rat):Bool:=match p with
 |some r=>decide (r<q)
 |none=>true
def ckE(p:Option Rat):List (List UInt8×List UInt8)→Int
 | []=>0
 |k::l=>if yV k.1=0∧yV k.2=0 then (if DH p ((ef k.1).getD 0) then ckE (ef k.1) l else 6) else 2
def Rk(L:List (List UInt8×List UInt8)) (n:Nat) (p:Option Rat):Prop:=
 (n=0∧p=none)∨(∃m q k,n=m+1∧p=some q∧L[m]? =some k∧k.1=aN q∧(aS q.num.natAbs).length≤200∧(aS q.den).length≤200)
theorem KL(q:Rat):(aS q.num.natAbs).length≤(aN q).length∧(aS q.den).length≤(aN q).length:=by
 have h:=xL q.num;unfold aN;split
 ·rename_i h1
  have h2:=vp q.num.natAbs;rw[h1];exact⟨h,by have:(aS 1).length=1:=rfl;omega⟩
 ·simp only[List.length_append,List.length_cons]
  exact⟨by omega,by omega⟩
variable{K:Nat}{b:Code}
theorem pL(L:List (List UInt8×List UInt8))(hL:∀k∈L,k.1.length≤9∧k.2.length≤9)(hl:L.length≤1000000000)(hK:L.length<K)(hb:aj f210=[b]):
  ∃F:Env→Bool→Env×Mem×(List UInt8×List UInt8),∀y' d,(aa y' 0=.slice 0 0 L.length none∧aa y' 8=.slice 0 0 L.length none∧aa y' 9=.int .i64 L.length∧aa y' 10=.int .i64 0)→
   aQ (aC prog) (fun _=>[10]) (ar bd) K 40 1 true (.loop b) ⟨y',[.cells false 2 (kC L)],d⟩=some (if ckE none L=0 then .exit 0 else .ret,⟨(F y' d).1,(F y' d).2.1,d⟩)∧
    ((ckE none L=0→(F y' d).2.1=[.cells false 2 (kC L)])∧(ckE none L≠0→(F y' d).2.1=[.cells false 2 (kC L),.cells true 0 [.str (F y' d).2.2.1,.str (F y' d).2.2.2]]∧aa (F y' d).1 2=.int .i64 (ckE none L))):=by
 refine kF (β:=List UInt8×List UInt8) rfl (fun y'=>(aa y' 0=.slice 0 0 L.length none∧aa y' 8=.slice 0 0 L.length none∧aa y' 9=.int .i64 L.length∧aa y' 10=.int .i64 0)) (fun _ z' mem' x=>(ckE none L=0→mem' =[.cells false 2 (kC L)])∧(ckE none L≠0→mem' =[.cells false 2 (kC L),.cells true 0 [.str x.1,.str x.2]]∧aa z' 2=.int .i64 (ckE none L))) ?_;rintro y' d ⟨h0,h8,h9,h10⟩;simp[aj,aD,f210] at hb;have hn:az [10] (ab b) y' ((10,.int .i64 ((0:Nat):Int))::y')=az [10] (ab b) y' y':=by simp[az,h10]
 rw[←hn];have kl:(kC L).length=2*L.length:=A9 L;refine jS (α:=Nat) (fun n=>⟨az [10] (ab b) y' ((10,.int .i64 (n:Int))::y'),[.cells false 2 (kC L)],d⟩) (fun n=>L.length-n) (fun n=>n≤L.length∧∃p,Rk L n p∧ckE none L=ckE p (L.drop n)) (if ckE none L=0 then .exit 0 else .ret) d (fun z' mem' =>∃x:List UInt8×List UInt8,(ckE none L=0→mem' =[.cells false 2 (kC L)])∧(ckE none L≠0→mem' =[.cells false 2 (kC L),.cells true 0 [.str x.1,.str x.2]]∧aa z' 2=.int .i64 (ckE none L))) (by split<;>simp) ?_ K 0 ⟨by omega,none,.inl ⟨rfl,rfl⟩,by rw[List.drop_zero]⟩ (by omega);rintro n ⟨Xi,p,hp,he⟩;clear hn;subst hb;by_cases AC:n<L.length
 ·obtain⟨k,hk⟩:∃k,L[n]? =some k:=⟨L[n],List.getElem?_eq_getElem AC⟩
  obtain⟨k1,k2,k3⟩:=UO hk;obtain⟨l1,l2⟩:=hL k (List.mem_of_getElem? hk);have l1' :k.1.length≤18:=by omega
  have l2' :k.2.length≤18:=by omega
  have hd:L.drop n=k::L.drop (n+1):=by rw[List.getElem?_eq_some_iff] at hk;obtain⟨h1,h2⟩:=hk;rw[←h2];exact List.drop_eq_getElem_cons h1
  rw[hd,ckE] at he;have w1:IntKind.i64.wrap ((n:Int)+1)=((n+1:Nat):Int):=by rw[ai (by omega) (by omega)];omega
  have k4:n*2+2≤(kC L).length:=by omega
  by_cases c1:yV k.1=0
  ·by_cases c2:yV k.2=0
   ·rw[if_pos ⟨c1,c2⟩] at he
    obtain⟨q,hq,hqs,q1,q2⟩:=TB c1;rw[hq] at he;have ql:=KL q;rw[←hqs] at ql;have q1' :(aS q.num.natAbs).length≤9:=by omega
    have q2' :(aS q.den).length≤9:=by omega
    clear ql;simp only[Option.getD_some] at he;rcases hp with⟨rfl,rfl⟩ | ⟨m,r,j,rfl,rfl,hj,Zu,r1,r2⟩
    ·rw[if_pos (by rfl)] at he
     left;refine⟨1,?_⟩;have hz:(0:Int)<L.length:=by omega
     have b1:Rk L 1 (some q):=.inr ⟨0,q,k,rfl,rfl,hk,hqs,q1,q2⟩;have w3:IntKind.i64.wrap 1=1:=rfl;simp at k1 k4 AC;simp[h0,h8,h9,AC,ar,bd,l1',l2',c1,c2,k1,k4,w3,M1,Nat.testBit];exact⟨⟨by omega,_,b1,by simpa using he⟩,by omega⟩
    ·obtain⟨j1,j2,j3⟩:=UO hj
     have w2:IntKind.i64.wrap (((m+1:Nat):Int)-1)=(m:Int):=by rw[ai (by omega) (by omega)];omega
     have rl:=KL r;have rl2:=(hL j (List.mem_of_getElem? hj)).1;rw[←Zu] at rl;have r1' :(aS r.num.natAbs).length≤9:=by omega
     have r2' :(aS r.den).length≤9:=by omega
     clear rl rl2;obtain⟨n,hn⟩:∃n,n=m+1:=⟨_,rfl⟩
     rw[←hn] at hk k1 k2 k3 k4 w1 w2 AC Xi he hd ⊢;have n0:(0:Int)<n:=by omega
     have n0' :0<n:=by omega
     have hm:m<L.length:=by omega
     rw[hqs] at l1 l1' c1 k1;rw[Zu] at j2;have b1:Rk L (n+1) (some q):=.inr ⟨n,q,k,rfl,rfl,hk,hqs,q1,q2⟩;obtain⟨v,hv⟩:∃v,v=n+1:=⟨_,rfl⟩
     rw[←hv] at w1 b1 he;by_cases hrq:r<q
     ·have c:¬AT q r≤0:=fun h=>by have:=MU.1 h;grind
      rw[if_pos (by simp[DH,hrq])] at he;left;refine⟨v,?_⟩;simp[h0,h8,h9,AC,hm,n0',ar,bd,a8,aM,l1',l2',c1,c2,k1,k4,j2,w1,w2,q1',q2',r1',r2',c,M1,Nat.testBit];exact⟨⟨by omega,_,b1,he⟩,by omega⟩
     ·have c:AT q r≤0:=MU.2 (by grind)
      rw[if_neg (by simp[DH,hrq])] at he;right;rw[he];simp[h0,h8,h9,AC,hm,n0',ar,bd,a8,aM,l1',l2',c1,c2,k1,k4,j2,w2,q1',q2',r1',r2',c,Nat.testBit];exact⟨_,_,⟨rfl,rfl⟩,⟨_,_,rfl⟩,rfl⟩
   ·rw[if_neg (fun h=>c2 h.2)] at he
    right;rw[he];simp[h8,h9,AC,ar,bd,l1',l2',c1,c2,k1,k4];exact⟨_,_,⟨rfl,rfl⟩,⟨k.1,k.2,rfl⟩,rfl⟩
  ·rw[if_neg (fun h=>c1 h.1)] at he
   right;rw[he];simp[h8,h9,AC,ar,bd,l1',c1,k1,k4];exact⟨_,_,⟨rfl,rfl⟩,⟨k.1,k.2,rfl⟩,rfl⟩
 ·right
  have e:L.drop n=[]:=List.drop_of_length_le (by omega);rw[e,ckE] at he;rw[he];simp[h9,AC]
def knE(L:List (List UInt8×List UInt8)):Int:=if 20<L.length then 4 else ckE none L
theorem vM(L:List (List UInt8×List UInt8))(hL:∀k∈L,k.1.length≤9∧k.2.length≤9)(hl:L.length≤1000000000):
  mB prog 210 [.slice 0 0 L.length none] [.cells false 2 (kC L)] (.int .i64 (knE L)) [.cells false 2 (kC L)]:=by
 have hG:aO prog 210=some f210:=by kernel_rfl
 obtain⟨b,hb⟩:∃b,aj f210=[b]:=⟨_,rfl⟩
 obtain⟨F,hF⟩:=pL (K:=L.length+1) L hL hl (by omega) hb;simp[aj,aD,f210] at hb;subst hb;refine aY (lv:=(fun _=>[10])) (K:=(L.length+1)) dX ?_;unfold knE;by_cases h20:20<L.length
 ·rw[if_pos h20]
  have h20I:(20:Int)<L.length:=by omega
  simp[ad,hG,f210,h20I]
 ·rw[if_neg h20]
  have h20I:¬(20:Int)<L.length:=by omega
  by_cases hc:ckE none L=0
  ·rw[if_pos hc] at hF
   have H1:=fun y' d h=>(hF y' d h).1
   have P':=fun y' d h=>(hF y' d h).2.1 hc
   clear hF;simp[ad,hG,f210,h20I,H1,P',hc]
  ·rw[if_neg hc] at hF
   have H1:=fun y' d h=>(hF y' d h).1
   have P':=fun y' d h=>((hF y' d h).2.2 hc).1
   have Xv:=fun y' d h=>((hF y' d h).2.2 hc).2
   clear hF;simp[ad,hG,f210,h20I,H1,P',Xv]
def yZ(d:aao) (j:Nat):P2:=(((d.N.tmod 3+2*j:Int):Rat),mkRat ((Lg d.K j%4:Nat)-1:Int) (1+d.K.2.2.2%2))
def cU(d:aao) (c:Nat):List P2:=(List.range c).map (yZ d)
theorem M2(d:aao)(c:Nat):cU d (c+1)=cU d c++[yZ d c]:=by simp[cU,List.range_succ]
theorem fL(d:aao)(c:Nat):(cU d c).length=c:=by simp[cU]
def Lb:List AV:=[.int .i64 0,.str [],.kO,.kO,.kO,.str [],.str [],.str [],.str [],.str [],.str [],.str [],.str [],.str [],.str [],.kO,.str [],.str [],.str [],.str [],.str [],.str [],.str [],.str [],.str [],.int .i64 0,.int .i64 0,.int .i64 0,.int .i64 0,.str [],.str [],.str []]
def Ko(d:aao) (n k:Nat) (nm:List UInt8) (v:Z3) (o:Int) (s:Z3) (x:AV):Mem:=
 [.qF,.qF,.cells true 0 [.slice 0 0 n none,.slice 1 0 k none],.cells true 0 d.cells,.cells true 0 Lb,.cells true 0 [.str (zS v.1),.str (zS v.2.1),.str (zS v.2.2)],.cells true 0 [.str (zS v.1),.str (zS v.2.1),.str (zS v.2.2),.str (zS o)],.cells true 0 (cb nm v x s)]
def A4(d:aao) (n k:Nat) (nm:List UInt8) (v:Z3) (o:Int) (s:Z3) (j:Nat):Mem:=if j=0 then Ko d n k nm v o s .kO else Ko d n k nm v o s (.slice 8 0 j none)++[.cells true 2 (pC (cU d j))]
theorem wG{d:aao}{n k:Nat}{nm:List UInt8}{v:Z3}{o:Int}{s:Z3}{j:Nat}(h:0<j):A4 d n k nm v o s j=Ko d n k nm v o s (.slice 8 0 j none)++[.cells true 2 (pC (cU d j))]:=if_neg (by omega)
theorem Od(n:Nat):AV.aas n Lb=[]:=rfl
theorem Ss(f:Nat→Option Nat):AV.aal f Lb=Lb:=rfl
def acI:=bH (rfl:aP f9=_) (ls:=[[0,0,2,6,14,30,63,0,255],[0,1,3,7,15,0,32,96,255,0,1023],[0,0,0,4,12,28,60,0,128,384,896,1920,0,4096,12288,28672,61440,131068,262142,524287,1048575,2097151],[0,0,0,4,12,28,60,0,128,384,896,1920,0,4096,12288,28672,61440,131068,262142,524287,1048575,2097151],[0,1,3,0,8,24,56,0,128,504,1016,0,0,6144,14336,30720,63488,129024,0,262144,786432,1835008,3932160,8126464,16777208,33554424,67108856,134217727,268435455,536870911,1073741823],[0,0,2,6,14,30,62,126,0,510,1022,2047,4095,8191],[0,0,0,0,0,0,63,0,128,384,896,2047,4095,0,8192,24576,57344,122880,0,262144,786432,1835008,3932160,0,8388608,25165824,58720256,125829120,268427264,536870911,1073741823,2147483647]]) (by kernel_rfl)
theorem Cb(d:aao)(hd:d.Ok)(n k:Nat)(nm:List UInt8)(v:Z3)(o:Int)(s:Z3)(c:Nat)(hc:c≤3)(hK:c<K)(hb:aj f9=[b]):
  ∃F:Env→Env,∀y',(aa y' 4=.ptr 3 0∧aa y' 9=.ptr 7 0∧aa y' 121=.int .i64 c∧aa y' 122=.int .i64 0∧aa y' 6=.ptr 4 0)→
   aQ (aC prog) (fun _=>[122,122]) (dD d) K 172 2 true (.loop b) ⟨y',A4 d n k nm v o s 0,false⟩=some (.exit 1,⟨F y',A4 d n k nm v o s c,decide (0<c)⟩)∧aa (F y') 9=.ptr 7 0∧aa (F y') 6=.ptr 4 0:=by
 refine tZ (L:=[122,122]) rfl false _ (fun y'=>aa y' 4=.ptr 3 0∧aa y' 9=.ptr 7 0∧aa y' 121=.int .i64 c∧aa y' 122=.int .i64 0∧aa y' 6=.ptr 4 0) (fun y' z' =>aa z' 9=.ptr 7 0∧aa z' 6=.ptr 4 0) ?_;rintro y' ⟨h4,h9,h121,h122,h6⟩;have PP:=acI;simp only[aP,bQ,f9,List.nil_append,List.append_nil,List.cons_append,List.map_cons,List.map_nil,List.cons.injEq,and_true] at PP;obtain⟨-,-,-,-,hb4,-,-⟩:=PP;have k26:qD [0,1,3,0,8,24,56,0,128,504,1016,0,0,6144,14336,30720,63488,129024,0,262144,786432,1835008,3932160,8126464,16777208,33554424,67108856,134217727,268435455,536870911,1073741823] 31 26=true:=by decide
 have k27:qD [0,1,3,0,8,24,56,0,128,504,1016,0,0,6144,14336,30720,63488,129024,0,262144,786432,1835008,3932160,8126464,16777208,33554424,67108856,134217727,268435455,536870911,1073741823] 31 27=true:=by decide
 have k30:qD [0,1,3,0,8,24,56,0,128,504,1016,0,0,6144,14336,30720,63488,129024,0,262144,786432,1835008,3932160,8126464,16777208,33554424,67108856,134217727,268435455,536870911,1073741823] 31 30=true:=by decide
 have j27:ba [0,1,3,0,8,24,56,0,128,504,1016,0,0,6144,14336,30720,63488,129024,0,262144,786432,1835008,3932160,8126464,16777208,33554424,67108856,134217727,268435455,536870911,1073741823] 27=true:=by decide
 have j30:ba [0,1,3,0,8,24,56,0,128,504,1016,0,0,6144,14336,30720,63488,129024,0,262144,786432,1835008,3932160,8126464,16777208,33554424,67108856,134217727,268435455,536870911,1073741823] 30=true:=by decide
 simp[aj,aD,f9] at hb;have UV:az [122,122] (ab b) y' ((122,.int .i64 ((0:Nat):Int))::y')=az [122,122] (ab b) y' y':=by simp[az,h122]
 rw[←UV];have Yn:(A4 d n k nm v o s 0).length=8:=rfl;refine bA (α:=Nat) (fun j=>⟨az [122,122] (ab b) y' ((122,.int .i64 (j:Int))::y'),A4 d n k nm v o s j,decide (0<j)⟩) (fun j=>c-j) (fun j=>j≤c) (.exit 1) _ _ _ (by simp) ?_ K 0 (by omega) (by omega);intro j Xi;clear UV;subst hb;by_cases AC:j<c
 ·left
  have hk1:=M2 d j;have XI:yZ d j=(((d.N.tmod 3+2*j:Int):Rat),mkRat ((Lg d.K j%4:Nat)-1:Int) (1+d.K.2.2.2%2)):=rfl;have q1:=wQ d j (by omega);have q2:=M8 hd.K j;have q3:=ru d.N 3 (by decide);simp only[Int.cast_ofNat_Int] at q3;have hN:=hd.N;unfold Lf at hN;have hN7:=TD d;have h11:d.cells[11]? =some (.int .u8 (d.K.2.2.2:Nat)):=rfl;have wN:IntKind.i64.wrap d.N=d.N:=bN (by omega) (by omega);obtain⟨y,hy⟩:∃y,y=d.N.tmod 3:=⟨_,rfl⟩
  rw[←hy] at q3 XI;have l0:=xy d;have r0:=gQ d;have o0:=Kf d;have n0:=Dk d;have hdO:∀c a M,dD d c a M=dD d c a M:=fun _ _ _=>rfl
  obtain⟨C,hC⟩:∃C,C=d.cells:=⟨_,rfl⟩
  have Xg :d.cells=C:=hC.symm;rw[←hC] at q1 hN7 h11 l0;simp only[←hC] at r0 o0 n0;obtain⟨X,hX⟩:∃X,X=Lg d.K j:=⟨_,rfl⟩
  rw[←hX] at q1 q2 XI;have j7:∀h,C[7]'h=_:=fun h=>Option.some.inj ((List.getElem?_eq_getElem h).symm.trans hN7)
  have j11:∀h,C[11]'h=_:=fun h=>Option.some.inj ((List.getElem?_eq_getElem h).symm.trans h11)
  have j8:∀h,C[8+j]'h=_:=fun h=>Option.some.inj ((List.getElem?_eq_getElem h).symm.trans q1)
  have t4:((X:Nat):Int).tmod 4=((X%4:Nat):Int):=rfl;have x4:X%4<4:=Nat.mod_lt _ (by decide);obtain⟨x,hx⟩:∃x,x=X%4:=⟨_,rfl⟩
  rw[←hx] at t4 x4 XI;have wX:IntKind.i64.wrap (X:Int)=(X:Int):=bN (by omega) (by omega);have wx:IntKind.i64.wrap ((x:Int)-1)=(x:Int)-1:=bN (by omega) (by omega);have t2:((d.K.2.2.2:Nat):Int).tmod 2=((d.K.2.2.2%2:Nat):Int):=rfl;have x2:d.K.2.2.2%2<2:=Nat.mod_lt _ (by decide);obtain⟨w,hw⟩:∃x,x=d.K.2.2.2%2:=⟨_,rfl⟩
  rw[←hw] at t2 x2 XI;have ww:IntKind.i64.wrap (w:Int)=(w:Int):=bN (by omega) (by omega);have ww1:IntKind.i64.wrap (1+(w:Int))=((1+w:Nat):Int):=by rw[bN (by omega) (by omega)];omega
  obtain⟨D,hD⟩:∃D,D=1+w:=⟨_,rfl⟩
  rw[←hD] at ww1 XI;have hDp:0<D:=by omega
  have hDl:D<100000000:=by omega
  have w2j:IntKind.i64.wrap (2*(j:Int))=2*(j:Int):=bN (by omega) (by omega);have wyj:IntKind.i64.wrap (y+2*(j:Int))=y+2*(j:Int):=bN (by omega) (by omega);obtain⟨Y,hY⟩:∃Y,Y=y+2*(j:Int):=⟨_,rfl⟩
  rw[←hY] at wyj XI;have gY:Y.natAbs<100000000:=by omega
  obtain⟨Z,hZ⟩:∃Z,Z=(x:Int)-1:=⟨_,rfl⟩
  rw[←hZ] at wx XI;have gZ:Z.natAbs<100000000:=by omega
  have Yh:pC [yZ d j]=[.str (zS Y),.str (aN (mkRat Z D))]:=by rw[XI];rfl
  have w1:IntKind.i64.wrap ((j:Int)+1)=((j+1:Nat):Int):=by rw[ai (by omega) (by omega)];omega
  obtain⟨m,hm⟩:∃m,m=j+1:=⟨_,rfl⟩
  rw[←hm] at w1 hk1;have hmp:0<m:=by omega
  have hKm:pC (cU d m)=pC (cU d j)++[.str (zS Y),.str (aN (mkRat Z D))]:=by rw[hk1,gx,Yh]
  have hj3:(j:Int)<4:=by omega
  have hj3' :j<4:=by omega
  have hjc:(j:Int)<c:=by omega
  refine⟨m,?_⟩;rw[wG hmp,hKm];by_cases hj0:j=0
  ·have e0:A4 d n k nm v o s j=Ko d n k nm v o s .kO:=if_pos hj0
   have e1:cU d j=[]:=by rw[hj0];rfl
   have hd0:decide (0<j)=false:=by simp[hj0]
   have hmd:decide (0<m)=true:=by simpa using hmp
   have Xe:m=1:=by omega
   rw[e0,hd0,e1,Xe];rw[Xe] at w1;have e2:pC []++[.str (zS Y),.str (aN (mkRat Z D))]=[.str (zS Y),.str (aN (mkRat Z D))]:=rfl;rw[e2];simp[Ko,cb,Xg,h4,h9,h121,hjc,l0,r0,n0,q1,j7,j11,hj3,Od,Ss,wN,←hy,t4,t2,wX,wx,ww,ww1,w2j,wyj,←hY,←hZ,gY,gZ,hDp,hDl,w1,Yn,dD,ar,cQ,-ay,jj hb4,jN,qR,xG,cj,k26,k27,k30,j27,j30,bO,aL,Nat.testBit];omega
  ·have WC:0<j:=by omega
   have hd1:decide (0<j)=true:=by simpa using WC
   have hmd:decide (0<m)=true:=by simpa using hmp
   rw[wG WC,hd1];have hPl:(pC (cU d j)).length=j*2:=by rw[gy,fL]
   obtain⟨P,hP⟩:∃P,P=cU d j:=⟨_,rfl⟩
   rw[←hP] at hPl ⊢;have g3:(pC P).take (j*2)=pC P:=List.take_of_length_le (by omega);have g4:m*32≤140737488355328:=by omega
   have g5:m≤140737488355328:=by omega
   simp[Ko,cb,Xg,h4,h9,h121,hjc,l0,r0,n0,q1,j7,j11,hj3,Od,Ss,wN,←hy,t4,t2,wX,wx,ww,ww1,w2j,wyj,←hY,←hZ,gY,gZ,hDp,hDl,w1,Yn,hPl,←hm,hmd,g3,g4,g5,be,oI,cz,dD,ar,cQ,-ay,jj hb4,jN,qR,xG,cj,k26,k27,k30,j27,j30,bO,aL,Nat.testBit];omega
 ·right
  have e:j=c:=by omega
  subst e;simp[h9,h6,h121]
theorem ac5:ba [0,0,0,4,12,28,60,0,128,384,896,1920,0,4096,12288,28672,61440,131068,262142,524287,1048575,2097151] 21=true:=by decide
theorem zD(d:aao)(hd:d.Ok)(n k i:Nat)(hi:i<6)(hn:0<n)(hl:n≤1000)(hk:d.kind%5=2):
  mB prog 9 [.agg [.slice 0 0 n none,.slice 1 0 k none],.agg d.cells,.int .i64 i] [.qF,.qF] (.agg (cb (bF i) (bE d.A) (.slice 2 0 (1+d.K.1%3) none) (dQ (bE d.A) (sG d.B)))) ([.qF,.qF]++[.cells true 2 (pC (cU d (1+d.K.1%3)))]):=by
 have hG:aO prog 9=some f9:=by kernel_rfl
 have PP:=acI;simp only[aP,bQ,f9,List.nil_append,List.append_nil,List.cons_append,List.map_cons,List.map_nil,List.cons.injEq,and_true] at PP;obtain⟨WS,hb1,WE,hb3,hb4,hb5,hb6⟩:=PP;have a08:ba [0,0,2,6,14,30,63,0,255] 8=true:=by decide
 have a110:ba [0,1,3,7,15,0,32,96,255,0,1023] 10=true:=by decide
 have a513:ba [0,0,2,6,14,30,62,126,0,510,1022,2047,4095,8191] 13=true:=by decide
 have a631:ba [0,0,0,0,0,0,63,0,128,384,896,2047,4095,0,8192,24576,57344,122880,0,262144,786432,1835008,3932160,0,8388608,25165824,58720256,125829120,268427264,536870911,1073741823,2147483647] 31=true:=by decide
 obtain⟨b,hb⟩:∃b,aj f9=[b]:=⟨_,rfl⟩
 have c3:d.K.1%3<3:=Nat.mod_lt _ (by decide);obtain⟨F,hF⟩:=Cb (K:=9) d hd n k (bF i) (bE d.A) (d.N.tmod 5) (dQ (bE d.A) (sG d.B)) (1+d.K.1%3) (by omega) (by omega) hb;have hcp:0<1+d.K.1%3:=by omega
 have hcd:decide (0<1+d.K.1%3)=true:=by simpa using hcp
 rw[wG hcp,hcd] at hF;have hF0:A4 d n k (bF i) (bE d.A) (d.N.tmod 5) (dQ (bE d.A) (sG d.B)) 0=Ko d n k (bF i) (bE d.A) (d.N.tmod 5) (dQ (bE d.A) (sG d.B)) .kO:=rfl;rw[hF0] at hF;simp[aj,aD,f9] at hb;subst hb;have hN:=hd.N;have hB:=vf hd.B;have hA:=vf hd.A;have n1:=dj d.A;have m1:=iw d.B;have q3:=ru d.N 5 (by decide);have h8:=UK d;have h0:=UG d;have h4:=UH d;have h5:=UI d;have h6:=UJ d;have h7:=TD d;have h1:=UL d;have l0:=xy d;have r0:=gQ d;have o0:=Kf d;have okd:=ir d hd;clear hd;obtain⟨kd,⟨A1,A2,A3⟩,⟨B1,B2,B3⟩,N,⟨K1,K2,K3,K4⟩⟩:=d;simp only at hF c3 hk hN hB hA n1 m1 q3 h8 h0 h4 h5 h6 h7 h1 ⊢;simp only[Int.cast_ofNat_Int] at q3;unfold Lf at hN;obtain⟨Yq,Yr,YK⟩:=hB;simp only at Yq Yr YK;have wN:IntKind.i64.wrap N=N:=bN (by omega) (by omega);have wB1:IntKind.i64.wrap B1=B1:=bN (by omega) (by omega);have wB2:IntKind.i64.wrap B2=B2:=bN (by omega) (by omega);have wB3:IntKind.i64.wrap B3=B3:=bN (by omega) (by omega);have YZ:((kd:Nat):Int).tmod 5=2:=by have:((kd:Nat):Int).tmod 5=((kd%5:Nat):Int):=rfl;rw[this,hk];rfl
 obtain⟨⟨nx,ny,nz⟩,e1⟩:∃v,v=bE (A1,A2,A3):=⟨_,rfl⟩
 rw[←e1] at n1;have e2:sG (B1,B2,B3)=(B1.tmod 3,B2.tmod 3,B3.tmod 3):=rfl;rw[e2] at m1;obtain⟨o,ho⟩:∃o,o=N.tmod 5:=⟨_,rfl⟩
 rw[←ho] at q3;have go:o.natAbs<100000000:=by omega
 have gi:i<100000000:=by omega
 obtain⟨bx,YS⟩:∃o,o=B1.tmod 3:=⟨_,rfl⟩
 obtain⟨YF,ZJ⟩:∃o,o=B2.tmod 3:=⟨_,rfl⟩
 obtain⟨bz,Yc⟩:∃o,o=B3.tmod 3:=⟨_,rfl⟩
 rw[←YS,←ZJ,←Yc] at m1 e2;obtain⟨g1,g2,g3⟩:=m1;simp only at g1 g2 g3;have g1' :bx.natAbs≤10000:=by omega
 have g2' :YF.natAbs≤10000:=by omega
 have g3' :bz.natAbs≤10000:=by omega
 have m2:gm 2 (bx,YF,bz):=⟨g1,g2,g3⟩;obtain⟨C,hC⟩:∃C,C=aao.cells ⟨kd,(A1,A2,A3),(B1,B2,B3),N,(K1,K2,K3,K4)⟩:=⟨_,rfl⟩
 rw[←hC] at h8 h0 h4 h5 h6 h7 h1 l0 r0 o0;have Xg :aao.cells ⟨kd,(A1,A2,A3),(B1,B2,B3),N,(K1,K2,K3,K4)⟩=C:=hC.symm;have tk:C.take 12=C:=List.take_of_length_le (by omega);have j8:∀h,C[8]'h=_:=fun h=>Option.some.inj ((List.getElem?_eq_getElem h).symm.trans h8)
 have j0:∀h,C[0]'h=_:=fun h=>Option.some.inj ((List.getElem?_eq_getElem h).symm.trans h0)
 have j4:∀h,C[4]'h=_:=fun h=>Option.some.inj ((List.getElem?_eq_getElem h).symm.trans h4)
 have j5:∀h,C[5]'h=_:=fun h=>Option.some.inj ((List.getElem?_eq_getElem h).symm.trans h5)
 have j6:∀h,C[6]'h=_:=fun h=>Option.some.inj ((List.getElem?_eq_getElem h).symm.trans h6)
 have j7:∀h,C[7]'h=_:=fun h=>Option.some.inj ((List.getElem?_eq_getElem h).symm.trans h7)
 have hp:=gW;rw[e2,←e1,←ho] at hF;obtain⟨⟨sx,sy,sz⟩,hs⟩:∃v,v=dQ (nx,ny,nz) (bx,YF,bz):=⟨_,rfl⟩
 rw[←hs] at hF;simp only[Ko,cb,bF,Lb,←hC,List.cons_append,List.nil_append] at hF;have H1:=fun y' h=>(hF y' h).1
 have hG9:=fun y' h=>(hF y' h).2.1
 have hG6:=fun y' h=>(hF y' h).2.2
 clear hF;have t3:((K1:Nat):Int).tmod 3=((K1%3:Nat):Int):=rfl;obtain⟨x,hx⟩:∃x,x=K1%3:=⟨_,rfl⟩
 rw[←hx] at t3 c3 H1 hG9 hG6;have w13:IntKind.i64.wrap (x:Int)=(x:Int):=bN (by omega) (by omega);have w14:IntKind.i64.wrap (1+(x:Int))=((1+x:Nat):Int):=by rw[bN (by omega) (by omega)];omega
 obtain⟨c,hc⟩:∃c,c=1+x:=⟨_,rfl⟩
 rw[←hc] at w14 H1 hG9 hG6;have c1:=w14;have u12:IntKind.i64.wrap (1+1)=2:=rfl;have u13:IntKind.i64.wrap (1+2)=3:=rfl;have u14:IntKind.i64.wrap (1+3)=4:=rfl;have u15:IntKind.i64.wrap (1+4)=5:=rfl;have hip:=fE (n:=(i:Int)) (by omega);have hip' :(zS (i:Int)).length+1≤9223372036854775807:=by unfold zS;omega
 have X6:1+(zS (i:Int)).length≤9223372036854775807:=by omega
 have h:ad (aC prog) (fun _=>[122,122]) (aO prog) (dD ⟨kd,(A1,A2,A3),(B1,B2,B3),N,(K1,K2,K3,K4)⟩) 9 9 [.agg [.slice 0 0 n none,.slice 1 0 k none],.agg C,.int .i64 i] [.qF,.qF]=some ⟨(.agg (cb (bF i) (bE (A1,A2,A3)) (.slice 2 0 (1+K1%3) none) (dQ (bE (A1,A2,A3)) (sG (B1,B2,B3))))),some [.qF,.qF],[.cells true 2 (pC (cU ⟨kd,(A1,A2,A3),(B1,B2,B3),N,(K1,K2,K3,K4)⟩ (1+K1%3)))]⟩:=by rw[e2,←e1,←hs,←hx,←hc];simp[ad,hG,f9,dD,ar,cQ,zA,l0,j8,j0,j4,j5,j6,j7,h1,hA,←e1,YZ,wN,wB1,wB2,wB3,←ho,←YS,←ZJ,←Yc,go,gi,g1',g2',g3',hp,n1,m2,w2,w3,X6,gd,bO,aL,-ay,cm WS,cm hb1,cm hb3,jo,ph,By,mh,cj,jd,bef,a08,a110,ac5,Nat.testBit,H1,hG9,hG6,←hs,c1,t3,w13,cb,bF,be,cz]
 have:=(au af (aw _) okd (ax _) h).1;rw[←hC];simpa [HS.mem] using this
end Go.Proofs
