/- See R54. -/
import Derived.Test.YtgafjliihahjgaaGreatDoorR21
set_option linter.all false
set_option maxRecDepth 100000
set_option maxHeartbeats 40000000
namespace Go.Proofs
open Go.Eng
open Tryz
theorem AF(d:aeN)(n:Nat):∀z∈bE d n,z.natAbs≤100:=by intro z hz;unfold bE at hz;obtain⟨k,_,rfl⟩:=List.mem_map.1 hz;have:=yR (d:=d) k;omega
theorem MX(d:aeN)(n:Nat):∀z∈cg d 0 (bE d n) n,z.natAbs≤100:=by
 intro z hz;unfold cg at hz;obtain⟨k,hk,rfl⟩:=List.mem_map.1 hz;have hk:=List.mem_range.1 hk;have h1:(bE d n).getD k 0=Mb d k:=by simp[bE,List.getD_eq_getElem?_getD,hk]
 rw[h1];have h2:=yR (d:=d) k;unfold KK;have h3:Kp d.K ((0+k)%4)%4<4:=Nat.mod_lt _ (by decide);omega
section
variable (d:aeN)(hd:d.Ok)(n k i:Nat)(hi:i<6)(hn:0<n)(hl:n≤1000)
include d hd n k i hi hn hl
theorem zo(hJ:d.K.1%3=1):
  kF prog 47 [.agg [.slice 0 0 n none,.slice 1 0 k none],.agg d.cells,.int .i64 i] [.kO,.kO] (RR n 1) ([.kO,.kO]++oI d n i 1):=by
 have hG:aT prog 47=some f47:=by kernel_rfl
 obtain⟨b,b2,b3,hb⟩:∃b b2 b3,ai f47=[b,b2,b3]:=⟨_,_,_,rfl⟩
 obtain⟨K,hK⟩:∃K,K=n+1:=⟨_,rfl⟩
 obtain⟨F,hF⟩:=mD (K:=K+5) d hd n k [cn i,49] hl (by omega) hb;have e0:Cq d n k [cn i,49] 0=[.kO,.kO,.cells true 0 [.slice 0 0 n none,.slice 1 0 k none],.cells true 0 d.cells,.cells true 0 [.kK,.kK,.kK],.cells true 1 fP,.cells true 1 [.str [cn i,49]],.cells true 0 [.kK,.slice 6 0 1 none,.kK]]:=rfl;have hdn:decide (0<n)=true:=by simpa using hn
 rw[qh hn,e0,hdn] at hF;have I':=fun z' h=>(hF z' h).1
 have hG4:=fun z' h=>(hF z' h).2.1
 have hG7:=fun z' h=>(hF z' h).2.2.1
 have hG6:=fun z' h=>(hF z' h).2.2.2.1
 have hG2:=fun z' h=>(hF z' h).2.2.2.2
 clear hF;obtain⟨I0,hI⟩:=xb (K:=K+5) d hd n k [cn i,49] (bE d n) (dG d n) (AF d n) hn hl (by omega) hb;have hu:=fun s=>aI (aM prog) fD dT (K+5) 102 2 true s b2
 simp only[Cr] at hI;have p1:=fun z' df h=>(hI z' df h).1
 have p11:=fun z' df h=>(hI z' df h).2.1
 have pt2:=fun z' df h=>(hI z' df h).2.2 2 (by simp)
 have pt4:=fun z' df h=>(hI z' df h).2.2 4 (by simp)
 have pt6:=fun z' df h=>(hI z' df h).2.2 6 (by simp)
 have pt7:=fun z' df h=>(hI z' df h).2.2 7 (by simp)
 have pt9:=fun z' df h=>(hI z' df h).2.2 9 (by simp)
 have abX:=fun z' df h=>(hI z' df h).2.2 10 (by simp)
 have adn:=fun z' df h=>(hI z' df h).2.2 53 (by simp)
 have abY:=fun z' df h=>(hI z' df h).2.2 54 (by simp)
 clear hI;simp[ai,aK,f47] at hb;obtain⟨rfl,rfl,rfl⟩:=hb;have hna:=V9 hi;have hK8:d.cells[8]? =some (.int .u8 (d.K.1:Nat)):=rfl;have t3:((d.K.1:Nat):Int).tmod 3=1:=by have:((d.K.1:Nat):Int).tmod 3=((d.K.1%3:Nat):Int):=rfl;rw[this,hJ];rfl
 have z2:zS 2=[50]:=rfl;have z3:zS 3=[51]:=rfl;have w1' :IntKind.i64.wrap (1+1)=2:=rfl;have w3' :IntKind.i64.wrap (1+2)=3:=rfl;have w2' :IntKind.i64.wrap (0+2)=2:=rfl;have hi' :(i:Int)<6:=by omega
 have h:ad (aM prog) fD (aT prog) dT (K+5) 47 [.agg [.slice 0 0 n none,.slice 1 0 k none],.agg d.cells,.int .i64 i] [.kO,.kO]=some ⟨RR n 1,some [.kO,.kO],oI d n i 1⟩:=by
  simp[ad,hG,f47,I',hG4,hG7,hG6,hG2,dT,hna,hi',hK8,t3,gR,Dc,SC,WX,Vm,gg,eJ,hu,ej,p1,p11,pt2,pt7,abX,abY,w1,w2,z2,ag,cQ,Nat.testBit,List.idxOf?_cons,List.idxOf?_cons,fD,RR,oI,bu,jx,gk,cM,aR]
  repeat' (first | rfl | apply And.intro)
 have:=(ak ae (aq _) ss (au _) h).1;simpa [HS.mem] using this
theorem zp(hJ:d.K.1%3=2):
  kF prog 47 [.agg [.slice 0 0 n none,.slice 1 0 k none],.agg d.cells,.int .i64 i] [.kO,.kO] (RR n 2) ([.kO,.kO]++oI d n i 2):=by
 have hG:aT prog 47=some f47:=by kernel_rfl
 obtain⟨b,b2,b3,hb⟩:∃b b2 b3,ai f47=[b,b2,b3]:=⟨_,_,_,rfl⟩
 obtain⟨K,hK⟩:∃K,K=n+1:=⟨_,rfl⟩
 obtain⟨F,hF⟩:=mD (K:=K+5) d hd n k [cn i,49] hl (by omega) hb;have e0:Cq d n k [cn i,49] 0=[.kO,.kO,.cells true 0 [.slice 0 0 n none,.slice 1 0 k none],.cells true 0 d.cells,.cells true 0 [.kK,.kK,.kK],.cells true 1 fP,.cells true 1 [.str [cn i,49]],.cells true 0 [.kK,.slice 6 0 1 none,.kK]]:=rfl;have hdn:decide (0<n)=true:=by simpa using hn
 rw[qh hn,e0,hdn] at hF;have I':=fun z' h=>(hF z' h).1
 have hG4:=fun z' h=>(hF z' h).2.1
 have hG7:=fun z' h=>(hF z' h).2.2.1
 have hG6:=fun z' h=>(hF z' h).2.2.2.1
 have hG2:=fun z' h=>(hF z' h).2.2.2.2
 clear hF;obtain⟨I0,hI⟩:=xb (K:=K+5) d hd n k [cn i,49] (bE d n) (dG d n) (AF d n) hn hl (by omega) hb;obtain⟨I1,hJJ⟩:=Gv (K:=K+5) d hd n k [cn i,49] [cn i,50] (bE d n) (cg d 0 (bE d n) n) (eh _ _ _ _) (MX d n) hn hl (by omega) hb;have hu:=fun s=>aI (aM prog) fD dT (K+5) 102 2 true s b2
 simp only[Cr] at hI;simp only[E9] at hJJ;have p1:=fun z' df h=>(hI z' df h).1
 have p11:=fun z' df h=>(hI z' df h).2.1
 have pt2:=fun z' df h=>(hI z' df h).2.2 2 (by simp)
 have pt4:=fun z' df h=>(hI z' df h).2.2 4 (by simp)
 have pt6:=fun z' df h=>(hI z' df h).2.2 6 (by simp)
 have pt7:=fun z' df h=>(hI z' df h).2.2 7 (by simp)
 have pt9:=fun z' df h=>(hI z' df h).2.2 9 (by simp)
 have abX:=fun z' df h=>(hI z' df h).2.2 10 (by simp)
 have adn:=fun z' df h=>(hI z' df h).2.2 53 (by simp)
 have abY:=fun z' df h=>(hI z' df h).2.2 54 (by simp)
 have q1:=fun z' df h=>(hJJ z' df h).1
 have q11:=fun z' df h=>(hJJ z' df h).2.1
 have qt2:=fun z' df h=>(hJJ z' df h).2.2 2 (by simp)
 have qt4:=fun z' df h=>(hJJ z' df h).2.2 4 (by simp)
 have qt6:=fun z' df h=>(hJJ z' df h).2.2 6 (by simp)
 have qt7:=fun z' df h=>(hJJ z' df h).2.2 7 (by simp)
 have qt9:=fun z' df h=>(hJJ z' df h).2.2 9 (by simp)
 have ado:=fun z' df h=>(hJJ z' df h).2.2 10 (by simp)
 have aep:=fun z' df h=>(hJJ z' df h).2.2 53 (by simp)
 have adp:=fun z' df h=>(hJJ z' df h).2.2 54 (by simp)
 clear hI hJJ;simp[ai,aK,f47] at hb;obtain⟨rfl,rfl,rfl⟩:=hb;have hna:=V9 hi;have hK8:d.cells[8]? =some (.int .u8 (d.K.1:Nat)):=rfl;have t3:((d.K.1:Nat):Int).tmod 3=2:=by have:((d.K.1:Nat):Int).tmod 3=((d.K.1%3:Nat):Int):=rfl;rw[this,hJ];rfl
 have z2:zS 2=[50]:=rfl;have z3:zS 3=[51]:=rfl;have w1' :IntKind.i64.wrap (1+1)=2:=rfl;have w3' :IntKind.i64.wrap (1+2)=3:=rfl;have w2' :IntKind.i64.wrap (0+2)=2:=rfl;have hi' :(i:Int)<6:=by omega
 have h:ad (aM prog) fD (aT prog) dT (K+5) 47 [.agg [.slice 0 0 n none,.slice 1 0 k none],.agg d.cells,.int .i64 i] [.kO,.kO]=some ⟨RR n 2,some [.kO,.kO],oI d n i 2⟩:=by
  simp[ad,hG,f47,I',hG4,hG7,hG6,hG2,dT,hna,hi',hK8,t3,gR,Dc,SC,WX,Vm,gg,eJ,hu,ej,p1,p11,pt2,pt7,abX,abY,q1,q11,qt2,qt7,ado,adp,w1,w2,w3,z2,z3,ag,cQ,Nat.testBit,List.idxOf?_cons,List.idxOf?_cons,fD,RR,oI,bu,jx,gk,cM,aR]
  repeat' (first | rfl | apply And.intro)
 have:=(ak ae (aq _) ss (au _) h).1;simpa [HS.mem] using this
end
def bc(nm:List UInt8) (b u s:AV):List AV:=[.int .i64 1,.str nm,b,u,s,.str [],.str [],.str [],.str [],.str [],.str [],.str [],.str [],.str [],.str [],.kK,.str [],.str [],.str [],.str [],.str [],.str [],.str [],.str [],.str [],.int .i64 0,.int .i64 0,.int .i64 0,.int .i64 0,.str [],.str [],.str []]
def cb(nm:List UInt8) (n:Z3) (o:Int) (s:Z3):List AV:=[.int .i64 2,.str nm,.kK,.kK,.kK,.str (zS n.1),.str (zS n.2.1),.str (zS n.2.2),.str (zS o),.str (zS s.1),.str (zS s.2.1),.str (zS s.2.2),.str [],.str [],.str [],.kK,.str [],.str [],.str [],.str [],.str [],.str [],.str [],.str [],.str [],.int .i64 0,.int .i64 0,.int .i64 0,.int .i64 0,.str [],.str [],.str []]
def bO(nm:List UInt8) (n:Z3) (k:AV) (s:Z3):List AV:=[.int .i64 3,.str nm,.kK,.kK,.kK,.str [],.str [],.str [],.str [],.str [],.str [],.str [],.str (zS n.1),.str (zS n.2.1),.str (zS n.2.2),k,.str (zS s.1),.str (zS s.2.1),.str (zS s.2.2),.str [],.str [],.str [],.str [],.str [],.str [],.int .i64 0,.int .i64 0,.int .i64 0,.int .i64 0,.str [],.str [],.str []]
def di(nm:List UInt8) (n:Z3) (o:Int) (w:Int) (u:List UInt8):List AV:=[.int .i64 4,.str nm,.kK,.kK,.kK,.str [],.str [],.str [],.str [],.str [],.str [],.str [],.str [],.str [],.str [],.kK,.str [],.str [],.str [],.str (zS n.1),.str (zS n.2.1),.str (zS n.2.2),.str (zS o),.str (aw (hQ w)),.str u,.int .i64 0,.int .i64 0,.int .i64 0,.int .i64 0,.str [],.str [],.str []]
def dB(nm:List UInt8) (t:Int×Int×Int×Int) (c:Z3):List AV:=[.int .i64 5,.str nm,.kK,.kK,.kK,.str [],.str [],.str [],.str [],.str [],.str [],.str [],.str [],.str [],.str [],.kK,.str [],.str [],.str [],.str [],.str [],.str [],.str [],.str [],.str [],.int .i64 t.1,.int .i64 t.2.1,.int .i64 t.2.2.1,.int .i64 t.2.2.2,.str (zS c.1),.str (zS c.2.1),.str (zS c.2.2)]
def bH(i:Nat):List UInt8:=101::zS i
def ig(i:Nat):List UInt8:=107::zS i
def bR:Nat→Int×Int×Int×Int
 |0=>(1,0,0,1)
 |1=>(2,1,0,0)
 |2=>(1,1,1,1)
 |3=>(3,0,1,0)
 |4=>(0,1,0,0)
 |_=>(1,0,0,0)
def Ps(m n:Nat):Nat→AV
 |0=>.agg [.slice m 0 n none,.slice (m+1) 0 1 none,.kK]
 |1=>.agg [.slice m 0 n none,.slice (m+1) 0 2 none,.slice (m+2) 0 1 none]
 |_=>.agg [.slice m 0 n none,.slice (m+1) 0 3 none,.slice (m+2) 0 2 none]
def iI(m:Nat) (d:aeN) (n i:Nat):Nat→Mem
 |0=>[jx (bE d n),.cells true 1 ((bu i 0).map .str)]
 |1=>[jx (bE d n),.cells true 1 ((bu i 1).map .str),.cells true 1 [.slice (m+3) 0 n none],jx (cg d 0 (bE d n) n)]
 |_=>[jx (bE d n),.cells true 1 ((bu i 2).map .str),.cells true 1 [.slice (m+3) 0 n none,.slice (m+4) 0 n none],jx (cg d 0 (bE d n) n),jx (cg d 1 (cg d 0 (bE d n) n) n)]
theorem BK(d:aeN)(hd:d.Ok)(n k i:Nat)(hi:i<6)(hn:0<n)(hl:n≤1000)(M:Mem)(b c:Nat)(hb:b<M.length)(hc:c<M.length):
  kF prog 47 [.agg [.slice b 0 n none,.slice c 0 k none],.agg d.cells,.int .i64 i] M (Ps M.length n (d.K.1%3)) (M++iI M.length d n i (d.K.1%3)):=by
 have A':d.K.1%3<3:=Nat.mod_lt _ (by decide);have key:∀J,d.K.1%3=J→J<3→kF prog 47 [.agg [.slice 0 0 n none,.slice 1 0 k none],.agg d.cells,.int .i64 i] [.kO,.kO] (RR n J) ([.kO,.kO]++oI d n i J):=by
  intro J hJ hJ3;have:J=0∨J=1∨J=2:=by omega
  rcases this with rfl | rfl | rfl
  ·exact zn d hd n k i hi hn hl hJ
  ·exact zo d hd n k i hi hn hl hJ
  ·exact zp d hd n k i hi hn hl hJ
 have h0:=key _ rfl A';obtain⟨J,hJ⟩:∃J,J=d.K.1%3:=⟨_,rfl⟩
 rw[←hJ] at A' h0 ⊢;have:=kF.frame (M:=M) (new:=oI d n i J) (args:=[.agg [.slice 0 0 n none,.slice 1 0 k none],.agg d.cells,.int .i64 i]) [b,c] (m:=[.kO,.kO]) rfl (by
  intro k hk;simp only[List.mem_cons,List.not_mem_nil,or_false] at hk;rcases hk with rfl | rfl
  ·exact hb
  ·exact hc) (by rfl) (fun i s hs=>by
  match i with
  |0=>simp at hs;subst hs;trivial
  |1=>simp at hs;subst hs;trivial
  |i+2=>simp at hs) (by
  have:J=0∨J=1∨J=2:=by omega
  rcases this with rfl | rfl | rfl<;>rfl) h0
 have hJ3:J=0∨J=1∨J=2:=by omega
 rcases hJ3 with rfl | rfl | rfl<;>simpa [AV.aeM,AV.ren,aF,aeD.ren,RR,oI,Ps,iI,jx,eJ,bu,Dc] using this
open Classical in
noncomputable def dE(d:aeN):adM:=fun c args M=>match c,args with
 |.fn 46,[.agg [.int .i8 a,.int .i8 b,.int .i8 c]]=>if eS 200 (a,b,c) then some ⟨zA (bG (a,b,c)),none,[]⟩ else none
 |.fn 48,[.agg [.str s,.str t,.str u],.agg [.str s',.str t',.str u']]=>match dJ s,dJ t,dJ u,dJ s',dJ t',dJ u' with
  |some a,some b,some c,some d,some e,some f=>if (a.den=1∧b.den=1∧c.den=1∧d.den=1∧e.den=1∧f.den=1)∧eS 2 (a.num,b.num,c.num)∧eS 2 (d.num,e.num,f.num) then some ⟨zA (dU (a.num,b.num,c.num) (d.num,e.num,f.num)),none,[]⟩ else none
  |_,_,_,_,_,_=>none
 |.fn 25,[.int .i64 a,.int .i64 b,.int .i64 c]=>if a.natAbs≤10000∧b.natAbs≤10000∧c.natAbs≤10000 then some ⟨zA (a,b,c),none,[]⟩ else none
 |.fn 47,[.agg [.slice b 0 n none,.slice c 0 _ none],.agg cs,.int .i64 i]=>if cs=d.cells∧0≤i∧i<6∧0<n∧n≤1000∧b<M.length∧c<M.length then some ⟨Ps M.length n (d.K.1%3),none,iI M.length d n i.toNat (d.K.1%3)⟩ else none
 |c,args=>ag cQ c args M
section
variable (d:aeN)
include d
theorem iq(hd:d.Ok):kP prog (dE d):=by
 refine dq fun c args M r h=>?_
 unfold dE at h;split at h
 ·split at h
  ·rename_i hc
   cases h;refine af ?_;rw[List.append_nil];exact DY _ hc M
  ·cases h
 ·split at h
  ·rename_i a b c d e f ha hb hc hd he hf
   split at h
   ·rename_i P'
    obtain⟨⟨d1,d2,d3,d4,d5,d6⟩,c1,c2⟩:=P';cases h;refine af ?_;rw[List.append_nil];rw[aA ha,aA hb,aA hc,aA hd,aA he,aA hf];have:=DX (a.num,b.num,c.num) (d.num,e.num,f.num) c1 c2 M;unfold zA at this;simp only at this;have k:∀q:Rat,q.den=1→zS q.num=aw q:=fun q hq=>by unfold zS;rw[←gM hq]
    rw[k a d1,k b d2,k c d3,k d d4,k e d5,k f d6] at this;exact this
   ·cases h
  ·cases h
 ·split at h
  ·rename_i hc
   cases h;refine af ?_;rw[List.append_nil];exact zC (_,_,_) hc M
  ·cases h
 ·rename_i b n c k cs i
  split at h
  ·rename_i hc
   obtain⟨rfl,h1,h2,h3,h4,h5,h6⟩:=hc;cases h;refine af ?_;have:=BK d hd n k i.toNat (by omega) h3 h4 M b c h5 h6;rw[Int.toNat_of_nonneg h1] at this;exact this
  ·cases h
 ·exact jr zY h
theorem VS:d.cells[8]? =some (.int .u8 (d.K.1:Nat)):=rfl
theorem VO:d.cells[0]? =some (.int .u8 (d.kind:Nat)):=rfl
theorem VP:d.cells[4]? =some (.int .i8 d.B.1):=rfl
theorem VQ:d.cells[5]? =some (.int .i8 d.B.2.1):=rfl
theorem VR:d.cells[6]? =some (.int .i8 d.B.2.2):=rfl
theorem VT:d.cells.tail.take 3=[.int .i8 d.A.1,.int .i8 d.A.2.1,.int .i8 d.A.2.2]:=rfl
end
theorem uU{v:Int×Int×Int}(h:UB v):eS 200 v:=by obtain⟨h1,h2,h3⟩:=h;unfold yY at h1 h2 h3;exact⟨by omega,by omega,by omega⟩
theorem xW(d:aeN)(hd:d.Ok)(n k i:Nat)(hi:i<6)(hn:0<n)(hl:n≤1000)(hk:d.kind%5=1):
  kF prog 28 [.agg [.slice 0 0 n none,.slice 1 0 k none],.agg d.cells,.int .i64 i] [.kO,.kO] (.agg (cb (bH i) (bG d.A) (d.N.tmod 5) (dU (bG d.A) (se d.B)))) ([.kO,.kO]++[]):=by
 have hG:aT prog 28=some f28:=by kernel_rfl
 have IR:=bj (rfl:aG f28=_) (ls:=[[0,0,2,6,14,30,63,0,255],[0,1,3,7,15,0,32,96,255,0,1023],[0,0,0,4,12,28,60,0,128,384,896,1920,0,4096,12288,28672,61440,131068,262142,524287,1048575,2097151],[0,0,0,4,12,28,60,0,128,384,896,1920,0,4096,12288,28672,61440,131068,262142,524287,1048575,2097151],[0,1,3,0,8,24,56,0,128,504,1016,0,0,6144,14336,30720,63488,129024,0,262144,786432,1835008,3932160,8126464,16777208,33554424,67108856,134217727,268435455,536870911,1073741823],[0,0,2,6,14,30,62,126,0,510,1022,2047,4095,8191],[0,0,0,0,0,0,63,0,128,384,896,2047,4095,0,8192,24576,57344,122880,0,262144,786432,1835008,3932160,0,8388608,25165824,58720256,125829120,268427264,536870911,1073741823,2147483647]]) (by kernel_rfl);simp only[aG,bF,f28,List.nil_append,List.append_nil,List.cons_append,List.map_cons,List.map_nil,List.cons.injEq,and_true] at IR;obtain⟨XY,hb1,Yl,ZP,hb4,hb5,hb6⟩:=IR;have a08:aX [0,0,2,6,14,30,63,0,255] 8=true:=by decide
 have abZ:aX [0,1,3,7,15,0,32,96,255,0,1023] 10=true:=by decide
 have adq:aX [0,0,0,4,12,28,60,0,128,384,896,1920,0,4096,12288,28672,61440,131068,262142,524287,1048575,2097151] 21=true:=by decide
 have adr:aX [0,0,2,6,14,30,62,126,0,510,1022,2047,4095,8191] 13=true:=by decide
 have ads:aX [0,0,0,0,0,0,63,0,128,384,896,2047,4095,0,8192,24576,57344,122880,0,262144,786432,1835008,3932160,0,8388608,25165824,58720256,125829120,268427264,536870911,1073741823,2147483647] 31=true:=by decide
 have hN:=hd.N;have hB:=uU hd.B;have hA:=uU hd.A;have n1:=bZ d.A;have m1:=gd d.B;have q3:=nv d.N 5 (by decide);have h8:=VS d;have h0:=VO d;have h4:=VP d;have h5:=VQ d;have h6:=VR d;have h7:=Uq d;have h1:=VT d;have l0:=xm d;have r0:=gR d;have o0:=JP d;have okd:=iq d hd;clear hd;obtain⟨kd,⟨A1,A2,A3⟩,⟨B1,B2,B3⟩,N,⟨K1,K2,K3,K4⟩⟩:=d;simp only at hk hN hB hA n1 m1 q3 h8 h0 h4 h5 h6 h7 h1 ⊢;simp only[Int.cast_ofNat_Int] at q3;unfold yY at hN;obtain⟨hB1,hB2,hB3⟩:=hB;simp only at hB1 hB2 hB3;have wN:IntKind.i64.wrap N=N:=bN (by omega) (by omega);have wB1:IntKind.i64.wrap B1=B1:=bN (by omega) (by omega);have wB2:IntKind.i64.wrap B2=B2:=bN (by omega) (by omega);have wB3:IntKind.i64.wrap B3=B3:=bN (by omega) (by omega);have ZX:((kd:Nat):Int).tmod 5=1:=by have:((kd:Nat):Int).tmod 5=((kd%5:Nat):Int):=rfl;rw[this,hk];rfl
 obtain⟨⟨nx,ny,nz⟩,e1⟩:∃v,v=bG (A1,A2,A3):=⟨_,rfl⟩
 rw[←e1] at n1;have e2:se (B1,B2,B3)=(B1.tmod 3,B2.tmod 3,B3.tmod 3):=rfl;rw[e2] at m1;obtain⟨o,ho⟩:∃o,o=N.tmod 5:=⟨_,rfl⟩
 rw[←ho] at q3;have go:o.natAbs<100000000:=by omega
 have gi:i<100000000:=by omega
 obtain⟨bx,ZQ⟩:∃o,o=B1.tmod 3:=⟨_,rfl⟩
 obtain⟨ZA,hby⟩:∃o,o=B2.tmod 3:=⟨_,rfl⟩
 obtain⟨bz,Zo⟩:∃o,o=B3.tmod 3:=⟨_,rfl⟩
 rw[←ZQ,←hby,←Zo] at m1 e2;obtain⟨g1,g2,g3⟩:=m1;simp only at g1 g2 g3;have g1' :bx.natAbs≤10000:=by omega
 have g2' :ZA.natAbs≤10000:=by omega
 have g3' :bz.natAbs≤10000:=by omega
 have m2:eS 2 (bx,ZA,bz):=⟨g1,g2,g3⟩;obtain⟨C,hC⟩:∃C,C=aeN.cells ⟨kd,(A1,A2,A3),(B1,B2,B3),N,(K1,K2,K3,K4)⟩:=⟨_,rfl⟩
 rw[←hC] at h8 h0 h4 h5 h6 h7 h1 l0 r0 o0;have hC' :aeN.cells ⟨kd,(A1,A2,A3),(B1,B2,B3),N,(K1,K2,K3,K4)⟩=C:=hC.symm;have tk:C.take 12=C:=List.take_of_length_le (by omega);have j8:∀h,C[8]'h=_:=gE h8
 have j0:∀h,C[0]'h=_:=gE h0
 have j4:∀h,C[4]'h=_:=gE h4
 have j5:∀h,C[5]'h=_:=gE h5
 have j6:∀h,C[6]'h=_:=gE h6
 have j7:∀h,C[7]'h=_:=gE h7
 have hp:=gU;have u12:IntKind.i64.wrap (1+1)=2:=rfl;have u13:IntKind.i64.wrap (1+2)=3:=rfl;have u14:IntKind.i64.wrap (1+3)=4:=rfl;have u15:IntKind.i64.wrap (1+4)=5:=rfl;have hip:=fQ (n:=(i:Int)) (by omega);have aaS :(zS (i:Int)).length+1≤9223372036854775807:=by unfold zS;omega
 have Zb:1+(zS (i:Int)).length≤9223372036854775807:=by omega
 have h:ad (aM prog) (fun _=>[]) (aT prog) (dE ⟨kd,(A1,A2,A3),(B1,B2,B3),N,(K1,K2,K3,K4)⟩) 1 28 [.agg [.slice 0 0 n none,.slice 1 0 k none],.agg C,.int .i64 i] [.kO,.kO]=some ⟨(.agg (cb (bH i) (bG (A1,A2,A3)) (N.tmod 5) (dU (bG (A1,A2,A3)) (se (B1,B2,B3))))),none,[]⟩:=by
  rw[e2,←e1,←ho];obtain⟨⟨sx,sy,sz⟩,hs⟩:∃v,v=dU (nx,ny,nz) (bx,ZA,bz):=⟨_,rfl⟩
  rw[←hs];simp[ad,hG,f28,dE,ag,cQ,zA,l0,j0,j4,j5,j6,j7,h1,hA,←e1,ZX,wN,wB1,wB2,wB3,←ho,←ZQ,←hby,←Zo,go,gi,g1',g2',g3',hp,n1,m2,w1,w2,Zb,gk,cM,aR,-aE,cq XY,cq hb1,cq Yl,jz,oM,By,my,bW,oU,bef,a08,abZ,adq,Nat.testBit,←hs,cb,bH]
 have:=(ak ae (aq _) okd (au _) h).1;rw[←hC];simpa [HS.mem] using this
end Go.Proofs
