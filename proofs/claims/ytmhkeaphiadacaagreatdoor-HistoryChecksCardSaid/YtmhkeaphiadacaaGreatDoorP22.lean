/- See P53. -/
import Derived.Test.YtmhkeaphiadacaaGreatDoorP21
set_option linter.all false
set_option maxRecDepth 100000
set_option maxHeartbeats 40000000
namespace Go.Proofs
open Go.Eng
open Tryz
theorem AP(d:aao)(n:Nat):∀z∈bw d n,z.natAbs≤100:=by intro z hz;unfold bw at hz;obtain⟨k,_,rfl⟩:=List.mem_map.1 hz;have:=zj (d:=d) k;omega
theorem Nt(d:aao)(n:Nat):∀z∈cd d 0 (bw d n) n,z.natAbs≤100:=by
 intro z hz;unfold cd at hz;obtain⟨k,hk,rfl⟩:=List.mem_map.1 hz;have hk:=List.mem_range.1 hk;have h1:(bw d n).getD k 0=MO d k:=by simp[bw,List.getD_eq_getElem?_getD,hk]
 rw[h1];have h2:=zj (d:=d) k;unfold K0;have h3:Lg d.K ((0+k)%4)%4<4:=Nat.mod_lt _ (by decide);omega
section
variable (d:aao)(hd:d.Ok)(n k i:Nat)(hi:i<6)(hn:0<n)(hl:n≤1000)
include d hd n k i hi hn hl
theorem zG(hJ:d.K.1%3=1):
  mB prog 36 [.agg [.slice 0 0 n none,.slice 1 0 k none],.agg d.cells,.int .i64 i] [.qF,.qF] (Rs n 1) ([.qF,.qF]++pd d n i 1):=by
 have hG:aO prog 36=some f36:=by kernel_rfl
 obtain⟨b,b2,b3,hb⟩:∃b b2 b3,aj f36=[b,b2,b3]:=⟨_,_,_,rfl⟩
 obtain⟨K,hK⟩:∃K,K=n+1:=⟨_,rfl⟩
 obtain⟨F,hF⟩:=mo (K:=K+5) d hd n k [cg i,49] hl (by omega) hb;have e0:Cw d n k [cg i,49] 0=[.qF,.qF,.cells true 0 [.slice 0 0 n none,.slice 1 0 k none],.cells true 0 d.cells,.cells true 0 [.kO,.kO,.kO],.cells true 1 fA,.cells true 1 [.str [cg i,49]],.cells true 0 [.kO,.slice 6 0 1 none,.kO]]:=rfl;have hdn:decide (0<n)=true:=by simpa using hn
 rw[qG hn,e0,hdn] at hF;have H1:=fun y' h=>(hF y' h).1
 have hG4:=fun y' h=>(hF y' h).2.1
 have hG7:=fun y' h=>(hF y' h).2.2.1
 have hG6:=fun y' h=>(hF y' h).2.2.2.1
 have hG2:=fun y' h=>(hF y' h).2.2.2.2
 clear hF;obtain⟨I0,hI⟩:=xg (K:=K+5) d hd n k [cg i,49] (bw d n) (dF d n) (AP d n) hn hl (by omega) hb;have hu:=fun s=>aR (aC prog) fm dP (K+5) 102 2 true s b2
 simp only[Cx] at hI;have p1:=fun y' df h=>(hI y' df h).1
 have p11:=fun y' df h=>(hI y' df h).2.1
 have pt2:=fun y' df h=>(hI y' df h).2.2 2 (by simp)
 have pt4:=fun y' df h=>(hI y' df h).2.2 4 (by simp)
 have pt6:=fun y' df h=>(hI y' df h).2.2 6 (by simp)
 have pt7:=fun y' df h=>(hI y' df h).2.2 7 (by simp)
 have pt9:=fun y' df h=>(hI y' df h).2.2 9 (by simp)
 have pt10:=fun y' df h=>(hI y' df h).2.2 10 (by simp)
 have pt53:=fun y' df h=>(hI y' df h).2.2 53 (by simp)
 have pt54:=fun y' df h=>(hI y' df h).2.2 54 (by simp)
 clear hI;simp[aj,aD,f36] at hb;obtain⟨rfl,rfl,rfl⟩:=hb;have hna:=UQ hi;have hK8:d.cells[8]? =some (.int .u8 (d.K.1:Nat)):=rfl;have t3:((d.K.1:Nat):Int).tmod 3=1:=by have:((d.K.1:Nat):Int).tmod 3=((d.K.1%3:Nat):Int):=rfl;rw[this,hJ];rfl
 have z2:zS 2=[50]:=rfl;have z3:zS 3=[51]:=rfl;have w1' :IntKind.i64.wrap (1+1)=2:=rfl;have w3' :IntKind.i64.wrap (1+2)=3:=rfl;have w2' :IntKind.i64.wrap (0+2)=2:=rfl;have hi' :(i:Int)<6:=by omega
 have h:ad (aC prog) fm (aO prog) dP (K+5) 36 [.agg [.slice 0 0 n none,.slice 1 0 k none],.agg d.cells,.int .i64 i] [.qF,.qF]=some ⟨Rs n 1,some [.qF,.qF],pd d n i 1⟩:=by
  simp[ad,hG,f36,H1,hG4,hG7,hG6,hG2,dP,hna,hi',hK8,t3,gQ,Dk,RT,VK,Uj,fY,eG,hu,gl,p1,p11,pt2,pt7,pt10,pt54,w1,w2,z2,ar,cQ,Nat.testBit,List.idxOf?_cons,List.idxOf?_cons,fm,Rs,pd,bp,jm,gd,bO,aL]
  repeat' (first | rfl | apply And.intro)
 have:=(au af (aw _) sM (ax _) h).1;simpa [HS.mem] using this
theorem zH(hJ:d.K.1%3=2):
  mB prog 36 [.agg [.slice 0 0 n none,.slice 1 0 k none],.agg d.cells,.int .i64 i] [.qF,.qF] (Rs n 2) ([.qF,.qF]++pd d n i 2):=by
 have hG:aO prog 36=some f36:=by kernel_rfl
 obtain⟨b,b2,b3,hb⟩:∃b b2 b3,aj f36=[b,b2,b3]:=⟨_,_,_,rfl⟩
 obtain⟨K,hK⟩:∃K,K=n+1:=⟨_,rfl⟩
 obtain⟨F,hF⟩:=mo (K:=K+5) d hd n k [cg i,49] hl (by omega) hb;have e0:Cw d n k [cg i,49] 0=[.qF,.qF,.cells true 0 [.slice 0 0 n none,.slice 1 0 k none],.cells true 0 d.cells,.cells true 0 [.kO,.kO,.kO],.cells true 1 fA,.cells true 1 [.str [cg i,49]],.cells true 0 [.kO,.slice 6 0 1 none,.kO]]:=rfl;have hdn:decide (0<n)=true:=by simpa using hn
 rw[qG hn,e0,hdn] at hF;have H1:=fun y' h=>(hF y' h).1
 have hG4:=fun y' h=>(hF y' h).2.1
 have hG7:=fun y' h=>(hF y' h).2.2.1
 have hG6:=fun y' h=>(hF y' h).2.2.2.1
 have hG2:=fun y' h=>(hF y' h).2.2.2.2
 clear hF;obtain⟨I0,hI⟩:=xg (K:=K+5) d hd n k [cg i,49] (bw d n) (dF d n) (AP d n) hn hl (by omega) hb;obtain⟨I1,hJJ⟩:=GJ (K:=K+5) d hd n k [cg i,49] [cg i,50] (bw d n) (cd d 0 (bw d n) n) (ed _ _ _ _) (Nt d n) hn hl (by omega) hb;have hu:=fun s=>aR (aC prog) fm dP (K+5) 102 2 true s b2
 simp only[Cx] at hI;simp only[Fu] at hJJ;have p1:=fun y' df h=>(hI y' df h).1
 have p11:=fun y' df h=>(hI y' df h).2.1
 have pt2:=fun y' df h=>(hI y' df h).2.2 2 (by simp)
 have pt4:=fun y' df h=>(hI y' df h).2.2 4 (by simp)
 have pt6:=fun y' df h=>(hI y' df h).2.2 6 (by simp)
 have pt7:=fun y' df h=>(hI y' df h).2.2 7 (by simp)
 have pt9:=fun y' df h=>(hI y' df h).2.2 9 (by simp)
 have pt10:=fun y' df h=>(hI y' df h).2.2 10 (by simp)
 have pt53:=fun y' df h=>(hI y' df h).2.2 53 (by simp)
 have pt54:=fun y' df h=>(hI y' df h).2.2 54 (by simp)
 have q1:=fun y' df h=>(hJJ y' df h).1
 have q11:=fun y' df h=>(hJJ y' df h).2.1
 have qt2:=fun y' df h=>(hJJ y' df h).2.2 2 (by simp)
 have qt4:=fun y' df h=>(hJJ y' df h).2.2 4 (by simp)
 have qt6:=fun y' df h=>(hJJ y' df h).2.2 6 (by simp)
 have qt7:=fun y' df h=>(hJJ y' df h).2.2 7 (by simp)
 have qt9:=fun y' df h=>(hJJ y' df h).2.2 9 (by simp)
 have qt10:=fun y' df h=>(hJJ y' df h).2.2 10 (by simp)
 have qt53:=fun y' df h=>(hJJ y' df h).2.2 53 (by simp)
 have qt54:=fun y' df h=>(hJJ y' df h).2.2 54 (by simp)
 clear hI hJJ;simp[aj,aD,f36] at hb;obtain⟨rfl,rfl,rfl⟩:=hb;have hna:=UQ hi;have hK8:d.cells[8]? =some (.int .u8 (d.K.1:Nat)):=rfl;have t3:((d.K.1:Nat):Int).tmod 3=2:=by have:((d.K.1:Nat):Int).tmod 3=((d.K.1%3:Nat):Int):=rfl;rw[this,hJ];rfl
 have z2:zS 2=[50]:=rfl;have z3:zS 3=[51]:=rfl;have w1' :IntKind.i64.wrap (1+1)=2:=rfl;have w3' :IntKind.i64.wrap (1+2)=3:=rfl;have w2' :IntKind.i64.wrap (0+2)=2:=rfl;have hi' :(i:Int)<6:=by omega
 have h:ad (aC prog) fm (aO prog) dP (K+5) 36 [.agg [.slice 0 0 n none,.slice 1 0 k none],.agg d.cells,.int .i64 i] [.qF,.qF]=some ⟨Rs n 2,some [.qF,.qF],pd d n i 2⟩:=by
  simp[ad,hG,f36,H1,hG4,hG7,hG6,hG2,dP,hna,hi',hK8,t3,gQ,Dk,RT,VK,Uj,fY,eG,hu,gl,p1,p11,pt2,pt7,pt10,pt54,q1,q11,qt2,qt7,qt10,qt54,w1,w2,w3,z2,z3,ar,cQ,Nat.testBit,List.idxOf?_cons,List.idxOf?_cons,fm,Rs,pd,bp,jm,gd,bO,aL]
  repeat' (first | rfl | apply And.intro)
 have:=(au af (aw _) sM (ax _) h).1;simpa [HS.mem] using this
end
def aZ(nm:List UInt8) (b u s:AV):List AV:=[.int .i64 1,.str nm,b,u,s,.str [],.str [],.str [],.str [],.str [],.str [],.str [],.str [],.str [],.str [],.kO,.str [],.str [],.str [],.str [],.str [],.str [],.str [],.str [],.str [],.int .i64 0,.int .i64 0,.int .i64 0,.int .i64 0,.str [],.str [],.str []]
def cX(nm:List UInt8) (n:Z3) (o:Int) (s:Z3):List AV:=[.int .i64 2,.str nm,.kO,.kO,.kO,.str (zS n.1),.str (zS n.2.1),.str (zS n.2.2),.str (zS o),.str (zS s.1),.str (zS s.2.1),.str (zS s.2.2),.str [],.str [],.str [],.kO,.str [],.str [],.str [],.str [],.str [],.str [],.str [],.str [],.str [],.int .i64 0,.int .i64 0,.int .i64 0,.int .i64 0,.str [],.str [],.str []]
def cb(nm:List UInt8) (n:Z3) (k:AV) (s:Z3):List AV:=[.int .i64 3,.str nm,.kO,.kO,.kO,.str [],.str [],.str [],.str [],.str [],.str [],.str [],.str (zS n.1),.str (zS n.2.1),.str (zS n.2.2),k,.str (zS s.1),.str (zS s.2.1),.str (zS s.2.2),.str [],.str [],.str [],.str [],.str [],.str [],.int .i64 0,.int .i64 0,.int .i64 0,.int .i64 0,.str [],.str [],.str []]
def dG(nm:List UInt8) (n:Z3) (o:Int) (w:Int) (u:List UInt8):List AV:=[.int .i64 4,.str nm,.kO,.kO,.kO,.str [],.str [],.str [],.str [],.str [],.str [],.str [],.str [],.str [],.str [],.kO,.str [],.str [],.str [],.str (zS n.1),.str (zS n.2.1),.str (zS n.2.2),.str (zS o),.str (aN (hQ w)),.str u,.int .i64 0,.int .i64 0,.int .i64 0,.int .i64 0,.str [],.str [],.str []]
def dZ(nm:List UInt8) (t:Int×Int×Int×Int) (c:Z3):List AV:=[.int .i64 5,.str nm,.kO,.kO,.kO,.str [],.str [],.str [],.str [],.str [],.str [],.str [],.str [],.str [],.str [],.kO,.str [],.str [],.str [],.str [],.str [],.str [],.str [],.str [],.str [],.int .i64 t.1,.int .i64 t.2.1,.int .i64 t.2.2.1,.int .i64 t.2.2.2,.str (zS c.1),.str (zS c.2.1),.str (zS c.2.2)]
def bF(i:Nat):List UInt8:=101::zS i
def ik(i:Nat):List UInt8:=107::zS i
def fk:Nat→Int×Int×Int×Int
 |0=>(1,0,0,1)
 |1=>(2,1,0,0)
 |2=>(1,1,1,1)
 |3=>(3,0,1,0)
 |4=>(0,1,0,0)
 |_=>(1,0,0,0)
def PJ(m n:Nat):Nat→AV
 |0=>.agg [.slice m 0 n none,.slice (m+1) 0 1 none,.kO]
 |1=>.agg [.slice m 0 n none,.slice (m+1) 0 2 none,.slice (m+2) 0 1 none]
 |_=>.agg [.slice m 0 n none,.slice (m+1) 0 3 none,.slice (m+2) 0 2 none]
def iH(m:Nat) (d:aao) (n i:Nat):Nat→Mem
 |0=>[jm (bw d n),.cells true 1 ((bp i 0).map .str)]
 |1=>[jm (bw d n),.cells true 1 ((bp i 1).map .str),.cells true 1 [.slice (m+3) 0 n none],jm (cd d 0 (bw d n) n)]
 |_=>[jm (bw d n),.cells true 1 ((bp i 2).map .str),.cells true 1 [.slice (m+3) 0 n none,.slice (m+4) 0 n none],jm (cd d 0 (bw d n) n),jm (cd d 1 (cd d 0 (bw d n) n) n)]
theorem BG(d:aao)(hd:d.Ok)(n k i:Nat)(hi:i<6)(hn:0<n)(hl:n≤1000)(M:Mem)(b c:Nat)(hb:b<M.length)(hc:c<M.length):
  mB prog 36 [.agg [.slice b 0 n none,.slice c 0 k none],.agg d.cells,.int .i64 i] M (PJ M.length n (d.K.1%3)) (M++iH M.length d n i (d.K.1%3)):=by
 have AC:d.K.1%3<3:=Nat.mod_lt _ (by decide);have key:∀J,d.K.1%3=J→J<3→mB prog 36 [.agg [.slice 0 0 n none,.slice 1 0 k none],.agg d.cells,.int .i64 i] [.qF,.qF] (Rs n J) ([.qF,.qF]++pd d n i J):=by
  intro J hJ hJ3;have:J=0∨J=1∨J=2:=by omega
  rcases this with rfl | rfl | rfl
  ·exact zF d hd n k i hi hn hl hJ
  ·exact zG d hd n k i hi hn hl hJ
  ·exact zH d hd n k i hi hn hl hJ
 have h0:=key _ rfl AC;obtain⟨J,hJ⟩:∃J,J=d.K.1%3:=⟨_,rfl⟩
 rw[←hJ] at AC h0 ⊢;have:=mB.frame (M:=M) (new:=pd d n i J) (args:=[.agg [.slice 0 0 n none,.slice 1 0 k none],.agg d.cells,.int .i64 i]) [b,c] (m:=[.qF,.qF]) rfl (by
  intro k hk;simp only[List.mem_cons,List.not_mem_nil,or_false] at hk;rcases hk with rfl | rfl
  ·exact hb
  ·exact hc) (by rfl) (fun i s hs=>by
  match i with
  |0=>simp at hs;subst hs;trivial
  |1=>simp at hs;subst hs;trivial
  |i+2=>simp at hs) (by
  have:J=0∨J=1∨J=2:=by omega
  rcases this with rfl | rfl | rfl<;>rfl) h0
 have hJ3:J=0∨J=1∨J=2:=by omega
 rcases hJ3 with rfl | rfl | rfl<;>simpa [AV.aal,AV.ren,dr,aae.ren,Rs,pd,PJ,iH,jm,eG,bp,Dk] using this
open Classical in
noncomputable def dD(d:aao):aac:=fun c args M=>match c,args with
 |.fn 34,[.agg [.int .i8 a,.int .i8 b,.int .i8 c]]=>if gm 200 (a,b,c) then some ⟨zA (bE (a,b,c)),none,[]⟩ else none
 |.fn 37,[.agg [.str s,.str t,.str u],.agg [.str s',.str t',.str u']]=>match ef s,ef t,ef u,ef s',ef t',ef u' with
  |some a,some b,some c,some d,some e,some f=>if (a.den=1∧b.den=1∧c.den=1∧d.den=1∧e.den=1∧f.den=1)∧gm 2 (a.num,b.num,c.num)∧gm 2 (d.num,e.num,f.num) then some ⟨zA (dQ (a.num,b.num,c.num) (d.num,e.num,f.num)),none,[]⟩ else none
  |_,_,_,_,_,_=>none
 |.fn 21,[.int .i64 a,.int .i64 b,.int .i64 c]=>if a.natAbs≤10000∧b.natAbs≤10000∧c.natAbs≤10000 then some ⟨zA (a,b,c),none,[]⟩ else none
 |.fn 36,[.agg [.slice b 0 n none,.slice c 0 _ none],.agg cs,.int .i64 i]=>if cs=d.cells∧0≤i∧i<6∧0<n∧n≤1000∧b<M.length∧c<M.length then some ⟨PJ M.length n (d.K.1%3),none,iH M.length d n i.toNat (d.K.1%3)⟩ else none
 |c,args=>ar cQ c args M
section
variable (d:aao)
include d
theorem ir(hd:d.Ok):qS prog (dD d):=by
 refine cJ fun c args M r h=>?_
 unfold dD at h;split at h
 ·split at h
  ·rename_i hc
   cases h;refine ak ?_;rw[List.append_nil];exact DV _ hc M
  ·cases h
 ·split at h
  ·rename_i a b c d e f ha hb hc hd he hf
   split at h
   ·rename_i I'
    obtain⟨⟨d1,d2,d3,d4,d5,d6⟩,c1,c2⟩:=I';cases h;refine ak ?_;rw[List.append_nil];rw[aA ha,aA hb,aA hc,aA hd,aA he,aA hf];have:=DU (a.num,b.num,c.num) (d.num,e.num,f.num) c1 c2 M;unfold zA at this;simp only at this;have k:∀q:Rat,q.den=1→zS q.num=aN q:=fun q hq=>by unfold zS;rw[←gI hq]
    rw[k a d1,k b d2,k c d3,k d d4,k e d5,k f d6] at this;exact this
   ·cases h
  ·cases h
 ·split at h
  ·rename_i hc
   cases h;refine ak ?_;rw[List.append_nil];exact nu (_,_,_) hc M
  ·cases h
 ·rename_i b n c k cs i
  split at h
  ·rename_i hc
   obtain⟨rfl,h1,h2,h3,h4,h5,h6⟩:=hc;cases h;refine ak ?_;have:=BG d hd n k i.toNat (by omega) h3 h4 M b c h5 h6;rw[Int.toNat_of_nonneg h1] at this;exact this
  ·cases h
 ·exact iG Ah h
theorem UK:d.cells[8]? =some (.int .u8 (d.K.1:Nat)):=rfl
theorem UG:d.cells[0]? =some (.int .u8 (d.kind:Nat)):=rfl
theorem UH:d.cells[4]? =some (.int .i8 d.B.1):=rfl
theorem UI:d.cells[5]? =some (.int .i8 d.B.2.1):=rfl
theorem UJ:d.cells[6]? =some (.int .i8 d.B.2.2):=rfl
theorem UL:d.cells.tail.take 3=[.int .i8 d.A.1,.int .i8 d.A.2.1,.int .i8 d.A.2.2]:=rfl
end
theorem vf{v:Int×Int×Int}(h:TK v):gm 200 v:=by obtain⟨h1,h2,h3⟩:=h;unfold Lf at h1 h2 h3;exact⟨by omega,by omega,by omega⟩
theorem yi(d:aao)(hd:d.Ok)(n k i:Nat)(hi:i<6)(hn:0<n)(hl:n≤1000)(hk:d.kind%5=1):
  mB prog 9 [.agg [.slice 0 0 n none,.slice 1 0 k none],.agg d.cells,.int .i64 i] [.qF,.qF] (.agg (cX (bF i) (bE d.A) (d.N.tmod 5) (dQ (bE d.A) (sG d.B)))) ([.qF,.qF]++[]):=by
 have hG:aO prog 9=some f9:=by kernel_rfl
 have PP:=bH (rfl:aP f9=_) (ls:=[[0,0,2,6,14,30,63,0,255],[0,1,3,7,15,0,32,96,255,0,1023],[0,0,0,4,12,28,60,0,128,384,896,1920,0,4096,12288,28672,61440,131068,262142,524287,1048575,2097151],[0,0,0,4,12,28,60,0,128,384,896,1920,0,4096,12288,28672,61440,131068,262142,524287,1048575,2097151],[0,1,3,0,8,24,56,0,128,504,1016,0,0,6144,14336,30720,63488,129024,0,262144,786432,1835008,3932160,8126464,16777208,33554424,67108856,134217727,268435455,536870911,1073741823],[0,0,2,6,14,30,62,126,0,510,1022,2047,4095,8191],[0,0,0,0,0,0,63,0,128,384,896,2047,4095,0,8192,24576,57344,122880,0,262144,786432,1835008,3932160,0,8388608,25165824,58720256,125829120,268427264,536870911,1073741823,2147483647]]) (by kernel_rfl);simp only[aP,bQ,f9,List.nil_append,List.append_nil,List.cons_append,List.map_cons,List.map_nil,List.cons.injEq,and_true] at PP;obtain⟨WS,hb1,WE,hb3,hb4,hb5,hb6⟩:=PP;have a08:ba [0,0,2,6,14,30,63,0,255] 8=true:=by decide
 have a110:ba [0,1,3,7,15,0,32,96,255,0,1023] 10=true:=by decide
 have a221:ba [0,0,0,4,12,28,60,0,128,384,896,1920,0,4096,12288,28672,61440,131068,262142,524287,1048575,2097151] 21=true:=by decide
 have a513:ba [0,0,2,6,14,30,62,126,0,510,1022,2047,4095,8191] 13=true:=by decide
 have a631:ba [0,0,0,0,0,0,63,0,128,384,896,2047,4095,0,8192,24576,57344,122880,0,262144,786432,1835008,3932160,0,8388608,25165824,58720256,125829120,268427264,536870911,1073741823,2147483647] 31=true:=by decide
 have hN:=hd.N;have hB:=vf hd.B;have hA:=vf hd.A;have n1:=dj d.A;have m1:=iw d.B;have q3:=ru d.N 5 (by decide);have h8:=UK d;have h0:=UG d;have h4:=UH d;have h5:=UI d;have h6:=UJ d;have h7:=TD d;have h1:=UL d;have l0:=xy d;have r0:=gQ d;have o0:=Kf d;have okd:=ir d hd;clear hd;obtain⟨kd,⟨A1,A2,A3⟩,⟨B1,B2,B3⟩,N,⟨K1,K2,K3,K4⟩⟩:=d;simp only at hk hN hB hA n1 m1 q3 h8 h0 h4 h5 h6 h7 h1 ⊢;simp only[Int.cast_ofNat_Int] at q3;unfold Lf at hN;obtain⟨Yq,Yr,YK⟩:=hB;simp only at Yq Yr YK;have wN:IntKind.i64.wrap N=N:=bN (by omega) (by omega);have wB1:IntKind.i64.wrap B1=B1:=bN (by omega) (by omega);have wB2:IntKind.i64.wrap B2=B2:=bN (by omega) (by omega);have wB3:IntKind.i64.wrap B3=B3:=bN (by omega) (by omega);have YZ:((kd:Nat):Int).tmod 5=1:=by have:((kd:Nat):Int).tmod 5=((kd%5:Nat):Int):=rfl;rw[this,hk];rfl
 obtain⟨⟨nx,ny,nz⟩,e1⟩:∃v,v=bE (A1,A2,A3):=⟨_,rfl⟩
 rw[←e1] at n1;have e2:sG (B1,B2,B3)=(B1.tmod 3,B2.tmod 3,B3.tmod 3):=rfl;rw[e2] at m1;obtain⟨o,ho⟩:∃o,o=N.tmod 5:=⟨_,rfl⟩
 rw[←ho] at q3;have go:o.natAbs<100000000:=by omega
 have gi:i<100000000:=by omega
 obtain⟨bx,YS⟩:∃o,o=B1.tmod 3:=⟨_,rfl⟩
 obtain⟨YF,ZJ⟩:∃o,o=B2.tmod 3:=⟨_,rfl⟩
 obtain⟨bz,Yc⟩:∃o,o=B3.tmod 3:=⟨_,rfl⟩
 rw[←YS,←ZJ,←Yc] at m1 e2;obtain⟨g1,g2,g3⟩:=m1;simp only at g1 g2 g3;have g1' :bx.natAbs≤10000:=by omega
 have g2' :YF.natAbs≤10000:=by omega
 have g3' :bz.natAbs≤10000:=by omega
 have m2:gm 2 (bx,YF,bz):=⟨g1,g2,g3⟩;obtain⟨C,hC⟩:∃C,C=aao.cells ⟨kd,(A1,A2,A3),(B1,B2,B3),N,(K1,K2,K3,K4)⟩:=⟨_,rfl⟩
 rw[←hC] at h8 h0 h4 h5 h6 h7 h1 l0 r0 o0;have Xg :aao.cells ⟨kd,(A1,A2,A3),(B1,B2,B3),N,(K1,K2,K3,K4)⟩=C:=hC.symm;have tk:C.take 12=C:=List.take_of_length_le (by omega);have j8:∀h,C[8]'h=_:=fun h=>Option.some.inj ((List.getElem?_eq_getElem h).symm.trans h8)
 have j0:∀h,C[0]'h=_:=fun h=>Option.some.inj ((List.getElem?_eq_getElem h).symm.trans h0)
 have j4:∀h,C[4]'h=_:=fun h=>Option.some.inj ((List.getElem?_eq_getElem h).symm.trans h4)
 have j5:∀h,C[5]'h=_:=fun h=>Option.some.inj ((List.getElem?_eq_getElem h).symm.trans h5)
 have j6:∀h,C[6]'h=_:=fun h=>Option.some.inj ((List.getElem?_eq_getElem h).symm.trans h6)
 have j7:∀h,C[7]'h=_:=fun h=>Option.some.inj ((List.getElem?_eq_getElem h).symm.trans h7)
 have hp:=gW;have u12:IntKind.i64.wrap (1+1)=2:=rfl;have u13:IntKind.i64.wrap (1+2)=3:=rfl;have u14:IntKind.i64.wrap (1+3)=4:=rfl;have u15:IntKind.i64.wrap (1+4)=5:=rfl;have hip:=fE (n:=(i:Int)) (by omega);have hip' :(zS (i:Int)).length+1≤9223372036854775807:=by unfold zS;omega
 have X6:1+(zS (i:Int)).length≤9223372036854775807:=by omega
 have h:ad (aC prog) (fun _=>[]) (aO prog) (dD ⟨kd,(A1,A2,A3),(B1,B2,B3),N,(K1,K2,K3,K4)⟩) 1 9 [.agg [.slice 0 0 n none,.slice 1 0 k none],.agg C,.int .i64 i] [.qF,.qF]=some ⟨(.agg (cX (bF i) (bE (A1,A2,A3)) (N.tmod 5) (dQ (bE (A1,A2,A3)) (sG (B1,B2,B3))))),none,[]⟩:=by
  rw[e2,←e1,←ho];obtain⟨⟨sx,sy,sz⟩,hs⟩:∃v,v=dQ (nx,ny,nz) (bx,YF,bz):=⟨_,rfl⟩
  rw[←hs];simp[ad,hG,f9,dD,ar,cQ,zA,l0,j0,j4,j5,j6,j7,h1,hA,←e1,YZ,wN,wB1,wB2,wB3,←ho,←YS,←ZJ,←Yc,go,gi,g1',g2',g3',hp,n1,m2,w1,w2,X6,gd,bO,aL,-ay,cm WS,cm hb1,cm WE,jo,ph,By,mh,cj,jd,bef,a08,a110,a221,Nat.testBit,←hs,cX,bF]
 have:=(au af (aw _) okd (ax _) h).1;rw[←hC];simpa [HS.mem] using this
end Go.Proofs
