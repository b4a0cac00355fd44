/- See F54. -/
import Derived.Test.YtgafjliihahjgaaGreatDoorF16
set_option linter.all false
set_option maxRecDepth 100000
set_option maxHeartbeats 40000000
namespace Go.Proofs
open Go.Eng
open Tryz
theorem BM(d:ae6)(n:Nat):∀z∈bI d n,z.natAbs≤100:=by intro z Z;unfold bI at Z;obtain⟨k,_,rfl⟩:=List.mem_map.1 Z;have:=Ae (d:=d) k;omega
theorem Pg(d:ae6)(n:Nat):∀z∈cH d 0 (bI d n) n,z.natAbs≤100:=by
 intro z X;unfold cH at X;obtain⟨k,Z,rfl⟩:=List.mem_map.1 X;have Z:=List.mem_range.1 Z;have W:(bI d n).getD k 0=Ov d k:=by simp[bI,List.getD_eq_getElem?_getD,Z]
 rw[W];have V:=Ae (d:=d) k;unfold MC;have h3:Mf d.K ((0+k)%4)%4<4:=Nat.mod_lt _ (by decide);omega
section
variable (d:ae6)(hd:d.Ok)(n k i:Nat)(hi:i<6)(hn:0<n)(hl:n≤1000)
include d hd n k i hi hn hl
theorem AD(A:d.K.1%3=1):
  kO prog 47 [.agg [.slice 0 0 n none,.slice 1 0 k none],.agg d.cells,.int .i64 i] [.aeP,.aeP] (Ub n 1) ([.aeP,.aeP]++pg d n i 1):=by
 have hG:aK prog 47=some f47:=by kernel_rfl
 obtain⟨b,O,G,S⟩:∃b O G,ai f47=[b,O,G]:=⟨_,_,_,rfl⟩
 obtain⟨K,hK⟩:=xE (n+1);obtain⟨F,V⟩:=mQ (K:=K+5) d hd n k [cJ i,49] hl (by omega) S;have e0:DE d n k [cJ i,49] 0=[.aeP,.aeP,.cells true 0 [.slice 0 0 n none,.slice 1 0 k none],.cells true 0 d.cells,.cells true 0 [.y9,.y9,.y9],.cells true 1 fW,.cells true 1 [.str [cJ i,49]],.cells true 0 [.y9,.slice 6 0 1 none,.y9]]:=rfl;have M:decide (0<n)=true:=by simpa using hn
 rw[qU hn,e0,M] at V;have J':=fun Z h=>(V Z h).1
 have J:=fun Z h=>(V Z h).2.1
 have D:=fun Z h=>(V Z h).2.2.1
 have C:=fun Z h=>(V Z h).2.2.2.1
 have B:=fun Z h=>(V Z h).2.2.2.2
 clear V;obtain⟨I0,W⟩:=xZ (K:=K+5) d hd n k [cJ i,49] (bI d n) (dT d n) (BM d n) hn hl (by omega) S;have hu:=fun s=>aQ (aN prog) fO ez (K+5) 102 2 true s O
 simp only[DG] at W;have p1:=fun Z X h=>(W Z X h).1
 have z:=fun Z X h=>(W Z X h).2.1
 have u:=fun Z X h=>(W Z X h).2.2 2 (by simp)
 have pt4:=fun Z X h=>(W Z X h).2.2 4 (by simp)
 have pt6:=fun Z X h=>(W Z X h).2.2 6 (by simp)
 have m:=fun Z X h=>(W Z X h).2.2 7 (by simp)
 have pt9:=fun Z X h=>(W Z X h).2.2 9 (by simp)
 have j:=fun Z X h=>(W Z X h).2.2 10 (by simp)
 have adW:=fun Z X h=>(W Z X h).2.2 53 (by simp)
 have Y:=fun Z X h=>(W Z X h).2.2 54 (by simp)
 clear W;simp[ai,aG,f47] at S;obtain⟨rfl,rfl,rfl⟩:=S;have R:=Yh hi;have I:d.cells[8]? =some (.int .u8 (d.K.1:Nat)):=rfl;have t3:((d.K.1:Nat):Int).tmod 3=1:=by have:((d.K.1:Nat):Int).tmod 3=((d.K.1%3:Nat):Int):=rfl;rw[this,A];rfl
 have z2:zS 2=[50]:=rfl;have z3:zS 3=[51]:=rfl;have w1' :IntKind.i64.wrap (1+1)=2:=rfl;have w3' :IntKind.i64.wrap (1+2)=3:=rfl;have w2' :IntKind.i64.wrap (0+2)=2:=rfl;have H :(i:Int)<6:=by omega
 have h:aa (aN prog) fO (aK prog) ez (K+5) 47 [.agg [.slice 0 0 n none,.slice 1 0 k none],.agg d.cells,.int .i64 i] [.aeP,.aeP]=some ⟨Ub n 1,some [.aeP,.aeP],pg d n i 1⟩:=by
  simp[aa,hG,f47,J',J,D,C,B,ez,R,H,I,t3,ia,Eh,UM,Y9,Xt,gq,fj,hu,er,p1,z,u,m,j,Y,w1,w2,z2,af,dm,Nat.testBit,List.idxOf?_cons,List.idxOf?_cons,fO,Ub,pg,bE,jB,gv,bW,aE]
  repeat' (first | rfl | apply And.intro)
 have:=(ah ae (ar _) tL (au _) h).1;simpa [aeQ.mem] using this
theorem AE(hJ:d.K.1%3=2):
  kO prog 47 [.agg [.slice 0 0 n none,.slice 1 0 k none],.agg d.cells,.int .i64 i] [.aeP,.aeP] (Ub n 2) ([.aeP,.aeP]++pg d n i 2):=by
 have hG:aK prog 47=some f47:=by kernel_rfl
 obtain⟨b,M,b3,O⟩:∃b M b3,ai f47=[b,M,b3]:=⟨_,_,_,rfl⟩
 obtain⟨K,hK⟩:=xE (n+1);obtain⟨F,S⟩:=mQ (K:=K+5) d hd n k [cJ i,49] hl (by omega) O;have e0:DE d n k [cJ i,49] 0=[.aeP,.aeP,.cells true 0 [.slice 0 0 n none,.slice 1 0 k none],.cells true 0 d.cells,.cells true 0 [.y9,.y9,.y9],.cells true 1 fW,.cells true 1 [.str [cJ i,49]],.cells true 0 [.y9,.slice 6 0 1 none,.y9]]:=rfl;have J:decide (0<n)=true:=by simpa using hn
 rw[qU hn,e0,J] at S;have J':=fun Z h=>(S Z h).1
 have D:=fun Z h=>(S Z h).2.1
 have C:=fun Z h=>(S Z h).2.2.1
 have B:=fun Z h=>(S Z h).2.2.2.1
 have z:=fun Z h=>(S Z h).2.2.2.2
 clear S;obtain⟨I0,V⟩:=xZ (K:=K+5) d hd n k [cJ i,49] (bI d n) (dT d n) (BM d n) hn hl (by omega) O;obtain⟨I1,W⟩:=Ip (K:=K+5) d hd n k [cJ i,49] [cJ i,50] (bI d n) (cH d 0 (bI d n) n) (fc _ _ _ _) (Pg d n) hn hl (by omega) O;have hu:=fun s=>aQ (aN prog) fO ez (K+5) 102 2 true s M
 simp only[DG] at V;simp only[GK] at W;have p1:=fun Z X h=>(V Z X h).1
 have u:=fun Z X h=>(V Z X h).2.1
 have m:=fun Z X h=>(V Z X h).2.2 2 (by simp)
 have pt4:=fun Z X h=>(V Z X h).2.2 4 (by simp)
 have pt6:=fun Z X h=>(V Z X h).2.2 6 (by simp)
 have j:=fun Z X h=>(V Z X h).2.2 7 (by simp)
 have pt9:=fun Z X h=>(V Z X h).2.2 9 (by simp)
 have Y:=fun Z X h=>(V Z X h).2.2 10 (by simp)
 have adW:=fun Z X h=>(V Z X h).2.2 53 (by simp)
 have R:=fun Z X h=>(V Z X h).2.2 54 (by simp)
 have q1:=fun Z X h=>(W Z X h).1
 have I:=fun Z X h=>(W Z X h).2.1
 have H:=fun Z X h=>(W Z X h).2.2 2 (by simp)
 have qt4:=fun Z X h=>(W Z X h).2.2 4 (by simp)
 have qt6:=fun Z X h=>(W Z X h).2.2 6 (by simp)
 have G:=fun Z X h=>(W Z X h).2.2 7 (by simp)
 have qt9:=fun Z X h=>(W Z X h).2.2 9 (by simp)
 have A:=fun Z X h=>(W Z X h).2.2 10 (by simp)
 have aeL:=fun Z X h=>(W Z X h).2.2 53 (by simp)
 have adY:=fun Z X h=>(W Z X h).2.2 54 (by simp)
 clear V W;simp[ai,aG,f47] at O;obtain⟨rfl,rfl,rfl⟩:=O;have hna:=Yh hi;have hK8:d.cells[8]? =some (.int .u8 (d.K.1:Nat)):=rfl;have t3:((d.K.1:Nat):Int).tmod 3=2:=by have:((d.K.1:Nat):Int).tmod 3=((d.K.1%3:Nat):Int):=rfl;rw[this,hJ];rfl
 have z2:zS 2=[50]:=rfl;have z3:zS 3=[51]:=rfl;have w1' :IntKind.i64.wrap (1+1)=2:=rfl;have w3' :IntKind.i64.wrap (1+2)=3:=rfl;have w2' :IntKind.i64.wrap (0+2)=2:=rfl;have hi' :(i:Int)<6:=by omega
 have h:aa (aN prog) fO (aK prog) ez (K+5) 47 [.agg [.slice 0 0 n none,.slice 1 0 k none],.agg d.cells,.int .i64 i] [.aeP,.aeP]=some ⟨Ub n 2,some [.aeP,.aeP],pg d n i 2⟩:=by
  simp[aa,hG,f47,J',D,C,B,z,ez,hna,hi',hK8,t3,ia,Eh,UM,Y9,Xt,gq,fj,hu,er,p1,u,m,j,Y,R,q1,I,H,G,A,adY,w1,w2,w3,z2,z3,af,dm,Nat.testBit,List.idxOf?_cons,List.idxOf?_cons,fO,Ub,pg,bE,jB,gv,bW,aE]
  repeat' (first | rfl | apply And.intro)
 have:=(ah ae (ar _) tL (au _) h).1;simpa [aeQ.mem] using this
end
def bf(nm:List UInt8)(b u s:AV):List AV:=[.int .i64 1,.str nm,b,u,s,.str [],.str [],.str [],.str [],.str [],.str [],.str [],.str [],.str [],.str [],.y9,.str [],.str [],.str [],.str [],.str [],.str [],.str [],.str [],.str [],.int .i64 0,.int .i64 0,.int .i64 0,.int .i64 0,.str [],.str [],.str []]
def bo(nm:List UInt8)(n:Z3)(o:Int)(s:Z3):List AV:=[.int .i64 2,.str nm,.y9,.y9,.y9,.str (zS n.1),.str (zS n.2.1),.str (zS n.2.2),.str (zS o),.str (zS s.1),.str (zS s.2.1),.str (zS s.2.2),.str [],.str [],.str [],.y9,.str [],.str [],.str [],.str [],.str [],.str [],.str [],.str [],.str [],.int .i64 0,.int .i64 0,.int .i64 0,.int .i64 0,.str [],.str [],.str []]
def bw(nm:List UInt8)(n:Z3)(k:AV)(s:Z3):List AV:=[.int .i64 3,.str nm,.y9,.y9,.y9,.str [],.str [],.str [],.str [],.str [],.str [],.str [],.str (zS n.1),.str (zS n.2.1),.str (zS n.2.2),k,.str (zS s.1),.str (zS s.2.1),.str (zS s.2.2),.str [],.str [],.str [],.str [],.str [],.str [],.int .i64 0,.int .i64 0,.int .i64 0,.int .i64 0,.str [],.str [],.str []]
def cX(nm:List UInt8)(n:Z3)(o:Int)(w:Int)(u:List UInt8):List AV:=[.int .i64 4,.str nm,.y9,.y9,.y9,.str [],.str [],.str [],.str [],.str [],.str [],.str [],.str [],.str [],.str [],.y9,.str [],.str [],.str [],.str (zS n.1),.str (zS n.2.1),.str (zS n.2.2),.str (zS o),.str (ak (hQ w)),.str u,.int .i64 0,.int .i64 0,.int .i64 0,.int .i64 0,.str [],.str [],.str []]
def cL(nm:List UInt8)(t:Int×Int×Int×Int)(c:Z3):List AV:=[.int .i64 5,.str nm,.y9,.y9,.y9,.str [],.str [],.str [],.str [],.str [],.str [],.str [],.str [],.str [],.str [],.y9,.str [],.str [],.str [],.str [],.str [],.str [],.str [],.str [],.str [],.int .i64 t.1,.int .i64 t.2.1,.int .i64 t.2.2.1,.int .i64 t.2.2.2,.str (zS c.1),.str (zS c.2.1),.str (zS c.2.2)]
def bO(i:Nat):List UInt8:=101::zS i
def iw(i:Nat):List UInt8:=107::zS i
def bC:Nat→Int×Int×Int×Int
 |0=>(1,0,0,1)
 |1=>(2,1,0,0)
 |2=>(1,1,1,1)
 |3=>(3,0,1,0)
 |4=>(0,1,0,0)
 |_=>(1,0,0,0)
def RF(m n:Nat):Nat→AV
 |0=>.agg [.slice m 0 n none,.slice (m+1) 0 1 none,.y9]
 |1=>.agg [.slice m 0 n none,.slice (m+1) 0 2 none,.slice (m+2) 0 1 none]
 |_=>.agg [.slice m 0 n none,.slice (m+1) 0 3 none,.slice (m+2) 0 2 none]
def iT(m:Nat)(d:ae6)(n i:Nat):Nat→Mem
 |0=>[jB (bI d n),.cells true 1 ((bE i 0).map .str)]
 |1=>[jB (bI d n),.cells true 1 ((bE i 1).map .str),.cells true 1 [.slice (m+3) 0 n none],jB (cH d 0 (bI d n) n)]
 |_=>[jB (bI d n),.cells true 1 ((bE i 2).map .str),.cells true 1 [.slice (m+3) 0 n none,.slice (m+4) 0 n none],jB (cH d 0 (bI d n) n),jB (cH d 1 (cH d 0 (bI d n) n) n)]
theorem CX(d:ae6)(A:d.Ok)(n k i:Nat)(G:i<6)(H:0<n)(I:n≤1000)(M:Mem)(b c:Nat)(R:b<M.length)(hc:c<M.length):
  kO prog 47 [.agg [.slice b 0 n none,.slice c 0 k none],.agg d.cells,.int .i64 i] M (RF M.length n (d.K.1%3)) (M++iT M.length d n i (d.K.1%3)):=by
 have S:d.K.1%3<3:=Nat.mod_lt _ (by decide);have V:∀J,d.K.1%3=J→J<3→kO prog 47 [.agg [.slice 0 0 n none,.slice 1 0 k none],.agg d.cells,.int .i64 i] [.aeP,.aeP] (Ub n J) ([.aeP,.aeP]++pg d n i J):=by
  intro J Z X;have:J=0∨J=1∨J=2:=by omega
  rcases this with rfl | rfl | rfl
  ·exact AB d A n k i G H I Z
  ·exact AD d A n k i G H I Z
  ·exact AE d A n k i G H I Z
 have O:=V _ rfl S;obtain⟨J,Z⟩:=xE (d.K.1%3);rw[←Z] at S O ⊢;have:=kO.frame (M:=M) (new:=pg d n i J) (args:=[.agg [.slice 0 0 n none,.slice 1 0 k none],.agg d.cells,.int .i64 i]) [b,c] (m:=[.aeP,.aeP]) rfl (by
  intro k F;simp only[lM] at F;rcases F with rfl | rfl
  ·exact R
  ·exact hc) (by rfl) (fun i s W=>by
  match i with
  |0=>simp at W;subst W;trivial
  |1=>simp at W;subst W;trivial
  |i+2=>simp at W) (by
  have:J=0∨J=1∨J=2:=by omega
  rcases this with rfl | rfl | rfl<;>rfl) O
 have X:J=0∨J=1∨J=2:=by omega
 rcases X with rfl | rfl | rfl<;>simpa [AV.ae3,AV.ren,dL,aeY.ren,Ub,pg,RF,iT,jB,fj,bE,Eh] using this
open Classical in
noncomputable def dQ(d:ae6):aeT:=fun c Z M=>match c,Z with
 |.fn 46,[.agg [.int .i8 a,.int .i8 b,.int .i8 c]]=>if fq 200 (a,b,c) then some ⟨zA (bN (a,b,c)),none,[]⟩ else none
 |.fn 48,[.agg [.str s,.str t,.str u],.agg [.str s',.str t',.str u']]=>match dC s,dC t,dC u,dC s',dC t',dC u' with
  |some a,some b,some c,some d,some e,some f=>if (a.den=1∧b.den=1∧c.den=1∧d.den=1∧e.den=1∧f.den=1)∧fq 2 (a.num,b.num,c.num)∧fq 2 (d.num,e.num,f.num) then some ⟨zA (eJ (a.num,b.num,c.num) (d.num,e.num,f.num)),none,[]⟩ else none
  |_,_,_,_,_,_=>none
 |.fn 25,[.int .i64 a,.int .i64 b,.int .i64 c]=>if a.natAbs≤10000∧b.natAbs≤10000∧c.natAbs≤10000 then some ⟨zA (a,b,c),none,[]⟩ else none
 |.fn 47,[.agg [.slice b 0 n none,.slice c 0 _ none],.agg cs,.int .i64 i]=>if cs=d.cells∧0≤i∧i<6∧0<n∧n≤1000∧b<M.length∧c<M.length then some ⟨RF M.length n (d.K.1%3),none,iT M.length d n i.toNat (d.K.1%3)⟩ else none
 |c,Z=>af dm c Z M
section
variable (d:ae6)
include d
theorem iB(A:d.Ok):HS prog (dQ d):=by
 refine dE fun c Z M r h=>?_
 unfold dQ at h;split at h
 ·split at h
  ·rename_i hc
   cases h;refine aI ?_;rw[List.append_nil];exact Fb _ hc M
  ·cases h
 ·split at h
  ·rename_i a b c d e f X W hc A he V
   split at h
   ·rename_i S
    obtain⟨⟨d1,d2,d3,d4,d5,d6⟩,O,K⟩:=S;cases h;refine aI ?_;rw[List.append_nil];rw[aw X,aw W,aw hc,aw A,aw he,aw V];have:=E9 (a.num,b.num,c.num) (d.num,e.num,f.num) O K M;unfold zA at this;simp only at this;have k:∀q:Rat,q.den=1→zS q.num=ak q:=fun q hq=>by unfold zS;rw[←gT hq]
    rw[k a d1,k b d2,k c d3,k d d4,k e d5,k f d6] at this;exact this
   ·cases h
  ·cases h
 ·split at h
  ·rename_i hc
   cases h;refine aI ?_;rw[List.append_nil];exact AQ (_,_,_) hc M
  ·cases h
 ·rename_i b n c k B i
  split at h
  ·rename_i hc
   obtain⟨rfl,J,z,h3,F,D,C⟩:=hc;cases h;refine aI ?_;have:=CX d A n k i.toNat (by omega) h3 F M b c D C;rw[Int.toNat_of_nonneg J] at this;exact this
  ·cases h
 ·exact jx Bf h
theorem XZ:d.cells[8]? =some (.int .u8 (d.K.1:Nat)):=rfl
theorem XV:d.cells[0]? =some (.int .u8 (d.kind:Nat)):=rfl
theorem XW:d.cells[4]? =some (.int .i8 d.B.1):=rfl
theorem XX:d.cells[5]? =some (.int .i8 d.B.2.1):=rfl
theorem XY:d.cells[6]? =some (.int .i8 d.B.2.2):=rfl
theorem X0:d.cells.tail.take 3=[.int .i8 d.A.1,.int .i8 d.A.2.1,.int .i8 d.A.2.2]:=rfl
end
theorem vP{v:Int×Int×Int}(h:WJ v):fq 200 v:=by obtain⟨Z,X,h3⟩:=h;unfold Ak at Z X h3;exact⟨by omega,by omega,by omega⟩
theorem zc(d:ae6)(G:d.Ok)(n k i:Nat)(hi:i<6)(hn:0<n)(hl:n≤1000)(hk:d.kind%5=1):
  kO prog 28 [.agg [.slice 0 0 n none,.slice 1 0 k none],.agg d.cells,.int .i64 i] [.aeP,.aeP] (.agg (bo (bO i) (bN d.A) (d.N.tmod 5) (eJ (bN d.A) (tz d.B)))) ([.aeP,.aeP]++[]):=by
 have hG:aK prog 28=some f28:=by kernel_rfl
 obtain⟨os,u⟩:∃os,aC f28=os:=⟨_,rfl⟩
 have I':=be u (ls:=[[0,0,2,6,14,30,63,0,255],[0,1,3,7,15,0,32,96,255,0,1023],[0,0,0,4,12,28,60,0,128,384,896,1920,0,4096,12288,28672,61440,131068,262142,524287,1048575,2097151],[0,0,0,4,12,28,60,0,128,384,896,1920,0,4096,12288,28672,61440,131068,262142,524287,1048575,2097151],[0,1,3,0,8,24,56,0,128,504,1016,0,0,6144,14336,30720,63488,129024,0,262144,786432,1835008,3932160,8126464,16777208,33554424,67108856,134217727,268435455,536870911,1073741823],[0,0,2,6,14,30,62,126,0,510,1022,2047,4095,8191],[0,0,0,0,0,0,63,0,128,384,896,2047,4095,0,8192,24576,57344,122880,0,262144,786432,1835008,3932160,0,8388608,25165824,58720256,125829120,268427264,536870911,1073741823,2147483647]]) (by kernel_rfl);simp only[aC,bn,f28,lA] at u;subst u;simp only[lB] at I';obtain⟨Z9,m,j,hb3,hb4,hb5,hb6⟩:=I';have Y:ba [0,0,2,6,14,30,63,0,255] 8=true:=by decide
 have R:ba [0,1,3,7,15,0,32,96,255,0,1023] 10=true:=by decide
 have I:ba [0,0,0,4,12,28,60,0,128,384,896,1920,0,4096,12288,28672,61440,131068,262142,524287,1048575,2097151] 21=true:=by decide
 have ad0:ba [0,0,2,6,14,30,62,126,0,510,1022,2047,4095,8191] 13=true:=by decide
 have ad1:ba [0,0,0,0,0,0,63,0,128,384,896,2047,4095,0,8192,24576,57344,122880,0,262144,786432,1835008,3932160,0,8388608,25165824,58720256,125829120,268427264,536870911,1073741823,2147483647] 31=true:=by decide
 have hN:=G.N;have hB:=vP G.B;have hA:=vP G.A;have H:=cw d.A;have z:=gp d.B;have q3:=nT d.N 5 (by decide);have h8:=XZ d;have h0:=XV d;have h4:=XW d;have h5:=XX d;have h6:=XY d;have h7:=Wy d;have h1:=X0 d;have l0:=yu d;have r0:=ia d;have o0:=LD d;have okd:=iB d G;clear G;obtain⟨S,⟨O,M,K⟩,⟨Z,X,W⟩,N,⟨K1,K2,K3,K4⟩⟩:=d;simp only at hk hN hB hA H z q3 h8 h0 h4 h5 h6 h7 h1 ⊢;simp only[Int.cast_ofNat_Int] at q3;unfold Ak at hN;obtain⟨hB1,hB2,hB3⟩:=hB;simp only at hB1 hB2 hB3;have wN:IntKind.i64.wrap N=N:=bV (by omega) (by omega);have wB1:IntKind.i64.wrap Z=Z:=bV (by omega) (by omega);have wB2:IntKind.i64.wrap X=X:=bV (by omega) (by omega);have wB3:IntKind.i64.wrap W=W:=bV (by omega) (by omega);have hkt:((S:Nat):Int).tmod 5=1:=by have:((S:Nat):Int).tmod 5=((S%5:Nat):Int):=rfl;rw[this,hk];rfl
 obtain⟨⟨nx,ny,nz⟩,e1⟩:∃v,v=bN (O,M,K):=⟨_,rfl⟩
 rw[←e1] at H;have e2:tz (Z,X,W)=(Z.tmod 3,X.tmod 3,W.tmod 3):=rfl;rw[e2] at z;obtain⟨o,ho⟩:=xE (N.tmod 5);rw[←ho] at q3;have go:o.natAbs<100000000:=by omega
 have gi:i<100000000:=by omega
 obtain⟨bx,J⟩:=xE (Z.tmod 3);obtain⟨V,F⟩:=xE (X.tmod 3);obtain⟨bz,D⟩:=xE (W.tmod 3);rw[←J,←F,←D] at z e2;obtain⟨g1,g2,g3⟩:=z;simp only at g1 g2 g3;have g1' :bx.natAbs≤10000:=by omega
 have g2' :V.natAbs≤10000:=by omega
 have g3' :bz.natAbs≤10000:=by omega
 have m2:fq 2 (bx,V,bz):=⟨g1,g2,g3⟩;obtain⟨C,hC⟩:=xE (ae6.cells ⟨S,(O,M,K),(Z,X,W),N,(K1,K2,K3,K4)⟩);rw[←hC] at h8 h0 h4 h5 h6 h7 h1 l0 r0 o0;have hC' :ae6.cells ⟨S,(O,M,K),(Z,X,W),N,(K1,K2,K3,K4)⟩=C:=hC.symm;have tk:C.take 12=C:=List.take_of_length_le (by omega);have j8:∀h,C[8]'h=_:=gE h8
 have j0:∀h,C[0]'h=_:=gE h0
 have j4:∀h,C[4]'h=_:=gE h4
 have j5:∀h,C[5]'h=_:=gE h5
 have j6:∀h,C[6]'h=_:=gE h6
 have j7:∀h,C[7]'h=_:=gE h7
 have hp:=ij;have u12:IntKind.i64.wrap (1+1)=2:=rfl;have u13:IntKind.i64.wrap (1+2)=3:=rfl;have u14:IntKind.i64.wrap (1+3)=4:=rfl;have u15:IntKind.i64.wrap (1+4)=5:=rfl;have hip:=fX (n:=(i:Int)) (by omega);have abx :(zS (i:Int)).length+1≤9223372036854775807:=by unfold zS;omega
 have aaH:1+(zS (i:Int)).length≤9223372036854775807:=by omega
 have h:aa (aN prog) (fun _=>[]) (aK prog) (dQ ⟨S,(O,M,K),(Z,X,W),N,(K1,K2,K3,K4)⟩) 1 28 [.agg [.slice 0 0 n none,.slice 1 0 k none],.agg C,.int .i64 i] [.aeP,.aeP]=some ⟨(.agg (bo (bO i) (bN (O,M,K)) (N.tmod 5) (eJ (bN (O,M,K)) (tz (Z,X,W))))),none,[]⟩:=by
  rw[e2,←e1,←ho];obtain⟨⟨sx,sy,sz⟩,hs⟩:∃v,v=eJ (nx,ny,nz) (bx,V,bz):=⟨_,rfl⟩
  rw[←hs];simp[aa,hG,f28,dQ,af,dm,zA,l0,j0,j4,j5,j6,j7,h1,hA,←e1,hkt,wN,wB1,wB2,wB3,←ho,←J,←F,←D,go,gi,g1',g2',g3',hp,H,m2,w1,w2,aaH,gv,bW,aE,-aB,cK Z9,cK m,cK j,jD,pr,CL,mK,bR,oM,bef,Y,R,I,Nat.testBit,←hs,bo,bO]
 have:=(ah ae (ar _) okd (au _) h).1;rw[←hC];simpa [aeQ.mem] using this
end Go.Proofs
