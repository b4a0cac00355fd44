/- See Q54. -/
import Derived.Test.YtgafjliihahjgaaGreatDoorQ21
set_option linter.all false
namespace Go.Proofs
open Go.Eng
theorem yI(d:Deed) (n:Nat):∀z∈bo d n,z.natAbs≤100:=by intro z hz;unfold bo at hz;obtain⟨k,_,rfl⟩:=List.mem_map.1 hz;have:=xa (d:=d) k;omega
theorem Kt(d:Deed) (n:Nat):∀z∈bU d 0 (bo d n) n,z.natAbs≤100:=by
 intro z hz;unfold bU at hz;obtain⟨k,hk,rfl⟩:=List.mem_map.1 hz;have hk:=List.mem_range.1 hk;have h1:(bo d n).getD k 0=JK d k:=by simp[bo,List.getD_eq_getElem?_getD,hk]
 rw[h1];have h2:=xa (d:=d) k;unfold Ie;have h3:HT d.K ((0+k)%4)%4<4:=Nat.mod_lt _ (by decide);omega
set_option maxRecDepth 8192 in
set_option maxHeartbeats 12800000 in
theorem xA(d:Deed) (hd:d.Ok) (n k i:Nat) (hi:i<6) (hn:0<n) (hl:n≤1000) (hJ:d.K.1%3=1):
  ACallsTo Tryz.prog 47 [.agg [.slice 0 0 n none,.slice 1 0 k none],.agg d.cells,.int .i64 i] [.absent,.absent] (OY n 1) ([.absent,.absent]++mZ d n i 1):=by
 have hG:aL Tryz.prog 47=some Tryz.f47:=by kernel_rfl
 obtain⟨b,b2,b3,hb⟩:∃b b2 b3,ax Tryz.f47=[b,b2,b3]:=⟨_,_,_,rfl⟩
 obtain⟨K,hK⟩:∃K,K=n+1:=⟨_,rfl⟩
 obtain⟨F,hF⟩:=kM (K:=K+5) d hd n k [bW i,49] hl (by omega) hb;have e0:Aw d n k [bW i,49] 0=[.absent,.absent,.cells true 0 [.slice 0 0 n none,.slice 1 0 k none],.cells true 0 d.cells,.cells true 0 [.nilslice,.nilslice,.nilslice],.cells true 1 eS,.cells true 1 [.str [bW i,49]],.cells true 0 [.nilslice,.slice 6 0 1 none,.nilslice]]:=rfl;have hdn:decide (0<n)=true:=by simpa using hn
 rw[oq hn,e0,hdn] at hF;have hF1:=fun env0 h=>(hF env0 h).1
 have hG4:=fun env0 h=>(hF env0 h).2.1
 have hG7:=fun env0 h=>(hF env0 h).2.2.1
 have hG6:=fun env0 h=>(hF env0 h).2.2.2.1
 have hG2:=fun env0 h=>(hF env0 h).2.2.2.2
 clear hF;obtain⟨I0,hI⟩:=uV (K:=K+5) d hd n k [bW i,49] (bo d n) (da d n) (yI d n) hn hl (by omega) hb;have hu:=fun s=>aB (aM Tryz.prog) eA dv (K+5) 102 2 true s b2
 simp only[Ax] at hI;have p1:=fun env0 df h=>(hI env0 df h).1
 have p11:=fun env0 df h=>(hI env0 df h).2.1
 have pt2:=fun env0 df h=>(hI env0 df h).2.2 2 (by simp)
 have pt4:=fun env0 df h=>(hI env0 df h).2.2 4 (by simp)
 have pt6:=fun env0 df h=>(hI env0 df h).2.2 6 (by simp)
 have pt7:=fun env0 df h=>(hI env0 df h).2.2 7 (by simp)
 have pt9:=fun env0 df h=>(hI env0 df h).2.2 9 (by simp)
 have pt10:=fun env0 df h=>(hI env0 df h).2.2 10 (by simp)
 have pt53:=fun env0 df h=>(hI env0 df h).2.2 53 (by simp)
 have pt54:=fun env0 df h=>(hI env0 df h).2.2 54 (by simp)
 clear hI;simp[ax,aV,Tryz.f47] at hb;obtain⟨rfl,rfl,rfl⟩:=hb;have hna:=So hi;have hK8:d.cells[8]? =some (.int .u8 (d.K.1:Nat)):=rfl;have t3:((d.K.1:Nat):Int).tmod 3=1:=by have:((d.K.1:Nat):Int).tmod 3=((d.K.1%3:Nat):Int):=rfl;rw[this,hJ];rfl
 have w1:IntKind.i64.wrap 1=1:=rfl;have w2:IntKind.i64.wrap 2=2:=rfl;have w3:IntKind.i64.wrap 3=3:=rfl;have z2:zS 2=[50]:=rfl;have z3:zS 3=[51]:=rfl;have w1' :IntKind.i64.wrap (1+1)=2:=rfl;have w3' :IntKind.i64.wrap (1+2)=3:=rfl;have w2' :IntKind.i64.wrap (0+2)=2:=rfl;have w0:IntKind.i64.wrap 0=0:=rfl;have hi' :(i:Int)<6:=by omega
 have h:aa (aM Tryz.prog) eA (aL Tryz.prog) dv (K+5) 47 [.agg [.slice 0 0 n none,.slice 1 0 k none],.agg d.cells,.int .i64 i] [.absent,.absent]=some ⟨OY n 1,some [.absent,.absent],mZ d n i 1⟩:=by
  simp[aa,hG,Tryz.f47,hF1,hG4,hG7,hG6,hG2,dv,hna,hi',hK8,t3,fV,Bd,Pw,S6,RQ,fm,dL,hu,dV,p1,p11,pt2,pt7,pt10,pt54,w1,w2,z2,af,cC,Nat.testBit,List.idxOf?_cons,List.idxOf?_cons,eA,OY,mZ,bj,iz,fx,bO,aH]
  repeat' (first | rfl | apply And.intro)
 have:=(al ae (aw _) qm (az _) h).1;simpa [CallRes.mem] using this
set_option maxRecDepth 8192 in
set_option maxHeartbeats 12800000 in
theorem xB(d:Deed) (hd:d.Ok) (n k i:Nat) (hi:i<6) (hn:0<n) (hl:n≤1000) (hJ:d.K.1%3=2):
  ACallsTo Tryz.prog 47 [.agg [.slice 0 0 n none,.slice 1 0 k none],.agg d.cells,.int .i64 i] [.absent,.absent] (OY n 2) ([.absent,.absent]++mZ d n i 2):=by
 have hG:aL Tryz.prog 47=some Tryz.f47:=by kernel_rfl
 obtain⟨b,b2,b3,hb⟩:∃b b2 b3,ax Tryz.f47=[b,b2,b3]:=⟨_,_,_,rfl⟩
 obtain⟨K,hK⟩:∃K,K=n+1:=⟨_,rfl⟩
 obtain⟨F,hF⟩:=kM (K:=K+5) d hd n k [bW i,49] hl (by omega) hb;have e0:Aw d n k [bW i,49] 0=[.absent,.absent,.cells true 0 [.slice 0 0 n none,.slice 1 0 k none],.cells true 0 d.cells,.cells true 0 [.nilslice,.nilslice,.nilslice],.cells true 1 eS,.cells true 1 [.str [bW i,49]],.cells true 0 [.nilslice,.slice 6 0 1 none,.nilslice]]:=rfl;have hdn:decide (0<n)=true:=by simpa using hn
 rw[oq hn,e0,hdn] at hF;have hF1:=fun env0 h=>(hF env0 h).1
 have hG4:=fun env0 h=>(hF env0 h).2.1
 have hG7:=fun env0 h=>(hF env0 h).2.2.1
 have hG6:=fun env0 h=>(hF env0 h).2.2.2.1
 have hG2:=fun env0 h=>(hF env0 h).2.2.2.2
 clear hF;obtain⟨I0,hI⟩:=uV (K:=K+5) d hd n k [bW i,49] (bo d n) (da d n) (yI d n) hn hl (by omega) hb;obtain⟨I1,hJJ⟩:=Ev (K:=K+5) d hd n k [bW i,49] [bW i,50] (bo d n) (bU d 0 (bo d n) n) (dE _ _ _ _) (Kt d n) hn hl (by omega) hb;have hu:=fun s=>aB (aM Tryz.prog) eA dv (K+5) 102 2 true s b2
 simp only[Ax] at hI;simp only[C9] at hJJ;have p1:=fun env0 df h=>(hI env0 df h).1
 have p11:=fun env0 df h=>(hI env0 df h).2.1
 have pt2:=fun env0 df h=>(hI env0 df h).2.2 2 (by simp)
 have pt4:=fun env0 df h=>(hI env0 df h).2.2 4 (by simp)
 have pt6:=fun env0 df h=>(hI env0 df h).2.2 6 (by simp)
 have pt7:=fun env0 df h=>(hI env0 df h).2.2 7 (by simp)
 have pt9:=fun env0 df h=>(hI env0 df h).2.2 9 (by simp)
 have pt10:=fun env0 df h=>(hI env0 df h).2.2 10 (by simp)
 have pt53:=fun env0 df h=>(hI env0 df h).2.2 53 (by simp)
 have pt54:=fun env0 df h=>(hI env0 df h).2.2 54 (by simp)
 have q1:=fun env0 df h=>(hJJ env0 df h).1
 have q11:=fun env0 df h=>(hJJ env0 df h).2.1
 have qt2:=fun env0 df h=>(hJJ env0 df h).2.2 2 (by simp)
 have qt4:=fun env0 df h=>(hJJ env0 df h).2.2 4 (by simp)
 have qt6:=fun env0 df h=>(hJJ env0 df h).2.2 6 (by simp)
 have qt7:=fun env0 df h=>(hJJ env0 df h).2.2 7 (by simp)
 have qt9:=fun env0 df h=>(hJJ env0 df h).2.2 9 (by simp)
 have qt10:=fun env0 df h=>(hJJ env0 df h).2.2 10 (by simp)
 have qt53:=fun env0 df h=>(hJJ env0 df h).2.2 53 (by simp)
 have qt54:=fun env0 df h=>(hJJ env0 df h).2.2 54 (by simp)
 clear hI hJJ;simp[ax,aV,Tryz.f47] at hb;obtain⟨rfl,rfl,rfl⟩:=hb;have hna:=So hi;have hK8:d.cells[8]? =some (.int .u8 (d.K.1:Nat)):=rfl;have t3:((d.K.1:Nat):Int).tmod 3=2:=by have:((d.K.1:Nat):Int).tmod 3=((d.K.1%3:Nat):Int):=rfl;rw[this,hJ];rfl
 have w1:IntKind.i64.wrap 1=1:=rfl;have w2:IntKind.i64.wrap 2=2:=rfl;have w3:IntKind.i64.wrap 3=3:=rfl;have z2:zS 2=[50]:=rfl;have z3:zS 3=[51]:=rfl;have w1' :IntKind.i64.wrap (1+1)=2:=rfl;have w3' :IntKind.i64.wrap (1+2)=3:=rfl;have w2' :IntKind.i64.wrap (0+2)=2:=rfl;have w0:IntKind.i64.wrap 0=0:=rfl;have hi' :(i:Int)<6:=by omega
 have h:aa (aM Tryz.prog) eA (aL Tryz.prog) dv (K+5) 47 [.agg [.slice 0 0 n none,.slice 1 0 k none],.agg d.cells,.int .i64 i] [.absent,.absent]=some ⟨OY n 2,some [.absent,.absent],mZ d n i 2⟩:=by
  simp[aa,hG,Tryz.f47,hF1,hG4,hG7,hG6,hG2,dv,hna,hi',hK8,t3,fV,Bd,Pw,S6,RQ,fm,dL,hu,dV,p1,p11,pt2,pt7,pt10,pt54,q1,q11,qt2,qt7,qt10,qt54,w1,w2,w3,z2,z3,af,cC,Nat.testBit,List.idxOf?_cons,List.idxOf?_cons,eA,OY,mZ,bj,iz,fx,bO,aH]
  repeat' (first | rfl | apply And.intro)
 have:=(al ae (aw _) qm (az _) h).1;simpa [CallRes.mem] using this
def aU(nm:List UInt8) (b u s:AV):List AV:=[.int .i64 1,.str nm,b,u,s,.str [],.str [],.str [],.str [],.str [],.str [],.str [],.str [],.str [],.str [],.nilslice,.str [],.str [],.str [],.str [],.str [],.str [],.str [],.str [],.str [],.int .i64 0,.int .i64 0,.int .i64 0,.int .i64 0,.str [],.str [],.str []]
def bm(nm:List UInt8) (n:Z3) (o:Int) (s:Z3):List AV:=[.int .i64 2,.str nm,.nilslice,.nilslice,.nilslice,.str (zS n.1),.str (zS n.2.1),.str (zS n.2.2),.str (zS o),.str (zS s.1),.str (zS s.2.1),.str (zS s.2.2),.str [],.str [],.str [],.nilslice,.str [],.str [],.str [],.str [],.str [],.str [],.str [],.str [],.str [],.int .i64 0,.int .i64 0,.int .i64 0,.int .i64 0,.str [],.str [],.str []]
def bt(nm:List UInt8) (n:Z3) (k:AV) (s:Z3):List AV:=[.int .i64 3,.str nm,.nilslice,.nilslice,.nilslice,.str [],.str [],.str [],.str [],.str [],.str [],.str [],.str (zS n.1),.str (zS n.2.1),.str (zS n.2.2),k,.str (zS s.1),.str (zS s.2.1),.str (zS s.2.2),.str [],.str [],.str [],.str [],.str [],.str [],.int .i64 0,.int .i64 0,.int .i64 0,.int .i64 0,.str [],.str [],.str []]
def db(nm:List UInt8) (n:Z3) (o:Int) (w:Int) (u:List UInt8):List AV:=[.int .i64 4,.str nm,.nilslice,.nilslice,.nilslice,.str [],.str [],.str [],.str [],.str [],.str [],.str [],.str [],.str [],.str [],.nilslice,.str [],.str [],.str [],.str (zS n.1),.str (zS n.2.1),.str (zS n.2.2),.str (zS o),.str (ah (hQ w)),.str u,.int .i64 0,.int .i64 0,.int .i64 0,.int .i64 0,.str [],.str [],.str []]
def cx(nm:List UInt8) (t:Int×Int×Int×Int) (c:Z3):List AV:=[.int .i64 5,.str nm,.nilslice,.nilslice,.nilslice,.str [],.str [],.str [],.str [],.str [],.str [],.str [],.str [],.str [],.str [],.nilslice,.str [],.str [],.str [],.str [],.str [],.str [],.str [],.str [],.str [],.int .i64 t.1,.int .i64 t.2.1,.int .i64 t.2.2.1,.int .i64 t.2.2.2,.str (zS c.1),.str (zS c.2.1),.str (zS c.2.2)]
def bA(i:Nat):List UInt8:=101::zS i
def gj(i:Nat):List UInt8:=107::zS i
def bn:Nat→Int×Int×Int×Int
 |0=>(1,0,0,1)
 |1=>(2,1,0,0)
 |2=>(1,1,1,1)
 |3=>(3,0,1,0)
 |4=>(0,1,0,0)
 |_=>(1,0,0,0)
def MN(m n:Nat):Nat→AV
 |0=>.agg [.slice m 0 n none,.slice (m+1) 0 1 none,.nilslice]
 |1=>.agg [.slice m 0 n none,.slice (m+1) 0 2 none,.slice (m+2) 0 1 none]
 |_=>.agg [.slice m 0 n none,.slice (m+1) 0 3 none,.slice (m+2) 0 2 none]
def gH(m:Nat) (d:Deed) (n i:Nat):Nat→Mem
 |0=>[iz (bo d n),.cells true 1 ((bj i 0).map .str)]
 |1=>[iz (bo d n),.cells true 1 ((bj i 1).map .str),.cells true 1 [.slice (m+3) 0 n none],iz (bU d 0 (bo d n) n)]
 |_=>[iz (bo d n),.cells true 1 ((bj i 2).map .str),.cells true 1 [.slice (m+3) 0 n none,.slice (m+4) 0 n none],iz (bU d 0 (bo d n) n),iz (bU d 1 (bU d 0 (bo d n) n) n)]
theorem zP(d:Deed) (hd:d.Ok) (n k i:Nat) (hi:i<6) (hn:0<n) (hl:n≤1000) (M:Mem) (b c:Nat) (hb:b<M.length) (hc:c<M.length):
  ACallsTo Tryz.prog 47 [.agg [.slice b 0 n none,.slice c 0 k none],.agg d.cells,.int .i64 i] M (MN M.length n (d.K.1%3)) (M++gH M.length d n i (d.K.1%3)):=by
 have hlt:d.K.1%3<3:=Nat.mod_lt _ (by decide);have key:∀J,d.K.1%3=J→J<3→ACallsTo Tryz.prog 47 [.agg [.slice 0 0 n none,.slice 1 0 k none],.agg d.cells,.int .i64 i] [.absent,.absent] (OY n J) ([.absent,.absent]++mZ d n i J):=by
  intro J hJ hJ3;have:J=0∨J=1∨J=2:=by omega
  rcases this with rfl | rfl | rfl
  ·exact xz d hd n k i hi hn hl hJ
  ·exact xA d hd n k i hi hn hl hJ
  ·exact xB d hd n k i hi hn hl hJ
 have h0:=key _ rfl hlt;obtain⟨J,hJ⟩:∃J,J=d.K.1%3:=⟨_,rfl⟩
 rw[←hJ] at hlt h0 ⊢;have:=ACallsTo.frame (M:=M) (new:=mZ d n i J) (args:=[.agg [.slice 0 0 n none,.slice 1 0 k none],.agg d.cells,.int .i64 i]) [b,c] (m:=[.absent,.absent]) rfl (by
  intro k hk;simp only[List.mem_cons,List.not_mem_nil,or_false] at hk;rcases hk with rfl | rfl
  ·exact hb
  ·exact hc) (by rfl) (fun i s hs=>by
  match i with
  |0=>simp at hs;subst hs;trivial
  |1=>simp at hs;subst hs;trivial
  |i+2=>simp at hs) (by
  have:J=0∨J=1∨J=2:=by omega
  rcases this with rfl | rfl | rfl<;>rfl) h0
 have hJ3:J=0∨J=1∨J=2:=by omega
 rcases hJ3 with rfl | rfl | rfl<;>simpa [AV.rens,AV.ren,ar,Slot.ren,OY,mZ,MN,gH,iz,dL,bj,Bd] using this
open Classical in
noncomputable def cX(d:Deed):Oracle:=fun c args M=>match c,args with
 |.fn 46,[.agg [.int .i8 a,.int .i8 b,.int .i8 c]]=>if dO 200 (a,b,c) then some ⟨zA (bw (a,b,c)),none,[]⟩ else none
 |.fn 48,[.agg [.str s,.str t,.str u],.agg [.str s',.str t',.str u']]=>match cV s,cV t,cV u,cV s',cV t',cV u' with
  |some a,some b,some c,some d,some e,some f=>if (a.den=1∧b.den=1∧c.den=1∧d.den=1∧e.den=1∧f.den=1)∧dO 2 (a.num,b.num,c.num)∧dO 2 (d.num,e.num,f.num) then some ⟨zA (dw (a.num,b.num,c.num) (d.num,e.num,f.num)),none,[]⟩ else none
  |_,_,_,_,_,_=>none
 |.fn 25,[.int .i64 a,.int .i64 b,.int .i64 c]=>if a.natAbs≤10000∧b.natAbs≤10000∧c.natAbs≤10000 then some ⟨zA (a,b,c),none,[]⟩ else none
 |.fn 47,[.agg [.slice b 0 n none,.slice c 0 _ none],.agg cs,.int .i64 i]=>if cs=d.cells∧0≤i∧i<6∧0<n∧n≤1000∧b<M.length∧c<M.length then some ⟨MN M.length n (d.K.1%3),none,gH M.length d n i.toNat (d.K.1%3)⟩ else none
 |c,args=>af cC c args M
theorem gn(d:Deed) (hd:d.Ok):OracleOk Tryz.prog (cX d):=by
 refine cO fun c args M r h=>?_
 unfold cX at h;split at h
 ·split at h
  ·rename_i hc
   cases h;refine ag ?_;rw[List.append_nil];exact BU _ hc M
  ·cases h
 ·split at h
  ·rename_i a b c d e f ha hb hc hd he hf
   split at h
   ·rename_i hcond
    obtain⟨⟨d1,d2,d3,d4,d5,d6⟩,c1,c2⟩:=hcond;cases h;refine ag ?_;rw[List.append_nil];rw[au ha,au hb,au hc,au hd,au he,au hf];have:=BT (a.num,b.num,c.num) (d.num,e.num,f.num) c1 c2 M;unfold zA at this;simp only at this;have k:∀q:Rat,q.den=1→zS q.num=ah q:=fun q hq=>by unfold zS;rw[←fR hq]
    rw[k a d1,k b d2,k c d3,k d d4,k e d5,k f d6] at this;exact this
   ·cases h
  ·cases h
 ·split at h
  ·rename_i hc
   cases h;refine ag ?_;rw[List.append_nil];exact xK (_,_,_) hc M
  ·cases h
 ·rename_i b n c k cs i
  split at h
  ·rename_i hc
   obtain⟨rfl,h1,h2,h3,h4,h5,h6⟩:=hc;cases h;refine ag ?_;have:=zP d hd n k i.toNat (by omega) h3 h4 M b c h5 h6;rw[Int.toNat_of_nonneg h1] at this;exact this
  ·cases h
 ·exact iu yb h
theorem Sb(d:Deed):d.cells[8]? =some (.int .u8 (d.K.1:Nat)):=rfl
theorem R7(d:Deed):d.cells[0]? =some (.int .u8 (d.kind:Nat)):=rfl
theorem R8(d:Deed):d.cells[4]? =some (.int .i8 d.B.1):=rfl
theorem R9(d:Deed):d.cells[5]? =some (.int .i8 d.B.2.1):=rfl
theorem Sa(d:Deed):d.cells[6]? =some (.int .i8 d.B.2.2):=rfl
theorem Sc(d:Deed):d.cells.tail.take 3=[.int .i8 d.A.1,.int .i8 d.A.2.1,.int .i8 d.A.2.2]:=rfl
theorem sG{v:Int×Int×Int}(h:Re v):dO 200 v:=by obtain⟨h1,h2,h3⟩:=h;unfold xh at h1 h2 h3;exact⟨by omega,by omega,by omega⟩
set_option maxRecDepth 8192 in
set_option maxHeartbeats 12800000 in
theorem vN(d:Deed) (hd:d.Ok) (n k i:Nat) (hi:i<6) (hn:0<n) (hl:n≤1000) (hk:d.kind%5=1):
  ACallsTo Tryz.prog 28 [.agg [.slice 0 0 n none,.slice 1 0 k none],.agg d.cells,.int .i64 i] [.absent,.absent] (.agg (bm (bA i) (bw d.A) (d.N.tmod 5) (dw (bw d.A) (qc d.B)))) ([.absent,.absent]++[]):=by
 have hG:aL Tryz.prog 28=some Tryz.f28:=by kernel_rfl
 obtain⟨os,hops⟩:∃os,aE Tryz.f28=os:=⟨_,rfl⟩
 have hbs:=br hops (ls:=[[0,0,2,6,14,30,63,0,255],[0,1,3,7,15,0,32,96,255,0,1023],[0,0,0,4,12,28,60,0,128,384,896,1920,0,4096,12288,28672,61440,131068,262142,524287,1048575,2097151],[0,0,0,4,12,28,60,0,128,384,896,1920,0,4096,12288,28672,61440,131068,262142,524287,1048575,2097151],[0,1,3,0,8,24,56,0,128,504,1016,0,0,6144,14336,30720,63488,129024,0,262144,786432,1835008,3932160,8126464,16777208,33554424,67108856,134217727,268435455,536870911,1073741823],[0,0,2,6,14,30,62,126,0,510,1022,2047,4095,8191],[0,0,0,0,0,0,63,0,128,384,896,2047,4095,0,8192,24576,57344,122880,0,262144,786432,1835008,3932160,0,8388608,25165824,58720256,125829120,268427264,536870911,1073741823,2147483647]]) (by kernel_rfl);simp only[aE,bC,Tryz.f28,List.nil_append,List.append_nil,List.cons_append] at hops;subst hops;simp only[List.map_cons,List.map_nil,List.cons.injEq,and_true] at hbs;obtain⟨hb0,hb1,hb2,hb3,hb4,hb5,hb6⟩:=hbs;have a08:aN [0,0,2,6,14,30,63,0,255] 8=true:=by decide
 have a110:aN [0,1,3,7,15,0,32,96,255,0,1023] 10=true:=by decide
 have a221:aN [0,0,0,4,12,28,60,0,128,384,896,1920,0,4096,12288,28672,61440,131068,262142,524287,1048575,2097151] 21=true:=by decide
 have a513:aN [0,0,2,6,14,30,62,126,0,510,1022,2047,4095,8191] 13=true:=by decide
 have a631:aN [0,0,0,0,0,0,63,0,128,384,896,2047,4095,0,8192,24576,57344,122880,0,262144,786432,1835008,3932160,0,8388608,25165824,58720256,125829120,268427264,536870911,1073741823,2147483647] 31=true:=by decide
 have hN:=hd.N;have hB:=sG hd.B;have hA:=sG hd.A;have n1:=bR d.A;have m1:=fl d.B;have q3:=lQ d.N 5 (by decide);have h8:=Sb d;have h0:=R7 d;have h4:=R8 d;have h5:=R9 d;have h6:=Sa d;have h7:=Q7 d;have h1:=Sc d;have l0:=u6 d;have r0:=fV d;have o0:=Hr d;have okd:=gn d hd;clear hd;obtain⟨kd,⟨A1,A2,A3⟩,⟨B1,B2,B3⟩,N,⟨K1,K2,K3,K4⟩⟩:=d;simp only at hk hN hB hA n1 m1 q3 h8 h0 h4 h5 h6 h7 h1 ⊢;simp only[Int.cast_ofNat_Int] at q3;unfold xh at hN;obtain⟨hB1,hB2,hB3⟩:=hB;simp only at hB1 hB2 hB3;have wN:IntKind.i64.wrap N=N:=bF (by omega) (by omega);have wB1:IntKind.i64.wrap B1=B1:=bF (by omega) (by omega);have wB2:IntKind.i64.wrap B2=B2:=bF (by omega) (by omega);have wB3:IntKind.i64.wrap B3=B3:=bF (by omega) (by omega);have hkt:((kd:Nat):Int).tmod 5=1:=by have:((kd:Nat):Int).tmod 5=((kd%5:Nat):Int):=rfl;rw[this,hk];rfl
 obtain⟨⟨nx,ny,nz⟩,e1⟩:∃v,v=bw (A1,A2,A3):=⟨_,rfl⟩
 rw[←e1] at n1;have e2:qc (B1,B2,B3)=(B1.tmod 3,B2.tmod 3,B3.tmod 3):=rfl;rw[e2] at m1;obtain⟨o,ho⟩:∃o,o=N.tmod 5:=⟨_,rfl⟩
 rw[←ho] at q3;have go:o.natAbs<100000000:=by omega
 have gi:i<100000000:=by omega
 obtain⟨bx,hbx⟩:∃o,o=B1.tmod 3:=⟨_,rfl⟩
 obtain⟨by',hby⟩:∃o,o=B2.tmod 3:=⟨_,rfl⟩
 obtain⟨bz,hbz⟩:∃o,o=B3.tmod 3:=⟨_,rfl⟩
 rw[←hbx,←hby,←hbz] at m1 e2;obtain⟨g1,g2,g3⟩:=m1;simp only at g1 g2 g3;have g1' :bx.natAbs≤10000:=by omega
 have g2' :by'.natAbs≤10000:=by omega
 have g3' :bz.natAbs≤10000:=by omega
 have m2:dO 2 (bx,by',bz):=⟨g1,g2,g3⟩;obtain⟨C,hC⟩:∃C,C=Deed.cells ⟨kd,(A1,A2,A3),(B1,B2,B3),N,(K1,K2,K3,K4)⟩:=⟨_,rfl⟩
 rw[←hC] at h8 h0 h4 h5 h6 h7 h1 l0 r0 o0;have hC' :Deed.cells ⟨kd,(A1,A2,A3),(B1,B2,B3),N,(K1,K2,K3,K4)⟩=C:=hC.symm;have tk:C.take 12=C:=List.take_of_length_le (by omega);have j8:∀h,C[8]'h=_:=fun h=>Option.some.inj ((List.getElem?_eq_getElem h).symm.trans h8)
 have j0:∀h,C[0]'h=_:=fun h=>Option.some.inj ((List.getElem?_eq_getElem h).symm.trans h0)
 have j4:∀h,C[4]'h=_:=fun h=>Option.some.inj ((List.getElem?_eq_getElem h).symm.trans h4)
 have j5:∀h,C[5]'h=_:=fun h=>Option.some.inj ((List.getElem?_eq_getElem h).symm.trans h5)
 have j6:∀h,C[6]'h=_:=fun h=>Option.some.inj ((List.getElem?_eq_getElem h).symm.trans h6)
 have j7:∀h,C[7]'h=_:=fun h=>Option.some.inj ((List.getElem?_eq_getElem h).symm.trans h7)
 have hp:=fX;have w1:IntKind.i64.wrap 1=1:=rfl;have w2:IntKind.i64.wrap 2=2:=rfl;have w3:IntKind.i64.wrap 3=3:=rfl;have w4:IntKind.i64.wrap 4=4:=rfl;have w5:IntKind.i64.wrap 5=5:=rfl;have w0:IntKind.i64.wrap 0=0:=rfl;have u12:IntKind.i64.wrap (1+1)=2:=rfl;have u13:IntKind.i64.wrap (1+2)=3:=rfl;have u14:IntKind.i64.wrap (1+3)=4:=rfl;have u15:IntKind.i64.wrap (1+4)=5:=rfl;have hip:=eW (n:=(i:Int)) (by omega);have hip' :(zS (i:Int)).length+1≤9223372036854775807:=by unfold zS;omega
 have hip2:1+(zS (i:Int)).length≤9223372036854775807:=by omega
 have h:aa (aM Tryz.prog) (fun _=>[]) (aL Tryz.prog) (cX ⟨kd,(A1,A2,A3),(B1,B2,B3),N,(K1,K2,K3,K4)⟩) 1 28 [.agg [.slice 0 0 n none,.slice 1 0 k none],.agg C,.int .i64 i] [.absent,.absent]=some ⟨(.agg (bm (bA i) (bw (A1,A2,A3)) (N.tmod 5) (dw (bw (A1,A2,A3)) (qc (B1,B2,B3))))),none,[]⟩:=by
  rw[e2,←e1,←ho];obtain⟨⟨sx,sy,sz⟩,hs⟩:∃v,v=dw (nx,ny,nz) (bx,by',bz):=⟨_,rfl⟩
  rw[←hs];simp[aa,hG,Tryz.f28,cX,af,cC,zA,l0,j0,j4,j5,j6,j7,h1,hA,←e1,hkt,wN,wB1,wB2,wB3,←ho,←hbx,←hby,←hbz,go,gi,g1',g2',g3',hp,n1,m2,w1,w2,hip2,fx,bO,aH,-aD,bX hb0,bX hb1,bX hb2,iB,ni,zG,kI,cj,mF,bef,a08,a110,a221,Nat.testBit,←hs,bm,bA]
 have:=(al ae (aw _) okd (az _) h).1;rw[←hC];simpa [CallRes.mem] using this
end Go.Proofs
