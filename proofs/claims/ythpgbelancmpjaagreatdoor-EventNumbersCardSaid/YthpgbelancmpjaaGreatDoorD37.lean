/- See D38. -/
import Derived.Test.YthpgbelancmpjaaGreatDoorD36
set_option linter.all false
set_option maxRecDepth 100000
set_option maxHeartbeats 40000000
namespace Go.Proofs
open Go.Eng
section
variable {x:afg}{s:afq}{M:Mem}{p t:Nat}{o o' :Bool}{ev:List AV}{v:V3}
end
end Go.Proofs
namespace Go.Proofs
open Go.Eng
open Tryz
theorem Gd:(aI f4).map (fun o=>dO o.toList)=[[0,0,3,0,15,0,0,127,255]]:=by kernel_rfl
def nmC(X:Nat->afl)(H:List AV)(c:Evc):Prop:=(H[0]? =some (.int .i64 c.k)/\H[24]? =some (.str c.x24))/\(c.k=1->H[3]? =some (.slice 7 0 c.U.length none)/\X 1=.cells true 1 (stC c.U))
theorem VN{k n:Int}{l:Nat}(h:k=1-> -2<=n/\n<l):(k=1/\n= -2)\/(k=1/\n= -1)\/(k=1/\∃j:Nat,n=j/\j<l)\/(k=4/\n=1)\/(k=4/\n≠1)\/(k≠1/\k≠4):=by
 by_cases Z:k=1
 .have:=h Z
  by_cases X:0<=n
  .exact .inr (.inr (.inl ⟨Z,n.toNat,by omega,by omega⟩))
  .omega
 .omega
variable{X:Nat->afl}{c:Evc}
theorem NH(s:afq)(hs:s.Ok)(C H:List AV)(hC:C.length=34)(hCc:AV.afm C=true)(hl:H.length=32)(hck:∀x∈H,x.afi=true)(I d1 J d2 W d3:Int)(p:V3)(hX:XA X)(hx:nmC X H c)(Y:∀i,AV.afn (fun b=>decide (b<11+i)) H=true)(hP:∀M,kO prog 10 [.agg [.int .i16 I,.int .u8 d1,.int .i16 J,.int .u8 d2,.int .i16 W,.int .u8 d3]] M (vA p) M)(hM:kO prog 9 [Al s 3 4,.agg C,.str [110]] (lwM s C I d1 J d2 W d3) (.agg H) (lwM s C I d1 J d2 W d3++Ai X))(hG:agk (lwM s C I d1 J d2 W d3++Ai X) (Al s 3 4) H p c):
  kO prog 4 [s.av,.agg C,.agg [.int .i16 I,.int .u8 d1,.int .i16 J,.int .u8 d2,.int .i16 W,.int .u8 d3]] [] (.bool true) []:=by
 have hF:aX prog 4=some f4:=by kernel_rfl
 have r0:=fq hCc;have o0:=ib hCc;have pO:=fun f=>ib (dX s.P) f
 have tO:=fun f=>ib (fW s.T) f
 have w0:=fun i=>(hX i).1
 have wa:∀es cs,mh (.cells true es cs)=true:=fun _ _=>rfl
 have wb:qp .qK=true:=rfl;have v0:∀i,(X i).adM (fun b=>decide (b<11))=true:=fun i=>(hX i).2 0
 have v1:∀i,(X i).adM (fun b=>decide (b<12))=true:=fun i=>(hX i).2 1
 have v2:∀i,(X i).adM (fun b=>decide (b<13))=true:=fun i=>(hX i).2 2
 have v3:∀i,(X i).adM (fun b=>decide (b<14))=true:=fun i=>(hX i).2 3
 have S:AV.afn (fun b=>decide (b<11)) H=true:=Y 0;have ev1:AV.afn (fun b=>decide (b<12)) H=true:=Y 1;have R:AV.afn (fun b=>decide (b<13)) H=true:=Y 2;have ev3:AV.afn (fun b=>decide (b<14)) H=true:=Y 3;have ev4:AV.afn (fun b=>decide (b<15)) H=true:=Y 4;have t34:C.take 34=C:=B5 (by omega);have t32:H.take 32=H:=B5 (by omega);have g1:H.all AV.afi=true:=List.all_eq_true.2 hck;obtain⟨n,⟨h1,h2⟩,h3,h4⟩:=hG;obtain⟨L,B⟩:=xE (α:=List (FuncId×List AV×(Mem->Prop)×afh)) [(7,[],(fun _=>True),⟨.bool true,none,[]⟩),(8,[s.av],(fun M=>M.length=3),⟨Al s 3 4,none,[.cells true 2 (pC s.P),.cells true 3 (tC s.T)]⟩),(9,[Al s 3 4,.agg C,.str [110]],(fun M=>M=(lwM s C I d1 J d2 W d3)),⟨.agg H,none,Ai X⟩),(10,[.agg [.int .i16 I,.int .u8 d1,.int .i16 J,.int .u8 d2,.int .i16 W,.int .u8 d3]],(fun _=>True),⟨vA p,none,[]⟩),(18,[Al s 3 4,.agg H,vA p],(fun M=>∃Z,M=(lwM s C I d1 J d2 W d3++Ai X)++Z),⟨.tuple [.int .i64 n,.int .i64 0],none,[]⟩),(17,[Al s 3 4,.agg H,vA p],(fun M=>∃Z,M=(lwM s C I d1 J d2 W d3++Ai X)++Z),⟨.int .i64 n,none,[]⟩),(19,[Al s 3 4,.agg H,.int .i64 n],(fun M=>∃Z,M=(lwM s C I d1 J d2 W d3++Ai X)++Z),⟨Ew (Mv c.k c.U c.x24 n),none,[]⟩)];have hO:qS prog (eG L):=mM fun z hz M u=>by
  rw[B] at hz;simp only[lM] at hz;rcases hz with rfl | rfl | rfl | rfl | rfl | rfl | rfl
  .exact bH (ME M)
  .have u:M.length=3:=u
   have:=MF s hs M;rw[u] at this;exact aC this
  .have u:M=_:=u
   rw[u];exact aC hM
  .exact bH (hP M)
  .obtain⟨Z,rfl⟩:=u
   exact bH (h2 Z)
  .obtain⟨Z,rfl⟩:=u
   exact bH (h1 Z)
  .obtain⟨Z,rfl⟩:=u
   exact bH (h3 Z)
 have e1:∀M,eG L (.fn 7) [] M=some ⟨.bool true,none,[]⟩:=fun M=>by rw[B];exact dU trivial
 have e2:∀M:Mem,M.length=3->eG L (.fn 8) [.agg [.int .u8 s.kind,.int .i8 s.sx,.int .i8 s.sy,.bool s.half]] M=some ⟨.agg [.slice 3 0 s.P.length none,.slice 4 0 s.T.length none],none,[.cells true 2 (pC s.P),.cells true 3 (tC s.T)]⟩:=fun M hM=>by rw[B,bN (.inl (by decide))];exact dU hM
 have G:eG L (.fn 9) [.agg [.slice 3 0 s.P.length none,.slice 4 0 s.T.length none],.agg C,.str [110]] [.cells true 0 [.int .u8 s.kind,.int .i8 s.sx,.int .i8 s.sy,.bool s.half],.cells true 0 C,.cells true 0 [.int .i16 I,.int .u8 d1,.int .i16 J,.int .u8 d2,.int .i16 W,.int .u8 d3],.cells true 2 (pC s.P),.cells true 3 (tC s.T),.cells true 0 [.slice 3 0 s.P.length none,.slice 4 0 s.T.length none]]=some ⟨.agg H,none,[X 0,X 1,X 2,X 3,X 4]⟩:=by rw[B,bN (.inl (by decide)),bN (.inl (by decide))];exact dU rfl
 have e4:∀M,eG L (.fn 10) [.agg [.int .i16 I,.int .u8 d1,.int .i16 J,.int .u8 d2,.int .i16 W,.int .u8 d3]] M=some ⟨vA p,none,[]⟩:=fun M=>by rw[B,bN (.inl (by decide)),bN (.inl (by decide)),bN (.inl (by decide))];exact dU trivial
 have F:∀Z,eG L (.fn 18) [.agg [.slice 3 0 s.P.length none,.slice 4 0 s.T.length none],.agg H,vA p] (.cells true 0 [.int .u8 s.kind,.int .i8 s.sx,.int .i8 s.sy,.bool s.half]::.cells true 0 C::.cells true 0 [.int .i16 I,.int .u8 d1,.int .i16 J,.int .u8 d2,.int .i16 W,.int .u8 d3]::.cells true 2 (pC s.P)::.cells true 3 (tC s.T)::.cells true 0 [.slice 3 0 s.P.length none,.slice 4 0 s.T.length none]::X 0::X 1::X 2::X 3::X 4::Z)=some ⟨.tuple [.int .i64 n,.int .i64 0],none,[]⟩:=fun Z=>by rw[B,bN (.inl (by decide)),bN (.inl (by decide)),bN (.inl (by decide)),bN (.inl (by decide))];exact dU ⟨Z,rfl⟩
 have D:∀Z,eG L (.fn 17) [.agg [.slice 3 0 s.P.length none,.slice 4 0 s.T.length none],.agg H,vA p] (.cells true 0 [.int .u8 s.kind,.int .i8 s.sx,.int .i8 s.sy,.bool s.half]::.cells true 0 C::.cells true 0 [.int .i16 I,.int .u8 d1,.int .i16 J,.int .u8 d2,.int .i16 W,.int .u8 d3]::.cells true 2 (pC s.P)::.cells true 3 (tC s.T)::.cells true 0 [.slice 3 0 s.P.length none,.slice 4 0 s.T.length none]::X 0::X 1::X 2::X 3::X 4::Z)=some ⟨.int .i64 n,none,[]⟩:=fun Z=>by rw[B,bN (.inl (by decide)),bN (.inl (by decide)),bN (.inl (by decide)),bN (.inl (by decide)),bN (.inl (by decide))];exact dU ⟨Z,rfl⟩
 have V:∀Z,eG L (.fn 19) [.agg [.slice 3 0 s.P.length none,.slice 4 0 s.T.length none],.agg H,.int .i64 n] (.cells true 0 [.int .u8 s.kind,.int .i8 s.sx,.int .i8 s.sy,.bool s.half]::.cells true 0 C::.cells true 0 [.int .i16 I,.int .u8 d1,.int .i16 J,.int .u8 d2,.int .i16 W,.int .u8 d3]::.cells true 2 (pC s.P)::.cells true 3 (tC s.T)::.cells true 0 [.slice 3 0 s.P.length none,.slice 4 0 s.T.length none]::X 0::X 1::X 2::X 3::X 4::Z)=some ⟨Ew (Mv c.k c.U c.x24 n),none,[]⟩:=fun Z=>by rw[B,bN (.inl (by decide)),bN (.inl (by decide)),bN (.inl (by decide)),bN (.inl (by decide)),bN (.inl (by decide)),bN (.inl (by decide))];exact dU ⟨Z,rfl⟩
 obtain⟨O,hOe⟩:=xE (eG L);rw[<-hOe] at hO e1 e2 G e4 F D V;clear hOe B h1 h2 h3 hM hP;unfold vA at*;obtain⟨os,D'⟩:∃os,aI f4=os:=⟨_,rfl⟩
 have UV:=cG D' Gd;simp only[aI,ca,f4,List.nil_append,List.append_nil] at D';subst D';simp only[lB] at UV;have P':=UV;obtain⟨⟨o,m⟩,q1⟩:=hx;have N:∀{i:Nat}{x:AV}(h:H[i]? =some x),∃hi,H[i]'hi=x:=fun h=>Ns.1 h
 generalize c.k=k at o q1 h4 V;generalize c.U=U at q1 h4 V;generalize c.x24=du at m V;obtain⟨_,o⟩:=N o;obtain⟨_,m⟩:=N m;have sU:=fun f=>ib (ea U) f
 have hr:∃new,cE (bd prog) (fun _=>[]) (aX prog) O 1 4 [s.av,.agg C,.agg [.int .i16 I,.int .u8 d1,.int .i16 J,.int .u8 d2,.int .i16 W,.int .u8 d3]] []=some (.bool true,[]++new):=by
  have w2:IntKind.i64.wrap (-2)= -2:=rfl;rcases VN h4 with⟨rfl,rfl⟩ | ⟨rfl,rfl⟩ | ⟨rfl,j,rfl,hj⟩ | ⟨rfl,rfl⟩ | ⟨rfl,hn⟩ | ⟨k1,k4⟩
  .have K:Mv 1 U du (-2)=some []:=by simp[Mv]
   simp only[K,Ew] at V;obtain⟨q3,q7⟩:=q1 rfl;obtain⟨_,q3⟩:=N q3;simp only[q7] at G F D V;simp (maxSteps:=1000000) [-AV.afi,-AV.known,-List.all_eq_true,-afl.adM,vS,rS,cE,hF,f4,afq.av,e1,e2,G,e4,F,D,V,hC,o0,w0,wa,wb,v0,S,R,t34,t32,hl,g1,-aG,aY P',cq,cc,ke,dW,cK,cS,gB,bef,Nat.testBit,o,sU]
  .have K:Mv 1 U du (-1)=none:=by simp[Mv]
   simp only[K,Ew] at V;obtain⟨q3,q7⟩:=q1 rfl;obtain⟨_,q3⟩:=N q3;simp only[q7] at G F D V;simp (maxSteps:=1000000) [-AV.afi,-AV.known,-List.all_eq_true,-afl.adM,vS,rS,cE,hF,f4,afq.av,e1,e2,G,e4,F,D,V,hC,o0,w0,wa,wb,v0,S,R,t34,t32,hl,g1,-aG,aY P',cq,cc,ke,dW,cK,cS,gB,bef,Nat.testBit,o,sU]
  .have j0:¬(j:Int)= -2:=by omega
   have j1:0<=(j:Int):=by omega
   have j2:(stC U)[j]? =some (.str (U.getD j [])):=by simp[stC,List.getD,hj]
   have K:Mv 1 U du (j:Int)=some (U.getD j []):=by simp[Mv,j0]
   simp only[K,Ew] at V;obtain⟨q3,q7⟩:=q1 rfl;obtain⟨_,q3⟩:=N q3;simp only[q7] at G F D V;simp (maxSteps:=1000000) [-AV.afi,-AV.known,-List.all_eq_true,-afl.adM,vS,rS,cE,hF,f4,afq.av,e1,e2,G,e4,F,D,V,hC,o0,w0,wa,wb,v0,S,R,t34,t32,hl,g1,-aG,aY P',cq,cc,ke,dW,cK,cS,gB,bef,Nat.testBit,o,q3,sU,j0,j1,j2,hj]
  .have K:Mv 4 U du 1=some du:=by simp[Mv]
   simp only[K,Ew] at V;simp (maxSteps:=1000000) [-AV.afi,-AV.known,-List.all_eq_true,-afl.adM,vS,rS,cE,hF,f4,afq.av,e1,e2,G,e4,F,D,V,hC,o0,w0,wa,wb,v0,S,R,t34,t32,hl,g1,-aG,aY P',cq,cc,ke,dW,cK,cS,gB,bef,Nat.testBit,o,m]
  .have K:Mv 4 U du n=none:=by simp[Mv,hn]
   simp only[K,Ew] at V;simp (maxSteps:=1000000) [-AV.afi,-AV.known,-List.all_eq_true,-afl.adM,vS,rS,cE,hF,f4,afq.av,e1,e2,G,e4,F,D,V,hC,o0,w0,wa,wb,v0,S,R,t34,t32,hl,g1,-aG,aY P',cq,cc,ke,dW,cK,cS,gB,bef,Nat.testBit,o,hn]
  .have K:Mv k U du n=none:=by simp[Mv,k1,k4]
   simp only[K,Ew] at V;simp (maxSteps:=1000000) [-AV.afi,-AV.known,-List.all_eq_true,-afl.adM,vS,rS,cE,hF,f4,afq.av,e1,e2,G,e4,F,D,V,hC,o0,w0,wa,wb,v0,S,R,t34,t32,hl,g1,-aG,aY P',cq,cc,ke,dW,cK,cS,gB,bef,Nat.testBit,o,k1,k4]
 obtain⟨new,hr⟩:=hr;exact kO.forget rfl (cL aj (aJ _) hO (aM _) hr)
theorem Tryz.agk.pad{M:Mem}{mv:AV}{H:List AV}{p:V3}(h:agk M mv H p c)(Z:Mem):agk (M++Z) mv H p c:=by obtain⟨n,⟨V,U⟩,h3,S⟩:=h;exact⟨n,⟨fun Y=>by rw[Y1];exact V _,fun Y=>by rw[Y1];exact U _⟩,fun Y=>by rw[Y1];exact h3 _,S⟩
theorem XQ{x:afg}{n k:Nat}(e:Om 6 x n++List.replicate k .qK=Ai X):nmC X (Vy 6 x n) (cSk x n):=by
 refine⟨⟨rfl,rfl⟩,fun h=>?_⟩;have Z:x.kind%5=0:=by
  rcases pI x.kind with h' | h' | h' | h' | h'
  .exact h'
  .rw[Ym h'] at h;exact absurd (show(2:Int)=1 from h) (by decide)
  .rw[Yn h'] at h;exact absurd (show(3:Int)=1 from h) (by decide)
  .rw[Yo h'] at h;exact absurd (show(4:Int)=1 from h) (by decide)
  .rw[Yp h'] at h;exact absurd (show(5:Int)=1 from h) (by decide)
 have V:(uNm (ctN x)).length=ctN x:=He (ir x);unfold Vy;rw[Yl Z];unfold Om at e;rw[if_pos Z] at e;refine⟨?_,?_⟩
 .simp only[Z,if_true,Evc.cells]
  show some (AV.slice 7 0 (ctN x) none)=some (.slice 7 0 (uNm (ctN x)).length none)
  rw[V]
 .have:(dqN 6 x n (ctN x)++List.replicate k .qK)[1]? =some (X 1):=by rw[e];rfl
  rcases ir x with h3 | h3 | h3<;>rw[h3] at this |-<;>exact(ZQ this).symm
theorem vz(s:afq)(hs:s.Ok)(x:afg)(H:x.Ok)(pl:Pl)(I:Yt pl):kO prog 4 [s.av,.agg x.cells,.agg (plC pl)] [] (.bool true) []:=by
 obtain⟨O,L⟩:=lI s;obtain⟨M,Z⟩:=xE (lwM s x.cells pl.1.1 (pl.1.2:Int) pl.2.1.1 (pl.2.1.2:Int) pl.2.2.1 (pl.2.2.2:Int));have U:=H7 x H s.P.length s.T.length O L M 3 4 (by rw[Z];show 3<6;omega) (by rw[Z];show 4<6;omega);have S:=QB (x:=x) (s:=s) (M:=M) (p:=3) (t:=4) (o:=true) (o' :=true) (XW I) (by rw[Z];rfl) (by rw[Z];rfl);have V:=SU x s.P.length O M;have N:M.length=6:=by rw[Z];rfl
 rw[N] at U S V;obtain⟨X,k,K,e⟩:=W4 (x:=x) (n:=s.P.length);have U:=U.pad k;have S:=S.pad (List.replicate k .qK);have V:=V.more (List.replicate k .qK);rw[Y1,e] at U S V;have G:(M++Ai X).length=11:=by rw[SP,N];rfl
 have R:=fun i=>V.refs i
 rw[G] at R;subst Z;exact NH s hs _ _ (afg.afo H) x.closed V.l32 V.cok _ _ _ _ _ _ _ K (XQ e) R (fun M=>HM pl I M) U S
end Go.Proofs
