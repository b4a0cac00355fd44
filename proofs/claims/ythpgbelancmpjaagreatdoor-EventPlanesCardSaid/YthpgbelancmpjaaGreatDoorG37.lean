/- See G38. -/
import Derived.Test.YthpgbelancmpjaaGreatDoorG36
import Derived.Test.YthpgbelancmpjaaGreatDoorRows
import Derived.Test.YthpgbelancmpjaaGreatDoorTie
import Derived.Test.YthpgbelancmpjaaGreatDoorCards
import Derived.ProofKit
import Derived.LaidMore
import Derived.OpenShut
import Derived.ChangeSame
import Derived.ChangeVars
import Derived.JoinedOf
import Derived.RowKit
import Derived.LaidLaws
import Derived.LaidHandle
import Derived.MakeChecks
import Derived.Deep.SlicePairs
import Derived.Carry
import Derived.Stop.Joined
import Derived.SevenTiedAt
import Derived.Deep.Slices
set_option linter.all false
set_option maxRecDepth 100000
set_option maxHeartbeats 40000000
namespace Go.Proofs
open Go.Eng
open Tryz
theorem Nk(s:afv)(hs:s.Ok)(C ev:List AV)(hC:C.length=34)(hCc:AV.afr C=true)(hl:ev.length=32)(hck:∀x∈ev,x.afp=true)(H d1 I d2 J d3:Int)(p:V3){X:Nat->afq}(hX:X8 X){x:adM}(Y:∀i,AV.afs (fun b=>decide (b<11+i)) ev=true)(hv:vDg 5 p)(hk0:ev[0]? =some (.int .i64 (cSk x s.P.length).k))(hP:∀M,kO prog 10 [.agg [.int .i16 H,.int .u8 d1,.int .i16 I,.int .u8 d2,.int .i16 J,.int .u8 d3]] M (vA p) M)(hM:kO prog 9 [nt s 3 4,.agg C,.str [110]] (lwM s C H d1 I d2 J d3) (.agg ev) (lwM s C H d1 I d2 J d3++Ef X))(hE:agc (lwM s C H d1 I d2 J d3++Ef X) ev (cSk x s.P.length)):
  kO prog 3 [s.av,.agg C,.agg [.int .i16 H,.int .u8 d1,.int .i16 I,.int .u8 d2,.int .i16 J,.int .u8 d3]] [] (.bool true) []:=by
 have hF:aZ prog 3=some f3:=by kernel_rfl
 have hT:=mq s;have r0:=fl hCc;have o0:=ig hCc;have pO:=fun f=>ig (ea s.P) f
 have tO:=fun f=>ig (fY s.T) f
 have w0:=fun i=>(hX i).1
 have wa:∀es cs,ma (.cells true es cs)=true:=fun _ _=>rfl
 have wb:qt .qK=true:=rfl;have v0:∀i,(X i).afm (fun b=>decide (b<11))=true:=fun i=>(hX i).2 0
 have v1:∀i,(X i).afm (fun b=>decide (b<12))=true:=fun i=>(hX i).2 1
 have v2:∀i,(X i).afm (fun b=>decide (b<13))=true:=fun i=>(hX i).2 2
 have v3:∀i,(X i).afm (fun b=>decide (b<14))=true:=fun i=>(hX i).2 3
 have ev0:AV.afs (fun b=>decide (b<11)) ev=true:=Y 0;have ev1:AV.afs (fun b=>decide (b<12)) ev=true:=Y 1;have ev2:AV.afs (fun b=>decide (b<13)) ev=true:=Y 2;have ev3:AV.afs (fun b=>decide (b<14)) ev=true:=Y 3;have ev4:AV.afs (fun b=>decide (b<15)) ev=true:=Y 4;have t34:C.take 34=C:=B5 (by omega);have t32:ev.take 32=ev:=B5 (by omega);have g1:ev.all AV.afp=true:=List.all_eq_true.2 hck;have w1:IntKind.i64.wrap (-1)= -1:=rfl;obtain⟨N,m⟩:=xE (α:=Mem) (lwM s C H d1 I d2 J d3++Ef X++[.cells true 0 ev,.cells true 0 (vL p)]);have m3:N[3]? =some (.cells true 2 (pC s.P)):=by rw[m];rfl
 have m4:N[4]? =some (.cells true 3 (tC s.T)):=by rw[m];rfl
 have R:agc N ev (cSk x s.P.length):=by rw[m];exact hE.more _
 have hq5:pDg 5 (p.1,p.2.1):=⟨hv.1,hv.2.1⟩;have c1:=gB (hv.1.mono (n' :=200) (d' :=200) (by omega) (by omega));have c2:=gB (hv.2.1.mono (n' :=200) (d' :=200) (by omega) (by omega));obtain⟨w,F,hLo,aam⟩:=Fw (TH s hq5) (fun N ⟨o,h1⟩ ⟨o',h2⟩=>oG s N 3 4 o o' h1 h2) ⟨by simp[vo,c1,c2],jW hv.1 (by omega) (by omega),jW hv.2.1 (by omega) (by omega)⟩ m3 m4;obtain⟨W,hW⟩:=xE (mM s.P (p.1,p.2.1) s.T 0);have hWl:W.length<=1000:=by rw[hW];have:=EP (P:=s.P) (q:=(p.1,p.2.1)) (T:=s.T) (k:=0);omega
 rw[<-hW] at aam;obtain⟨L,B⟩:=xE (α:=List (FuncId×List AV×(Mem->Prop)×afl)) [(7,[],(fun _=>True),⟨.bool true,none,[]⟩),(8,[s.av],(fun M=>M.length=3),⟨nt s 3 4,none,[.cells true 2 (pC s.P),.cells true 3 (tC s.T)]⟩),(9,[nt s 3 4,.agg C,.str [110]],(fun M=>M=(lwM s C H d1 I d2 J d3)),⟨.agg ev,none,Ef X⟩),(10,[.agg [.int .i16 H,.int .u8 d1,.int .i16 I,.int .u8 d2,.int .i16 J,.int .u8 d3]],(fun _=>True),⟨vA p,none,[]⟩),(11,[nt s 3 4,.agg ev,.int .i64 (-1)],(fun M=>∃Z,M=N++Z),⟨.tuple [.qF,.int .i64 3],none,[]⟩),(11,[nt s 3 4,.agg ev,.int .i64 (s.T.length:Int)],(fun M=>∃Z,M=N++Z),⟨.tuple [.qF,.int .i64 3],none,[]⟩),(12,[nt s 3 4,pA (p.1,p.2.1)],(fun M=>M=N),⟨.tuple [w,.int .i64 0],none,F⟩),(13,[.agg ev],(fun M=>∃Z,M=N++Z),⟨.int .i64 ((plS s x 0).length:Int),none,[]⟩),(17,[nt s 3 4,.agg ev,vA p],(fun M=>∃Z,M=N++Z),⟨.int .i64 (VY s x p),none,[]⟩)];have hO:qS prog (y9.or (fD L) (jV (iM s x ev p 3 4))):=qS.or (pH fun z hz M K=>by
  rw[B] at hz;simp only[lM] at hz;rcases hz with rfl | rfl | rfl | rfl | rfl | rfl | rfl | rfl | rfl
  .exact bz (MK M)
  .have K:M.length=3:=K
   have:=ML s hs M;rw[K] at this;exact au this
  .have K:M=_:=K
   rw[K];exact au hM
  .exact bz (hP M)
  .obtain⟨Z,rfl⟩:=K
   exact bz (HY (Bm s x) (fm m3 Z) (fm m4 Z) (R.more Z) (i:= -1) (.inl (by decide)))
  .obtain⟨Z,rfl⟩:=K
   exact bz (HY (Bm s x) (fm m3 Z) (fm m4 Z) (R.more Z) (i:=(s.T.length:Int)) (.inr (Int.le_refl _)))
  .have K:M=_:=K
   rw[K];exact au hLo
  .obtain⟨Z,rfl⟩:=K
   exact bz (HH (R.more Z))
  .obtain⟨Z,rfl⟩:=K
   exact bz (NI hv (fm m3 Z) (fm m4 Z) (R.more Z))) (KA hv)
 have T:=fun(f:FuncId) (a:List AV) (M:Mem) (h:f≠7/\f≠8/\f≠9/\f≠10)=>show y9.or (fD L) (jV (iM s x ev p 3 4)) (.fn f) a M=y9.or (fD (L.drop 4)) (jV (iM s x ev p 3 4)) (.fn f) a M by rw[B,ff (.inl (Ne.symm h.1)),ff (.inl (Ne.symm h.2.1)),ff (.inl (Ne.symm h.2.2.1)),ff (.inl (Ne.symm h.2.2.2))];rfl
 have U:=fun(f:FuncId) (a:List AV) (M:Mem) (h:f≠11/\f≠12/\f≠13/\f≠17)=>show y9.or (fD (L.drop 4)) (jV (iM s x ev p 3 4)) (.fn f) a M=jV (iM s x ev p 3 4) (.fn f) a M by rw[B];simp only[List.drop_succ_cons,List.drop_zero];rw[ff (.inl (Ne.symm h.1)),ff (.inl (Ne.symm h.1)),ff (.inl (Ne.symm h.2.1)),ff (.inl (Ne.symm h.2.2.1)),ff (.inl (Ne.symm h.2.2.2)),OB]
 have ne1:∀i:Int,0<=i->([nt s 3 4,.agg ev,.int .i64 i]:List AV)≠[nt s 3 4,.agg ev,.int .i64 (-1)]:=fun i h0 h=>by simp only[List.cons.injEq,AV.int.injEq,true_and,and_true] at h;omega
 have ne2:∀j:Nat,j<s.T.length->([nt s 3 4,.agg ev,.int .i64 (j:Int)]:List AV)≠[nt s 3 4,.agg ev,.int .i64 (s.T.length:Int)]:=fun j h0 h=>by simp only[List.cons.injEq,AV.int.injEq,true_and,and_true] at h;omega
 have dr:L.drop 4=[(11,[nt s 3 4,.agg ev,.int .i64 (-1)],(fun M=>∃Z,M=N++Z),⟨.tuple [.qF,.int .i64 3],none,[]⟩),(11,[nt s 3 4,.agg ev,.int .i64 (s.T.length:Int)],(fun M=>∃Z,M=N++Z),⟨.tuple [.qF,.int .i64 3],none,[]⟩),(12,[nt s 3 4,pA (p.1,p.2.1)],(fun M=>M=N),⟨.tuple [w,.int .i64 0],none,F⟩),(13,[.agg ev],(fun M=>∃Z,M=N++Z),⟨.int .i64 ((plS s x 0).length:Int),none,[]⟩),(17,[nt s 3 4,.agg ev,vA p],(fun M=>∃Z,M=N++Z),⟨.int .i64 (VY s x p),none,[]⟩)]:=by rw[B];rfl
 obtain⟨O,S⟩:=xE (y9.or (fD L) (jV (iM s x ev p 3 4)));have e1:∀M,O (.fn 7) [] M=some ⟨.bool true,none,[]⟩:=fun M=>by rw[S,B];exact qm trivial
 have e2:∀M:Mem,M.length=3->O (.fn 8) [.agg [.int .u8 s.kind,.int .i8 s.sx,.int .i8 s.sy,.bool s.half]] M=some ⟨.agg [.slice 3 0 s.P.length none,.slice 4 0 s.T.length none],none,[.cells true 2 (pC s.P),.cells true 3 (tC s.T)]⟩:=fun M hM=>by rw[S,B,ff (.inl (by decide))];exact qm hM
 have e3:O (.fn 9) [.agg [.slice 3 0 s.P.length none,.slice 4 0 s.T.length none],.agg C,.str [110]] [.cells true 0 [.int .u8 s.kind,.int .i8 s.sx,.int .i8 s.sy,.bool s.half],.cells true 0 C,.cells true 0 [.int .i16 H,.int .u8 d1,.int .i16 I,.int .u8 d2,.int .i16 J,.int .u8 d3],.cells true 2 (pC s.P),.cells true 3 (tC s.T),.cells true 0 [.slice 3 0 s.P.length none,.slice 4 0 s.T.length none]]=some ⟨.agg ev,none,[X 0,X 1,X 2,X 3,X 4]⟩:=by rw[S,B,ff (.inl (by decide)),ff (.inl (by decide))];exact qm rfl
 have e4:∀M,O (.fn 10) [.agg [.int .i16 H,.int .u8 d1,.int .i16 I,.int .u8 d2,.int .i16 J,.int .u8 d3]] M=some ⟨vA p,none,[]⟩:=fun M=>by rw[S,B,ff (.inl (by decide)),ff (.inl (by decide)),ff (.inl (by decide))];exact qm trivial
 have e5:O (.fn 11) [nt s 3 4,.agg ev,.int .i64 (-1)] N=some ⟨.tuple [.qF,.int .i64 3],none,[]⟩:=by rw[S,T _ _ _ (by decide),dr];exact qm ⟨[],by rw[List.append_nil]⟩
 have e6:O (.fn 11) [nt s 3 4,.agg ev,.int .i64 (s.T.length:Int)] N=some ⟨.tuple [.qF,.int .i64 3],none,[]⟩:=by rw[S,T _ _ _ (by decide),dr,TZ (ne1 _ (by omega))];exact qm ⟨[],by rw[List.append_nil]⟩
 have e7:O (.fn 12) [nt s 3 4,.agg [.str (aq p.1),.str (aq p.2.1)]] N=some ⟨.tuple [w,.int .i64 0],none,F⟩:=by rw[S,T _ _ _ (by decide),dr,ff (.inl (by decide)),ff (.inl (by decide))];exact qm rfl
 have hEp:ah1 O (N++F) (.slice 3 0 s.P.length none) 4 s.T.length ev p W (cSk x s.P.length).k (VY s x p) (plS s x):=by
  refine⟨fun j u Z=>?_,fun j u Z=>?_,fun j u y hy Z=>?_,fun Z=>?_,fun j u=>?_,fun j u h=>Xg u (by rw[<-hW];exact h)⟩
  .obtain⟨w',V,h1,h2⟩:=KC (v:=p) m3 m4 R u (F++Z)
   rw[<-QQQ] at h1 h2;refine⟨w',V,?_,h2⟩;show O (.fn 11) [nt s 3 4,.agg ev,.int .i64 (j:Int)] _=_
   rw[S,T _ _ _ (by decide),dr,TZ (ne1 (j:Int) (by omega)),TZ (ne2 j u),ff (.inl (by decide)),ff (.inl (by decide)),ff (.inl (by decide)),OB];exact h1
  .rw[S,T _ _ _ (by decide),dr,ff (.inl (by decide)),ff (.inl (by decide)),ff (.inl (by decide)),Xj j 0]
   exact qm ⟨F++Z,by rw[QQQ]⟩
  .have:=KB (x:=x) (ev:=ev) (v:=p) (p:=3) (t:=4) (N:=N++F) u y hy Z
   rw[S,T _ _ _ (by decide),T _ _ _ (by decide),T _ _ _ (by decide),U _ _ _ (by decide),U _ _ _ (by decide),U _ _ _ (by decide)];exact this
  .rw[S,T _ _ _ (by decide),dr,ff (.inl (by decide)),ff (.inl (by decide)),ff (.inl (by decide)),ff (.inl (by decide))]
   exact qm ⟨F++Z,by rw[QQQ]⟩
  .exact Yt j
 rw[<-S] at hO;clear S B dr T U ne1 ne2 hM hP hLo hE R;obtain⟨b,b1,b2,hb,Zz,aa1,aa2⟩:=DV;obtain⟨G,hG⟩:=KD (N:=N++F) (bm:=5) (be:=11) (bp:=12) (w0:=w) hb Zz aa1 aa2 hEp rfl hl g1 hk0 (by rw[m];rfl) (by rw[m];rfl) (by rw[m];rfl) (by simpa using aam) hWl hT 0;clear hEp Zz aa1 aa2;obtain⟨os,F'⟩:∃os,aJ f3=os:=⟨_,rfl⟩
 have X':=cG F' yY;simp only[aJ,cB,f3,lA] at F';subst F';simp only[lB] at X';obtain⟨UV,_⟩:=X';have hr:∃new,cI (aX prog) cE (aZ prog) O 1100 3 [s.av,.agg C,.agg [.int .i16 H,.int .u8 d1,.int .i16 I,.int .u8 d2,.int .i16 J,.int .u8 d3]] []=some (.bool true,[]++new):=by simp[ag,aE,f3] at hb;obtain⟨hb,hb1,ZV⟩:=hb;subst hb1 ZV hb;unfold vA at*;subst m;unfold lwM Ef vL nt at*;simp only[List.cons_append,List.nil_append] at e5 e6 e7 hG;simp (maxSteps:=1000000) [-AV.afp,-AV.known,-List.all_eq_true,-afq.afm,vS,rS,cI,hF,f3,afv.av,e1,e2,e3,e4,e5,e6,e7,hG,hC,o0,w0,wa,wb,v0,ev0,ev2,t34,t32,hl,g1,cj,aH,-aR,bW UV,dq,dZ,Oh,fT,dD,dR,jB,bef,Nat.testBit]
 obtain⟨new,hr⟩:=hr;exact kO.forget rfl (cf aj (aI _) hO (aQ _) hr)
theorem xu(s:afv)(hs:s.Ok)(x:adM)(H:x.Ok)(pl:Pl)(I:YN pl):kO prog 3 [s.av,.agg x.cells,.agg (plC pl)] [] (.bool true) []:=by
 obtain⟨R,N⟩:=lH s;obtain⟨M,Z⟩:=xE (lwM s x.cells pl.1.1 (pl.1.2:Int) pl.2.1.1 (pl.2.1.2:Int) pl.2.2.1 (pl.2.2.2:Int));have U:=Im x H s.P.length s.T.length R N M 3 4 (by rw[Z];show 3<6;omega) (by rw[Z];show 4<6;omega);have V:=W3 x s.P.length R M;have O:M.length=6:=by rw[Z];rfl
 rw[O] at U V;obtain⟨X,k,L,e⟩:=Xh (x:=x) (n:=s.P.length);have U:=U.pad k;have V:=V.more (List.replicate k .qK);rw[QQQ,e] at U V;have K:(M++Ef X).length=11:=by rw[Qs,O];rfl
 have S:=fun i=>V.refs i
 rw[K] at S;subst Z;exact Nk s hs _ _ (adM.aft H) x.closed V.l32 V.cok _ _ _ _ _ _ _ L S (Yr I) (XR s.P.length).2 (fun M=>HZ pl I M) U V
end Go.Proofs
namespace Go.Proofs.YthpgbelancmpjaaGreatDoor
open Go.ChangeShapes Go.WideShapes Go.ChangeAt Go.WideMaps Go.WideElems Go.RowKit Go.Eng
theorem own:ownKnob Tryz.prog.godebug=none:=by kernel_rfl
theorem Oq:laidOutB Tryz.prog=true:=by kernel_rfl
def pK:List (String×DataW Unit):=Rows.eventNumbersRow.laid
theorem VH(os:Os)(args:Array Value):laidMetH Tryz.prog pK ((World.doorLaid Tryz.prog 400 os).forCall (fun _ _=>0) ⟨#[],args,[]⟩).memory:=
 laidMetH_of_parts3 (fuel:=8) (laidMet_of_run' 8 (by kernel_rfl) (by kernel_rfl)) (by kernel_rfl) (by kernel_rfl)
theorem Wh:yo=(pK.getD 2 ("",.nil)).1:=by kernel_rfl
variable{W:World}
theorem LP(h:laidMetH Tryz.prog pK W):GOk Tryz.prog W.heap.size W:=by
 rw[MakeChecks.laidMetH_plain _ _ _ (by kernel_rfl)] at h;obtain⟨ps,⟨g0,t0,M,f0,p0,q0,L,K,G,F,⟨C,t1,B,f1,p1,q1,X,u,Z,o,⟨m,t2,V,f2,p2,q2,j,U,S,R,_,_⟩,_⟩,_⟩,_,_⟩:=h;constructor
 .have e1:Tryz.prog.globals.size=6:=by kernel_rfl
  have O:Tryz.prog.globalNamed (pK.getD 1 ("",.nil)).1=some 5:=by kernel_rfl
  have N:C=5:=(QQX (X.symm.trans O));subst N;have:=World.var?_cell X Z;unfold World.var? at Z;rw[X] at Z;simp only[Option.bind_some] at Z;split at Z
  .rename_i Y
   have:=(Nm.1 Y).1;omega
  .cases Z
 .have O:Tryz.prog.globalNamed (pK.getD 2 ("",.nil)).1=some 3:=by kernel_rfl
  have N:m=3:=(QQX (j.symm.trans O));subst N;have J:(Tryz.prog.globals[3]?).map (·.type)=some 344:=by kernel_rfl
  have I:t2=344:=(QQX (U.symm.trans J));subst I;have H:Tryz.prog.underlying 344=some (.array 20 293):=by kernel_rfl
  have e7:Tryz.prog.underlying 293=some (.int .u64):=by kernel_rfl
  have hc:=Lib.cells_of_tab (k:=.u64) (zs:=Lib.pow10Tab) H e7 (by kernel_rfl) (by kernel_rfl) R;have e8:W.var? Tryz.prog yo=W.var? Tryz.prog (pK.getD 2 ("",.nil)).1:=by rw[Wh]
  have e9:V=(Lib.pow10Tab.map fun z=>Value.int .u64 z).toArray:=by rw[<-hc]
  unfold Lib.TabIs;rw[e8,<-e9];exact S
theorem Xa{w w' :World}{H :Mem}{μ μ' :Nat->Eng.Place}{mem:Mem}{m0:Nat}(h:Step m0 μ mem w μ' H w')(I:∀b,¬eG mem b):Below w.heap.size w w' :=
 ⟨h.os,h.tape,h.output,h.size,fun k Z=>h.frame k Z fun b X=>absurd X (I b)⟩
theorem T5{H:Type}{enc:TypeId×Value->H}{f:Func}{s:ChangeSpec}{acf J abE ac':Bool}{W' :World}{args:Array Value}{I gs:List (DataW H)}{Y p:List MemPlace}(hsv:s.vars=[])(hW:DataW.Whole enc Tryz.prog f.params.toList s.vars acf W args.toList I gs Y)(hb:Below W.heap.size W W')(hp:Y=p)(hg:gs=[])(hrt:f.resultTypes= #[4])(hs:s.fn H I={ results:=[.lit (.bool true)],args:=I })(O:∀Z:Nat->Bool,(∀x∈Y,Z x.block=true)->DataW.TrodAll enc Tryz.prog W' 0 Z true f.params.toList args.toList I p):
  s.post enc Tryz.prog f acf J abE ac' W args (.bool true) W' :=by
 subst hg;have L:∀p∈Y,(fun b=>decide (b<W.heap.size)) p.block=true:=fun p hp=>by simpa using hW.lt p hp
 have N:∀(b:Nat) (Z:Nat->Bool) (M:Bool),DataW.TrodAll enc Tryz.prog W' b Z M f.resultTypes.toList ((Value.bool true).resultList f.resultTypes.size) (s.fn H (I++[])).results []:=by intro b Z M;rw[List.append_nil,hs,hrt];exact trodAll_mk1 (shut_bool Tryz.underlying4 _)
 have U :∀Z:Nat->Bool,(∀x∈Y,Z x.block=true)->DataW.TrodAll enc Tryz.prog W' 0 Z true f.params.toList args.toList (s.fn H (I++[])).args p:=by intro Z h;rw[List.append_nil,hs];exact O Z h
 have S:∀Z:Nat->Bool,DataW.TrodVars enc Tryz.prog W' Z s.vars (s.fn H (I++[])).vars []:=by intro Z;rw[List.append_nil,hs,hsv];exact rfl
 refine⟨I,[],Y,[],p,[],hW,N _ _ _,U _ L,S _,World.keptBut_mono (fun q X=>⟨X,?_⟩) (hb.frame _),fun _=>?_⟩
 .rw[hp] at X
  exact Or.inr (Or.inl X)
 .have K:=hW.lt
  obtain⟨_,_,_,_,_,G,F⟩:=hW;refine⟨ok_one hrt rfl (okWide_bool_mk Tryz.underlying4 _),_,_,([]++p)++[],⟨[]++p,[],trodAll_append (U _ (fun _ _=>rfl)) (N _ _ _),S _,rfl,?_,?_⟩,?_⟩
  .intro b V X
   have R :MemPlace.cell b V∈Y:=by rw[hp];simpa using X
   rw[hb.frozen (p:=⟨b,V,none⟩) (K _ R)];exact G b V R
  .intro C
   have:=F C;rw[hp] at this;simpa using this
  .intro q X _
   rw[hp];simpa using X
end Go.Proofs.YthpgbelancmpjaaGreatDoor
namespace Go.Proofs.YthpgbelancmpjaaGreatDoor
open Go.ChangeShapes Go.WideShapes Go.ChangeAt Go.WideMaps Go.WideElems Go.RowKit Go.Eng
theorem TQ:∀b,¬eG [] b:=by rintro b ⟨s,hs,_⟩;simp at hs
theorem Rq(W:World):afA W.heap.size (fun _=>⟨0,0,0,0⟩) [] W:=⟨L9 _,fun b s Z=>by simp at Z,fun b U S X=>by obtain⟨x,V,_⟩:=X;simp at V⟩
section
variable {H:Type}{enc:TypeId×Value->H}{P:Program}{w:World}{base:Nat}{ach:Nat->Bool}{adJ:Bool}
theorem Ha{n:Nat}{t e:TypeId}{fuel:Nat}{cs:List Value}{x:DataW H×List MemPlace}(J:P.underlying t=some (.array n e))(Y:P.cellsOf e=1)(h:DataW.trod enc P w base ach adJ fuel t cs=some x)(i:Nat)(v:Value)(hi:i<n)(I:cs[i]? =some v):
  ∃m y,DataW.trod enc P w base ach adJ m e [v]=some y:=by
 obtain⟨X,m,_,_,_,S,V⟩:=DataW.trod_array J h;have:=V i hi;rw[Y,Nat.mul_one] at this;have U:(cs.drop i).take 1=[v]:=by have Z:=gL I;rw[N0 Z];rw[G2 Z] at I;simp only[List.take_succ_cons,List.take_zero];rw[QQX I]
 rw[U] at this;exact⟨m,X[i],by rw[this,G2]⟩
end
def i8V(L:List Int):List Value:=L.map fun z=>.int .i8 z
theorem Ph(μ:Nat->Eng.Place)(m:Nat):∀L:List Int,afo μ m (i8C L) (i8V L)
 | []=>rfl
 |z::L=>by have:=Ph μ m L;unfold i8C i8V at*;simp only[List.map_cons];exact bX.2 ⟨by simp[afn],this⟩
theorem mu{μ:Nat->Eng.Place}{m:Nat}{b:List AV}{B:List Value}(H:afo μ m b B):∀{a:List AV} {A:List Value},afo μ m a A->afo μ m (a++b) (A++B)
 | [],A,ha=>by simp only[afo] at ha;subst ha;exact H
 |v::a,A,ha=>by simp only[afo] at ha;obtain⟨U,V,rfl,Z,X⟩:=ha;exact bX.2 ⟨Z,mu H X⟩
def Oj(h:Hts):List Value:=i8V h.v++[.bool h.half]
def Ul(x:adM):List Value:=[.int .u8 (x.kind:Int)]++(Oj x.base++(Oj x.s0++(Oj x.s1++(i8V x.N++i8V x.T))))
theorem Ol(μ:Nat->Eng.Place)(m:Nat)(h:Hts):afo μ m h.cells (Oj h):=mu (bX.2 ⟨by simp[afn],by simp[afo]⟩) (Ph μ m h.v)
theorem Yw(μ:Nat->Eng.Place)(m:Nat)(x:adM):afo μ m x.cells (Ul x):=
 mu (a:=[AV.int .u8 x.kind]) (mu (mu (mu (mu (Ph μ m x.T) (Ph μ m x.N)) (Ol μ m x.s1)) (Ol μ m x.s0)) (Ol μ m x.base)) (bX.2 ⟨by simp[afn],by simp[afo]⟩)
theorem TD:∀{cs:List Value},(∀v∈cs,∃k:Int,AQ k/\v=.int .i8 k)->∃L:List Int,(∀z∈L,AQ z)/\cs=i8V L
 | [],_=>⟨[],fun z Z=>by simp at Z,rfl⟩
 |v::cs,h=>by
  obtain⟨k,X,rfl⟩:=h v (by simp);obtain⟨L,V,rfl⟩:=TD (cs:=cs) fun v U=>h v (by simp[U])
  exact⟨k::L,fun z Z=>by rcases List.mem_cons.1 Z with rfl | Z;exact X;exact V z Z,rfl⟩
variable{b0 fuel n:Nat}{cs:List Value}{p:List MemPlace}{v x:Value}
section
variable {H:Type}{enc:TypeId×Value->H}{W:World}
theorem OU{y:DataW H×List MemPlace}(I:DataW.trod enc Tryz.prog W 0 (fun _=>true) true n 5 [x]=some y):∃k:Nat,k<256/\x=.int .u8 (k:Int):=by obtain⟨z,X,_,Z⟩:=DataW.trod_int Tryz.underlying5 I;simp only[List.cons.injEq,and_true] at X;simp only[Lit.wf,Es,GE] at Z;have V:IntKind.u8.min=0:=rfl;have U:IntKind.u8.max=255:=rfl;rw[V,U] at Z;exact⟨z.toNat,by omega,by rw[X,QQi Z.1]⟩
theorem OT{y:DataW H×List MemPlace}(I:DataW.trod enc Tryz.prog W 0 (fun _=>true) true n 22 [x]=some y):∃k:Int,AQ k/\x=.int .i8 k:=by obtain⟨z,Z,_,X⟩:=DataW.trod_int Tryz.underlying22 I;simp only[List.cons.injEq,and_true] at Z;exact⟨z,bounds_i8 X,Z⟩
theorem ci8:Tryz.prog.cellsOf 22=1:=by kernel_rfl
theorem Hc{t:TypeId}{x:DataW H×List MemPlace}(J:Tryz.prog.underlying t=some (.array n 22))(I:cs.length=n)(h:DataW.trod enc Tryz.prog W 0 (fun _=>true) true fuel t cs=some x):∃L:List Int,L.length=n/\(∀z∈L,AQ z)/\cs=i8V L:=by
 obtain⟨L,X,e⟩:=TD (cs:=cs) fun v V=>by obtain⟨i,Z⟩:=QXe V;obtain⟨_,_,t⟩:=Ha J ci8 h i v (by rw[<-I];exact(gL Z)) Z;exact OT t
 refine⟨L,?_,X,e⟩;rw[<-I,e];simp[i8V]
theorem Hb{x:DataW H×List MemPlace}(I:cs.length=7)(h:DataW.trod enc Tryz.prog W 0 (fun _=>true) true fuel 28 cs=some x):∃y:Hts,y.Ok/\cs=Oj y:=by
 obtain⟨O,k,B,N,_,X,V⟩:=DataW.trod_struct Tryz.underlying28 h
 match O,X,cs,I with
 | [y0,y1],_,[v0,v1,v2,v3,v4,v5,v6],_=>
  have U:=V 0 _ rfl;have S:=V 1 _ rfl;have M:Tryz.prog.cellsOf 26=6:=by kernel_rfl
  have K:Tryz.prog.cellsOf 4=1:=by kernel_rfl
  simp[M,K] at U S;obtain⟨L,G,F,C⟩:=Hc Tryz.underlying26 rfl U;obtain⟨R,Z,_⟩:=DataW.trod_bool Tryz.underlying4 S;simp only[List.cons.injEq,and_true] at Z;subst Z;refine⟨⟨L,R⟩,⟨G,F⟩,?_⟩;show [v0,v1,v2,v3,v4,v5]++[Value.bool R]=_
  rw[C];rfl
theorem Yx(vs:List Value)(h:vs.length=34):vs=(vs.drop 0).take 1++((vs.drop 1).take 7++((vs.drop 8).take 7++((vs.drop 15).take 7++((vs.drop 22).take 8++(vs.drop 30).take 4)))):=by
 have e:∀(a b:Nat),(vs.drop a)=(vs.drop a).take b++vs.drop (a+b):=fun a b=>by rw[<-QXY,List.take_append_drop]
 have Z:(vs.drop 30).take 4=vs.drop 30:=B5 (by simp[h]);rw[Z,<-e 22 8,<-e 15 7,<-e 8 7,<-e 1 7,<-e 0 1];rfl
theorem Oz{d:DataW H}(I:Value.okWide Tryz.prog W .any b0 34 v)(h:DataW.Trod enc Tryz.prog W 0 (fun _=>true) true 34 v d p):
  ∃x:adM,x.Ok/\∀μ m,afn μ m (.agg x.cells) v:=by
 obtain⟨fuel,J⟩:=h;have C:=Tryz.underlying34;simp only[Value.okWide,C] at I;obtain⟨cs,rfl,M,_⟩:=I;have Z:(Value.agg cs).cells.toList.length=34:=by simp only[Value.cells,QXJ,M];kernel_rfl
 obtain⟨xs,k,hk,hxy,_,L,V⟩:=DataW.trod_struct C J;obtain⟨X,U⟩:=xE ((Value.agg cs).cells.toList);rw[<-U] at Z V
 match xs,L with
 | [y0,y1,y2,y3,y4],_=>
  have K:DataW.trod enc Tryz.prog W 0 (fun _=>true) true k 5 ((X.drop 0).take (Tryz.prog.cellsOf 5))=some y0:=V 0 _ rfl;have B:DataW.trod enc Tryz.prog W 0 (fun _=>true) true k 28 ((X.drop 1).take (Tryz.prog.cellsOf 28))=some y1:=V 1 _ rfl;have u:DataW.trod enc Tryz.prog W 0 (fun _=>true) true k 29 ((X.drop 8).take (Tryz.prog.cellsOf 29))=some y2:=V 2 _ rfl;have g3:DataW.trod enc Tryz.prog W 0 (fun _=>true) true k 30 ((X.drop 22).take (Tryz.prog.cellsOf 30))=some y3:=V 3 _ rfl;have o:DataW.trod enc Tryz.prog W 0 (fun _=>true) true k 32 ((X.drop 30).take (Tryz.prog.cellsOf 32))=some y4:=V 4 _ rfl;have c0:Tryz.prog.cellsOf 5=1:=by kernel_rfl
  have j:Tryz.prog.cellsOf 28=7:=by kernel_rfl
  have c2:Tryz.prog.cellsOf 29=14:=by kernel_rfl
  have c3:Tryz.prog.cellsOf 30=8:=by kernel_rfl
  have c4:Tryz.prog.cellsOf 32=4:=by kernel_rfl
  rw[c0] at K;rw[j] at B;rw[c2] at u;rw[c3] at g3;rw[c4] at o;have S:∃v,(X.drop 0).take 1=[v]:=by
   match X,Z with
   |v::X,_=>exact⟨v,rfl⟩
  obtain⟨v0,S⟩:=S;rw[S] at K;obtain⟨G,l0,rfl⟩:=OU K;obtain⟨F,ob,eb⟩:=Hb (by simp[Z]) B;obtain⟨zs,_,_,_,_,hzl,Y⟩:=DataW.trod_array Tryz.underlying29 u;have f0:=Y 0 (by decide);have f1:=Y 1 (by decide);rw[j] at f0 f1;rw[G2 (by omega)] at f0 f1;obtain⟨R,o0,q0⟩:=Hb (by simp[Z]) f0;obtain⟨O,o1,q1⟩:=Hb (by simp[Z]) f1;obtain⟨N,n1,n2,n3⟩:=Hc Tryz.underlying30 (by simp[Z]) g3;obtain⟨T,t1,t2,t3⟩:=Hc Tryz.underlying32 (by simp[Z]) o;refine⟨⟨G,F,R,O,N,T⟩,⟨l0,ob,o0,o1,n1,n2,t1,t2⟩,fun μ m=>?_⟩;have r0:(X.drop 8).take 7=Oj R:=by rw[<-q0];simp[List.take_take]
  have r1:(X.drop 15).take 7=Oj O:=by rw[<-q1];simp[List.drop_take,List.take_take]
  have e:X=Ul ⟨G,F,R,O,N,T⟩:=by rw[Yx X Z,S,eb,r0,r1,n3,t3];rfl
  simp only[afn];refine⟨Ul ⟨G,F,R,O,N,T⟩,?_,Yw μ m _⟩;rw[<-e,U];rfl
theorem RF{d:DataW H}(I:Value.okWide Tryz.prog W .any b0 25 v)(h:DataW.Trod enc Tryz.prog W 0 (fun _=>true) true 25 v d p):
  ∃s:afv,s.Ok/\∀μ m,afn μ m s.av v:=by
 obtain⟨fuel,C⟩:=h;have K:=Tryz.underlying25;simp only[Value.okWide,K] at I;obtain⟨cs,rfl,S,_⟩:=I;have Z:(Value.agg cs).cells.toList.length=4:=by simp only[Value.cells,QXJ,S];kernel_rfl
 obtain⟨B,Y,u,_,_,R,U⟩:=DataW.trod_struct K C;obtain⟨o,X⟩:=xE ((Value.agg cs).cells.toList);rw[<-X] at Z U
 match B,R,o,Z with
 | [z0,z1,z2],_,[v0,v1,v2,v3],_=>
  have f0:=U 0 _ rfl;have f1:=U 1 _ rfl;have f2:=U 2 _ rfl;have d0:Tryz.prog.cellsOf 5=1:=by kernel_rfl
  have d1:Tryz.prog.cellsOf 23=2:=by kernel_rfl
  have d2:Tryz.prog.cellsOf 4=1:=by kernel_rfl
  simp[d0,d1,d2] at f0 f1 f2;obtain⟨O,j,rfl⟩:=OU f0;obtain⟨_,_,t1⟩:=Ha Tryz.underlying23 ci8 f1 0 v1 (by decide) rfl;obtain⟨_,_,t2⟩:=Ha Tryz.underlying23 ci8 f1 1 v2 (by decide) rfl;obtain⟨N,G,rfl⟩:=OT t1;obtain⟨M,F,rfl⟩:=OT t2;obtain⟨L,V,_⟩:=DataW.trod_bool Tryz.underlying4 f2;simp only[List.cons.injEq,and_true] at V;subst V;refine⟨⟨O,N,M,L⟩,⟨j,G.1,G.2,F.1,F.2⟩,fun μ m=>?_⟩;have e:cs.toList=[.int .u8 (O:Int),.int .i8 N,.int .i8 M,.bool L]:=X.symm;simp only[afn,afv.av];refine⟨[.int .u8 (O:Int),.int .i8 N,.int .i8 M,.bool L],?_,by simp[afo,afn]⟩;rw[<-e]
end
end Go.Proofs.YthpgbelancmpjaaGreatDoor
namespace Go.Proofs.YthpgbelancmpjaaGreatDoor
open Go.ChangeShapes Go.WideShapes Go.ChangeAt Go.WideMaps Go.WideElems Go.RowKit Go.Eng
section
variable {H:Type}{enc:TypeId×Value->H}{W:World}
theorem Wj{n:Nat}{y:DataW H×List MemPlace}{x:Value}(I:DataW.trod enc Tryz.prog W 0 (fun _=>true) true n 35 [x]=some y):∃k:Int,(-32768<=k/\k<=32767)/\x=.int .i16 k:=by obtain⟨z,X,_,Z⟩:=DataW.trod_int Tryz.underlying35 I;simp only[List.cons.injEq,and_true] at X;simp only[Lit.wf,Es,GE] at Z;have V:IntKind.i16.min= -32768:=rfl;have U:IntKind.i16.max=32767:=rfl;rw[V,U] at Z;exact⟨z,Z,X⟩
theorem yu{n:Nat}{y:DataW H×List MemPlace}{a b:Value}(I:DataW.trod enc Tryz.prog W 0 (fun _=>true) true n 37 [a,b]=some y):∃q:Int×Nat,XP q/\[a,b]=[.int .i16 q.1,.int .u8 (q.2:Int)]:=by
 obtain⟨R,k,F,O,_,Z,X⟩:=DataW.trod_struct Tryz.underlying37 I
 match R,Z with
 | [y0,y1],_=>
  have N:Tryz.prog.cellsOf 35=1:=by kernel_rfl
  have M:Tryz.prog.cellsOf 5=1:=by kernel_rfl
  have V:=X 0 _ rfl;have U:=X 1 _ rfl;simp[N,M] at V U;obtain⟨L,S,rfl⟩:=Wj V;obtain⟨K,G,rfl⟩:=OU U;exact⟨(L,K),⟨S.1,S.2,G⟩,rfl⟩
theorem RE{b0:Nat}{v:Value}{d:DataW H}{p:List MemPlace}(I:Value.okWide Tryz.prog W .any b0 39 v)(h:DataW.Trod enc Tryz.prog W 0 (fun _=>true) true 39 v d p):
  ∃q:Pl,YN q/\∀μ m,afn μ m (.agg (plC q)) v:=by
 obtain⟨M,C⟩:=h;have L:=Tryz.underlying39;simp only[Value.okWide,L] at I;obtain⟨O,rfl,N,_⟩:=I;have Z:(Value.agg O).cells.toList.length=6:=by simp only[Value.cells,QXJ,N];kernel_rfl
 obtain⟨zs,k',B,_,_,u,R⟩:=DataW.trod_array L C;obtain⟨o,X⟩:=xE ((Value.agg O).cells.toList);rw[<-X] at Z R
 match o,Z with
 | [v0,v1,v2,v3,v4,v5],_=>
  have f0:=R 0 (by decide);have f1:=R 1 (by decide);have f2:=R 2 (by decide);have d0:Tryz.prog.cellsOf 37=2:=by kernel_rfl
  rw[G2 (by omega)] at f0 f1 f2;simp only[d0,Nat.zero_mul,Nat.one_mul,Nat.reduceMul,List.drop_zero,List.drop_succ_cons,List.take_succ_cons,List.take_zero] at f0 f1 f2;obtain⟨V,j,K⟩:=yu f0;obtain⟨U,Y,G⟩:=yu f1;obtain⟨S,J,F⟩:=yu f2;simp only[List.cons.injEq,and_true] at K G F;obtain⟨rfl,rfl⟩:=K;obtain⟨rfl,rfl⟩:=G;obtain⟨rfl,rfl⟩:=F;refine⟨(V,U,S),⟨j,Y,J⟩,fun μ m=>?_⟩;have e:O.toList=[.int .i16 V.1,.int .u8 (V.2:Int),.int .i16 U.1,.int .u8 (U.2:Int),.int .i16 S.1,.int .u8 (S.2:Int)]:=X.symm;simp only[afn,plC,smC];refine⟨[.int .i16 V.1,.int .u8 (V.2:Int),.int .i16 U.1,.int .u8 (U.2:Int),.int .i16 S.1,.int .u8 (S.2:Int)],?_,by simp[afo,afn]⟩;rw[<-e]
end
end Go.Proofs.YthpgbelancmpjaaGreatDoor
