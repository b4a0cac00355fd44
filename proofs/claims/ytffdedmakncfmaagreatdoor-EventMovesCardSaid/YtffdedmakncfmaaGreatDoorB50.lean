/- See B54. -/
import Derived.Test.YtffdedmakncfmaaGreatDoorB46
set_option linter.all false
set_option maxRecDepth 100000
set_option maxHeartbeats 40000000
namespace Go.Proofs
open Go.Eng
open Tryz
def vG(v:V3):Prop:=ga v.1∧ga v.2.1∧ga v.2.2
variable{n:Nat}
theorem ml{q:Rat}(h:dg n n q)(h0:0<n)(h1:n≤2000):ga q:=by have:=h.lens h0 h0;exact⟨by omega,by omega⟩
variable{v:V3}
theorem Db(h:vDg n v)(h0:0<n)(h1:n≤2000):vG v:=⟨ml h.1 h0 h1,ml h.2.1 h0 h1,ml h.2.2 h0 h1⟩
theorem nW(v:V3)(k:Rat)(H:vG v)(hk:ga k)(M:Mem):kO prog 29 [vA v,.str (aB k)] M (vA (wT v k)) M:=by
 have G:aT prog 29=some f29:=by kernel_rfl
 obtain⟨a,b,c⟩:=v;obtain⟨⟨V,U⟩,⟨h3,S⟩,R,Q⟩:=H;obtain⟨F,D⟩:=hk;simp only at V U h3 S R Q;unfold wT;simp only;obtain⟨x,O⟩:=xE (a*k);obtain⟨y,N⟩:=xE (b*k);obtain⟨z,L⟩:=xE (c*k);rw[←O,←N,←L];refine ao jS ?_ M;obtain⟨K,Z⟩:∃K,aJ f29=[K]:=⟨_,rfl⟩
 obtain⟨X,C⟩:=cD Z (l:=[0,1,0,7,0,16,0,127,0,256,0,2047,4095,8191]) (j:=13) (by kernel_rfl) (by decide);simp[aJ,bU,f29] at Z;subst Z;simp[aa,G,f29,-aK,aq X,bm,aZ,bl,C,vA,bW,aH,az,af,iD,fV,V,U,h3,S,R,Q,F,D,←O,←N,←L,Nat.testBit]
theorem nU(u v:V3)(H:vG u)(I:vG v)(M:Mem):kO prog 35 [vA u,vA v] M (vA (mH u v)) M:=by
 have o:aT prog 35=some f35:=by kernel_rfl
 obtain⟨a,b,c⟩:=u;obtain⟨d,e,f⟩:=v;obtain⟨⟨V,U⟩,⟨h3,S⟩,R,Q⟩:=H;obtain⟨⟨O,N⟩,⟨g3,L⟩,K,G⟩:=I;simp only at V U h3 S R Q O N g3 L K G;unfold mH;simp only;obtain⟨x,F⟩:=xE (a+d);obtain⟨y,D⟩:=xE (b+e);obtain⟨z,C⟩:=xE (c+f);rw[←F,←D,←C];refine ao jS ?_ M;obtain⟨B,Z⟩:∃B,aJ f35=[B]:=⟨_,rfl⟩
 obtain⟨X,m⟩:=cD Z (l:=[0,1,0,4,15,0,32,0,128,511,0,1024,0,4096,16383,32767,65535]) (j:=16) (by kernel_rfl) (by decide);simp[aJ,bU,f35] at Z;subst Z;simp[aa,o,f35,-aK,aq X,bm,aZ,bl,m,vA,bW,aH,az,af,iD,fV,V,U,h3,S,R,Q,O,N,g3,L,K,G,←F,←D,←C,Nat.testBit]
theorem VC(a b:V3):mH a (wT b (-1))=AQ a b:=by
 unfold mH wT AQ;have k:∀p q:Rat,p+q* -1=p-q:=fun p q=>by grind
 simp only[k]
theorem Xi(h:vG v):vG (wT v (-1)):=by
 have k:∀q:Rat,ga q→ga (q* -1):=fun q h=>by
  have e:q* -1= -q:=by grind
  rw[e];unfold ga at*;rw[Rat.neg_num,Int.natAbs_neg,Rat.neg_den];exact h
 exact⟨k _ h.1,k _ h.2.1,k _ h.2.2⟩
theorem GF:ga (-1):=⟨by decide,by decide⟩
theorem Sy:ga 1:=⟨by decide,by decide⟩
theorem MD(u v:V3)(H:vG u)(y:vG v)(M:Mem):kO prog 41 [vA u,vA v] M (vA (AQ u v)) M:=by
 have O:aT prog 41=some f41:=by kernel_rfl
 have N:aB (-1)=[45,49]:=by decide +kernel
 have X:=fun M=>nW v (-1) y GF M
 have Z:=fun M=>nU u _ H (Xi y) M
 rw[VC] at Z;rw[N] at X;obtain⟨w,L⟩:=xE (wT v (-1));obtain⟨q,K⟩:=xE (AQ u v);rw[←L] at X Z;rw[←K] at Z ⊢;have S:qS prog (af (cU [(29,[vA v,.str [45,49]],vA w),(35,[vA u,vA w],vA q)])):=dK fun e R M=>by
  simp only[lM] at R;rcases R with rfl | rfl
  ·exact X M
  ·exact Z M
 refine ao S ?_ M;clear S X Z;obtain⟨Q,V⟩:∃Q,aJ f41=[Q]:=⟨_,rfl⟩
 obtain⟨U,G⟩:=cD V (l:=[0,0,2,7,15]) (j:=4) (by kernel_rfl) (by decide);simp[aJ,bU,f41] at V;subst V;simp[aa,O,f41,-aK,aq U,bm,aZ,bl,G,vA,cU,af,Nat.testBit]
def TW(a b:V3):Prop:=(vG a∧vG b)∧(ga (a.1*b.1)∧ga (a.2.1*b.2.1)∧ga (a.2.2*b.2.2))∧ga (a.2.1*b.2.1+a.2.2*b.2.2)
theorem tH(u v:V3)(h:TW u v)(M:Mem):kO prog 38 [vA u,vA v] M (.str (aB (gG u v))) M:=by
 have hG:aT prog 38=some f38:=by kernel_rfl
 obtain⟨a,b,c⟩:=u;obtain⟨d,e,f⟩:=v;obtain⟨⟨⟨⟨K,G⟩,⟨h3,F⟩,D,C⟩,⟨B,o⟩,⟨g3,m⟩,Y,W⟩,⟨⟨V,U⟩,⟨S,R⟩,Q,O⟩,Z,X⟩:=h;simp only at K G h3 F D C B o g3 m Y W V U S R Q O Z X;have ev:gG (a,b,c) (d,e,f)=a*d+(b*e+c*f):=by unfold gG;simp only;rw[Rat.add_assoc]
 rw[ev];obtain⟨x,J⟩:=xE (a*d);obtain⟨y,I⟩:=xE (b*e);obtain⟨z,H⟩:=xE (c*f);rw[←J] at V U ⊢;rw[←I] at S R Z X ⊢;rw[←H] at Q O Z X ⊢;obtain⟨w,hw⟩:=xE (y+z);rw[←hw] at Z X ⊢;obtain⟨q,hq⟩:=xE (x+w);rw[←hq];refine ao jS ?_ M;obtain⟨o1,N⟩:∃o1,aJ f38=[o1]:=⟨_,rfl⟩
 obtain⟨L,j1⟩:=cD N (l:=[0,1,0,4,15,0,32,0,128,511,0,1024,0,4096,16383,32767,65535,131071]) (j:=17) (by kernel_rfl) (by decide);simp[aJ,bU,f38] at N;subst N;simp[aa,hG,f38,-aK,aq L,bm,aZ,bl,j1,vA,az,af,iD,fV,K,G,h3,F,D,C,B,o,g3,m,Y,W,V,U,S,R,Q,O,Z,X,←J,←I,←H,←hw,←hq,Nat.testBit]
theorem B7{a b:V3}(y:vDg n a)(H:vDg n b)(h0:0<n)(h1:n≤200):TW a b:=by
 have X:=il y.1 H.1;have P2:=il y.2.1 H.2.1;have Z:=il y.2.2 H.2.2;have S:=nd P2 Z (m:=4*n) (by omega) (by omega);have f:∀{x:Nat}{q:Rat},dg x x q→0<x→x≤2000→ga q:=fun h p r=>ml h p r
 exact⟨⟨Db y h0 (by omega),Db H h0 (by omega)⟩,⟨f X (by omega) (by omega),f P2 (by omega) (by omega),f Z (by omega) (by omega)⟩,f (S.mono (n' :=4*n+1) (d' :=4*n+1) (by omega) (by omega)) (by omega) (by omega)⟩
abbrev Pl:=(Int×Nat)×(Int×Nat)×(Int×Nat)
def smC(x:Int×Nat):List AV:=[.int .i16 x.1,.int .u8 (x.2:Int)]
def plC(p:Pl):List AV:=smC p.1++(smC p.2.1++smC p.2.2)
def WN(x:Int×Nat):Prop:= -32768≤x.1∧x.1≤32767∧x.2<256
def Xp(p:Pl):Prop:=WN p.1∧WN p.2.1∧WN p.2.2
def smQ(x:Int×Nat):Rat:=mkRat x.1 (1+x.2)
def plQ(p:Pl):V3:=(smQ p.1,smQ p.2.1,smQ p.2.2)
theorem TJ{x:Int×Nat}(h:WN x):dg 5 5 (smQ x):=sw (by omega) (by have:=h.1;have:=h.2.1;omega) (by have:=h.2.2;omega)
theorem Xb{p:Pl}(h:Xp p):vDg 5 (plQ p):=⟨TJ h.1,TJ h.2.1,TJ h.2.2⟩
theorem HL(x:Int×Nat)(h:WN x)(M:Mem):kO prog 33 [.agg (smC x)] M (.str (aB (smQ x))) M:=by
 have V:aT prog 33=some f33:=by kernel_rfl
 obtain⟨n,d⟩:=x;obtain⟨U,S,h3⟩:=h;simp only at U S h3;have Z:qS prog (af (cU [(27,[.int .i64 n,.int .i64 (1+(d:Int))],.str (aB (mkRat n (1+d))))])):=dK fun e X M=>by
  rw[List.mem_singleton] at X;have:=A4 n (1+d) (by omega) (by omega) (by omega) M;rw[X];have R:((1+d:Nat):Int)=1+(d:Int):=by omega
  rw[R] at this;exact this
 refine ao Z ?_ M;clear Z;have w1:IntKind.i64.wrap n=n:=ae;have w2:IntKind.i64.wrap (d:Int)=(d:Int):=ae;have w3:IntKind.i64.wrap (1+(d:Int))=1+(d:Int):=ae;simp[aa,V,f33,af,cU,smC,smQ,w1,w2,w3]
noncomputable def Gc(f:FuncId)(args:List AV):Option AV:=
 match f,args with
 |33,[.agg [.int .i16 n,.int .u8 d]]=>if (-32768≤n∧n≤32767)∧0≤d∧d<256 then some (.str (aB (smQ (n,d.toNat)))) else none
 |_,_=>none
theorem Nz:qS prog (af Gc):=bH fun f Z v h mem=>by
 unfold Gc at h;split at h
 ·rename_i n d
  split at h
  ·rename_i X
   cases h;have:=HL (n,d.toNat) ⟨X.1.1,X.1.2,by show d.toNat<256;omega⟩ mem;unfold smC at this;simp only at this;rw[Int.toNat_of_nonneg (by omega)] at this;exact this
  ·cases h
 ·cases h
theorem HG(p:Pl)(h:Xp p)(M:Mem):kO prog 9 [.agg (plC p)] M (vA (plQ p)) M:=by
 have F:aT prog 9=some f9:=by kernel_rfl
 obtain⟨⟨a,b⟩,⟨c,d⟩,e,f⟩:=p;obtain⟨⟨V,U,h3⟩,⟨S,R,D⟩,Q,O,C⟩:=h;simp only at V U h3 S R D Q O C;have B:(b:Int)<256:=by omega
 have u:(d:Int)<256:=by omega
 have g3:(f:Int)<256:=by omega
 have o:(0:Int)≤(b:Int):=by omega
 have m:(0:Int)≤(d:Int):=by omega
 have Y:(0:Int)≤(f:Int):=by omega
 unfold plQ;simp only;obtain⟨x,N⟩:=xE (smQ (a,b));obtain⟨y,L⟩:=xE (smQ (c,d));obtain⟨z,K⟩:=xE (smQ (e,f));rw[←N,←L,←K];refine ao Nz ?_ M;obtain⟨G,Z⟩:∃G,aJ f9=[G]:=⟨_,rfl⟩
 obtain⟨X,W⟩:=cD Z (l:=[0,1,3,0,8,31,0,64,255,511,1023]) (j:=10) (by kernel_rfl) (by decide);simp[aJ,bU,f9] at Z;subst Z;simp[aa,F,f9,-aK,aq X,bm,aZ,bl,W,vA,plC,smC,bW,aH,af,Gc,V,U,S,R,Q,O,B,u,g3,o,m,Y,←N,←L,←K,Nat.testBit]
theorem Wq{a b:Rat}:0≤nQ (a-b)↔b≤a:=by
 have h:=O8 (a-b);rw[Tj] at h;constructor
 ·intro Z
  exact Rat.not_lt.1 fun X=>by
   have:a-b<0:=by grind
   have:=h.2 this;omega
 ·intro Z
  have:¬nQ (a-b)<0:=fun X=>by
   have:=h.1 X;have h3:a<b:=by grind
   exact absurd Z (Rat.not_le.2 h3)
  omega
theorem Fs(n p:V3)(o:Rat)(hd:TW n p)(y:ga (gG n p))(H:ga o)(M:Mem):kO prog 53 [.agg [.str (aB n.1),.str (aB n.2.1),.str (aB n.2.2),.str (aB o)],vA p] M (.str (aB (gG n p-o))) M:=by
 have N:aT prog 53=some f53:=by kernel_rfl
 have Z:=fun M=>tH n p hd M
 have X:=fun M=>Ep (gG n p) o y H M
 obtain⟨d,V⟩:=xE (gG n p);rw[←V] at Z X ⊢;have R:qS prog (af (cU [(38,[vA n,vA p],.str (aB d)),(81,[.str (aB d),.str (aB o)],.str (aB (d-o)))])):=dK fun e Q M=>by
  simp only[lM] at Q;rcases Q with rfl | rfl
  ·exact Z M
  ·exact X M
 refine ao R ?_ M;clear R Z X;obtain⟨O,U⟩:∃O,aJ f53=[O]:=⟨_,rfl⟩
 obtain⟨S,L⟩:=cD U (l:=[0,1,0,7,0,16,63,127]) (j:=7) (by kernel_rfl) (by decide);simp[aJ,bU,f53] at U;subst U;simp[aa,N,f53,-aK,aq S,bm,aZ,bl,L,vA,cU,af,Nat.testBit]
section
variable {x y:AV}{M:Mem}
theorem Ml(H:x.ae9=true∧y.ae9=true)(nm:List UInt8)(n:V3)(o:Rat)(v p:V3)(hd:TW n p)(I:ga (gG n p))(J:ga o):
  kO prog 16 [.agg [x,y],.agg ((cB nm n o v).cells .qF .qF .qF .qF),vA p] M (.int .i64 (jo n o p)) M:=by
 have Q:aT prog 16=some f16:=by kernel_rfl
 obtain⟨G,F⟩:=H;have V:=fun M=>Fs n p o hd I J M
 have Z:=Wq (a:=gG n p) (b:=o);have X:=fun M=>A6 (gG n p-o) M
 unfold jo;obtain⟨d,S⟩:=xE (gG n p);rw[←S] at V X Z ⊢;obtain⟨q,L⟩:=xE (α:=Rat) (d-o);rw[←L] at V X Z;obtain⟨g,K⟩:=xE (nQ q);rw[←K] at X Z;have O:qS prog (af (cU [(53,[.agg [.str (aB n.1),.str (aB n.2.1),.str (aB n.2.2),.str (aB o)],vA p],.str (aB q)),(52,[.str (aB q)],.int .i64 g)])):=dK fun e N M=>by
  simp only[lM] at N;rcases N with rfl | rfl
  ·exact V M
  ·exact X M
 have h:aa (ba prog) (fun _=>[]) (aT prog) (af (cU [(53,[.agg [.str (aB n.1),.str (aB n.2.1),.str (aB n.2.2),.str (aB o)],vA p],.str (aB q)),(52,[.str (aB q)],.int .i64 g)])) 1 16 [.agg [x,y],.agg ((cB nm n o v).cells .qF .qF .qF .qF),vA p] M=some ⟨.int .i64 (if o≤d then 1 else 0),none,[]⟩:=by
  clear O V X;by_cases U:o≤d
  ·have R:=Z.2 U
   rw[if_pos U];simp[aa,Q,f16,af,cU,cB,Evc.cells,vA,R]
  ·have R:¬0≤g:=fun h=>U (Z.1 h)
   rw[if_neg U];simp[aa,Q,f16,af,cU,cB,Evc.cells,vA,R]
 have:=(ar aj (aI _) O (aP _) h).1;simpa [y9.mem] using this
theorem qY:(aJ f12).map (fun o=>dW o.toList)=[[0,0,2,6,0,30,63,127],[0,0,2,6,0,0,32,96,0,256,768,0,3840,8160,16368,32766,65535,131071],[0,1,3,0,8,0,0,64,192,504,1016,2047,4095]]:=by kernel_rfl
section
variable (cx:x.ae9=true∧y.ae9=true)
include cx
theorem vi(nm:List UInt8)(n:V3)(o:Rat)(v p:V3)(H:Bool)(hd:TW n p)(I:ga (gG n p))(J:ga o)(W:vG p)(Y:vG v)(gs:vG (wT v (sgB H))):
  kO prog 12 [.agg [x,y],.agg ((cB nm n o v).cells .qF .qF .qF .qF),vA p,.bool (!H)] M (vA (Cq n o v H p)) M:=by
 have O:aT prog 12=some f12:=by kernel_rfl
 have S:=fun M=>Ml (M:=M) cx nm n o v p hd I J
 obtain⟨c1,c2⟩:=cx;have Z:Cq n o v H p=if jo n o p=1 then mH p (wT v (sgB H)) else p:=by unfold Cq jo;split<;>simp
 have X:jo n o p=0∨jo n o p=1:=by unfold jo;split<;>simp
 have N:ga (sgB H):=by cases H;exact Sy;exact GF
 have V:=fun M=>nW v (sgB H) Y N M
 have U:=fun M=>nU p _ W gs M
 have L:aB (sgB H)=sgT H:=by cases H<;>decide +kernel
 rw[L] at V;rw[Z];obtain⟨R,K⟩:=xE (jo n o p);rw[←K] at S X ⊢;obtain⟨w,G⟩:=xE (wT v (sgB H));rw[←G] at V U ⊢;obtain⟨q,F⟩:=xE (mH p w);rw[←F] at U ⊢;have D:qS prog (af (cU [(16,[.agg [x,y],.agg ((cB nm n o v).cells .qF .qF .qF .qF),vA p],.int .i64 R),(29,[vA v,.str (sgT H)],vA w),(35,[vA p,vA w],vA q)])):=dK fun e C M=>by
  simp only[lM] at C;rcases C with rfl | rfl | rfl
  ·exact S M
  ·exact V M
  ·exact U M
 clear S V U hd I J W Y gs N K G F Z L;obtain⟨B,Q⟩:∃B,aJ f12=B:=⟨_,rfl⟩
 have u:=cw Q qY;have m:dS [0,0,2,6,0,30,63,127] 7=true:=by decide
 simp only[aJ,bU,f12,lA] at Q;subst Q;simp only[lB] at u;obtain⟨j,-,-⟩:=u;have h:aa (ba prog) (fun _=>[]) (aT prog) (af (cU [(16,[.agg [x,y],.agg ((cB nm n o v).cells .qF .qF .qF .qF),vA p],.int .i64 R),(29,[vA v,.str (sgT H)],vA w),(35,[vA p,vA w],vA q)])) 1 12 [.agg [x,y],.agg ((cB nm n o v).cells .qF .qF .qF .qF),vA p,.bool (!H)] M=some ⟨vA (if R=1 then q else p),none,[]⟩:=by
  clear D;rcases X with rfl | rfl
  ·rw[if_neg (by decide)]
   cases H<;>simp[aa,O,f12,af,cU,cB,Evc.cells,vA]
  ·rw[if_pos rfl]
   cases H<;>simp[-getElem?_pos,-AV.ae9,-AV.known,-AV.cells,-kq,-List.all_eq_true,vS,rS,mS,-cc,-bQ,-AV.ae6,-afb.ae6,aa,O,f12,af,cU,cB,Evc.cells,vA,sgT,-aK,aq j,bm,aZ,bl,m,Nat.testBit]
 have:=(ar aj (aI _) D (aP _) h).1;simpa [y9.mem] using this
theorem vj(c:Evc)(hk:c.k=1∨c.k=4){b u w I:AV}(J:b.ae9=true)(W:u.ae9=true)(hs:w.ae9=true)(Y:I.ae9=true)(H:Bool)(p:V3):
  kO prog 12 [.agg [x,y],.agg (c.cells b u w I),vA p,.bool (!H)] M (vA p) M:=by
 have Z:aT prog 12=some f12:=by kernel_rfl
 obtain⟨U,S⟩:=cx;have X:∀s,(AV.str s).ae9=true:=fun _=>rfl
 have V:∀k n,(AV.int k n).ae9=true:=fun _ _=>rfl
 refine fP (ax _) ?_;cases H<;>rcases hk with hk | hk<;>simp[-AV.ae9,X,aa,Z,f12,Evc.cells,vA,hk]
end
end
end Go.Proofs
namespace Go.Proofs
open Go.Eng
open Tryz
theorem N3{n:Int}(h:n.natAbs≤1000000):n.natAbs<10 ^ 8:=by omega
theorem Ht(a b c s:Int)(hs:0<s)(hs2:s.natAbs≤1000000)(y:a.natAbs≤1000000)(H:b.natAbs≤1000000)(hc:c.natAbs≤1000000)(X0 X1:afb):
  kO prog 82 [.int .i64 a,.int .i64 b,.int .i64 c,.ptr 2 0] [X0,X1,.cells true 0 [.int .i64 s]] (vA (mkRat a s.toNat,mkRat b s.toNat,mkRat c s.toNat)) [X0,X1,.cells true 0 [.int .i64 s]]:=by
 have R:aT prog 82=some f82:=by kernel_rfl
 have Z :a.natAbs<100000000:=N3 y;have Q :b.natAbs<100000000:=N3 H;have X :c.natAbs<100000000:=N3 hc;have O :s<100000000:=by omega
 obtain⟨S,V⟩:∃S,aJ f82=[S]:=⟨_,rfl⟩
 obtain⟨U,N⟩:=cD V (l:=[0,0,3,0,0,31,0,0,255,511,1023]) (j:=10) (by kernel_rfl) (by decide);simp[aJ,bU,f82] at V;subst V;refine fP gw ?_;simp[aa,R,f82,-aK,aq U,bm,aZ,bl,N,Nat.testBit,af,eg,hs,O,Z,Q,X,vA,bW,aH]
noncomputable def fq:Array Oper:=match f40.body with
 |some (.seq _ (.seq _ (.seq _ (.seq _ (.seq (.region _ ops _) _)))))=>ops
 |_=> #[]
noncomputable def qV:List Oper:=(fq.toList.drop 0).take 33
noncomputable def qW:List Oper:=(fq.toList.drop 33).take 33
noncomputable def qX:List Oper:=(fq.toList.drop 66).take 35
theorem J4:fq.toList=qV++(qW++qX):=by kernel_rfl
section
variable {O:ae3}{m0:Nat}{ops:Array Oper}{env:Env}{mem:Mem}{d:Bool}{w x y z A B C D E F G H I J K1 K2 K3 K4 K5 K6 K7 K8 K9 S1 S4 S5 S6 S7 S8 S9 S10 S11 S12 S13:Int}{r1 r2 r3:V3}
section
variable (h3:ab env 3=.int .i64 w)(h4:ab env 4=.int .i64 x)(h5:ab env 5=.int .i64 y)(h6:ab env 6=.int .i64 z)(h8:ab env 8=.func 82 [.ptr 2 0])
include h3 h4 h5 h6 h8
theorem Nf(pA:IntKind.i64.wrap (w*w)=A)(W:IntKind.i64.wrap (x*x)=B)(pC:IntKind.i64.wrap (y*y)=C)(Y:IntKind.i64.wrap (z*z)=D)(pE:IntKind.i64.wrap (x*y)=E)(pF:IntKind.i64.wrap (w*z)=F)(pG:IntKind.i64.wrap (x*z)=G)(pH:IntKind.i64.wrap (w*y)=H)(u1:IntKind.i64.wrap (A+B)=S1)(u4:IntKind.i64.wrap (S1-C)=S4)(q1:IntKind.i64.wrap (S4-D)=K1)(u5:IntKind.i64.wrap (E-F)=S5)(q2:IntKind.i64.wrap (2*S5)=K2)(u6:IntKind.i64.wrap (G+H)=S6)(q3:IntKind.i64.wrap (2*S6)=K3)(hO:O (.fn 82) [.int .i64 K1,.int .i64 K2,.int .i64 K3,.ptr 2 0] mem=some ⟨vA r1,none,[]⟩):
  ∃Z,dx (ba prog) O 133 m0 ops qV ⟨env,mem,d⟩=some ⟨Z,mem,d⟩∧ab Z 2=ab env 2∧ab Z 3=.int .i64 w∧ab Z 4=.int .i64 x∧ab Z 5=.int .i64 y∧ab Z 6=.int .i64 z∧ab Z 8=.func 82 [.ptr 2 0]∧ab Z 65=vA r1:=by
 unfold vA at*;simp[qV,fq,f40,h3,h4,h5,h6,h8,pA,W,pC,Y,pE,pF,pG,pH,u1,u4,q1,u5,q2,u6,q3,hO]
theorem Ng(W:ab env 65=vA r1)(pA:IntKind.i64.wrap (w*w)=A)(pB:IntKind.i64.wrap (x*x)=B)(pC:IntKind.i64.wrap (y*y)=C)(pD:IntKind.i64.wrap (z*z)=D)(pE:IntKind.i64.wrap (x*y)=E)(pF:IntKind.i64.wrap (w*z)=F)(pI:IntKind.i64.wrap (y*z)=I)(pJ:IntKind.i64.wrap (w*x)=J)(u7:IntKind.i64.wrap (E+F)=S7)(q4:IntKind.i64.wrap (2*S7)=K4)(u8:IntKind.i64.wrap (A-B)=S8)(u9:IntKind.i64.wrap (S8+C)=S9)(q5:IntKind.i64.wrap (S9-D)=K5)(Y:IntKind.i64.wrap (I-J)=S10)(q6:IntKind.i64.wrap (2*S10)=K6)(hO:O (.fn 82) [.int .i64 K4,.int .i64 K5,.int .i64 K6,.ptr 2 0] mem=some ⟨vA r2,none,[]⟩):
  ∃Z,dx (ba prog) O 133 m0 ops qW ⟨env,mem,d⟩=some ⟨Z,mem,d⟩∧ab Z 2=ab env 2∧ab Z 3=.int .i64 w∧ab Z 4=.int .i64 x∧ab Z 5=.int .i64 y∧ab Z 6=.int .i64 z∧ab Z 8=.func 82 [.ptr 2 0]∧ab Z 65=vA r1∧ab Z 98=vA r2:=by
 unfold vA at*;simp[qW,fq,f40,h3,h4,h5,h6,h8,W,pA,pB,pC,pD,pE,pF,pI,pJ,u7,q4,u8,u9,q5,Y,q6,hO]
theorem Nh(h2:ab env 2=.ptr 1 0)(W:ab env 65=vA r1)(k98:ab env 98=vA r2)(pA:IntKind.i64.wrap (w*w)=A)(pB:IntKind.i64.wrap (x*x)=B)(pC:IntKind.i64.wrap (y*y)=C)(pD:IntKind.i64.wrap (z*z)=D)(pG:IntKind.i64.wrap (x*z)=G)(pH:IntKind.i64.wrap (w*y)=H)(pI:IntKind.i64.wrap (y*z)=I)(pJ:IntKind.i64.wrap (w*x)=J)(u11:IntKind.i64.wrap (G-H)=S11)(q7:IntKind.i64.wrap (2*S11)=K7)(u12:IntKind.i64.wrap (I+J)=S12)(q8:IntKind.i64.wrap (2*S12)=K8)(u8:IntKind.i64.wrap (A-B)=S8)(u13:IntKind.i64.wrap (S8-C)=S13)(q9:IntKind.i64.wrap (S13+D)=K9)(hO:O (.fn 82) [.int .i64 K7,.int .i64 K8,.int .i64 K9,.ptr 2 0] mem=some ⟨vA r3,none,[]⟩)(hm:∃X Y,mem=[X,.cells true 0 [.str [],.str [],.str [],.str [],.str [],.str [],.str [],.str [],.str []],Y])(Yn:m0=0)(hd:d=false):
  ∃Z,dx (ba prog) O 133 m0 ops qX ⟨env,mem,d⟩=some ⟨Z,mem.set 1 (.cells true 0 (mC (r1,r2,r3))),d⟩∧ab Z 2=.ptr 1 0:=by
 obtain⟨X,Y,rfl⟩:=hm;subst Yn hd;unfold vA at*;simp[qX,fq,f40,h3,h4,h5,h6,h8,h2,W,k98,pA,pB,pC,pD,pG,pH,pI,pJ,u11,q7,u12,q8,u8,u13,q9,hO,mC,bW]
end
end
noncomputable def gk(k:Nat):Array Oper:=match f40.body with
 |some (.seq (.region _ a _) (.seq (.region _ b _) (.seq (.region _ c _) (.seq (.region _ e _) _))))=>if k=0 then a else if k=1 then b else if k=2 then c else e
 |_=> #[]
theorem Hu{t:I4}(ht:tLe 20 t)(hz:¬yw t)(M:Mem):kO prog 40 [tA t] M (.agg (mC (zb t))) M:=by
 have hG:aT prog 40=some f40:=by kernel_rfl
 have X:=GW hz;obtain⟨w,x,y,z⟩:=t;obtain⟨Q,Z,h3,V⟩:=ht;simp only at Q Z h3 V X;unfold zb Rv tA;simp only;obtain⟨lA,nA⟩:=eS Q Q;obtain⟨lB,nB⟩:=eS Z Z;obtain⟨lC,nC⟩:=eS h3 h3;obtain⟨lD,nD⟩:=eS V V;obtain⟨lE,nE⟩:=eS Z h3;obtain⟨lF,nF⟩:=eS Q V;obtain⟨lG,nG⟩:=eS Z V;obtain⟨lH,nH⟩:=eS Q h3;obtain⟨lI,nI⟩:=eS h3 V;obtain⟨lJ,nJ⟩:=eS Q Z;obtain⟨A,hA⟩:=xE (w*w);obtain⟨B,hB⟩:=xE (x*x);obtain⟨C,hC⟩:=xE (y*y);obtain⟨D,hD⟩:=xE (z*z);obtain⟨E,hE⟩:=xE (x*y);obtain⟨F,hF⟩:=xE (w*z);obtain⟨G,L⟩:=xE (x*z);obtain⟨H,hH⟩:=xE (w*y);obtain⟨I,hI⟩:=xE (y*z);obtain⟨J,hJ⟩:=xE (w*x);rw[←hA] at lA nA X;rw[←hB] at lB nB X;rw[←hC] at lC nC X;rw[←hD] at lD nD X;rw[←hE] at lE nE;rw[←hF] at lF nF;rw[←L] at lG nG;rw[←hH] at lH nH;rw[←hI] at lI nI;rw[←hJ] at lJ nJ;rw[←hA,←hB,←hC,←hD,←hE,←hF,←L,←hH,←hI,←hJ];clear Q Z h3 V;have wr:∀n:Int,-1000000≤n∧n≤1000000→IntKind.i64.wrap n=n:=fun n h=>ji h.1 h.2
 have pA:IntKind.i64.wrap (w*w)=A:=by rw[←hA];exact wr A (by omega)
 have pB:IntKind.i64.wrap (x*x)=B:=by rw[←hB];exact wr B (by omega)
 have pC:IntKind.i64.wrap (y*y)=C:=by rw[←hC];exact wr C (by omega)
 have pD:IntKind.i64.wrap (z*z)=D:=by rw[←hD];exact wr D (by omega)
 have pE:IntKind.i64.wrap (x*y)=E:=by rw[←hE];exact wr E (by omega)
 have pF:IntKind.i64.wrap (w*z)=F:=by rw[←hF];exact wr F (by omega)
 have pG:IntKind.i64.wrap (x*z)=G:=by rw[←L];exact wr G (by omega)
 have pH:IntKind.i64.wrap (w*y)=H:=by rw[←hH];exact wr H (by omega)
 have pI:IntKind.i64.wrap (y*z)=I:=by rw[←hI];exact wr I (by omega)
 have pJ:IntKind.i64.wrap (w*x)=J:=by rw[←hJ];exact wr J (by omega)
 clear hA hB hC hD hE hF L hH hI hJ;obtain⟨S,hS⟩:=xE (A+B+C+D);have pS:0<S:=by omega
 have lS:S.natAbs≤1000000:=by omega
 have u1:=wr (A+B) (by omega);have u2:=wr (A+B+C) (by omega);have u3:IntKind.i64.wrap (A+B+C+D)=S:=by rw[←hS];exact wr S (by omega)
 rw[←hS];obtain⟨r1,e1⟩:=xE (α:=V3) (mkRat (A+B-C-D) S.toNat,mkRat (2*(E-F)) S.toNat,mkRat (2*(G+H)) S.toNat);obtain⟨r2,e2⟩:=xE (α:=V3) (mkRat (2*(E+F)) S.toNat,mkRat (A-B+C-D) S.toNat,mkRat (2*(I-J)) S.toNat);obtain⟨r3,e3⟩:=xE (α:=V3) (mkRat (2*(G-H)) S.toNat,mkRat (2*(I+J)) S.toNat,mkRat (A-B-C+D) S.toNat);rw[←e1,←e2,←e3];obtain⟨R,Yn⟩:=xE (α:=Mem) [.cells true 0 [.int .i64 w,.int .i64 x,.int .i64 y,.int .i64 z],.cells true 0 [.str [],.str [],.str [],.str [],.str [],.str [],.str [],.str [],.str []],.cells true 0 [.int .i64 S]];have hO:qS prog (yo fun c a N r=>∃p q v:Int,(c=.fn 82∧a=[.int .i64 p,.int .i64 q,.int .i64 v,.ptr 2 0]∧N=R)∧(p.natAbs≤1000000∧q.natAbs≤1000000∧v.natAbs≤1000000)∧r=⟨vA (mkRat p S.toNat,mkRat q S.toNat,mkRat v S.toNat),none,[]⟩):=AL fun c a N r ⟨p,q,v,⟨Q,Z,h3⟩,⟨g1,g2,g3⟩,V⟩=>by subst Q Z h3 V Yn;exact aw (by simpa [y9.mem] using Ht p q v S pS lS g1 g2 g3 _ _)
 have m:∀p q v:Int,p.natAbs≤1000000→q.natAbs≤1000000→v.natAbs≤1000000→yo (fun c a N r=>∃p q v:Int,(c=.fn 82∧a=[.int .i64 p,.int .i64 q,.int .i64 v,.ptr 2 0]∧N=R)∧(p.natAbs≤1000000∧q.natAbs≤1000000∧v.natAbs≤1000000)∧r=⟨vA (mkRat p S.toNat,mkRat q S.toNat,mkRat v S.toNat),none,[]⟩) (.fn 82) [.int .i64 p,.int .i64 q,.int .i64 v,.ptr 2 0] R=some ⟨vA (mkRat p S.toNat,mkRat q S.toNat,mkRat v S.toNat),none,[]⟩:=fun p q v g1 g2 g3=>lK ⟨p,q,v,⟨rfl,rfl,rfl⟩,⟨g1,g2,g3⟩,rfl⟩ fun r' ⟨p',q',v',⟨_,Z,_⟩,_,V⟩=>by simp only[List.cons.injEq,AV.int.injEq,true_and,and_true] at Z;obtain⟨rfl,rfl,rfl⟩:=Z;exact V
 obtain⟨O,Zq⟩:=xE (yo (fun c a N r=>∃p q v:Int,(c=.fn 82∧a=[.int .i64 p,.int .i64 q,.int .i64 v,.ptr 2 0]∧N=R)∧(p.natAbs≤1000000∧q.natAbs≤1000000∧v.natAbs≤1000000)∧r=⟨vA (mkRat p S.toNat,mkRat q S.toNat,mkRat v S.toNat),none,[]⟩));rw[←Zq] at hO;simp only[←Zq] at m;clear Zq;have o:=m (A+B-C-D) (2*(E-F)) (2*(G+H)) (by omega) (by omega) (by omega);have o2:=m (2*(E+F)) (A-B+C-D) (2*(I-J)) (by omega) (by omega) (by omega);have o3:=m (2*(G-H)) (2*(I+J)) (A-B-C+D) (by omega) (by omega) (by omega);rw[←e1] at o;rw[←e2] at o2;rw[←e3] at o3;obtain⟨U,A'⟩:=xE fq;obtain⟨Fu,u⟩:=pN (p:=fun e (_:Bool)=>(ab e 2=.ptr 1 0∧ab e 3=.int .i64 w∧ab e 4=.int .i64 x∧ab e 5=.int .i64 y∧ab e 6=.int .i64 z∧ab e 8=.func 82 [.ptr 2 0])) (q:=fun env (_:Bool) AC =>dx (ba prog) O 133 0 U U.toList ⟨env,R,false⟩=some ⟨AC,R.set 1 (.cells true 0 (mC (r1,r2,r3))),false⟩∧ab AC 2=.ptr 1 0) (fun env _ h=>by obtain⟨Z,h3,V,j,Y,W⟩:=h;subst A';obtain⟨E0,R0,a2,a3,a4,a5,a6,a8,a65⟩:=Nf (O:=O) (m0:=0) (ops:=fq) (mem:=R) (d:=false) h3 V j Y W pA pB pC pD pE pF pG pH u1 (wr (A+B-C) (by omega)) (wr (A+B-C-D) (by omega)) (wr (E-F) (by omega)) (wr (2*(E-F)) (by omega)) (wr (G+H) (by omega)) (wr (2*(G+H)) (by omega)) o;obtain⟨E1,R1,b2,b3,b4,b5,b6,b8,b65,b98⟩:=Ng (O:=O) (m0:=0) (ops:=fq) (mem:=R) (d:=false) a3 a4 a5 a6 a8 a65 pA pB pC pD pE pF pI pJ (wr (E+F) (by omega)) (wr (2*(E+F)) (by omega)) (wr (A-B) (by omega)) (wr (A-B+C) (by omega)) (wr (A-B+C-D) (by omega)) (wr (I-J) (by omega)) (wr (2*(I-J)) (by omega)) o2;obtain⟨E2,R2,c2⟩:=Nh (O:=O) (m0:=0) (ops:=fq) (mem:=R) (d:=false) b3 b4 b5 b6 b8 (b2.trans (a2.trans Z)) b65 b98 pA pB pC pD pG pH pI pJ (wr (G-H) (by omega)) (wr (2*(G-H)) (by omega)) (wr (I+J) (by omega)) (wr (2*(I+J)) (by omega)) (wr (A-B) (by omega)) (wr (A-B-C) (by omega)) (wr (A-B-C+D) (by omega)) o3 ⟨_,_,Yn⟩ rfl rfl;exact⟨E2,by rw[J4];exact dH R0 (dH R1 R2),c2⟩)
 have Yl:=fun env Z h3 V j Y W=>(u env false ⟨Z,h3,V,j,Y,W⟩).1
 have Yp:=fun env Z h3 V j Y W=>(u env false ⟨Z,h3,V,j,Y,W⟩).2
 have hb:f40.body=some (.seq (.region 0 (gk 0) false) (.seq (.region 1 (gk 1) true) (.seq (.region 2 (gk 2) false) (.seq (.region 3 (gk 3) false) (.seq (.region 4 U false) .ret))))):=by rw[A'];kernel_rfl
 subst Yn;refine ao hO ?_ M;clear u hO m o o2 o3 e1 e2 e3;obtain⟨o,K⟩:=xE (gk 1);have IR:dW o.toList=[0,1,0,4,0,16,0,64,3,271,831,2047]:=by rw[K];kernel_rfl
 have YF:dS [0,1,0,4,0,16,0,64,3,271,831,2047] 11=true:=by decide
 have YZ :gk 1=o:=K.symm;unfold aa;rw[hG];dsimp only;rw[hb];dsimp only;rw[YZ];clear YZ hb;simp[gk,f40] at K;subst K;simp[-aK,aq IR,bm,aZ,bl,YF,Yl,Yp,gk,f40,pA,pB,pC,pD,u1,u2,u3,mC]
open Classical in
noncomputable def Ap(f:FuncId)(args:List AV):Option AV:=
 match f,args with
 |38,[.agg [.str a,.str b,.str c],.agg [.str d,.str e,.str g]]=>match v3P a b c,v3P d e g with
  |some u,some v=>if TW u v then some (.str (aB (gG u v))) else none
  |_,_=>none
 |_,_=>none
theorem Nd:qS prog (af Ap):=bH fun f Z v h mem=>by
 unfold Ap at h;split at h
 ·split at h
  ·rename_i u w X V
   split at h
   ·rename_i U
    cases h;obtain⟨rfl,rfl,rfl⟩:=jh X;obtain⟨rfl,rfl,rfl⟩:=jh V;exact tH u w U mem
   ·cases h
  ·cases h
 ·cases h
def XV(r:M3)(v:V3):Prop:=TW r.1 v∧TW r.2.1 v∧TW r.2.2 v
theorem Hq(r:M3)(v:V3)(h:XV r v)(M:Mem):kO prog 39 [.agg (mC r),vA v] M (vA (nK r v)) M:=by
 have F:aT prog 39=some f39:=by kernel_rfl
 have R:qS prog (af Ap):=Nd;obtain⟨Q,O,h3⟩:=h;obtain⟨a,b,c⟩:=r;obtain⟨Z,X,V⟩:=v;obtain⟨D,C,B⟩:=a;obtain⟨u,o,m⟩:=b;obtain⟨Y,W,J⟩:=c;simp only at Q O h3;unfold nK;simp only;obtain⟨x,N⟩:=xE (gG (D,C,B) (Z,X,V));obtain⟨y,L⟩:=xE (gG (u,o,m) (Z,X,V));obtain⟨z,K⟩:=xE (gG (Y,W,J) (Z,X,V));rw[←N,←L,←K];refine ao R ?_ M;clear R;obtain⟨G,U⟩:∃G,aJ f39=[G]:=⟨_,rfl⟩
 obtain⟨S,I⟩:=cD U (l:=[0,1,0,7,0,16,0,127,0,256,0,2047,4095,8191]) (j:=13) (by kernel_rfl) (by decide);simp[aJ,bU,f39] at U;subst U;simp[aa,F,f39,-aK,aq S,bm,aZ,bl,I,vA,mC,bW,aH,af,Ap,Da,Q,O,h3,←N,←L,←K,Nat.testBit]
end Go.Proofs
