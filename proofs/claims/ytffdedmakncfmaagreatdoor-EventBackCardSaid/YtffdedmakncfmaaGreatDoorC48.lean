/- See C54. -/
import Derived.Test.YtffdedmakncfmaaGreatDoorC44
set_option linter.all false
set_option maxRecDepth 100000
set_option maxHeartbeats 40000000
namespace Go.Proofs
open Go.Eng
open Tryz
def vG(v:V3):Prop:=cB v.1∧cB v.2.1∧cB v.2.2
variable{n:Nat}
theorem de{q:Rat}(h:dg n n q)(h0:0<n)(h1:n≤2000):cB q:=by have:=h.lens h0 h0;exact⟨by omega,by omega⟩
variable{v:V3}
theorem DT(h:vDg n v)(h0:0<n)(h1:n≤2000):vG v:=⟨de h.1 h0 h1,de h.2.1 h0 h1,de h.2.2 h0 h1⟩
theorem pg(v:V3)(k:Rat)(H:vG v)(hk:cB k)(M:Mem):kO prog 29 [vA v,.str (ax k)] M (vA (nO v k)) M:=by
 have G:aS prog 29=some f29:=by kernel_rfl
 obtain⟨a,b,c⟩:=v;obtain⟨⟨V,U⟩,⟨h3,S⟩,R,Q⟩:=H;obtain⟨F,D⟩:=hk;simp only at V U h3 S R Q;unfold nO;simp only;obtain⟨x,O⟩:=xE (a*k);obtain⟨y,N⟩:=xE (b*k);obtain⟨z,L⟩:=xE (c*k);rw[←O,←N,←L];refine ao gb ?_ M;obtain⟨K,Z⟩:∃K,aG f29=[K]:=⟨_,rfl⟩
 obtain⟨X,C⟩:=cC Z (l:=[0,1,0,7,0,16,0,127,0,256,0,2047,4095,8191]) (j:=13) (by kernel_rfl) (by decide);simp[aG,bQ,f29] at Z;subst Z;simp[aa,G,f29,-aH,ak X,be,aV,aX,C,vA,bN,aF,ay,ag,eR,fy,V,U,h3,S,R,Q,F,D,←O,←N,←L,Nat.testBit]
theorem pe(u v:V3)(H:vG u)(I:vG v)(M:Mem):kO prog 35 [vA u,vA v] M (vA (iU u v)) M:=by
 have o:aS prog 35=some f35:=by kernel_rfl
 obtain⟨a,b,c⟩:=u;obtain⟨d,e,f⟩:=v;obtain⟨⟨V,U⟩,⟨h3,S⟩,R,Q⟩:=H;obtain⟨⟨O,N⟩,⟨g3,L⟩,K,G⟩:=I;simp only at V U h3 S R Q O N g3 L K G;unfold iU;simp only;obtain⟨x,F⟩:=xE (a+d);obtain⟨y,D⟩:=xE (b+e);obtain⟨z,C⟩:=xE (c+f);rw[←F,←D,←C];refine ao gb ?_ M;obtain⟨B,Z⟩:∃B,aG f35=[B]:=⟨_,rfl⟩
 obtain⟨X,m⟩:=cC Z (l:=[0,1,0,4,15,0,32,0,128,511,0,1024,0,4096,16383,32767,65535]) (j:=16) (by kernel_rfl) (by decide);simp[aG,bQ,f35] at Z;subst Z;simp[aa,o,f35,-aH,ak X,be,aV,aX,m,vA,bN,aF,ay,ag,eR,fy,V,U,h3,S,R,Q,O,N,g3,L,K,G,←F,←D,←C,Nat.testBit]
theorem Xf(a b:V3):iU a (nO b (-1))=BA a b:=by
 unfold iU nO BA;have k:∀p q:Rat,p+q* -1=p-q:=fun p q=>by grind
 simp only[k]
theorem Zh(h:vG v):vG (nO v (-1)):=by
 have k:∀q:Rat,cB q→cB (q* -1):=fun q h=>by
  have e:q* -1= -q:=by grind
  rw[e];unfold cB at*;rw[Rat.neg_num,Int.natAbs_neg,Rat.neg_den];exact h
 exact⟨k _ h.1,k _ h.2.1,k _ h.2.2⟩
theorem Hw:cB (-1):=⟨by decide,by decide⟩
theorem Ub:cB 1:=⟨by decide,by decide⟩
theorem NH(u v:V3)(H:vG u)(y:vG v)(M:Mem):kO prog 41 [vA u,vA v] M (vA (BA u v)) M:=by
 have O:aS prog 41=some f41:=by kernel_rfl
 have N:ax (-1)=[45,49]:=by decide +kernel
 have X:=fun M=>pg v (-1) y Hw M
 have Z:=fun M=>pe u _ H (Zh y) M
 rw[Xf] at Z;rw[N] at X;obtain⟨w,L⟩:=xE (nO v (-1));obtain⟨q,K⟩:=xE (BA u v);rw[←L] at X Z;rw[←K] at Z ⊢;have S:qS prog (ag (cc [(29,[vA v,.str [45,49]],vA w),(35,[vA u,vA w],vA q)])):=cD fun e R M=>by
  simp only[lM] at R;rcases R with rfl | rfl
  ·exact X M
  ·exact Z M
 refine ao S ?_ M;clear S X Z;obtain⟨Q,V⟩:∃Q,aG f41=[Q]:=⟨_,rfl⟩
 obtain⟨U,G⟩:=cC V (l:=[0,0,2,7,15]) (j:=4) (by kernel_rfl) (by decide);simp[aG,bQ,f41] at V;subst V;simp[aa,O,f41,-aH,ak U,be,aV,aX,G,vA,cc,ag,Nat.testBit]
def Sb(a b:V3):Prop:=(vG a∧vG b)∧(cB (a.1*b.1)∧cB (a.2.1*b.2.1)∧cB (a.2.2*b.2.2))∧cB (a.2.1*b.2.1+a.2.2*b.2.2)
theorem pf(u v:V3)(h:Sb u v)(M:Mem):kO prog 38 [vA u,vA v] M (.str (ax (fI u v))) M:=by
 have hG:aS prog 38=some f38:=by kernel_rfl
 obtain⟨a,b,c⟩:=u;obtain⟨d,e,f⟩:=v;obtain⟨⟨⟨⟨K,G⟩,⟨h3,F⟩,D,C⟩,⟨B,o⟩,⟨g3,m⟩,Y,W⟩,⟨⟨V,U⟩,⟨S,R⟩,Q,O⟩,Z,X⟩:=h;simp only at K G h3 F D C B o g3 m Y W V U S R Q O Z X;have ev:fI (a,b,c) (d,e,f)=a*d+(b*e+c*f):=by unfold fI;simp only;rw[Rat.add_assoc]
 rw[ev];obtain⟨x,J⟩:=xE (a*d);obtain⟨y,I⟩:=xE (b*e);obtain⟨z,H⟩:=xE (c*f);rw[←J] at V U ⊢;rw[←I] at S R Z X ⊢;rw[←H] at Q O Z X ⊢;obtain⟨w,hw⟩:=xE (y+z);rw[←hw] at Z X ⊢;obtain⟨q,hq⟩:=xE (x+w);rw[←hq];refine ao gb ?_ M;obtain⟨o1,N⟩:∃o1,aG f38=[o1]:=⟨_,rfl⟩
 obtain⟨L,j1⟩:=cC N (l:=[0,1,0,4,15,0,32,0,128,511,0,1024,0,4096,16383,32767,65535,131071]) (j:=17) (by kernel_rfl) (by decide);simp[aG,bQ,f38] at N;subst N;simp[aa,hG,f38,-aH,ak L,be,aV,aX,j1,vA,ay,ag,eR,fy,K,G,h3,F,D,C,B,o,g3,m,Y,W,V,U,S,R,Q,O,Z,X,←J,←I,←H,←hw,←hq,Nat.testBit]
theorem sF{a b:V3}(y:vDg n a)(H:vDg n b)(h0:0<n)(h1:n≤200):Sb a b:=by
 have X:=cV y.1 H.1;have P2:=cV y.2.1 H.2.1;have Z:=cV y.2.2 H.2.2;have S:=kV P2 Z (m:=4*n) (by omega) (by omega);have f:∀{x:Nat}{q:Rat},dg x x q→0<x→x≤2000→cB q:=fun h p r=>de h p r
 exact⟨⟨DT y h0 (by omega),DT H h0 (by omega)⟩,⟨f X (by omega) (by omega),f P2 (by omega) (by omega),f Z (by omega) (by omega)⟩,f (S.mono (n' :=4*n+1) (d' :=4*n+1) (by omega) (by omega)) (by omega) (by omega)⟩
abbrev Pl:=(Int×Nat)×(Int×Nat)×(Int×Nat)
def smC(x:Int×Nat):List AV:=[.int .i16 x.1,.int .u8 (x.2:Int)]
def plC(p:Pl):List AV:=smC p.1++(smC p.2.1++smC p.2.2)
def YG(x:Int×Nat):Prop:= -32768≤x.1∧x.1≤32767∧x.2<256
def Zp(p:Pl):Prop:=YG p.1∧YG p.2.1∧YG p.2.2
def smQ(x:Int×Nat):Rat:=mkRat x.1 (1+x.2)
def plQ(p:Pl):V3:=(smQ p.1,smQ p.2.1,smQ p.2.2)
theorem Vb{x:Int×Nat}(h:YG x):dg 5 5 (smQ x):=mZ (by omega) (by have:=h.1;have:=h.2.1;omega) (by have:=h.2.2;omega)
theorem Za{p:Pl}(h:Zp p):vDg 5 (plQ p):=⟨Vb h.1,Vb h.2.1,Vb h.2.2⟩
theorem IF(x:Int×Nat)(h:YG x)(M:Mem):kO prog 33 [.agg (smC x)] M (.str (ax (smQ x))) M:=by
 have V:aS prog 33=some f33:=by kernel_rfl
 obtain⟨n,d⟩:=x;obtain⟨U,S,h3⟩:=h;simp only at U S h3;have Z:qS prog (ag (cc [(27,[.int .i64 n,.int .i64 (1+(d:Int))],.str (ax (mkRat n (1+d))))])):=cD fun e X M=>by
  rw[List.mem_singleton] at X;have:=BM n (1+d) (by omega) (by omega) (by omega) M;rw[X];have R:((1+d:Nat):Int)=1+(d:Int):=by omega
  rw[R] at this;exact this
 refine ao Z ?_ M;clear Z;have w1:IntKind.i64.wrap n=n:=af;have w2:IntKind.i64.wrap (d:Int)=(d:Int):=af;have w3:IntKind.i64.wrap (1+(d:Int))=1+(d:Int):=af;simp[aa,V,f33,ag,cc,smC,smQ,w1,w2,w3]
noncomputable def G2(f:FuncId)(args:List AV):Option AV:=
 match f,args with
 |33,[.agg [.int .i16 n,.int .u8 d]]=>if (-32768≤n∧n≤32767)∧0≤d∧d<256 then some (.str (ax (smQ (n,d.toNat)))) else none
 |_,_=>none
theorem OJ:qS prog (ag G2):=bF fun f Z v h mem=>by
 unfold G2 at h;split at h
 ·rename_i n d
  split at h
  ·rename_i X
   cases h;have:=IF (n,d.toNat) ⟨X.1.1,X.1.2,by show d.toNat<256;omega⟩ mem;unfold smC at this;simp only at this;rw[Int.toNat_of_nonneg (by omega)] at this;exact this
  ·cases h
 ·cases h
theorem Iz(p:Pl)(h:Zp p)(M:Mem):kO prog 9 [.agg (plC p)] M (vA (plQ p)) M:=by
 have F:aS prog 9=some f9:=by kernel_rfl
 obtain⟨⟨a,b⟩,⟨c,d⟩,e,f⟩:=p;obtain⟨⟨V,U,h3⟩,⟨S,R,D⟩,Q,O,C⟩:=h;simp only at V U h3 S R D Q O C;have B:(b:Int)<256:=by omega
 have u:(d:Int)<256:=by omega
 have g3:(f:Int)<256:=by omega
 have o:(0:Int)≤(b:Int):=by omega
 have m:(0:Int)≤(d:Int):=by omega
 have Y:(0:Int)≤(f:Int):=by omega
 unfold plQ;simp only;obtain⟨x,N⟩:=xE (smQ (a,b));obtain⟨y,L⟩:=xE (smQ (c,d));obtain⟨z,K⟩:=xE (smQ (e,f));rw[←N,←L,←K];refine ao OJ ?_ M;obtain⟨G,Z⟩:∃G,aG f9=[G]:=⟨_,rfl⟩
 obtain⟨X,W⟩:=cC Z (l:=[0,1,3,0,8,31,0,64,255,511,1023]) (j:=10) (by kernel_rfl) (by decide);simp[aG,bQ,f9] at Z;subst Z;simp[aa,F,f9,-aH,ak X,be,aV,aX,W,vA,plC,smC,bN,aF,ag,G2,V,U,S,R,Q,O,B,u,g3,o,m,Y,←N,←L,←K,Nat.testBit]
theorem U5{a b:Rat}:0≤fL (a-b)↔b≤a:=by
 have h:=Qv (a-b);rw[UK] at h;constructor
 ·intro Z
  exact Rat.not_lt.1 fun X=>by
   have:a-b<0:=by grind
   have:=h.2 this;omega
 ·intro Z
  have:¬fL (a-b)<0:=fun X=>by
   have:=h.1 X;have h3:a<b:=by grind
   exact absurd Z (Rat.not_le.2 h3)
  omega
theorem wO(n p:V3)(o:Rat)(hd:Sb n p)(y:cB (fI n p))(H:cB o)(M:Mem):kO prog 53 [.agg [.str (ax n.1),.str (ax n.2.1),.str (ax n.2.2),.str (ax o)],vA p] M (.str (ax (fI n p-o))) M:=by
 have N:aS prog 53=some f53:=by kernel_rfl
 have Z:=fun M=>pf n p hd M
 have X:=fun M=>Fe (fI n p) o y H M
 obtain⟨d,V⟩:=xE (fI n p);rw[←V] at Z X ⊢;have R:qS prog (ag (cc [(38,[vA n,vA p],.str (ax d)),(81,[.str (ax d),.str (ax o)],.str (ax (d-o)))])):=cD fun e Q M=>by
  simp only[lM] at Q;rcases Q with rfl | rfl
  ·exact Z M
  ·exact X M
 refine ao R ?_ M;clear R Z X;obtain⟨O,U⟩:∃O,aG f53=[O]:=⟨_,rfl⟩
 obtain⟨S,L⟩:=cC U (l:=[0,1,0,7,0,16,63,127]) (j:=7) (by kernel_rfl) (by decide);simp[aG,bQ,f53] at U;subst U;simp[aa,N,f53,-aH,ak S,be,aV,aX,L,vA,cc,ag,Nat.testBit]
section
variable {x y:AV}{M:Mem}
theorem BJ(H:x.afR=true∧y.afR=true)(nm:List UInt8)(n:V3)(o:Rat)(v p:V3)(hd:Sb n p)(I:cB (fI n p))(J:cB o):
  kO prog 16 [.agg [x,y],.agg ((dO nm n o v).cells .qF .qF .qF .qF),vA p] M (.int .i64 (qQ n o p)) M:=by
 have Q:aS prog 16=some f16:=by kernel_rfl
 obtain⟨G,F⟩:=H;have U:=fun M=>wO n p o hd I J M
 have Z:=U5 (a:=fI n p) (b:=o);have V:=fun M=>BP (fI n p-o) M
 unfold qQ;obtain⟨d,S⟩:=xE (fI n p);rw[←S] at U V Z ⊢;obtain⟨q,L⟩:=xE (α:=Rat) (d-o);rw[←L] at U V Z;obtain⟨g,K⟩:=xE (fL q);rw[←K] at V Z;have O:qS prog (ag (cc [(53,[.agg [.str (ax n.1),.str (ax n.2.1),.str (ax n.2.2),.str (ax o)],vA p],.str (ax q)),(52,[.str (ax q)],.int .i64 g)])):=cD fun e N M=>by
  simp only[lM] at N;rcases N with rfl | rfl
  ·exact U M
  ·exact V M
 have h:aa (bh prog) (fun _=>[]) (aS prog) (ag (cc [(53,[.agg [.str (ax n.1),.str (ax n.2.1),.str (ax n.2.2),.str (ax o)],vA p],.str (ax q)),(52,[.str (ax q)],.int .i64 g)])) 1 16 [.agg [x,y],.agg ((dO nm n o v).cells .qF .qF .qF .qF),vA p] M=some ⟨.int .i64 (if o≤d then 1 else 0),none,[]⟩:=by
  clear O U V;by_cases X:o≤d
  ·have R:=Z.2 X
   rw[if_pos X];simp[aa,Q,f16,ag,cc,dO,Evc.cells,vA,R]
  ·have R:¬0≤g:=fun h=>X (Z.1 h)
   rw[if_neg X];simp[aa,Q,f16,ag,cc,dO,Evc.cells,vA,R]
 have:=(ar aj (aK _) O (aR _) h).1;simpa [y9.mem] using this
theorem sj:(aG f12).map (fun o=>dm o.toList)=[[0,0,2,6,0,30,63,127],[0,0,2,6,0,0,32,96,0,256,768,0,3840,8160,16368,32766,65535,131071],[0,1,3,0,8,0,0,64,192,504,1016,2047,4095]]:=by kernel_rfl
section
variable (cx:x.afR=true∧y.afR=true)
include cx
theorem wM(nm:List UInt8)(n:V3)(o:Rat)(v p:V3)(bck:Bool)(hd:Sb n p)(H:cB (fI n p))(I:cB o)(J:vG p)(W:vG v)(Y:vG (nO v (sgB bck))):
  kO prog 12 [.agg [x,y],.agg ((dO nm n o v).cells .qF .qF .qF .qF),vA p,.bool (!bck)] M (vA (FH n o v bck p)) M:=by
 have O:aS prog 12=some f12:=by kernel_rfl
 have S:=fun M=>BJ (M:=M) cx nm n o v p hd H I
 obtain⟨c1,c2⟩:=cx;have Z:FH n o v bck p=if qQ n o p=1 then iU p (nO v (sgB bck)) else p:=by unfold FH qQ;split<;>simp
 have X:qQ n o p=0∨qQ n o p=1:=by unfold qQ;split<;>simp
 have N:cB (sgB bck):=by cases bck;exact Ub;exact Hw
 have V:=fun M=>pg v (sgB bck) W N M
 have U:=fun M=>pe p _ J Y M
 have L:ax (sgB bck)=sgT bck:=by cases bck<;>decide +kernel
 rw[L] at V;rw[Z];obtain⟨R,K⟩:=xE (qQ n o p);rw[←K] at S X ⊢;obtain⟨w,G⟩:=xE (nO v (sgB bck));rw[←G] at V U ⊢;obtain⟨q,F⟩:=xE (iU p w);rw[←F] at U ⊢;have D:qS prog (ag (cc [(16,[.agg [x,y],.agg ((dO nm n o v).cells .qF .qF .qF .qF),vA p],.int .i64 R),(29,[vA v,.str (sgT bck)],vA w),(35,[vA p,vA w],vA q)])):=cD fun e C M=>by
  simp only[lM] at C;rcases C with rfl | rfl | rfl
  ·exact S M
  ·exact V M
  ·exact U M
 clear S V U hd H I J W Y N K G F Z L;obtain⟨B,Q⟩:∃B,aG f12=B:=⟨_,rfl⟩
 have u:=cr Q sj;have m:dH [0,0,2,6,0,30,63,127] 7=true:=by decide
 simp only[aG,bQ,f12,lA] at Q;subst Q;simp only[lB] at u;obtain⟨j,-,-⟩:=u;have h:aa (bh prog) (fun _=>[]) (aS prog) (ag (cc [(16,[.agg [x,y],.agg ((dO nm n o v).cells .qF .qF .qF .qF),vA p],.int .i64 R),(29,[vA v,.str (sgT bck)],vA w),(35,[vA p,vA w],vA q)])) 1 12 [.agg [x,y],.agg ((dO nm n o v).cells .qF .qF .qF .qF),vA p,.bool (!bck)] M=some ⟨vA (if R=1 then q else p),none,[]⟩:=by
  clear D;rcases X with rfl | rfl
  ·rw[if_neg (by decide)]
   cases bck<;>simp[aa,O,f12,ag,cc,dO,Evc.cells,vA]
  ·rw[if_pos rfl]
   cases bck<;>simp[-getElem?_pos,-AV.afR,-AV.known,-AV.cells,-dy,-List.all_eq_true,vS,rS,mS,-bK,-bt,-AV.afP,-afU.afP,aa,O,f12,ag,cc,dO,Evc.cells,vA,sgT,-aH,ak j,be,aV,aX,m,Nat.testBit]
 have:=(ar aj (aK _) D (aR _) h).1;simpa [y9.mem] using this
theorem mM(c:Evc)(hk:c.k=1∨c.k=4){b u w H:AV}(I:b.afR=true)(J:u.afR=true)(hs:w.afR=true)(W:H.afR=true)(bck:Bool)(p:V3):
  kO prog 12 [.agg [x,y],.agg (c.cells b u w H),vA p,.bool (!bck)] M (vA p) M:=by
 have X:aS prog 12=some f12:=by kernel_rfl
 obtain⟨U,S⟩:=cx;have Z:∀s,(AV.str s).afR=true:=fun _=>rfl
 have V:∀k n,(AV.int k n).afR=true:=fun _ _=>rfl
 refine er (aw _) ?_;cases bck<;>rcases hk with hk | hk<;>simp[-AV.afR,Z,aa,X,f12,Evc.cells,vA,hk]
end
end
end Go.Proofs
namespace Go.Proofs
open Go.Eng
open Tryz
theorem Ph{n:Int}(h:n.natAbs≤1000000):n.natAbs<10 ^ 8:=by omega
theorem Il(a b c s:Int)(hs:0<s)(hs2:s.natAbs≤1000000)(y:a.natAbs≤1000000)(H:b.natAbs≤1000000)(hc:c.natAbs≤1000000)(X0 X1:afU):
  kO prog 82 [.int .i64 a,.int .i64 b,.int .i64 c,.ptr 2 0] [X0,X1,.cells true 0 [.int .i64 s]] (vA (mkRat a s.toNat,mkRat b s.toNat,mkRat c s.toNat)) [X0,X1,.cells true 0 [.int .i64 s]]:=by
 have Q:aS prog 82=some f82:=by kernel_rfl
 have Z :a.natAbs<100000000:=Ph y;have O :b.natAbs<100000000:=Ph H;have X :c.natAbs<100000000:=Ph hc;have V :s<100000000:=by omega
 obtain⟨R,U⟩:∃R,aG f82=[R]:=⟨_,rfl⟩
 obtain⟨S,N⟩:=cC U (l:=[0,0,3,0,0,31,0,0,255,511,1023]) (j:=10) (by kernel_rfl) (by decide);simp[aG,bQ,f82] at U;subst U;refine er gR ?_;simp[aa,Q,f82,-aH,ak S,be,aV,aX,N,Nat.testBit,ag,ek,hs,V,Z,O,X,vA,bN,aF]
noncomputable def fO:Array Oper:=match f40.body with
 |some (.seq _ (.seq _ (.seq _ (.seq _ (.seq (.region _ ops _) _)))))=>ops
 |_=> #[]
noncomputable def sf:List Oper:=(fO.toList.drop 0).take 33
noncomputable def sh:List Oper:=(fO.toList.drop 33).take 33
noncomputable def si:List Oper:=(fO.toList.drop 66).take 35
theorem Lf:fO.toList=sf++(sh++si):=by kernel_rfl
section
variable {O:afF}{m0:Nat}{ops:Array Oper}{env:Env}{mem:Mem}{d:Bool}{w x y z A B C D E F G H I J K1 K2 K3 K4 K5 K6 K7 K8 K9 S1 S4 S5 S6 S7 S8 S9 S10 S11 S12 S13:Int}{r1 r2 r3:V3}
section
variable (h3:ad env 3=.int .i64 w)(h4:ad env 4=.int .i64 x)(h5:ad env 5=.int .i64 y)(h6:ad env 6=.int .i64 z)(h8:ad env 8=.func 82 [.ptr 2 0])
include h3 h4 h5 h6 h8
theorem Ot(pA:IntKind.i64.wrap (w*w)=A)(W:IntKind.i64.wrap (x*x)=B)(pC:IntKind.i64.wrap (y*y)=C)(Y:IntKind.i64.wrap (z*z)=D)(pE:IntKind.i64.wrap (x*y)=E)(pF:IntKind.i64.wrap (w*z)=F)(pG:IntKind.i64.wrap (x*z)=G)(pH:IntKind.i64.wrap (w*y)=H)(u1:IntKind.i64.wrap (A+B)=S1)(u4:IntKind.i64.wrap (S1-C)=S4)(q1:IntKind.i64.wrap (S4-D)=K1)(u5:IntKind.i64.wrap (E-F)=S5)(q2:IntKind.i64.wrap (2*S5)=K2)(u6:IntKind.i64.wrap (G+H)=S6)(q3:IntKind.i64.wrap (2*S6)=K3)(hO:O (.fn 82) [.int .i64 K1,.int .i64 K2,.int .i64 K3,.ptr 2 0] mem=some ⟨vA r1,none,[]⟩):
  ∃Z,dF (bh prog) O 133 m0 ops sf ⟨env,mem,d⟩=some ⟨Z,mem,d⟩∧ad Z 2=ad env 2∧ad Z 3=.int .i64 w∧ad Z 4=.int .i64 x∧ad Z 5=.int .i64 y∧ad Z 6=.int .i64 z∧ad Z 8=.func 82 [.ptr 2 0]∧ad Z 65=vA r1:=by
 unfold vA at*;simp[sf,fO,f40,h3,h4,h5,h6,h8,pA,W,pC,Y,pE,pF,pG,pH,u1,u4,q1,u5,q2,u6,q3,hO]
theorem Ou(W:ad env 65=vA r1)(pA:IntKind.i64.wrap (w*w)=A)(pB:IntKind.i64.wrap (x*x)=B)(pC:IntKind.i64.wrap (y*y)=C)(pD:IntKind.i64.wrap (z*z)=D)(pE:IntKind.i64.wrap (x*y)=E)(pF:IntKind.i64.wrap (w*z)=F)(pI:IntKind.i64.wrap (y*z)=I)(pJ:IntKind.i64.wrap (w*x)=J)(u7:IntKind.i64.wrap (E+F)=S7)(q4:IntKind.i64.wrap (2*S7)=K4)(u8:IntKind.i64.wrap (A-B)=S8)(u9:IntKind.i64.wrap (S8+C)=S9)(q5:IntKind.i64.wrap (S9-D)=K5)(Y:IntKind.i64.wrap (I-J)=S10)(q6:IntKind.i64.wrap (2*S10)=K6)(hO:O (.fn 82) [.int .i64 K4,.int .i64 K5,.int .i64 K6,.ptr 2 0] mem=some ⟨vA r2,none,[]⟩):
  ∃Z,dF (bh prog) O 133 m0 ops sh ⟨env,mem,d⟩=some ⟨Z,mem,d⟩∧ad Z 2=ad env 2∧ad Z 3=.int .i64 w∧ad Z 4=.int .i64 x∧ad Z 5=.int .i64 y∧ad Z 6=.int .i64 z∧ad Z 8=.func 82 [.ptr 2 0]∧ad Z 65=vA r1∧ad Z 98=vA r2:=by
 unfold vA at*;simp[sh,fO,f40,h3,h4,h5,h6,h8,W,pA,pB,pC,pD,pE,pF,pI,pJ,u7,q4,u8,u9,q5,Y,q6,hO]
theorem Ov(h2:ad env 2=.ptr 1 0)(W:ad env 65=vA r1)(k98:ad env 98=vA r2)(pA:IntKind.i64.wrap (w*w)=A)(pB:IntKind.i64.wrap (x*x)=B)(pC:IntKind.i64.wrap (y*y)=C)(pD:IntKind.i64.wrap (z*z)=D)(pG:IntKind.i64.wrap (x*z)=G)(pH:IntKind.i64.wrap (w*y)=H)(pI:IntKind.i64.wrap (y*z)=I)(pJ:IntKind.i64.wrap (w*x)=J)(u11:IntKind.i64.wrap (G-H)=S11)(q7:IntKind.i64.wrap (2*S11)=K7)(u12:IntKind.i64.wrap (I+J)=S12)(q8:IntKind.i64.wrap (2*S12)=K8)(u8:IntKind.i64.wrap (A-B)=S8)(u13:IntKind.i64.wrap (S8-C)=S13)(q9:IntKind.i64.wrap (S13+D)=K9)(hO:O (.fn 82) [.int .i64 K7,.int .i64 K8,.int .i64 K9,.ptr 2 0] mem=some ⟨vA r3,none,[]⟩)(hm:∃X Y,mem=[X,.cells true 0 [.str [],.str [],.str [],.str [],.str [],.str [],.str [],.str [],.str []],Y])(hm0:m0=0)(hd:d=false):
  ∃Z,dF (bh prog) O 133 m0 ops si ⟨env,mem,d⟩=some ⟨Z,mem.set 1 (.cells true 0 (mC (r1,r2,r3))),d⟩∧ad Z 2=.ptr 1 0:=by
 obtain⟨X,Y,rfl⟩:=hm;subst hm0 hd;unfold vA at*;simp[si,fO,f40,h3,h4,h5,h6,h8,h2,W,k98,pA,pB,pC,pD,pG,pH,pI,pJ,u11,q7,u12,q8,u8,u13,q9,hO,mC,bN]
end
end
noncomputable def gO(k:Nat):Array Oper:=match f40.body with
 |some (.seq (.region _ a _) (.seq (.region _ b _) (.seq (.region _ c _) (.seq (.region _ e _) _))))=>if k=0 then a else if k=1 then b else if k=2 then c else e
 |_=> #[]
theorem Im{t:I4}(ht:tLe 20 t)(hz:¬xW t)(M:Mem):kO prog 40 [tA t] M (.agg (mC (A5 t))) M:=by
 have hG:aS prog 40=some f40:=by kernel_rfl
 have X:=Bu hz;obtain⟨w,x,y,z⟩:=t;obtain⟨Q,Z,h3,V⟩:=ht;simp only at Q Z h3 V X;unfold A5 E5 tA;simp only;obtain⟨lA,nA⟩:=fq Q Q;obtain⟨lB,nB⟩:=fq Z Z;obtain⟨lC,nC⟩:=fq h3 h3;obtain⟨lD,nD⟩:=fq V V;obtain⟨lE,nE⟩:=fq Z h3;obtain⟨lF,nF⟩:=fq Q V;obtain⟨lG,nG⟩:=fq Z V;obtain⟨lH,nH⟩:=fq Q h3;obtain⟨lI,nI⟩:=fq h3 V;obtain⟨lJ,nJ⟩:=fq Q Z;obtain⟨A,hA⟩:=xE (w*w);obtain⟨B,hB⟩:=xE (x*x);obtain⟨C,hC⟩:=xE (y*y);obtain⟨D,hD⟩:=xE (z*z);obtain⟨E,hE⟩:=xE (x*y);obtain⟨F,hF⟩:=xE (w*z);obtain⟨G,L⟩:=xE (x*z);obtain⟨H,hH⟩:=xE (w*y);obtain⟨I,hI⟩:=xE (y*z);obtain⟨J,hJ⟩:=xE (w*x);rw[←hA] at lA nA X;rw[←hB] at lB nB X;rw[←hC] at lC nC X;rw[←hD] at lD nD X;rw[←hE] at lE nE;rw[←hF] at lF nF;rw[←L] at lG nG;rw[←hH] at lH nH;rw[←hI] at lI nI;rw[←hJ] at lJ nJ;rw[←hA,←hB,←hC,←hD,←hE,←hF,←L,←hH,←hI,←hJ];clear Q Z h3 V;have wr:∀n:Int,-1000000≤n∧n≤1000000→IntKind.i64.wrap n=n:=fun n h=>jN h.1 h.2
 have pA:IntKind.i64.wrap (w*w)=A:=by rw[←hA];exact wr A (by omega)
 have pB:IntKind.i64.wrap (x*x)=B:=by rw[←hB];exact wr B (by omega)
 have pC:IntKind.i64.wrap (y*y)=C:=by rw[←hC];exact wr C (by omega)
 have pD:IntKind.i64.wrap (z*z)=D:=by rw[←hD];exact wr D (by omega)
 have pE:IntKind.i64.wrap (x*y)=E:=by rw[←hE];exact wr E (by omega)
 have pF:IntKind.i64.wrap (w*z)=F:=by rw[←hF];exact wr F (by omega)
 have pG:IntKind.i64.wrap (x*z)=G:=by rw[←L];exact wr G (by omega)
 have pH:IntKind.i64.wrap (w*y)=H:=by rw[←hH];exact wr H (by omega)
 have pI:IntKind.i64.wrap (y*z)=I:=by rw[←hI];exact wr I (by omega)
 have pJ:IntKind.i64.wrap (w*x)=J:=by rw[←hJ];exact wr J (by omega)
 clear hA hB hC hD hE hF L hH hI hJ;obtain⟨S,hS⟩:=xE (A+B+C+D);have pS:0<S:=by omega
 have lS:S.natAbs≤1000000:=by omega
 have u1:=wr (A+B) (by omega);have u2:=wr (A+B+C) (by omega);have u3:IntKind.i64.wrap (A+B+C+D)=S:=by rw[←hS];exact wr S (by omega)
 rw[←hS];obtain⟨r1,e1⟩:=xE (α:=V3) (mkRat (A+B-C-D) S.toNat,mkRat (2*(E-F)) S.toNat,mkRat (2*(G+H)) S.toNat);obtain⟨r2,e2⟩:=xE (α:=V3) (mkRat (2*(E+F)) S.toNat,mkRat (A-B+C-D) S.toNat,mkRat (2*(I-J)) S.toNat);obtain⟨r3,e3⟩:=xE (α:=V3) (mkRat (2*(G-H)) S.toNat,mkRat (2*(I+J)) S.toNat,mkRat (A-B-C+D) S.toNat);rw[←e1,←e2,←e3];obtain⟨R,u⟩:=xE (α:=Mem) [.cells true 0 [.int .i64 w,.int .i64 x,.int .i64 y,.int .i64 z],.cells true 0 [.str [],.str [],.str [],.str [],.str [],.str [],.str [],.str [],.str []],.cells true 0 [.int .i64 S]];have hO:qS prog (o9 fun c a N r=>∃p q v:Int,(c=.fn 82∧a=[.int .i64 p,.int .i64 q,.int .i64 v,.ptr 2 0]∧N=R)∧(p.natAbs≤1000000∧q.natAbs≤1000000∧v.natAbs≤1000000)∧r=⟨vA (mkRat p S.toNat,mkRat q S.toNat,mkRat v S.toNat),none,[]⟩):=uf fun c a N r ⟨p,q,v,⟨Q,Z,h3⟩,⟨g1,g2,g3⟩,V⟩=>by subst Q Z h3 V u;exact aC (by simpa [y9.mem] using Il p q v S pS lS g1 g2 g3 _ _)
 have Y:∀p q v:Int,p.natAbs≤1000000→q.natAbs≤1000000→v.natAbs≤1000000→o9 (fun c a N r=>∃p q v:Int,(c=.fn 82∧a=[.int .i64 p,.int .i64 q,.int .i64 v,.ptr 2 0]∧N=R)∧(p.natAbs≤1000000∧q.natAbs≤1000000∧v.natAbs≤1000000)∧r=⟨vA (mkRat p S.toNat,mkRat q S.toNat,mkRat v S.toNat),none,[]⟩) (.fn 82) [.int .i64 p,.int .i64 q,.int .i64 v,.ptr 2 0] R=some ⟨vA (mkRat p S.toNat,mkRat q S.toNat,mkRat v S.toNat),none,[]⟩:=fun p q v g1 g2 g3=>gx ⟨p,q,v,⟨rfl,rfl,rfl⟩,⟨g1,g2,g3⟩,rfl⟩ fun r' ⟨p',q',v',⟨_,Z,_⟩,_,V⟩=>by simp only[List.cons.injEq,AV.int.injEq,true_and,and_true] at Z;obtain⟨rfl,rfl,rfl⟩:=Z;exact V
 obtain⟨O,o⟩:=xE (o9 (fun c a N r=>∃p q v:Int,(c=.fn 82∧a=[.int .i64 p,.int .i64 q,.int .i64 v,.ptr 2 0]∧N=R)∧(p.natAbs≤1000000∧q.natAbs≤1000000∧v.natAbs≤1000000)∧r=⟨vA (mkRat p S.toNat,mkRat q S.toNat,mkRat v S.toNat),none,[]⟩));rw[←o] at hO;simp only[←o] at Y;clear o;have j:=Y (A+B-C-D) (2*(E-F)) (2*(G+H)) (by omega) (by omega) (by omega);have o2:=Y (2*(E+F)) (A-B+C-D) (2*(I-J)) (by omega) (by omega) (by omega);have o3:=Y (2*(G-H)) (2*(I+J)) (A-B-C+D) (by omega) (by omega) (by omega);rw[←e1] at j;rw[←e2] at o2;rw[←e3] at o3;obtain⟨U,D'⟩:=xE fO;obtain⟨Fu,m⟩:=qJ (p:=fun e (_:Bool)=>(ad e 2=.ptr 1 0∧ad e 3=.int .i64 w∧ad e 4=.int .i64 x∧ad e 5=.int .i64 y∧ad e 6=.int .i64 z∧ad e 8=.func 82 [.ptr 2 0])) (q:=fun env (_:Bool) AC =>dF (bh prog) O 133 0 U U.toList ⟨env,R,false⟩=some ⟨AC,R.set 1 (.cells true 0 (mC (r1,r2,r3))),false⟩∧ad AC 2=.ptr 1 0) (fun env _ h=>by obtain⟨Z,h3,V,W,h6,h8⟩:=h;subst D';obtain⟨E0,R0,a2,a3,a4,a5,a6,a8,a65⟩:=Ot (O:=O) (m0:=0) (ops:=fO) (mem:=R) (d:=false) h3 V W h6 h8 pA pB pC pD pE pF pG pH u1 (wr (A+B-C) (by omega)) (wr (A+B-C-D) (by omega)) (wr (E-F) (by omega)) (wr (2*(E-F)) (by omega)) (wr (G+H) (by omega)) (wr (2*(G+H)) (by omega)) j;obtain⟨E1,R1,b2,b3,b4,b5,b6,b8,b65,b98⟩:=Ou (O:=O) (m0:=0) (ops:=fO) (mem:=R) (d:=false) a3 a4 a5 a6 a8 a65 pA pB pC pD pE pF pI pJ (wr (E+F) (by omega)) (wr (2*(E+F)) (by omega)) (wr (A-B) (by omega)) (wr (A-B+C) (by omega)) (wr (A-B+C-D) (by omega)) (wr (I-J) (by omega)) (wr (2*(I-J)) (by omega)) o2;obtain⟨E2,R2,c2⟩:=Ov (O:=O) (m0:=0) (ops:=fO) (mem:=R) (d:=false) b3 b4 b5 b6 b8 (b2.trans (a2.trans Z)) b65 b98 pA pB pC pD pG pH pI pJ (wr (G-H) (by omega)) (wr (2*(G-H)) (by omega)) (wr (I+J) (by omega)) (wr (2*(I+J)) (by omega)) (wr (A-B) (by omega)) (wr (A-B-C) (by omega)) (wr (A-B-C+D) (by omega)) o3 ⟨_,_,u⟩ rfl rfl;exact⟨E2,by rw[Lf];exact dM R0 (dM R1 R2),c2⟩)
 have hF1:=fun env Z h3 V W h6 h8=>(m env false ⟨Z,h3,V,W,h6,h8⟩).1
 have hF2:=fun env Z h3 V W h6 h8=>(m env false ⟨Z,h3,V,W,h6,h8⟩).2
 have hb:f40.body=some (.seq (.region 0 (gO 0) false) (.seq (.region 1 (gO 1) true) (.seq (.region 2 (gO 2) false) (.seq (.region 3 (gO 3) false) (.seq (.region 4 U false) .ret))))):=by rw[D'];kernel_rfl
 subst u;refine ao hO ?_ M;clear m hO Y j o2 o3 e1 e2 e3;obtain⟨j,K⟩:=xE (gO 1);have PP:dm j.toList=[0,1,0,4,0,16,0,64,3,271,831,2047]:=by rw[K];kernel_rfl
 have hab:dH [0,1,0,4,0,16,0,64,3,271,831,2047] 11=true:=by decide
 have h1' :gO 1=j:=K.symm;unfold aa;rw[hG];dsimp only;rw[hb];dsimp only;rw[h1'];clear h1' hb;simp[gO,f40] at K;subst K;simp[-aH,ak PP,be,aV,aX,hab,hF1,hF2,gO,f40,pA,pB,pC,pD,u1,u2,u3,mC]
open Classical in
noncomputable def Bb(f:FuncId)(args:List AV):Option AV:=
 match f,args with
 |38,[.agg [.str a,.str b,.str c],.agg [.str d,.str e,.str g]]=>match v3P a b c,v3P d e g with
  |some u,some v=>if Sb u v then some (.str (ax (fI u v))) else none
  |_,_=>none
 |_,_=>none
theorem Oq:qS prog (ag Bb):=bF fun f Z v h mem=>by
 unfold Bb at h;split at h
 ·split at h
  ·rename_i u w X V
   split at h
   ·rename_i U
    cases h;obtain⟨rfl,rfl,rfl⟩:=jL X;obtain⟨rfl,rfl,rfl⟩:=jL V;exact pf u w U mem
   ·cases h
  ·cases h
 ·cases h
def ZW(r:M3)(v:V3):Prop:=Sb r.1 v∧Sb r.2.1 v∧Sb r.2.2 v
theorem Ih(r:M3)(v:V3)(h:ZW r v)(M:Mem):kO prog 39 [.agg (mC r),vA v] M (vA (mi r v)) M:=by
 have F:aS prog 39=some f39:=by kernel_rfl
 have R:qS prog (ag Bb):=Oq;obtain⟨Q,O,h3⟩:=h;obtain⟨a,b,c⟩:=r;obtain⟨Z,X,V⟩:=v;obtain⟨D,C,B⟩:=a;obtain⟨u,o,m⟩:=b;obtain⟨Y,W,J⟩:=c;simp only at Q O h3;unfold mi;simp only;obtain⟨x,N⟩:=xE (fI (D,C,B) (Z,X,V));obtain⟨y,L⟩:=xE (fI (u,o,m) (Z,X,V));obtain⟨z,K⟩:=xE (fI (Y,W,J) (Z,X,V));rw[←N,←L,←K];refine ao R ?_ M;clear R;obtain⟨G,U⟩:∃G,aG f39=[G]:=⟨_,rfl⟩
 obtain⟨S,I⟩:=cC U (l:=[0,1,0,7,0,16,0,127,0,256,0,2047,4095,8191]) (j:=13) (by kernel_rfl) (by decide);simp[aG,bQ,f39] at U;subst U;simp[aa,F,f39,-aH,ak S,be,aV,aX,I,vA,mC,bN,aF,ag,Bb,Vi,Q,O,h3,←N,←L,←K,Nat.testBit]
end Go.Proofs
