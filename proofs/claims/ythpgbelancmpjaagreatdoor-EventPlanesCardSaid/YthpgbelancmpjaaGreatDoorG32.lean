/- See G38. -/
import Derived.Test.YthpgbelancmpjaaGreatDoorG31
set_option linter.all false
set_option maxRecDepth 100000
set_option maxHeartbeats 40000000
namespace Go.Proofs
open Go.Eng
open Tryz
def sqP:List AV:=[.str [48],.str [48],.str [52],.str [48],.str [52],.str [52],.str [48],.str [52]]
def sqT:List AV:=[.int .i64 0,.int .i64 1,.int .i64 2,.int .i64 0,.int .i64 2,.int .i64 3]
theorem xx:Ec (aX prog) aa (aZ prog) OZ 60 10 (.fn 46) [.agg [.slice 0 0 4 none,.slice 1 0 2 none]] [.cells false 2 sqP,.cells false 3 sqT]=some ⟨.int .i64 0,some [.cells false 2 sqP,.cells false 3 sqT],[]⟩:=by kernel_rfl
theorem Ds:kO prog 46 [.agg [.slice 0 0 4 none,.slice 1 0 2 none]] [.cells false 2 sqP,.cells false 3 sqT] (.int .i64 0) [.cells false 2 sqP,.cells false 3 sqT]:=by have:=(pB aj (aI _) (aQ _) ND 10).fn _ _ _ _ xx;simpa [afl.mem] using this
def RM:List AV->List AV->Bool
 | [],[]=>true
 |.str a::l,.str b::r=>(a==b)&&RM l r
 |.int .i64 a::l,.int .i64 b::r=>decide (a=b)&&RM l r
 |_,_=>false
theorem Hl:∀{l r:List AV},RM l r=true->l=r
 | [],r,h=>by cases r<;>first | rfl | (unfold RM at h;cases h)
 |v::l,r,h=>by
  unfold RM at h;split at h
  next Z=>cases Z
  .rename_i Z
   cases Z;simp only[Es,beq_iff_eq] at h;rw[h.1,Hl h.2]
  .rename_i Z
   cases Z;simp only[Es,GE] at h;rw[h.1,Hl h.2]
  .cases h
def RK(M:Mem)(b e:Nat)(cs:List AV):Bool:=match M[b]? with
 |some (.cells _ es l)=>decide (es=e)&&RM (l.take cs.length) cs
 |_=>false
theorem Mm{M:Mem}{b e:Nat}{cs:List AV}{ks:List Nat}(h:RK M b e cs=true)(H:AV.afr cs=true):b<M.length/\af5 ks M b (.cells false e cs):=by
 unfold RK at h;split at h
 .rename_i o es l V
  simp only[Es,GE] at h;obtain⟨rfl,Z⟩:=h;have Z:=Hl Z;refine⟨(gL V),bl H,o,l,V,fun j v X=>?_⟩;have R:=gL X;have:l[j]? =cs[j]? :=by rw[<-QQa R,Z]
  have U:=aT (ρ:=fA ks M.length) H;rw[jm] at U;have S:(cs.map (AV.ren (fA ks M.length)))[j]? =cs[j]? :=by rw[U]
  rw[QQJ,X] at S;rw[this,X];exact S.symm
 .cases h
theorem Dq(M:Mem)(b c:Nat)(h1:RK M b 2 sqP=true)(h2:RK M c 3 sqT=true):kO prog 46 [.agg [.slice b 0 4 none,.slice c 0 2 none]] M (.int .i64 0) M:=by
 have X:=Mm (ks:=[b,c]) h1 (by rfl);have V:=Mm (ks:=[b,c]) h2 (by rfl);have:=kO.frame (M:=M) (new:=[]) [b,c] (m:=[.cells false 2 sqP,.cells false 3 sqT]) rfl (by
  intro k U;simp only[lM] at U;rcases U with h | h
  .rw[h];exact X.1
  .rw[h];exact V.1) (by rfl) (fun i s Z=>by
  match i with
  |0=>simp at Z;subst Z;exact X.2
  |1=>simp at Z;subst Z;exact V.2
  |i+2=>simp at Z) rfl Ds
 simpa [AV.afI,AV.ren,fA] using this
def Gz(c:Go.Eng.Callee)(args:List AV)(M:Mem):Option afl:=match c,args with
 |.fn 46,[.agg [.slice b 0 4 none,.slice c 0 2 none]]=>if RK M b 2 sqP&&RK M c 3 sqT then some ⟨.int .i64 0,none,[]⟩ else none
 |_,_=>none
theorem NY:qS prog Gz:=by
 refine cw fun c X M r h=>?_
 unfold Gz at h;split at h
 .split at h
  .rename_i Z
   simp only[Es] at Z;cases h;refine au ?_;rw[List.append_nil];exact Dq M _ _ Z.1 Z.2
  .cases h
 .cases h
def TV(r:afl):Bool:=(match r.v with
 |.bool b=>b
 |_=>false)&&r.new.isEmpty&&(match r.pre with
 |some p=>p.isEmpty
 |none=>true)
theorem Oy{r:afl}(h:TV r=true):r.v=.bool true/\r.mem []=[]:=by
 obtain⟨v,Z,V⟩:=r;simp only[TV,Es,List.isEmpty_iff] at h;obtain⟨⟨X,rfl⟩,h3⟩:=h;constructor
 .cases v<;>first | (cases X;done) | skip
  simp only at X;rw[X]
 .cases Z with
  |none=>rfl
  |some p=>simp only[List.isEmpty_iff] at h3;subst h3;rfl
noncomputable def Kn:y9:=y9.or Gz (y9.or (ah bn) (ah fG))
theorem Ko:qS prog Kn:=qS.or NY (qS.or cU jd)
theorem DQ:(Ec (aX prog) aa (aZ prog) Kn 60 20 (.fn 7) [] []).map TV=some true:=by kernel_rfl
theorem MK(M:Mem):kO prog 7 [] M (.bool true) M:=by have h:=DQ;rw[Y1] at h;obtain⟨r,Z,X⟩:=h;have:=(pB aj (aI _) (aQ _) Ko 20).fn _ _ _ _ Z;obtain⟨V,U⟩:=Oy X;rw[V,U] at this;exact kO.lift rfl rfl this M
end Go.Proofs
namespace Go.Proofs
open Go.Eng
end Go.Proofs
namespace Go.Proofs
open Go.Eng
open Tryz
def vG(v:V3):Prop:=dw v.1/\dw v.2.1/\dw v.2.2
theorem dO{n:Nat}{q:Rat}(h:dg n n q)(h0:0<n)(h1:n<=2000):dw q:=by have:=h.lens h0 h0;exact⟨by omega,by omega⟩
theorem YC{n:Nat}{v:V3}(h:vDg n v)(h0:0<n)(h1:n<=2000):vG v:=⟨dO h.1 h0 h1,dO h.2.1 h0 h1,dO h.2.2 h0 h1⟩
def W1(a b:V3):Prop:=(vG a/\vG b)/\(dw (a.1*b.1)/\dw (a.2.1*b.2.1)/\dw (a.2.2*b.2.2))/\dw (a.2.1*b.2.1+a.2.2*b.2.2)
theorem Bf(u v:V3)(h:W1 u v)(M:Mem):kO prog 54 [vA u,vA v] M (.str (aq (iK u v))) M:=by
 have hG:aZ prog 54=some f54:=by kernel_rfl
 obtain⟨a,b,c⟩:=u;obtain⟨d,e,f⟩:=v;obtain⟨⟨⟨⟨G,F⟩,⟨h3,C⟩,B,o⟩,⟨m,Y⟩,⟨g3,J⟩,I,H⟩,⟨⟨V,U⟩,⟨S,R⟩,O,N⟩,Z,X⟩:=h;simp only at G F h3 C B o m Y g3 J I H V U S R O N Z X;have ev:iK (a,b,c) (d,e,f)=a*d+(b*e+c*f):=by unfold iK;simp only;rw[Rat.add_assoc]
 rw[ev];obtain⟨x,hx⟩:=xE (a*d);obtain⟨y,hy⟩:=xE (b*e);obtain⟨z,hz⟩:=xE (c*f);rw[<-hx] at V U |-;rw[<-hy] at S R Z X |-;rw[<-hz] at O N Z X |-;obtain⟨w,hw⟩:=xE (y+z);rw[<-hw] at Z X |-;obtain⟨q,hq⟩:=xE (x+w);rw[<-hq];refine aA jr ?_ M;obtain⟨o1,L⟩:∃o1,aJ f54=[o1]:=⟨_,rfl⟩
 obtain⟨K,j1⟩:=eU L (l:=[0,1,0,4,15,0,32,0,128,511,0,1024,0,4096,16383,32767,65535,131071]) (j:=17) (by kernel_rfl) (by decide);simp[aJ,cB,f54] at L;subst L;simp[ae,hG,f54,-aR,aC K,bV,bK,bQ,j1,vA,aF,ah,gP,iy,G,F,h3,C,B,o,m,Y,g3,J,I,H,V,U,S,R,O,N,Z,X,<-hx,<-hy,<-hz,<-hw,<-hq,Nat.testBit]
theorem Tf{n:Nat}{a b:V3}(H:vDg n a)(I:vDg n b)(h0:0<n)(h1:n<=200):W1 a b:=by
 have X:=dp H.1 I.1;have P2:=dp H.2.1 I.2.1;have Z:=dp H.2.2 I.2.2;have S:=nP P2 Z (m:=4*n) (by omega) (by omega);have f:∀{x:Nat}{q:Rat},dg x x q->0<x->x<=2000->dw q:=fun h p r=>dO h p r
 exact⟨⟨YC H h0 (by omega),YC I h0 (by omega)⟩,⟨f X (by omega) (by omega),f P2 (by omega) (by omega),f Z (by omega) (by omega)⟩,f (S.mono (n' :=4*n+1) (d' :=4*n+1) (by omega) (by omega)) (by omega) (by omega)⟩
abbrev Pl:=(Int×Nat)×(Int×Nat)×(Int×Nat)
def smC(x:Int×Nat):List AV:=[.int .i16 x.1,.int .u8 (x.2:Int)]
def plC(p:Pl):List AV:=smC p.1++(smC p.2.1++smC p.2.2)
def XP(x:Int×Nat):Prop:= -32768<=x.1/\x.1<=32767/\x.2<256
def YN(p:Pl):Prop:=XP p.1/\XP p.2.1/\XP p.2.2
def smQ(x:Int×Nat):Rat:=mkRat x.1 (1+x.2)
def plQ(p:Pl):V3:=(smQ p.1,smQ p.2.1,smQ p.2.2)
theorem Un{x:Int×Nat}(h:XP x):dg 5 5 (smQ x):=pG (by omega) (by have:=h.1;have:=h.2.1;omega) (by have:=h.2.2;omega)
theorem Yr{p:Pl}(h:YN p):vDg 5 (plQ p):=⟨Un h.1,Un h.2.1,Un h.2.2⟩
theorem Ia(x:Int×Nat)(h:XP x)(M:Mem):kO prog 43 [.agg (smC x)] M (.str (aq (smQ x))) M:=by
 have V:aZ prog 43=some f43:=by kernel_rfl
 obtain⟨n,d⟩:=x;obtain⟨U,S,h3⟩:=h;simp only at U S h3;have Z:qS prog (ah (eR [(37,[.int .i64 n,.int .i64 (1+(d:Int))],.str (aq (mkRat n (1+d))))])):=gi fun e X M=>by
  rw[List.mem_singleton] at X;have:=Bg n (1+d) (by omega) (by omega) (by omega) M;rw[X];have R:((1+d:Nat):Int)=1+(d:Int):=by omega
  rw[R] at this;exact this
 refine aA Z ?_ M;clear Z;have w1:IntKind.i64.wrap n=n:=af;have w2:IntKind.i64.wrap (d:Int)=(d:Int):=af;have w3:IntKind.i64.wrap (1+(d:Int))=1+(d:Int):=af;simp[ae,V,f43,ah,eR,smC,smQ,w1,w2,w3]
noncomputable def Gy(f:FuncId)(args:List AV):Option AV:=
 match f,args with
 |43,[.agg [.int .i16 n,.int .u8 d]]=>if (-32768<=n/\n<=32767)/\0<=d/\d<256 then some (.str (aq (smQ (n,d.toNat)))) else none
 |_,_=>none
theorem NX:qS prog (ah Gy):=bM fun f Z v h mem=>by
 unfold Gy at h;split at h
 .rename_i n d
  split at h
  .rename_i X
   cases h;have:=Ia (n,d.toNat) ⟨X.1.1,X.1.2,by show d.toNat<256;omega⟩ mem;unfold smC at this;simp only at this;rw[QQi (by omega)] at this;exact this
  .cases h
 .cases h
theorem HZ(p:Pl)(h:YN p)(M:Mem):kO prog 10 [.agg (plC p)] M (vA (plQ p)) M:=by
 have C:aZ prog 10=some f10:=by kernel_rfl
 obtain⟨⟨a,b⟩,⟨c,d⟩,e,f⟩:=p;obtain⟨⟨V,U,h3⟩,⟨S,R,B⟩,O,N,u⟩:=h;simp only at V U h3 S R B O N u;have o:(b:Int)<256:=by omega
 have m:(d:Int)<256:=by omega
 have g3:(f:Int)<256:=by omega
 have Y:(0:Int)<=(b:Int):=by omega
 have J:(0:Int)<=(d:Int):=by omega
 have I:(0:Int)<=(f:Int):=by omega
 unfold plQ;simp only;obtain⟨x,L⟩:=xE (smQ (a,b));obtain⟨y,K⟩:=xE (smQ (c,d));obtain⟨z,G⟩:=xE (smQ (e,f));rw[<-L,<-K,<-G];refine aA NX ?_ M;obtain⟨F,Z⟩:∃F,aJ f10=[F]:=⟨_,rfl⟩
 obtain⟨X,H⟩:=eU Z (l:=[0,1,3,0,8,31,0,64,255,511,1023]) (j:=10) (by kernel_rfl) (by decide);simp[aJ,cB,f10] at Z;subst Z;simp[ae,C,f10,-aR,aC X,bV,bK,bQ,H,vA,plC,smC,cj,aH,ah,Gy,V,U,S,R,O,N,o,m,g3,Y,J,I,<-L,<-K,<-G,Nat.testBit]
theorem OM{a b:Rat}:0<=ga (a-b)↔b<=a:=by
 have h:=PF (a-b);rw[TT] at h;constructor
 .intro Z
  exact Rat.not_lt.1 fun X=>by
   have:a-b<0:=by grind
   have:=h.2 this;omega
 .intro Z
  have:¬ga (a-b)<0:=fun X=>by
   have:=h.1 X;have h3:a<b:=by grind
   exact absurd Z (Rat.not_le.2 h3)
  omega
theorem oH(n p:V3)(o:Rat)(hd:W1 n p)(H:dw (iK n p))(I:dw o)(M:Mem):kO prog 16 [.agg [.str (aq n.1),.str (aq n.2.1),.str (aq n.2.2),.str (aq o)],vA p] M (.str (aq (iK n p-o))) M:=by
 have L:aZ prog 16=some f16:=by kernel_rfl
 have Z:=fun M=>Bf n p hd M
 have X:=fun M=>Ew (iK n p) o H I M
 obtain⟨d,V⟩:=xE (iK n p);rw[<-V] at Z X |-;have R:qS prog (ah (eR [(54,[vA n,vA p],.str (aq d)),(53,[.str (aq d),.str (aq o)],.str (aq (d-o)))])):=gi fun e O M=>by
  simp only[lM] at O;rcases O with rfl | rfl
  .exact Z M
  .exact X M
 refine aA R ?_ M;clear R Z X;obtain⟨N,U⟩:∃N,aJ f16=[N]:=⟨_,rfl⟩
 obtain⟨S,K⟩:=eU U (l:=[0,1,0,7,0,16,63,127]) (j:=7) (by kernel_rfl) (by decide);simp[aJ,cB,f16] at U;subst U;simp[ae,L,f16,-aR,aC S,bV,bK,bQ,K,vA,eR,ah,Nat.testBit]
section
variable {x y:AV}{M:Mem}
theorem MM(H:x.afp=true/\y.afp=true)(nm:List UInt8)(n:V3)(o:Rat)(v p:V3)(hd:W1 n p)(I:dw (iK n p))(J:dw o):
  kO prog 17 [.agg [x,y],.agg ((ie nm n o v).cells .qF .qF .qF .qF),vA p] M (.int .i64 (Pd n o p)) M:=by
 have O:aZ prog 17=some f17:=by kernel_rfl
 obtain⟨F,C⟩:=H;have V:=fun M=>oH n p o hd I J M
 have Z:=OM (a:=iK n p) (b:=o);have X:=fun M=>ud (iK n p-o) M
 unfold Pd;obtain⟨d,S⟩:=xE (iK n p);rw[<-S] at V X Z |-;obtain⟨q,K⟩:=xE (α:=Rat) (d-o);rw[<-K] at V X Z;obtain⟨g,G⟩:=xE (ga q);rw[<-G] at X Z;have N:qS prog (ah (eR [(16,[.agg [.str (aq n.1),.str (aq n.2.1),.str (aq n.2.2),.str (aq o)],vA p],.str (aq q)),(15,[.str (aq q)],.int .i64 g)])):=gi fun e L M=>by
  simp only[lM] at L;rcases L with rfl | rfl
  .exact V M
  .exact X M
 have h:ae (aX prog) (fun _=>[]) (aZ prog) (ah (eR [(16,[.agg [.str (aq n.1),.str (aq n.2.1),.str (aq n.2.2),.str (aq o)],vA p],.str (aq q)),(15,[.str (aq q)],.int .i64 g)])) 1 17 [.agg [x,y],.agg ((ie nm n o v).cells .qF .qF .qF .qF),vA p] M=some ⟨.int .i64 (if o<=d then 1 else 0),none,[]⟩:=by
  clear N V X;by_cases U:o<=d
  .have R:=Z.2 U
   rw[if_pos U];simp[ae,O,f17,ah,eR,ie,Evc.cells,vA,R]
  .have R:¬0<=g:=fun h=>U (Z.1 h)
   rw[if_neg U];simp[ae,O,f17,ah,eR,ie,Evc.cells,vA,R]
 have:=(aB aj (aI _) N (aQ _) h).1;simpa [afl.mem] using this
end
end Go.Proofs
namespace Go.Proofs
open Go.Eng
section
variable {O:y9}{m0:Nat}{ops:Array Oper}{env:Env}{mem:Mem}{d:Bool}{w x y z A B C D E F G H I J K1 K2 K3 K4 K5 K6 K7 K8 K9 S1 S4 S5 S6 S7 S8 S9 S10 S11 S12 S13:Int}{r1 r2 r3:V3}
end
section
variable {x y:AV}{M:Mem}
end
section
variable {x:adM}{s:afv}{M:Mem}{p t:Nat}{o o' :Bool}{ev:List AV}{v:V3}
theorem Tc{n m k:Nat}{a b:V3}(I:vDg n a)(J:vDg m b)(H:5*(n+m)+10<=k):dg k k (iK a b):=(XD I J).mono H H
end
end Go.Proofs
namespace Go.Proofs
open Go.Eng
open Tryz
theorem sF(s:afv){i:Nat}{t:Tr}(h:s.T[i]? =some t):∃A B C,s.P[t.1]? =some A/\s.P[t.2.1]? =some B/\s.P[t.2.2]? =some C/\0<bD A B C:=by
 have Z:=PG s;unfold ja at Z;simp only[Es] at Z;have:=List.all_eq_true.1 Z.1.1.2 t (J1 h);split at this
 .rename_i A B C X V h3
  exact⟨A,B,C,X,V,h3,We (by simpa using this)⟩
 .cases this
theorem mq(s:afv):s.T.length<=1000:=by
 have:∀k<8,(bY k).length<=1000:=by decide
 exact this _ (Nat.mod_lt _ (by decide))
variable{K:Nat}{O:y9}{args:List AV}{f:FuncId}{lv:Code->List Nat}{mem:Mem}{v:AV}
theorem Sk(I:qS prog O){H:Mem}(h:ae (aX prog) lv (aZ prog) O K f args mem=some ⟨v,none,H⟩):kO prog f args mem v (mem++H):=by have:=(aB aj (aI _) I (aQ _) h).1;simpa [afl.mem] using this
theorem j9(H:qS prog O)(h:ae (aX prog) lv (aZ prog) O K f args mem=some ⟨v,none,[]⟩):kO prog f args mem v mem:=by have:=(aB aj (aI _) H (aQ _) h).1;simpa [afl.mem] using this
def Y0(a b c d:Rat):Prop:=(dw a/\dw b/\dw c/\dw d)/\dw (a*b)/\dw (c*d)
theorem FE(a b c d:Rat)(h:Y0 a b c d)(M:Mem):kO prog 153 [.str (aq a),.str (aq b),.str (aq c),.str (aq d)] M (.str (aq (a*b-c*d))) M:=by
 have N:aZ prog 153=some f153:=by kernel_rfl
 obtain⟨⟨⟨L,G⟩,⟨h3,F⟩,⟨C,B⟩,u,o⟩,⟨Z,X⟩,V,U⟩:=h;obtain⟨x,S⟩:=xE (a*b);obtain⟨y,R⟩:=xE (c*d);rw[<-S] at Z X |-;rw[<-R] at V U |-;refine aA jr ?_ M;simp[ae,N,f153,aF,ah,gP,iy,L,G,h3,F,C,B,u,o,Z,X,V,U,<-S,<-R]
def arG(a b c:P2):Prop:=((dw a.1/\dw a.2)/\(dw b.1/\dw b.2)/\dw c.1/\dw c.2)/\Y0 (b.1-a.1) (c.2-a.2) (b.2-a.2) (c.1-a.1)
theorem yH(a b c:P2)(h:arG a b c)(M:Mem):kO prog 191 [pA a,pA b,pA c] M (.str (aq (bD a b c))) M:=by
 have hG:aZ prog 191=some f191:=by kernel_rfl
 obtain⟨G,F⟩:=a;obtain⟨b1,b2⟩:=b;obtain⟨c1,c2⟩:=c;obtain⟨⟨⟨⟨C,B⟩,u,o⟩,⟨⟨m,Y⟩,J,I⟩,⟨r1,r2⟩,H,r4⟩,R⟩:=h;unfold bD;simp only at C B u o m Y J I r1 r2 H r4 R |-;have S:=fun M=>FE _ _ _ _ R M
 obtain⟨x1,Z⟩:=xE (b1-G);obtain⟨x2,X⟩:=xE (c2-F);obtain⟨x3,V⟩:=xE (b2-F);obtain⟨x4,U⟩:=xE (c1-G);simp only[<-Z,<-X,<-V,<-U] at S |-;obtain⟨y,hy⟩:=xE (x1*x2-x3*x4);rw[<-hy] at S |-;have hO:qS prog (y9.or (ah (eR [(153,[.str (aq x1),.str (aq x2),.str (aq x3),.str (aq x4)],.str (aq y))])) (ah gP)):=qS.or (gi fun e he M=>by rw[List.mem_singleton] at he;rw[he];exact S M) jr
 clear S R hy;refine aA hO ?_ M;clear hO;obtain⟨o1,N⟩:∃o1,aJ f191=[o1]:=⟨_,rfl⟩
 obtain⟨L,j1⟩:=eU N (l:=[0,1,0,4,15,0,32,0,128,511,0,1024,0,4096,16383,0,32768,0,131072,524287,1048575,2097151]) (j:=21) (by kernel_rfl) (by decide);simp[aJ,cB,f191] at N;subst N;simp[ae,hG,f191,-aR,aC L,bV,bK,bQ,j1,y9.or,pA,aF,ah,eR,gP,C,B,u,o,m,Y,J,I,r1,r2,H,r4,<-Z,<-X,<-V,<-U,Nat.testBit]
theorem H7(a b c:P2)(h:arG a b c)(M:Mem):kO prog 190 [pA a,pA b,pA c] M (.int .i64 (ga (bD a b c))) M:=by
 have V:aZ prog 190=some f190:=by kernel_rfl
 have Z:=fun M=>yH a b c h M
 obtain⟨y,U⟩:=xE (bD a b c);rw[<-U] at Z |-;have S:qS prog (ah (eR [(191,[pA a,pA b,pA c],.str (aq y)),(15,[.str (aq y)],.int .i64 (ga y))])):=gi fun e X M=>by
  simp only[lM] at X;rcases X with rfl | rfl
  .exact Z M
  .exact uc y M
 refine aA S ?_ M;simp[ae,V,f190,eR,ah,pA]
open Classical in
noncomputable def wB(f:FuncId)(args:List AV):Option AV:=
 match f,args with
 |190,[.agg [.str a,.str b],.agg [.str c,.str d],.agg [.str e,.str g]]=>match eh a,eh b,eh c,eh d,eh e,eh g with
  |some x,some y,some z,some w,some u,some v=>if arG (x,y) (z,w) (u,v) then some (.int .i64 (ga (bD (x,y) (z,w) (u,v)))) else none
  |_,_,_,_,_,_=>none
 |191,[.agg [.str a,.str b],.agg [.str c,.str d],.agg [.str e,.str g]]=>match eh a,eh b,eh c,eh d,eh e,eh g with
  |some x,some y,some z,some w,some u,some v=>if arG (x,y) (z,w) (u,v) then some (.str (aq (bD (x,y) (z,w) (u,v)))) else none
  |_,_,_,_,_,_=>none
 |f,args=>gP f args
theorem Ey:qS prog (ah wB):=bM fun f args v h mem=>by
 unfold wB at h;split at h
 .split at h
  .rename_i x y z w u v Z X h3 V U S
   split at h
   .rename_i R
    cases h;rw[aw Z,aw X,aw h3,aw V,aw U,aw S];exact H7 (x,y) (z,w) (u,v) R mem
   .cases h
  .cases h
 .split at h
  .rename_i x y z w u v Z X h3 V U S
   split at h
   .rename_i R
    cases h;rw[aw Z,aw X,aw h3,aw V,aw U,aw S];exact yH (x,y) (z,w) (u,v) R mem
   .cases h
  .cases h
 .have:=jr.fn _ _ mem ⟨v,none,[]⟩ (by unfold ah;simp only;rw[h])
  simpa [afl.mem] using this
variable{b:Rat}
theorem Xc{n:Nat}{a c d:Rat}(H:dg n n a)(I:dg n n b)(hc:dg n n c)(hd:dg n n d)(h0:0<n)(h1:n<=1000):Y0 a b c d:=
 ⟨⟨dO H h0 (by omega),dO I h0 (by omega),dO hc h0 (by omega),dO hd h0 (by omega)⟩,dO (dp H I) (by omega) (by omega),dO (dp hc hd) (by omega) (by omega)⟩
section
variable{n m:Nat}{a:Rat}(ha:dg n n a)(hb:dg m m b)
include n m a ha hb
theorem pF:dg (n+m+1) (n+m+1) (a-b):=(LC ha hb (m:=n+m) (by omega) (by omega)).mono (by omega) (by omega)
theorem S0:dg (n+m+1) (n+m+1) (a+b):=(nP ha hb (m:=n+m) (by omega) (by omega)).mono (by omega) (by omega)
end
variable{c:P2}
theorem B9{n:Nat}{a b:P2}(H:pDg n a)(I:pDg n b)(hc:pDg n c)(h0:0<n)(h1:n<=400):arG a b c:=by
 have f:∀{q:Rat},dg n n q->dw q:=fun h=>dO h h0 (by omega)
 exact⟨⟨⟨f H.1,f H.2⟩,⟨f I.1,f I.2⟩,f hc.1,f hc.2⟩,Xc (pF I.1 H.1) (pF hc.2 H.2) (pF I.2 H.2) (pF hc.1 H.1) (by omega) (by omega)⟩
theorem jC{n:Nat}{a b:P2}(H:pDg n a)(I:pDg n b)(hc:pDg n c):dg (8*n+5) (8*n+5) (bD a b c):=
 (pF (dp (pF I.1 H.1) (pF hc.2 H.2)) (dp (pF I.2 H.2) (pF hc.1 H.1))).mono (by omega) (by omega)
def whI(x y z:Int):Int:=if z<(if y<(if x<1 then x else 1) then y else if x<1 then x else 1) then z else if y<(if x<1 then x else 1) then y else if x<1 then x else 1
def whV(A B C q:P2):Int:=whI (ga (bD A B q)) (ga (bD B C q)) (ga (bD C A q))
theorem Ux{A B C q:P2}:0<=whV A B C q↔inQ (gZ A B C q):=by
 unfold whV inQ gZ;simp only;generalize ga (bD A B q)=x;generalize ga (bD B C q)=y;generalize ga (bD C A q)=z;unfold whI;constructor
 .intro h
  repeat' split at h
  all_goals omega
 .rintro ⟨Z,X,h3⟩
  repeat' split
  all_goals omega
def XQ(A B C q:P2):Prop:=arG A B q/\arG B C q/\arG C A q
section
variable {P:List P2}{T:List Tr}{t:Tr}{A B C:P2}{i:Nat}
theorem tJ(Y:T[i]? =some t)(H:P[t.1]? =some A)(I:P[t.2.1]? =some B)(J:P[t.2.2]? =some C):
  kO prog 109 [.agg [.slice 0 0 P.length none,.slice 1 0 T.length none],.int .i64 (i:Int)] [.cells false 2 (pC P),.cells false 3 (tC T)] (.slice 2 0 3 none) ([.cells false 2 (pC P),.cells false 3 (tC T)]++[.cells true 2 (pC [A,B,C])]):=by
 have S:aZ prog 109=some f109:=by kernel_rfl
 obtain⟨U,R⟩:=Mx Y;have X:=gL Y;obtain⟨i1,i2,i3⟩:=t;simp only at H I J U;obtain⟨N,-,-,M⟩:=vu H;obtain⟨L,-,-,G⟩:=vu I;obtain⟨r1,-,-,F⟩:=vu J;have u:=gL H;have o:=gL I;have m:=gL J;obtain⟨Z,V⟩:∃Z,aJ f109=[Z]:=⟨_,rfl⟩
 have j:=nS V (l:=[0,1,0,4,15,31,0,64,0,256,960,1984,0,4096,0,16384,61440,126976,262143,524287]) (by kernel_rfl);have Z2:Rg [0,1,0,4,15,31,0,64,0,256,960,1984,0,4096,0,16384,61440,126976,262143,524287] 20 18=true:=by decide
 simp[aJ,cB,f109] at V;subst V;refine Sk (az _) (lv:=fun _=>[]) (K:=1) ?_;simp[ae,S,f109,X,U,R,u,o,m,N,L,r1,M,G,F,pC,-aR,pV j,pT,wJ,EB,dR,Z2]
end
theorem KS:(aJ f108).map (fun o=>dT o.toList)=[[0,0,0,6,14,0,0,64,0,256,960,2016,4064,0,16382,32767,65535]]:=by kernel_rfl
theorem FG(A B C q:P2)(h:XQ A B C q):
  kO prog 108 [.slice 0 0 3 none,pA q] [.cells false 2 (pC [A,B,C])] (.int .i64 (whV A B C q)) [.cells false 2 (pC [A,B,C])]:=by
 have N:aZ prog 108=some f108:=by kernel_rfl
 obtain⟨M,L,h3⟩:=h;unfold whV;obtain⟨a,b⟩:=A;obtain⟨c,d⟩:=B;obtain⟨e,f⟩:=C;obtain⟨u,v⟩:=q;obtain⟨x,X⟩:=xE (ga (bD (a,b) (c,d) (u,v)));obtain⟨y,V⟩:=xE (ga (bD (c,d) (e,f) (u,v)));obtain⟨z,U⟩:=xE (ga (bD (e,f) (a,b) (u,v)));rw[<-X,<-V,<-U];unfold whI;obtain⟨S,Z⟩:∃S,aJ f108=S:=⟨_,rfl⟩
 have R:=cG Z KS;have G:fu [0,0,0,6,14,0,0,64,0,256,960,2016,4064,0,16382,32767,65535] 16=true:=by decide
 simp only[aJ,cB,f108,List.nil_append,List.append_nil] at Z;subst Z;simp only[lB] at R;refine j9 Ey (lv:=fun _=>[5,6]) (K:=5) ?_;simp[ae,N,f108,aM,fj,pA,pC,w1,w2,w3,-aR,aC R,bV,bK,bQ,G,ah,wB,aF,M,L,h3,<-X,<-V,<-U,Nat.testBit]
variable{M:Mem}
section
variable {P:List P2}{T:List Tr}{t:Tr}{A B C q:P2}{i:Nat}
theorem qJ(I:T[i]? =some t)(J:P[t.1]? =some A)(Y:P[t.2.1]? =some B)(hC:P[t.2.2]? =some C){pb tb:Nat}{o1 o2:Bool}(H:M[pb]? =some (.cells o1 2 (pC P)))(m2:M[tb]? =some (.cells o2 3 (tC T))):
  kO prog 109 [.agg [.slice pb 0 P.length none,.slice tb 0 T.length none],.int .i64 (i:Int)] M (.slice M.length 0 3 none) (M++[.cells true 2 (pC [A,B,C])]):=by
 have X:=gL H;have V:=gL m2;have:=kO.frame (M:=M) (new:=[.cells true 2 (pC [A,B,C])]) (args:=[.agg [.slice 0 0 P.length none,.slice 1 0 T.length none],.int .i64 (i:Int)]) [pb,tb] (m:=[.cells false 2 (pC P),.cells false 3 (tC T)]) rfl (by simp[X,V]) (by rfl) (fun j s Z=>by
  match j with
  |0=>simp at Z;subst Z;exact cH (ea P) H P1
  |1=>simp at Z;subst Z;exact cH (fY T) m2 P1
  |j+2=>simp at Z) rfl (tJ I J Y hC)
 simpa [AV.afI,AV.ren,fA,afq.ren,Pz] using this
theorem FH(h:XQ A B C q){b:Nat}{o:Bool}(H:M[b]? =some (.cells o 2 (pC [A,B,C]))):
  kO prog 108 [.slice b 0 3 none,pA q] M (.int .i64 (whV A B C q)) M:=by
 have X:=gL H;have:=kO.frame (M:=M) (new:=[]) (args:=[.slice 0 0 3 none,pA q]) [b] (m:=[.cells false 2 (pC [A,B,C])]) rfl (by simp[X]) (by rfl) (fun j s Z=>by
  match j with
  |0=>simp at Z;subst Z;exact cH (ea [A,B,C]) H P1
  |j+1=>simp at Z) rfl (by rw[List.append_nil];exact FG A B C q h)
 simpa [AV.afI,AV.ren,fA,pA] using this
end
end Go.Proofs
namespace Go.Proofs
open Go.Eng
open Tryz
theorem XA{l:List Tr}{i:Nat}{t:Tr}(h:l[i]? =some t):(tC l)[i*3]? =some (.int .i64 (t.1:Int))/\(tC l)[i*3+1]? =some (.int .i64 (t.2.1:Int))/\(tC l)[i*3+2]? =some (.int .i64 (t.2.2:Int)):=by
 obtain⟨Z,V⟩:=Mx h;have f:∀k,k<3->(tC l)[i*3+k]? =(((tC l).drop (i*3)).take 3)[k]? :=fun k X=>by rw[QQa X,QQf]
 exact⟨by have:=f 0 (by omega);rw[Z] at this;exact this,by rw[f 1 (by omega),Z];rfl,by rw[f 2 (by omega),Z];rfl⟩
theorem GL(a b c:P2):bD a b c=bD b c a:=by
 unfold bD
 grind
theorem VZ{q:Rat}(h:0<q):0<q.num:=by
 have Z:0<=q.num:=Rat.num_nonneg.2 (by grind);have X:q.num≠0:=fun e=>by
  have:q=0:=Rat.num_eq_zero.1 e
  grind
 omega
structure OnG (A B C q:P2)(f g h:Rat):Prop where
 s0:arG q B C
 s1:arG q C A
 s2:arG q A B
 s:arG A B C
 pos:0<bD A B C
 n:dw f/\dw g/\dw h
 w:dw (bD q B C)/\dw (bD q C A)/\dw (bD q A B)
 m:dw (bD q B C*f)/\dw (bD q C A*g)/\dw (bD q A B*h)
 a:dw (bD q B C*f+bD q C A*g)/\dw (bD q B C*f+bD q C A*g+bD q A B*h)
 d:dw (bD A B C)
theorem Wz(A B C q:P2)(f g h:Rat):(bD q B C*f+bD q C A*g+bD q A B*h) / bD A B C=mz (gZ A B C q) f g h:=by unfold mz gZ;simp only;rw[wH,GL q B C,GL q C A,GL q A B]
def vi(P:List P2)(T:List Tr)(L:List Rat):Mem:=[.cells false 2 (pC P),.cells false 3 (tC T),.cells false 1 (qC L)]
section
variable {P:List P2}{T:List Tr}{L:List Rat}{t:Tr}{A B C q:P2}{f g h:Rat}{i:Nat}
theorem Kr:(aJ f110).map (fun o=>dT o.toList)=[[0,0,0,4,12,30,62,0,0,256,768,1920,3968,8191,16383],[0,0,2,6,0,16,48,0,128,384,1022,2047,4095]]:=by kernel_rfl
theorem Qb(H:T[i]? =some t)(hA:P[t.1]? =some A)(hB:P[t.2.1]? =some B)(hC:P[t.2.2]? =some C)(hf:L[t.1]? =some f)(hg:L[t.2.1]? =some g)(hh:L[t.2.2]? =some h)(ok:OnG A B C q f g h):
  kO prog 110 [.agg [.slice 0 0 P.length none,.slice 1 0 T.length none],.slice 2 0 L.length none,.int .i64 (i:Int),pA q] (vi P T L) (.str (aq (mz (gZ A B C q) f g h))) (vi P T L):=by
 have hG:aZ prog 110=some f110:=by kernel_rfl
 have hc:=tJ H hA hB hC;obtain⟨c0,c1,c2⟩:=XA H;obtain⟨k1,k2⟩:=Mx H;have Y:=gL H;have l1:=gL hf;have l2:=gL hg;have l3:=gL hh;have v1:(qC L)[t.1]? =some (.str (aq f)):=by simp[qC,hf]
 have v2:(qC L)[t.2.1]? =some (.str (aq g)):=by simp[qC,hg]
 have v3:(qC L)[t.2.2]? =some (.str (aq h)):=by simp[qC,hh]
 have ql:(qC L).length=L.length:=by simp[qC]
 rw[<-Wz];obtain⟨r0,r1,r2,r,pos,⟨⟨n1,n2⟩,⟨n3,n4⟩,n5,n6⟩,⟨⟨w1,w2⟩,⟨w3,w4⟩,w5,w6⟩,⟨⟨J,I⟩,⟨m3,m4⟩,m5,m6⟩,⟨⟨U,S⟩,X,V⟩,d1,d2⟩:=ok;have pos:0<(bD A B C).num:=VZ pos;obtain⟨L1,Z⟩:=xE (α:=List (FuncId×List AV×(Mem->Prop)×afl)) [(109,[.agg [.slice 0 0 P.length none,.slice 1 0 T.length none],.int .i64 (i:Int)],(fun M=>M.length=5/\M[0]? =some (.cells false 2 (pC P))/\M[1]? =some (.cells false 3 (tC T))),⟨.slice 5 0 3 none,none,[.cells true 2 (pC [A,B,C])]⟩)];have R:qS prog (fD L1):=pH fun e he M hp=>by rw[Z,List.mem_singleton] at he;rw[he] at hp |-;obtain⟨h5,h0,h1⟩:M.length=5/\M[0]? =some (.cells false 2 (pC P))/\M[1]? =some (.cells false 3 (tC T)):=hp;have:=qJ H hA hB hC h0 h1;rw[h5] at this;exact au this
 have hO:qS prog (y9.or (fD L1) (ah wB)):=qS.or R Ey;have e1:∀M:Mem,(M.length=5/\M[0]? =some (.cells false 2 (pC P))/\M[1]? =some (.cells false 3 (tC T)))->fD L1 (.fn 109) [.agg [.slice 0 0 P.length none,.slice 1 0 T.length none],.int .i64 (i:Int)] M=some ⟨.slice 5 0 3 none,none,[.cells true 2 (pC [A,B,C])]⟩:=fun M h=>by rw[Z];exact iz h
 have e2:∀a M,fD L1 (.fn 191) a M=none:=fun a M=>by rw[Z,dX (.inl (by decide))];rfl
 have e3:∀a M,fD L1 (.fn 94) a M=none:=fun a M=>by rw[Z,dX (.inl (by decide))];rfl
 have e4:∀a M,fD L1 (.fn 90) a M=none:=fun a M=>by rw[Z,dX (.inl (by decide))];rfl
 have e5:∀a M,fD L1 (.fn 192) a M=none:=fun a M=>by rw[Z,dX (.inl (by decide))];rfl
 obtain⟨O,N⟩:=xE (fD L1);rw[<-N] at hO e1 e2 e3 e4 e5;clear N Z R hc;obtain⟨i1,i2,i3⟩:=t;obtain⟨x1,y1⟩:=A;obtain⟨x2,y2⟩:=B;obtain⟨x3,y3⟩:=C;obtain⟨u,v⟩:=q;simp only at c0 c1 c2 v1 v2 v3 l1 l2 l3;obtain⟨s0,hs0⟩:=xE (bD (u,v) (x2,y2) (x3,y3));obtain⟨s1,hs1⟩:=xE (bD (u,v) (x3,y3) (x1,y1));obtain⟨s2,hs2⟩:=xE (bD (u,v) (x1,y1) (x2,y2));obtain⟨s3,hs3⟩:=xE (bD (x1,y1) (x2,y2) (x3,y3));rw[<-hs0] at w1 w2 J I U S X V |-;rw[<-hs1] at w3 w4 m3 m4 U S X V |-;rw[<-hs2] at w5 w6 m5 m6 X V |-;rw[<-hs3] at d1 d2 pos |-;obtain⟨p0,G⟩:=xE (s0*f);obtain⟨p1,F⟩:=xE (s1*g);obtain⟨p2,o⟩:=xE (s2*h);rw[<-G] at J I U S X V |-;rw[<-F] at m3 m4 U S X V |-;rw[<-o] at m5 m6 X V |-;obtain⟨t1,m⟩:=xE (p0+p1);rw[<-m] at U S X V |-;obtain⟨t2,j⟩:=xE (t1+p2);rw[<-j] at X V |-;have z0:eh [48]=some 0:=by
  have:([48]:List UInt8)=aq 0:=by decide
  rw[this];exact aF 0
 have zn:(ai 0).length<=2000/\(ai 1).length<=2000:=⟨by decide,by decide⟩;obtain⟨zn1,zn2⟩:=zn;obtain⟨os,F'⟩:∃os,aJ f110=os:=⟨_,rfl⟩
 have X':=cG F' Kr;have j0:fu [0,0,0,4,12,30,62,0,0,256,768,1920,3968,8191,16383] 14=true:=by decide
 have j1:fu [0,0,2,6,0,16,48,0,128,384,1022,2047,4095] 12=true:=by decide
 simp only[aJ,cB,f110,lA] at F';subst F';simp only[lB] at X';obtain⟨UV,hb1⟩:=X';have y1' :IntKind.i64.wrap 1=1:=rfl;have y2' :IntKind.i64.wrap 2=2:=rfl;have y3' :IntKind.i64.wrap 3=3:=rfl;have y4' :IntKind.i64.wrap 4=4:=rfl;refine j9 hO (lv:=fun _=>[10,11,12]) (K:=5) ?_;clear hO;unfold vi;simp[-getElem?_pos,-AV.afp,-AV.known,-AV.cells,-cN,-List.all_eq_true,vS,mS,ae,hG,f110,y9.or,e1,e2,e3,e4,e5,aM,fj,pA,pC,y1',y2',y3',y4',Y,c0,c1,c2,v1,v2,v3,l1,l2,l3,-aR,aC UV,aC hb1,bV,bK,bQ,j0,j1,ah,wB,gP,iy,aF,z0,zn1,zn2,r0,r1,r2,r,pos,n1,n2,n3,n4,n5,n6,w1,w2,w3,w4,w5,w6,J,I,m3,m4,m5,m6,U,S,X,V,d1,d2,<-hs0,<-hs1,<-hs2,<-hs3,<-G,<-F,<-o,<-m,<-j,Rat.zero_add,Nat.testBit]
end
structure AtG (P:List P2)(T:List Tr)(L:List Rat)(q:P2):Prop where
 tri:∀(i:Nat) t,T[i]? =some t->∃A B C f g h,P[t.1]? =some A/\P[t.2.1]? =some B/\P[t.2.2]? =some C/\L[t.1]? =some f/\L[t.2.1]? =some g/\L[t.2.2]? =some h/\XQ A B C q/\OnG A B C q f g h
 hl:T.length<=1000
def ym(T:List Tr)(L:List Rat)(j:Nat)(w:Rat×Rat×Rat):Rat:=mz w (L.getD (T.getD j (0,0,0)).1 0) (L.getD (T.getD j (0,0,0)).2.1 0) (L.getD (T.getD j (0,0,0)).2.2 0)
def atV(P:List P2)(T:List Tr)(L:List Rat)(q:P2):AV:=match MH P q T 0 with
 |none=>.tuple [.str [],.bool false]
 |some (j,w)=>.tuple [.str (aq (ym T L j w)),.bool true]
def atM(P:List P2)(T:List Tr)(L:List Rat)(q:P2):Mem:=vi P T L++[.cells true 0 [.slice 0 0 P.length none,.slice 1 0 T.length none],.cells true 0 [.str (aq q.1),.str (aq q.2)]]
def kq(P:List P2)(T:List Tr)(L:List Rat)(q:P2)(c:Go.Eng.Callee)(a:List AV)(N:Mem)(r:afl):Prop:=
 (∃(i:Nat) (t:Tr) (A B C:P2),c=.fn 109/\a=[.agg [.slice 0 0 P.length none,.slice 1 0 T.length none],.int .i64 (i:Int)]/\N=atM P T L q/\T[i]? =some t/\(P[t.1]? =some A/\P[t.2.1]? =some B/\P[t.2.2]? =some C)/\r=⟨.slice 5 0 3 none,none,[.cells true 2 (pC [A,B,C])]⟩)\/
 (∃A B C:P2,c=.fn 108/\a=[.slice 5 0 3 none,pA q]/\N=atM P T L q++[.cells true 2 (pC [A,B,C])]/\XQ A B C q/\r=⟨.int .i64 (whV A B C q),none,[]⟩)\/
 (∃(i:Nat) (t:Tr) (A B C:P2) (f g h:Rat) (x:afq),c=.fn 110/\a=[.agg [.slice 0 0 P.length none,.slice 1 0 T.length none],.slice 2 0 L.length none,.int .i64 (i:Int),pA q]/\N=atM P T L q++[x]/\T[i]? =some t/\(P[t.1]? =some A/\P[t.2.1]? =some B/\P[t.2.2]? =some C)/\(L[t.1]? =some f/\L[t.2.1]? =some g/\L[t.2.2]? =some h)/\OnG A B C q f g h/\r=⟨.str (aq (mz (gZ A B C q) f g h)),none,[]⟩)
variable{A B C:P2}{env:Env}{i:Nat}{t:Tr}
section
variable {P:List P2}{T:List Tr}{L:List Rat}{q:P2}
theorem qN{c:Go.Eng.Callee}{a:List AV}{N:Mem}{r r' :afl}(h:kq P T L q c a N r)(h' :kq P T L q c a N r'):r' =r:=by
 rcases h with⟨i,t,A,B,C,rfl,rfl,rfl,M,⟨K,G,F⟩,rfl⟩ | ⟨A,B,C,rfl,rfl,rfl,_,rfl⟩ | ⟨i,t,A,B,C,f,g,h,x,rfl,rfl,rfl,M,⟨K,G,F⟩,⟨Y,J,I⟩,_,rfl⟩
 .rcases h' with⟨u,H,o,m,j,_,e,_,Z,⟨X,V,U⟩,rfl⟩ | ⟨_,_,_,e,_⟩ | ⟨_,_,_,_,_,_,_,_,_,e,_⟩
  .simp only[List.cons.injEq,AV.int.injEq,true_and,and_true] at e
   obtain rfl:i=u :=by omega
   rw[M] at Z;cases Z;rw[K] at X;rw[G] at V;rw[F] at U;obtain rfl:=QQX X;obtain rfl:=QQX V;obtain rfl:=QQX U;rfl
  .cases e
  .cases e
 .rcases h' with⟨_,_,_,_,_,e,_⟩ | ⟨o,m,j,_,_,e,_,rfl⟩ | ⟨_,_,_,_,_,_,_,_,_,e,_⟩
  .cases e
  .have e:=List.append_cancel_left e
   simp only[pC,List.cons.injEq,afq.cells.injEq,AV.str.injEq,and_true,true_and] at e;obtain⟨e1,e2,e3,e4,e5,e6⟩:=e;obtain rfl:A=o :=Prod.ext (dy e1) (dy e2);obtain rfl:B=m :=Prod.ext (dy e3) (dy e4);obtain rfl:C=j :=Prod.ext (dy e5) (dy e6);rfl
  .cases e
 .rcases h' with⟨_,_,_,_,_,e,_⟩ | ⟨_,_,_,e,_⟩ | ⟨u,H,o,m,j,f',g',h',x',_,e,_,Z,⟨X,V,U⟩,⟨S,R,O⟩,_,rfl⟩
  .cases e
  .cases e
  .simp only[List.cons.injEq,AV.int.injEq,true_and,and_true] at e
   obtain rfl:i=u :=by omega
   rw[M] at Z;cases Z;rw[K] at X;rw[G] at V;rw[F] at U;rw[Y] at S;rw[J] at R;rw[I] at O;obtain rfl:=QQX X;obtain rfl:=QQX V;obtain rfl:=QQX U;obtain rfl:=QQX S;obtain rfl:=QQX R;obtain rfl:=QQX O;rfl
theorem Qc{f g h:Rat}(H:T[i]? =some t)(I:P[t.1]? =some A)(J:P[t.2.1]? =some B)(Y:P[t.2.2]? =some C)(hf:L[t.1]? =some f)(hg:L[t.2.1]? =some g)(hh:L[t.2.2]? =some h)(ok:OnG A B C q f g h)(Z:Mem):
  kO prog 110 [.agg [.slice 0 0 P.length none,.slice 1 0 T.length none],.slice 2 0 L.length none,.int .i64 (i:Int),pA q] (vi P T L++Z) (.str (aq (mz (gZ A B C q) f g h))) (vi P T L++Z):=by
 have:=kO.frame (M:=vi P T L++Z) (new:=[]) (args:=[.agg [.slice 0 0 P.length none,.slice 1 0 T.length none],.slice 2 0 L.length none,.int .i64 (i:Int),pA q]) [0,1,2] (m:=vi P T L) rfl (by simp[vi]) (by rfl) (fun j s X=>by
  match j with
  |0=>simp[vi] at X;subst X;exact cH (ea P) rfl P1
  |1=>simp[vi] at X;subst X;exact cH (fY T) rfl P1
  |2=>simp[vi] at X;subst X;exact cH (oo L) rfl P1
  |j+3=>simp[vi] at X) rfl (by rw[List.append_nil];exact Qb H I J Y hf hg hh ok)
 simpa [AV.afI,AV.ren,fA,pA] using this
theorem Nh:qS prog (jV (kq P T L q)):=mX fun c a N r h=>by
 rcases h with⟨i,t,A,B,C,rfl,rfl,rfl,Z,⟨X,V,U⟩,rfl⟩ | ⟨A,B,C,rfl,rfl,rfl,S,rfl⟩ | ⟨i,t,A,B,C,f,g,h,x,rfl,rfl,rfl,Z,⟨X,V,U⟩,⟨R,O,K⟩,G,rfl⟩
 .have:=qJ (M:=atM P T L q) (pb:=0) (tb:=1) (o1:=false) (o2:=false) Z X V U rfl rfl
  exact au this
 .exact bz (FH (M:=atM P T L q++[.cells true 2 (pC [A,B,C])]) (b:=5) (o:=true) S rfl)
 .have:=Qc Z X V U R O K G ([.cells true 0 [.slice 0 0 P.length none,.slice 1 0 T.length none],.cells true 0 [.str (aq q.1),.str (aq q.2)]]++[x])
  rw[<-QQQ] at this;exact au (by simpa [atM] using this)
variable {O:y9}
theorem Iq:(aJ f55).map (fun o=>dT o.toList)=[[0,0,3,0,15,31]]:=by kernel_rfl
def Ax(L:List Rat)(env:Env):Prop:=ad env 1=.slice 2 0 L.length none/\ad env 3=.ptr 3 0/\ad env 5=.ptr 4 0
theorem qO{b:Code}(J:ag f55=[b])(Y:i<T.length)(hT:T.length<=1000){R:List AV}(rR:∀f,AV.afs f R=true){z:List UInt8}{n:Int}(H:O (.fn 109) [.agg [.slice 0 0 P.length none,.slice 1 0 T.length none],.int .i64 (i:Int)] (atM P T L q)=some ⟨.slice 5 0 3 none,none,[.cells true 2 R]⟩)(I:O (.fn 108) [.slice 5 0 3 none,pA q] (atM P T L q++[.cells true 2 R])=some ⟨.int .i64 n,none,[]⟩)(eO:∀x,O (.fn 110) [.agg [.slice 0 0 P.length none,.slice 1 0 T.length none],.slice 2 0 L.length none,.int .i64 (i:Int),pA q] (atM P T L q++[x])=some ⟨.str z,none,[]⟩)(hp:Ax L env)(l8:ad env 8=.int .i64 (i:Int))(d:Bool):
  (¬0<=n->∃X,aL (aX prog) (fun _=>[8]) O 1100 27 3 true b ⟨env,atM P T L q,d⟩=some (.normal,X)/\(∃x,X.mem=atM P T L q++[x])/\X.afH=d/\ad X.env 8=.int .i64 ((i+1:Nat):Int))/\
  (0<=n->∃V x,aL (aX prog) (fun _=>[8]) O 1100 27 3 true b ⟨env,atM P T L q,d⟩=some (.ret,⟨V,atM P T L q++[x],d⟩)/\ad V 6=.str z/\ad V 7=.bool true):=by
 obtain⟨G,h3,M⟩:=hp;obtain⟨Z,U⟩:∃Z,aJ f55=Z :=⟨_,rfl⟩
 have S :=cG U Iq;simp only[aJ,cB,f55,List.nil_append,List.append_nil] at U;subst U;simp only[lB] at S;simp[ag,aE,f55] at J;subst J;have K:IntKind.i64.wrap ((i:Int)+1)=((i+1:Nat):Int):=by rw[af];omega
 obtain⟨u,F⟩:=xE (i+1);rw[<-F] at K |-;unfold atM vi pA at*;simp only[List.cons_append,List.nil_append] at H I eO |-;constructor
 .intro N
  simp[-getElem?_pos,-AV.afp,-AV.known,-AV.cells,-cN,-List.all_eq_true,rS,mS,h3,M,l8,Y,H,I,rR,N,K,-bP,-bw,-aR,-AV.afm,-afq.afm,CI,bW S,dq,dZ,fT,dD,dR,jB,bef,Nat.testBit]
 .intro N
  simp[-getElem?_pos,-AV.afp,-AV.known,-AV.cells,-cN,-List.all_eq_true,rS,mS,G,h3,M,l8,Y,H,I,eO,rR,N,-bP,-bw,-aR,-AV.afm,-afq.afm,CI,bW S,dq,dZ,fT,dD,dR,jB,bef,Nat.testBit]
def atE(wr:List Nat)(H:Env)(i:Nat):Env:=[(8,.int .i64 (i:Int))]++((wr.filter fun t=> ![8].contains t).map fun t=>(t,AV.undef))++H
theorem yK{b:Code}(I:ag f55=[b])(H:Env)(i:Nat)(h:Ax L H):Ax L (atE (aa b) H i)/\ad (atE (aa b) H i) 8=.int .i64 (i:Int):=by simp[ag,aE,f55] at I;subst I;simpa [atE,Ax] using h
theorem yL{b:Code}(H:ag f55=[b])(I:Env){s:XS}{k:Nat}{x:afq}{d:Bool}(J:s.mem=atM P T L q++[x])(hd:s.afH=d)(Y:ad s.env 8=.int .i64 (k:Int)):
  jP [8] (aa b) I 5 s=⟨atE (aa b) I k,atM P T L q,d⟩:=by
 simp[ag,aE,f55] at H;subst H;unfold atM vi at J;simp[jP,J,Y,hd,atE,atM,vi,vv,sH,gv]
theorem Ni{b:Code}(H:ag f55=[b])(I:Ax L env)(J:ad env 8=.int .i64 (T.length:Int))(d:Bool):
  ∃Z,aL (aX prog) (fun _=>[8]) O 1100 27 3 true b ⟨env,atM P T L q,d⟩=some (.exit 0,⟨Z,atM P T L q,d⟩):=by
 obtain⟨X,h3,V⟩:=I;simp[ag,aE,f55] at H;subst H;unfold atM vi;simp[-getElem?_pos,-AV.afp,-AV.known,-AV.cells,-cN,-List.all_eq_true,mS,h3,J]
theorem AtG.at(H:AtG P T L q)(h:T[i]? =some t):∃A B C f g k,P[t.1]? =some A/\P[t.2.1]? =some B/\P[t.2.2]? =some C/\L[t.1]? =some f/\L[t.2.1]? =some g/\L[t.2.2]? =some k/\XQ A B C q/\OnG A B C q f g k/\qc P q t=gZ A B C q/\ym T L i (qc P q t)=mz (gZ A B C q) f g k:=by
 obtain⟨A,B,C,f,g,k,Z,X,h3,V,U,S,R,N⟩:=H.tri i t h;have e:qc P q t=gZ A B C q:=by unfold qc;simp[List.getD,Z,X,h3]
 have M:T.getD i (0,0,0)=t:=by simp[List.getD,h]
 refine⟨A,B,C,f,g,k,Z,X,h3,V,U,S,R,N,e,?_⟩;unfold ym;rw[e,M];simp[List.getD,V,U,S]
theorem uf(H:T[i]? =some t){f g k:Rat}(I:P[t.1]? =some A)(J:P[t.2.1]? =some B)(Y:P[t.2.2]? =some C)(hf:L[t.1]? =some f)(hg:L[t.2.1]? =some g)(hk:L[t.2.2]? =some k)(ht:XQ A B C q)(ok:OnG A B C q f g k)(hO:O=jV (kq P T L q)):
  O (.fn 109) [.agg [.slice 0 0 P.length none,.slice 1 0 T.length none],.int .i64 (i:Int)] (atM P T L q)=some ⟨.slice 5 0 3 none,none,[.cells true 2 (pC [A,B,C])]⟩/\
  O (.fn 108) [.slice 5 0 3 none,pA q] (atM P T L q++[.cells true 2 (pC [A,B,C])])=some ⟨.int .i64 (whV A B C q),none,[]⟩/\
  ∀x,O (.fn 110) [.agg [.slice 0 0 P.length none,.slice 1 0 T.length none],.slice 2 0 L.length none,.int .i64 (i:Int),pA q] (atM P T L q++[x])=some ⟨.str (aq (mz (gZ A B C q) f g k)),none,[]⟩:=by
 subst hO;refine⟨?_,?_,fun x=>?_⟩
 .have y:kq P T L q (.fn 109) [.agg [.slice 0 0 P.length none,.slice 1 0 T.length none],.int .i64 (i:Int)] (atM P T L q) ⟨.slice 5 0 3 none,none,[.cells true 2 (pC [A,B,C])]⟩:=.inl ⟨i,t,A,B,C,rfl,rfl,rfl,H,⟨I,J,Y⟩,rfl⟩
  exact dL y fun X Z =>qN y Z
 .have y:kq P T L q (.fn 108) [.slice 5 0 3 none,pA q] (atM P T L q++[.cells true 2 (pC [A,B,C])]) ⟨.int .i64 (whV A B C q),none,[]⟩:=.inr (.inl ⟨A,B,C,rfl,rfl,rfl,ht,rfl⟩)
  exact dL y fun X Z =>qN y Z
 .have y:kq P T L q (.fn 110) [.agg [.slice 0 0 P.length none,.slice 1 0 T.length none],.slice 2 0 L.length none,.int .i64 (i:Int),pA q] (atM P T L q++[x]) ⟨.str (aq (mz (gZ A B C q) f g k)),none,[]⟩:=.inr (.inr ⟨i,t,A,B,C,f,g,k,x,rfl,rfl,rfl,H,⟨I,J,Y⟩,⟨hf,hg,hk⟩,ok,rfl⟩)
  exact dL y fun X Z =>qN y Z
section
variable (H:AtG P T L q)
include H
theorem FQ(hO:O=jV (kq P T L q)){b:Code}(I:ag f55=[b]){j:Nat}(J:T[j]? =some t)(ZP:inQ (qc P q t))(Y:∀(l:Nat) s,l<j->T[l]? =some s->¬inQ (qc P q s)):
  ∃F:Env->Bool->Env×Mem×afq,∀Z d,(Ax L Z/\ad Z 8=.int .i64 0)->
   aL (aX prog) (fun _=>[8]) O 1100 27 3 true (.loop b) ⟨Z,atM P T L q,d⟩=some (.ret,⟨(F Z d).1,(F Z d).2.1,d⟩)/\(F Z d).2.1=atM P T L q++[(F Z d).2.2]/\ad (F Z d).1 6=.str (aq (ym T L j (qc P q t)))/\ad (F Z d).1 7=.bool true:=by
 have hT:=H.hl;have U:=gL J;refine pL rfl (fun Z=>Ax L Z/\ad Z 8=.int .i64 0) (fun _ V X x=>X =atM P T L q++[x]/\ad V 6=.str (aq (ym T L j (qc P q t)))/\ad V 7=.bool true) ?_;rintro Z d ⟨hp,h8⟩;have e0:an [8] (aa b) Z Z=atE (aa b) Z 0:=by simp[an,atE,h8]
 rw[e0];have G':(atM P T L q).length=5:=rfl;rw[G'];refine nY (α:=Nat) (fun i=>⟨atE (aa b) Z i,atM P T L q,d⟩) (fun i=>j-i) (fun i=>i<=j) .ret d (fun V X =>∃x,X =atM P T L q++[x]/\ad V 6=.str (aq (ym T L j (qc P q t)))/\ad V 7=.bool true) (by simp) ?_ 1100 0 (by omega) (by omega);intro i hi;obtain⟨q1,q2⟩:=yK I Z i hp;by_cases S:i=j
 .right
  subst S;obtain⟨A,B,C,f,g,k,R,N,M,K,G,u,o,m,e,e2⟩:=H.at J;rw[e] at ZP;rw[e2];obtain⟨c1,c2,c3⟩:=uf J R N M K G u o m hO;obtain⟨V,x,h1,h2,h3⟩:=(qO I U hT (fun f=>T1 f _) c1 c2 c3 q1 q2 d).2 (Ux.2 ZP);exact⟨V,_,h1,x,rfl,h2,h3⟩
 .left
  obtain⟨s,hs⟩:∃s,T[i]? =some s:=⟨_,G2 (by omega)⟩
  obtain⟨A,B,C,f,g,k,R,N,M,K,G,u,o,m,e,e2⟩:=H.at hs;have hn:=Y i s (by omega) hs;rw[e] at hn;obtain⟨c1,c2,c3⟩:=uf hs R N M K G u o m hO;obtain⟨s',h1,⟨x,h2⟩,h3,h4⟩:=(qO I (by omega) hT (fun f=>T1 f _) c1 c2 c3 q1 q2 d).1 (fun h=>hn (Ux.1 h));exact⟨i+1,s',h1,yL I Z h2 h3 h4,by omega,by omega⟩
theorem Ir(Y:O=jV (kq P T L q)){b:Code}(I:ag f55=[b])(J:∀(l:Nat) s,T[l]? =some s->¬inQ (qc P q s)):
  ∃F:Env->Bool->Env,∀Z d,(Ax L Z/\ad Z 8=.int .i64 0)->
   aL (aX prog) (fun _=>[8]) O 1100 27 3 true (.loop b) ⟨Z,atM P T L q,d⟩=some (.exit 0,⟨F Z d,atM P T L q,d⟩)/\True:=by
 have hT:=H.hl;refine bj rfl (fun Z=>Ax L Z/\ad Z 8=.int .i64 0) (fun _ _=>True) ?_;rintro Z d ⟨hp,h8⟩;have M:an [8] (aa b) Z Z=atE (aa b) Z 0:=by simp[an,atE,h8]
 rw[M];have K:(atM P T L q).length=5:=rfl;rw[K];refine bI (α:=Nat) (fun i=>⟨atE (aa b) Z i,atM P T L q,d⟩) (fun i=>T.length-i) (fun i=>i<=T.length) (.exit 0) _ d (fun _=>True) (by simp) ?_ 1100 0 (by omega) (by omega);intro i hi;obtain⟨S,R⟩:=yK I Z i hp;by_cases X:i=T.length
 .right
  subst X;obtain⟨G,V⟩:=Ni (O:=O) (P:=P) (q:=q) I S R d;exact⟨G,V,trivial⟩
 .left
  obtain⟨s,U⟩:∃s,T[i]? =some s:=⟨_,G2 (by omega)⟩
  obtain⟨A,B,C,f,g,k,u,o,m,j,hg,hk,ht,ok,e,e2⟩:=H.at U;have N:=J i s U;rw[e] at N;obtain⟨c1,c2,c3⟩:=uf U u o m j hg hk ht ok Y;obtain⟨s',V,⟨x,h2⟩,h3,h4⟩:=(qO I (by omega) hT (fun f=>T1 f _) c1 c2 c3 S R d).1 (fun h=>N (Ux.1 h));exact⟨i+1,s',V,yL I Z h2 h3 h4,by omega,by omega⟩
theorem P8:kO prog 55 [.agg [.slice 0 0 P.length none,.slice 1 0 T.length none],.slice 2 0 L.length none,pA q] (vi P T L) (atV P T L q) (vi P T L):=by
 have o:aZ prog 55=some f55:=by kernel_rfl
 obtain⟨b,R⟩:∃b,ag f55=[b]:=⟨_,rfl⟩
 have M:=Nh (P:=P) (T:=T) (L:=L) (q:=q);obtain⟨O,Z⟩:=xE (jV (kq P T L q));unfold atV;have hl:=H.hl;cases hloc:MH P q T 0 with
 |none=>
  obtain⟨F,V⟩:=Ir H Z R (CB hloc);have U:=fun X d h=>(V X d h).1
  clear V;rw[<-Z] at M;simp[ag,aE,f55] at R;subst R;unfold atM vi Ax at U;simp only[List.cons_append,List.nil_append] at U;refine j9 M (lv:=fun _=>[8]) (K:=1100) ?_;unfold vi pA;simp[-AV.afp,-AV.known,-AV.cells,-List.all_eq_true,vS,ae,o,f55,U]
 |some r=>
  obtain⟨j,w⟩:=r;obtain⟨i,t,m,Y,J,rfl,G⟩:=se hloc;obtain rfl:i=j:=by omega
  obtain⟨F,V⟩:=FQ H Z R Y J G;have U:=fun X d h=>(V X d h).1
  have u:=fun X d h=>(V X d h).2.1
  have S:=fun X d h=>(V X d h).2.2.1
  have N:=fun X d h=>(V X d h).2.2.2
  clear V;rw[<-Z] at M;simp[ag,aE,f55] at R;subst R;obtain⟨z,I⟩:=xE (ym T L i (qc P q t));simp only;rw[<-I] at S |-;unfold atM vi Ax at U u;unfold Ax at S N;simp only[List.cons_append,List.nil_append] at U u;have hx:∃r,ae (aX prog) (fun _=>[8]) (aZ prog) O 1100 55 [.agg [.slice 0 0 P.length none,.slice 1 0 T.length none],.slice 2 0 L.length none,pA q] (vi P T L)=some r/\r.v=.tuple [.str (aq z),.bool true]/\r.mem (vi P T L)=vi P T L:=by unfold vi pA;simp[-AV.afp,-AV.known,-AV.cells,-List.all_eq_true,vS,ae,o,f55,U,u,S,N];done
  obtain⟨r,h1,h2,h3⟩:=hx;have:=(aB aj (aI _) M (aQ _) h1).1
  rwa [h2,h3] at this
theorem P9{M:Mem}{pb tb I:Nat}{o1 o2 o3:Bool}(J:M[pb]? =some (.cells o1 2 (pC P)))(m2:M[tb]? =some (.cells o2 3 (tC T)))(Y:M[I]? =some (.cells o3 1 (qC L))):
  kO prog 55 [.agg [.slice pb 0 P.length none,.slice tb 0 T.length none],.slice I 0 L.length none,pA q] M (atV P T L q) M:=by
 have X:=gL J;have V:=gL m2;have U:=gL Y;have S:(atV P T L q).closed=true:=by unfold atV;split<;>rfl
 have:=kO.frame (M:=M) (new:=[]) (args:=[.agg [.slice 0 0 P.length none,.slice 1 0 T.length none],.slice 2 0 L.length none,pA q]) [pb,tb,I] (m:=vi P T L) rfl (by simp[X,V,U]) (by rfl) (fun j s Z=>by
  match j with
  |0=>simp[vi] at Z;subst Z;exact cH (ea P) J P1
  |1=>simp[vi] at Z;subst Z;exact cH (fY T) m2 P1
  |2=>simp[vi] at Z;subst Z;exact cH (oo L) Y P1
  |j+3=>simp[vi] at Z) rfl (by rw[List.append_nil];exact P8 H)
 simpa [AV.afI,AV.ren,fA,pA,jR _ _ S] using this
end
end
end Go.Proofs
namespace Go.Proofs
open Go.Eng
section
variable {u v:V3}
end
end Go.Proofs
