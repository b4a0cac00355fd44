/- See D38. -/
import Derived.Test.YthpgbelancmpjaaGreatDoorD33
set_option linter.all false
set_option maxRecDepth 100000
set_option maxHeartbeats 40000000
namespace Go.Proofs
open Go.Eng
open Tryz
def sqP:List AV:=[.str [48],.str [48],.str [52],.str [48],.str [52],.str [52],.str [48],.str [52]]
def sqT:List AV:=[.int .i64 0,.int .i64 1,.int .i64 2,.int .i64 0,.int .i64 2,.int .i64 3]
theorem xk:DQ (bd prog) ad (aX prog) OS 60 10 (.fn 46) [.agg [.slice 0 0 4 none,.slice 1 0 2 none]] [.cells false 2 sqP,.cells false 3 sqT]=some ⟨.int .i64 0,some [.cells false 2 sqP,.cells false 3 sqT],[]⟩:=by kernel_rfl
theorem Dd:kO prog 46 [.agg [.slice 0 0 4 none,.slice 1 0 2 none]] [.cells false 2 sqP,.cells false 3 sqT] (.int .i64 0) [.cells false 2 sqP,.cells false 3 sqT]:=by have:=(pD aj (aJ _) (aM _) Nw 10).fn _ _ _ _ xk;simpa [afh.mem] using this
def RB:List AV->List AV->Bool
 | [],[]=>true
 |.str a::l,.str b::r=>(a==b)&&RB l r
 |.int .i64 a::l,.int .i64 b::r=>decide (a=b)&&RB l r
 |_,_=>false
theorem G6:∀{l r:List AV},RB l r=true->l=r
 | [],r,h=>by cases r<;>first | rfl | (unfold RB at h;cases h)
 |v::l,r,h=>by
  unfold RB at h;split at h
  next Z=>cases Z
  .rename_i Z
   cases Z;simp only[C0,beq_iff_eq] at h;rw[h.1,G6 h.2]
  .rename_i Z
   cases Z;simp only[C0,Es] at h;rw[h.1,G6 h.2]
  .cases h
def Ry(M:Mem)(b e:Nat)(cs:List AV):Bool:=match M[b]? with
 |some (.cells _ es l)=>decide (es=e)&&RB (l.take cs.length) cs
 |_=>false
theorem L7{M:Mem}{b e:Nat}{cs:List AV}{ks:List Nat}(h:Ry M b e cs=true)(H:AV.afm cs=true):b<M.length/\afX ks M b (.cells false e cs):=by
 unfold Ry at h;split at h
 .rename_i o es l V
  simp only[C0,Es] at h;obtain⟨rfl,Z⟩:=h;have Z:=G6 Z;refine⟨(gL V),bj H,o,l,V,fun j v X=>?_⟩;have R:=gL X;have:l[j]? =cs[j]? :=by rw[<-QQQ R,Z]
  have U:=aL (ρ:=fa ks M.length) H;rw[ix] at U;have S:(cs.map (AV.ren (fa ks M.length)))[j]? =cs[j]? :=by rw[U]
  rw[Zo,X] at S;rw[this,X];exact S.symm
 .cases h
theorem Dc(M:Mem)(b c:Nat)(h1:Ry M b 2 sqP=true)(h2:Ry M c 3 sqT=true):kO prog 46 [.agg [.slice b 0 4 none,.slice c 0 2 none]] M (.int .i64 0) M:=by
 have X:=L7 (ks:=[b,c]) h1 (by rfl);have V:=L7 (ks:=[b,c]) h2 (by rfl);have:=kO.frame (M:=M) (new:=[]) [b,c] (m:=[.cells false 2 sqP,.cells false 3 sqT]) rfl (by
  intro k U;simp only[lM] at U;rcases U with h | h
  .rw[h];exact X.1
  .rw[h];exact V.1) (by rfl) (fun i s Z=>by
  match i with
  |0=>simp at Z;subst Z;exact X.2
  |1=>simp at Z;subst Z;exact V.2
  |i+2=>simp at Z) rfl Dd
 simpa [AV.afz,AV.ren,fa] using this
def Gj(c:Go.Eng.Callee)(args:List AV)(M:Mem):Option afh:=match c,args with
 |.fn 46,[.agg [.slice b 0 4 none,.slice c 0 2 none]]=>if Ry M b 2 sqP&&Ry M c 3 sqT then some ⟨.int .i64 0,none,[]⟩ else none
 |_,_=>none
theorem NR:qS prog Gj:=by
 refine cB fun c X M r h=>?_
 unfold Gj at h;split at h
 .split at h
  .rename_i Z
   simp only[C0] at Z;cases h;refine aC ?_;rw[List.append_nil];exact Dc M _ _ Z.1 Z.2
  .cases h
 .cases h
def TJ(r:afh):Bool:=(match r.v with
 |.bool b=>b
 |_=>false)&&r.new.isEmpty&&(match r.pre with
 |some p=>p.isEmpty
 |none=>true)
theorem Oo{r:afh}(h:TJ r=true):r.v=.bool true/\r.mem []=[]:=by
 obtain⟨v,Z,V⟩:=r;simp only[TJ,C0,List.isEmpty_iff] at h;obtain⟨⟨X,rfl⟩,h3⟩:=h;constructor
 .cases v<;>first | (cases X;done) | skip
  simp only at X;rw[X]
 .cases Z with
  |none=>rfl
  |some p=>simp only[List.isEmpty_iff] at h3;subst h3;rfl
noncomputable def Kg:y9:=y9.or Gj (y9.or (ag aT) (ag fG))
theorem Kh:qS prog Kg:=qS.or NR (qS.or cQ jh)
theorem DD:(DQ (bd prog) ad (aX prog) Kg 60 20 (.fn 7) [] []).map TJ=some true:=by kernel_rfl
theorem ME(M:Mem):kO prog 7 [] M (.bool true) M:=by have h:=DD;rw[Y2] at h;obtain⟨r,Z,X⟩:=h;have:=(pD aj (aJ _) (aM _) Kh 20).fn _ _ _ _ Z;obtain⟨V,U⟩:=Oo X;rw[V,U] at this;exact kO.lift rfl rfl this M
end Go.Proofs
namespace Go.Proofs
open Go.Eng
end Go.Proofs
namespace Go.Proofs
open Go.Eng
open Tryz
def vG(v:V3):Prop:=dv v.1/\dv v.2.1/\dv v.2.2
theorem ee{n:Nat}{q:Rat}(h:dg n n q)(h0:0<n)(h1:n<=2000):dv q:=by have:=h.lens h0 h0;exact⟨by omega,by omega⟩
theorem Ye{n:Nat}{v:V3}(h:vDg n v)(h0:0<n)(h1:n<=2000):vG v:=⟨ee h.1 h0 h1,ee h.2.1 h0 h1,ee h.2.2 h0 h1⟩
def WS(a b:V3):Prop:=(vG a/\vG b)/\(dv (a.1*b.1)/\dv (a.2.1*b.2.1)/\dv (a.2.2*b.2.2))/\dv (a.2.1*b.2.1+a.2.2*b.2.2)
theorem AY(u v:V3)(h:WS u v)(M:Mem):kO prog 54 [vA u,vA v] M (.str (ao (gw u v))) M:=by
 have hG:aX prog 54=some f54:=by kernel_rfl
 obtain⟨a,b,c⟩:=u;obtain⟨d,e,f⟩:=v;obtain⟨⟨⟨⟨G,F⟩,⟨h3,D⟩,C,B⟩,⟨o,m⟩,⟨g3,Y⟩,W,J⟩,⟨⟨V,U⟩,⟨S,R⟩,O,N⟩,Z,X⟩:=h;simp only at G F h3 D C B o m g3 Y W J V U S R O N Z X;have ev:gw (a,b,c) (d,e,f)=a*d+(b*e+c*f):=by unfold gw;simp only;rw[Rat.add_assoc]
 rw[ev];obtain⟨x,I⟩:=xE (a*d);obtain⟨y,H⟩:=xE (b*e);obtain⟨z,hz⟩:=xE (c*f);rw[<-I] at V U |-;rw[<-H] at S R Z X |-;rw[<-hz] at O N Z X |-;obtain⟨w,hw⟩:=xE (y+z);rw[<-hw] at Z X |-;obtain⟨q,hq⟩:=xE (x+w);rw[<-hq];refine aA ju ?_ M;obtain⟨o1,L⟩:∃o1,aI f54=[o1]:=⟨_,rfl⟩
 obtain⟨K,j1⟩:=dx L (l:=[0,1,0,4,15,0,32,0,128,511,0,1024,0,4096,16383,32767,65535,131071]) (j:=17) (by kernel_rfl) (by decide);simp[aI,ca,f54] at L;subst L;simp[aa,hG,f54,-aG,an K,bD,bt,bB,j1,vA,aB,ag,gP,iD,G,F,h3,D,C,B,o,m,g3,Y,W,J,V,U,S,R,O,N,Z,X,<-I,<-H,<-hz,<-hw,<-hq,Nat.testBit]
theorem N9{n:Nat}{a b:V3}(H:vDg n a)(I:vDg n b)(h0:0<n)(h1:n<=200):WS a b:=by
 have X:=dy H.1 I.1;have P2:=dy H.2.1 I.2.1;have Z:=dy H.2.2 I.2.2;have S:=rN P2 Z (m:=4*n) (by omega) (by omega);have f:∀{x:Nat}{q:Rat},dg x x q->0<x->x<=2000->dv q:=fun h p r=>ee h p r
 exact⟨⟨Ye H h0 (by omega),Ye I h0 (by omega)⟩,⟨f X (by omega) (by omega),f P2 (by omega) (by omega),f Z (by omega) (by omega)⟩,f (S.mono (n' :=4*n+1) (d' :=4*n+1) (by omega) (by omega)) (by omega) (by omega)⟩
abbrev Pl:=(Int×Nat)×(Int×Nat)×(Int×Nat)
def smC(x:Int×Nat):List AV:=[.int .i16 x.1,.int .u8 (x.2:Int)]
def plC(p:Pl):List AV:=smC p.1++(smC p.2.1++smC p.2.2)
def Xt(x:Int×Nat):Prop:= -32768<=x.1/\x.1<=32767/\x.2<256
def Yt(p:Pl):Prop:=Xt p.1/\Xt p.2.1/\Xt p.2.2
def smQ(x:Int×Nat):Rat:=mkRat x.1 (1+x.2)
def plQ(p:Pl):V3:=(smQ p.1,smQ p.2.1,smQ p.2.2)
theorem Ub{x:Int×Nat}(h:Xt x):dg 5 5 (smQ x):=pG (by omega) (by have:=h.1;have:=h.2.1;omega) (by have:=h.2.2;omega)
theorem XW{p:Pl}(h:Yt p):vDg 5 (plQ p):=⟨Ub h.1,Ub h.2.1,Ub h.2.2⟩
theorem HT(x:Int×Nat)(h:Xt x)(M:Mem):kO prog 43 [.agg (smC x)] M (.str (ao (smQ x))) M:=by
 have V:aX prog 43=some f43:=by kernel_rfl
 obtain⟨n,d⟩:=x;obtain⟨U,S,h3⟩:=h;simp only at U S h3;have Z:qS prog (ag (fD [(37,[.int .i64 n,.int .i64 (1+(d:Int))],.str (ao (mkRat n (1+d))))])):=ic fun e X M=>by
  rw[List.mem_singleton] at X;have:=AZ n (1+d) (by omega) (by omega) (by omega) M;rw[X];have R:((1+d:Nat):Int)=1+(d:Int):=by omega
  rw[R] at this;exact this
 refine aA Z ?_ M;clear Z;have w1:IntKind.i64.wrap n=n:=af;have w2:IntKind.i64.wrap (d:Int)=(d:Int):=af;have w3:IntKind.i64.wrap (1+(d:Int))=1+(d:Int):=af;simp[aa,V,f43,ag,fD,smC,smQ,w1,w2,w3]
noncomputable def Gi(f:FuncId)(args:List AV):Option AV:=
 match f,args with
 |43,[.agg [.int .i16 n,.int .u8 d]]=>if (-32768<=n/\n<=32767)/\0<=d/\d<256 then some (.str (ao (smQ (n,d.toNat)))) else none
 |_,_=>none
theorem NQ:qS prog (ag Gi):=bP fun f Z v h mem=>by
 unfold Gi at h;split at h
 .rename_i n d
  split at h
  .rename_i X
   cases h;have:=HT (n,d.toNat) ⟨X.1.1,X.1.2,by show d.toNat<256;omega⟩ mem;unfold smC at this;simp only at this;rw[QQd (by omega)] at this;exact this
  .cases h
 .cases h
theorem HM(p:Pl)(h:Yt p)(M:Mem):kO prog 10 [.agg (plC p)] M (vA (plQ p)) M:=by
 have D:aX prog 10=some f10:=by kernel_rfl
 obtain⟨⟨a,b⟩,⟨c,d⟩,e,f⟩:=p;obtain⟨⟨V,U,h3⟩,⟨S,R,C⟩,O,N,B⟩:=h;simp only at V U h3 S R C O N B;have u:(b:Int)<256:=by omega
 have o:(d:Int)<256:=by omega
 have g3:(f:Int)<256:=by omega
 have m:(0:Int)<=(b:Int):=by omega
 have Y:(0:Int)<=(d:Int):=by omega
 have W:(0:Int)<=(f:Int):=by omega
 unfold plQ;simp only;obtain⟨x,L⟩:=xE (smQ (a,b));obtain⟨y,K⟩:=xE (smQ (c,d));obtain⟨z,G⟩:=xE (smQ (e,f));rw[<-L,<-K,<-G];refine aA NQ ?_ M;obtain⟨F,Z⟩:∃F,aI f10=[F]:=⟨_,rfl⟩
 obtain⟨X,J⟩:=dx Z (l:=[0,1,3,0,8,31,0,64,255,511,1023]) (j:=10) (by kernel_rfl) (by decide);simp[aI,ca,f10] at Z;subst Z;simp[aa,D,f10,-aG,an X,bD,bt,bB,J,vA,plC,smC,cv,aH,ag,Gi,V,U,S,R,O,N,u,o,g3,m,Y,W,<-L,<-K,<-G,Nat.testBit]
theorem T7{a b:Rat}:0<=gd (a-b)↔b<=a:=by
 have h:=Pt (a-b);rw[TH] at h;constructor
 .intro Z
  exact Rat.not_lt.1 fun X=>by
   have:a-b<0:=by grind
   have:=h.2 this;omega
 .intro Z
  have:¬gd (a-b)<0:=fun X=>by
   have:=h.1 X;have h3:a<b:=by grind
   exact absurd Z (Rat.not_le.2 h3)
  omega
theorem vH(n p:V3)(o:Rat)(hd:WS n p)(H:dv (gw n p))(I:dv o)(M:Mem):kO prog 16 [.agg [.str (ao n.1),.str (ao n.2.1),.str (ao n.2.2),.str (ao o)],vA p] M (.str (ao (gw n p-o))) M:=by
 have L:aX prog 16=some f16:=by kernel_rfl
 have Z:=fun M=>AY n p hd M
 have X:=fun M=>Eh (gw n p) o H I M
 obtain⟨d,V⟩:=xE (gw n p);rw[<-V] at Z X |-;have R:qS prog (ag (fD [(54,[vA n,vA p],.str (ao d)),(53,[.str (ao d),.str (ao o)],.str (ao (d-o)))])):=ic fun e O M=>by
  simp only[lM] at O;rcases O with rfl | rfl
  .exact Z M
  .exact X M
 refine aA R ?_ M;clear R Z X;obtain⟨N,U⟩:∃N,aI f16=[N]:=⟨_,rfl⟩
 obtain⟨S,K⟩:=dx U (l:=[0,1,0,7,0,16,63,127]) (j:=7) (by kernel_rfl) (by decide);simp[aI,ca,f16] at U;subst U;simp[aa,L,f16,-aG,an S,bD,bt,bB,K,vA,fD,ag,Nat.testBit]
section
variable {x y:AV}{M:Mem}
theorem MG(H:x.afi=true/\y.afi=true)(nm:List UInt8)(n:V3)(o:Rat)(v p:V3)(hd:WS n p)(I:dv (gw n p))(J:dv o):
  kO prog 17 [.agg [x,y],.agg ((fY nm n o v).cells .qF .qF .qF .qF),vA p] M (.int .i64 (wC n o p)) M:=by
 have O:aX prog 17=some f17:=by kernel_rfl
 obtain⟨F,D⟩:=H;have V:=fun M=>vH n p o hd I J M
 have Z:=T7 (a:=gw n p) (b:=o);have X:=fun M=>A7 (gw n p-o) M
 unfold wC;obtain⟨d,S⟩:=xE (gw n p);rw[<-S] at V X Z |-;obtain⟨q,K⟩:=xE (α:=Rat) (d-o);rw[<-K] at V X Z;obtain⟨g,G⟩:=xE (gd q);rw[<-G] at X Z;have N:qS prog (ag (fD [(16,[.agg [.str (ao n.1),.str (ao n.2.1),.str (ao n.2.2),.str (ao o)],vA p],.str (ao q)),(15,[.str (ao q)],.int .i64 g)])):=ic fun e L M=>by
  simp only[lM] at L;rcases L with rfl | rfl
  .exact V M
  .exact X M
 have h:aa (bd prog) (fun _=>[]) (aX prog) (ag (fD [(16,[.agg [.str (ao n.1),.str (ao n.2.1),.str (ao n.2.2),.str (ao o)],vA p],.str (ao q)),(15,[.str (ao q)],.int .i64 g)])) 1 17 [.agg [x,y],.agg ((fY nm n o v).cells .qF .qF .qF .qF),vA p] M=some ⟨.int .i64 (if o<=d then 1 else 0),none,[]⟩:=by
  clear N V X;by_cases U:o<=d
  .have R:=Z.2 U
   rw[if_pos U];simp[aa,O,f17,ag,fD,fY,Evc.cells,vA,R]
  .have R:¬0<=g:=fun h=>U (Z.1 h)
   rw[if_neg U];simp[aa,O,f17,ag,fD,fY,Evc.cells,vA,R]
 have:=(ar aj (aJ _) N (aM _) h).1;simpa [afh.mem] using this
end
end Go.Proofs
namespace Go.Proofs
open Go.Eng
section
variable {O:y9}{m0:Nat}{ops:Array Oper}{env:Env}{mem:Mem}{d:Bool}{w x y z A B C D E F G H I J K1 K2 K3 K4 K5 K6 K7 K8 K9 S1 S4 S5 S6 S7 S8 S9 S10 S11 S12 S13:Int}{r1 r2 r3:V3}
end
section
variable {x y:AV}{M:Mem}
end
section
variable {x:afg}{s:afq}{M:Mem}{p t:Nat}{o o' :Bool}{ev:List AV}{v:V3}
theorem N7{n m k:Nat}{a b:V3}(I:vDg n a)(J:vDg m b)(H:5*(n+m)+10<=k):dg k k (gw a b):=(ON I J).mono H H
end
end Go.Proofs
namespace Go.Proofs
open Go.Eng
open Tryz
theorem CW(s:afq){i:Nat}{t:Tr}(h:s.T[i]? =some t):∃A B C,s.P[t.1]? =some A/\s.P[t.2.1]? =some B/\s.P[t.2.2]? =some C/\0<cf A B C:=by
 have Z:=Pv s;unfold jd at Z;simp only[C0] at Z;have:=List.all_eq_true.1 Z.1.1.2 t (J1 h);split at this
 .rename_i A B C X V h3
  exact⟨A,B,C,X,V,h3,V5 (by simpa using this)⟩
 .cases this
theorem Mg(s:afq):s.T.length<=1000:=by
 have:∀k<8,(bY k).length<=1000:=by decide
 exact this _ (Nat.mod_lt _ (by decide))
variable{K:Nat}{O:y9}{args:List AV}{f:FuncId}{lv:Code->List Nat}{mem:Mem}{v:AV}
theorem R6(I:qS prog O){H:Mem}(h:aa (bd prog) lv (aX prog) O K f args mem=some ⟨v,none,H⟩):kO prog f args mem v (mem++H):=by have:=(ar aj (aJ _) I (aM _) h).1;simpa [afh.mem] using this
theorem gQ(H:qS prog O)(h:aa (bd prog) lv (aX prog) O K f args mem=some ⟨v,none,[]⟩):kO prog f args mem v mem:=by have:=(ar aj (aJ _) H (aM _) h).1;simpa [afh.mem] using this
def YG(a b c d:Rat):Prop:=(dv a/\dv b/\dv c/\dv d)/\dv (a*b)/\dv (c*d)
theorem Ft(a b c d:Rat)(h:YG a b c d)(M:Mem):kO prog 153 [.str (ao a),.str (ao b),.str (ao c),.str (ao d)] M (.str (ao (a*b-c*d))) M:=by
 have N:aX prog 153=some f153:=by kernel_rfl
 obtain⟨⟨⟨L,G⟩,⟨h3,F⟩,⟨D,C⟩,B,u⟩,⟨Z,X⟩,V,U⟩:=h;obtain⟨x,S⟩:=xE (a*b);obtain⟨y,R⟩:=xE (c*d);rw[<-S] at Z X |-;rw[<-R] at V U |-;refine aA ju ?_ M;simp[aa,N,f153,aB,ag,gP,iD,L,G,h3,F,D,C,B,u,Z,X,V,U,<-S,<-R]
def arG(a b c:P2):Prop:=((dv a.1/\dv a.2)/\(dv b.1/\dv b.2)/\dv c.1/\dv c.2)/\YG (b.1-a.1) (c.2-a.2) (b.2-a.2) (c.1-a.1)
theorem yq(a b c:P2)(h:arG a b c)(M:Mem):kO prog 191 [pA a,pA b,pA c] M (.str (ao (cf a b c))) M:=by
 have hG:aX prog 191=some f191:=by kernel_rfl
 obtain⟨G,F⟩:=a;obtain⟨b1,b2⟩:=b;obtain⟨c1,c2⟩:=c;obtain⟨⟨⟨⟨D,C⟩,B,u⟩,⟨⟨o,m⟩,Y,W⟩,⟨r1,r2⟩,J,I⟩,R⟩:=h;unfold cf;simp only at D C B u o m Y W r1 r2 J I R |-;have S:=fun M=>Ft _ _ _ _ R M
 obtain⟨H,Z⟩:=xE (b1-G);obtain⟨x2,X⟩:=xE (c2-F);obtain⟨x3,V⟩:=xE (b2-F);obtain⟨x4,U⟩:=xE (c1-G);simp only[<-Z,<-X,<-V,<-U] at S |-;obtain⟨y,hy⟩:=xE (H*x2-x3*x4);rw[<-hy] at S |-;have hO:qS prog (y9.or (ag (fD [(153,[.str (ao H),.str (ao x2),.str (ao x3),.str (ao x4)],.str (ao y))])) (ag gP)):=qS.or (ic fun e he M=>by rw[List.mem_singleton] at he;rw[he];exact S M) ju
 clear S R hy;refine aA hO ?_ M;clear hO;obtain⟨o1,N⟩:∃o1,aI f191=[o1]:=⟨_,rfl⟩
 obtain⟨L,j1⟩:=dx N (l:=[0,1,0,4,15,0,32,0,128,511,0,1024,0,4096,16383,0,32768,0,131072,524287,1048575,2097151]) (j:=21) (by kernel_rfl) (by decide);simp[aI,ca,f191] at N;subst N;simp[aa,hG,f191,-aG,an L,bD,bt,bB,j1,y9.or,pA,aB,ag,fD,gP,D,C,B,u,o,m,Y,W,r1,r2,J,I,<-Z,<-X,<-V,<-U,Nat.testBit]
theorem HR(a b c:P2)(h:arG a b c)(M:Mem):kO prog 190 [pA a,pA b,pA c] M (.int .i64 (gd (cf a b c))) M:=by
 have V:aX prog 190=some f190:=by kernel_rfl
 have Z:=fun M=>yq a b c h M
 obtain⟨y,U⟩:=xE (cf a b c);rw[<-U] at Z |-;have S:qS prog (ag (fD [(191,[pA a,pA b,pA c],.str (ao y)),(15,[.str (ao y)],.int .i64 (gd y))])):=ic fun e X M=>by
  simp only[lM] at X;rcases X with rfl | rfl
  .exact Z M
  .exact tY y M
 refine aA S ?_ M;simp[aa,V,f190,fD,ag,pA]
open Classical in
noncomputable def v7(f:FuncId)(args:List AV):Option AV:=
 match f,args with
 |190,[.agg [.str a,.str b],.agg [.str c,.str d],.agg [.str e,.str g]]=>match dY a,dY b,dY c,dY d,dY e,dY g with
  |some x,some y,some z,some w,some u,some v=>if arG (x,y) (z,w) (u,v) then some (.int .i64 (gd (cf (x,y) (z,w) (u,v)))) else none
  |_,_,_,_,_,_=>none
 |191,[.agg [.str a,.str b],.agg [.str c,.str d],.agg [.str e,.str g]]=>match dY a,dY b,dY c,dY d,dY e,dY g with
  |some x,some y,some z,some w,some u,some v=>if arG (x,y) (z,w) (u,v) then some (.str (ao (cf (x,y) (z,w) (u,v)))) else none
  |_,_,_,_,_,_=>none
 |f,args=>gP f args
theorem Ej:qS prog (ag v7):=bP fun f args v h mem=>by
 unfold v7 at h;split at h
 .split at h
  .rename_i x y z w u v Z X h3 V U S
   split at h
   .rename_i R
    cases h;rw[au Z,au X,au h3,au V,au U,au S];exact HR (x,y) (z,w) (u,v) R mem
   .cases h
  .cases h
 .split at h
  .rename_i x y z w u v Z X h3 V U S
   split at h
   .rename_i R
    cases h;rw[au Z,au X,au h3,au V,au U,au S];exact yq (x,y) (z,w) (u,v) R mem
   .cases h
  .cases h
 .have:=ju.fn _ _ mem ⟨v,none,[]⟩ (by unfold ag;simp only;rw[h])
  simpa [afh.mem] using this
variable{b:Rat}
theorem W0{n:Nat}{a c d:Rat}(H:dg n n a)(I:dg n n b)(hc:dg n n c)(hd:dg n n d)(h0:0<n)(h1:n<=1000):YG a b c d:=
 ⟨⟨ee H h0 (by omega),ee I h0 (by omega),ee hc h0 (by omega),ee hd h0 (by omega)⟩,ee (dy H I) (by omega) (by omega),ee (dy hc hd) (by omega) (by omega)⟩
section
variable{n m:Nat}{a:Rat}(ha:dg n n a)(hb:dg m m b)
include n m a ha hb
theorem nT:dg (n+m+1) (n+m+1) (a-b):=(Li ha hb (m:=n+m) (by omega) (by omega)).mono (by omega) (by omega)
theorem Vu:dg (n+m+1) (n+m+1) (a+b):=(rN ha hb (m:=n+m) (by omega) (by omega)).mono (by omega) (by omega)
end
variable{c:P2}
theorem BU{n:Nat}{a b:P2}(H:pDg n a)(I:pDg n b)(hc:pDg n c)(h0:0<n)(h1:n<=400):arG a b c:=by
 have f:∀{q:Rat},dg n n q->dv q:=fun h=>ee h h0 (by omega)
 exact⟨⟨⟨f H.1,f H.2⟩,⟨f I.1,f I.2⟩,f hc.1,f hc.2⟩,W0 (nT I.1 H.1) (nT hc.2 H.2) (nT I.2 H.2) (nT hc.1 H.1) (by omega) (by omega)⟩
theorem jE{n:Nat}{a b:P2}(H:pDg n a)(I:pDg n b)(hc:pDg n c):dg (8*n+5) (8*n+5) (cf a b c):=
 (nT (dy (nT I.1 H.1) (nT hc.2 H.2)) (dy (nT I.2 H.2) (nT hc.1 H.1))).mono (by omega) (by omega)
def whI(x y z:Int):Int:=if z<(if y<(if x<1 then x else 1) then y else if x<1 then x else 1) then z else if y<(if x<1 then x else 1) then y else if x<1 then x else 1
def whV(A B C q:P2):Int:=whI (gd (cf A B q)) (gd (cf B C q)) (gd (cf C A q))
theorem Uk{A B C q:P2}:0<=whV A B C q↔inQ (qi A B C q):=by
 unfold whV inQ qi;simp only;generalize gd (cf A B q)=x;generalize gd (cf B C q)=y;generalize gd (cf C A q)=z;unfold whI;constructor
 .intro h
  repeat' split at h
  all_goals omega
 .rintro ⟨Z,X,h3⟩
  repeat' split
  all_goals omega
def Xu(A B C q:P2):Prop:=arG A B q/\arG B C q/\arG C A q
section
variable {P:List P2}{T:List Tr}{t:Tr}{A B C:P2}{i:Nat}
theorem tJ(W:T[i]? =some t)(H:P[t.1]? =some A)(I:P[t.2.1]? =some B)(J:P[t.2.2]? =some C):
  kO prog 109 [.agg [.slice 0 0 P.length none,.slice 1 0 T.length none],.int .i64 (i:Int)] [.cells false 2 (pC P),.cells false 3 (tC T)] (.slice 2 0 3 none) ([.cells false 2 (pC P),.cells false 3 (tC T)]++[.cells true 2 (pC [A,B,C])]):=by
 have S:aX prog 109=some f109:=by kernel_rfl
 obtain⟨U,R⟩:=Mk W;have X:=gL W;obtain⟨Y,i2,i3⟩:=t;simp only at H I J U;obtain⟨N,-,-,M⟩:=vi H;obtain⟨L,-,-,G⟩:=vi I;obtain⟨r1,-,-,F⟩:=vi J;have D:=gL H;have u:=gL I;have o:=gL J;obtain⟨Z,V⟩:∃Z,aI f109=[Z]:=⟨_,rfl⟩
 have m:=kM V (l:=[0,1,0,4,15,31,0,64,0,256,960,1984,0,4096,0,16384,61440,126976,262143,524287]) (by kernel_rfl);have j:KU [0,1,0,4,15,31,0,64,0,256,960,1984,0,4096,0,16384,61440,126976,262143,524287] 20 18=true:=by decide
 simp[aI,ca,f109] at V;subst V;refine R6 (az _) (lv:=fun _=>[]) (K:=1) ?_;simp[aa,S,f109,X,U,R,D,u,o,N,L,r1,M,G,F,pC,-aG,kh m,lx,rI,yQ,cS,j]
end
theorem KE:(aI f108).map (fun o=>dO o.toList)=[[0,0,0,6,14,0,0,64,0,256,960,2016,4064,0,16382,32767,65535]]:=by kernel_rfl
theorem Fu(A B C q:P2)(h:Xu A B C q):
  kO prog 108 [.slice 0 0 3 none,pA q] [.cells false 2 (pC [A,B,C])] (.int .i64 (whV A B C q)) [.cells false 2 (pC [A,B,C])]:=by
 have N:aX prog 108=some f108:=by kernel_rfl
 obtain⟨M,L,h3⟩:=h;unfold whV;obtain⟨a,b⟩:=A;obtain⟨c,d⟩:=B;obtain⟨e,f⟩:=C;obtain⟨u,v⟩:=q;obtain⟨x,X⟩:=xE (gd (cf (a,b) (c,d) (u,v)));obtain⟨y,V⟩:=xE (gd (cf (c,d) (e,f) (u,v)));obtain⟨z,U⟩:=xE (gd (cf (e,f) (a,b) (u,v)));rw[<-X,<-V,<-U];unfold whI;obtain⟨S,Z⟩:∃S,aI f108=S:=⟨_,rfl⟩
 have R:=cG Z KE;have G:fv [0,0,0,6,14,0,0,64,0,256,960,2016,4064,0,16382,32767,65535] 16=true:=by decide
 simp only[aI,ca,f108,List.nil_append,List.append_nil] at Z;subst Z;simp only[lB] at R;refine gQ Ej (lv:=fun _=>[5,6]) (K:=5) ?_;simp[aa,N,f108,ba,ga,pA,pC,w1,w2,w3,-aG,an R,bD,bt,bB,G,ag,v7,aB,M,L,h3,<-X,<-V,<-U,Nat.testBit]
variable{M:Mem}
section
variable {P:List P2}{T:List Tr}{t:Tr}{A B C q:P2}{i:Nat}
theorem qG(I:T[i]? =some t)(J:P[t.1]? =some A)(W:P[t.2.1]? =some B)(Y:P[t.2.2]? =some C){pb tb:Nat}{o1 o2:Bool}(H:M[pb]? =some (.cells o1 2 (pC P)))(m2:M[tb]? =some (.cells o2 3 (tC T))):
  kO prog 109 [.agg [.slice pb 0 P.length none,.slice tb 0 T.length none],.int .i64 (i:Int)] M (.slice M.length 0 3 none) (M++[.cells true 2 (pC [A,B,C])]):=by
 have X:=gL H;have V:=gL m2;have:=kO.frame (M:=M) (new:=[.cells true 2 (pC [A,B,C])]) (args:=[.agg [.slice 0 0 P.length none,.slice 1 0 T.length none],.int .i64 (i:Int)]) [pb,tb] (m:=[.cells false 2 (pC P),.cells false 3 (tC T)]) rfl (by simp[X,V]) (by rfl) (fun j s Z=>by
  match j with
  |0=>simp at Z;subst Z;exact cw (dX P) H P1
  |1=>simp at Z;subst Z;exact cw (fW T) m2 P1
  |j+2=>simp at Z) rfl (tJ I J W Y)
 simpa [AV.afz,AV.ren,fa,afl.ren,Pm] using this
theorem Fv(h:Xu A B C q){b:Nat}{o:Bool}(H:M[b]? =some (.cells o 2 (pC [A,B,C]))):
  kO prog 108 [.slice b 0 3 none,pA q] M (.int .i64 (whV A B C q)) M:=by
 have X:=gL H;have:=kO.frame (M:=M) (new:=[]) (args:=[.slice 0 0 3 none,pA q]) [b] (m:=[.cells false 2 (pC [A,B,C])]) rfl (by simp[X]) (by rfl) (fun j s Z=>by
  match j with
  |0=>simp at Z;subst Z;exact cw (dX [A,B,C]) H P1
  |j+1=>simp at Z) rfl (by rw[List.append_nil];exact Fu A B C q h)
 simpa [AV.afz,AV.ren,fa,pA] using this
end
end Go.Proofs
namespace Go.Proofs
open Go.Eng
open Tryz
theorem Xj{l:List Tr}{i:Nat}{t:Tr}(h:l[i]? =some t):(tC l)[i*3]? =some (.int .i64 (t.1:Int))/\(tC l)[i*3+1]? =some (.int .i64 (t.2.1:Int))/\(tC l)[i*3+2]? =some (.int .i64 (t.2.2:Int)):=by
 obtain⟨Z,V⟩:=Mk h;have f:∀k,k<3->(tC l)[i*3+k]? =(((tC l).drop (i*3)).take 3)[k]? :=fun k X=>by rw[QQQ X,QQa]
 exact⟨by have:=f 0 (by omega);rw[Z] at this;exact this,by rw[f 1 (by omega),Z];rfl,by rw[f 2 (by omega),Z];rfl⟩
theorem Gv(a b c:P2):cf a b c=cf b c a:=by
 unfold cf
 grind
theorem VQ{q:Rat}(h:0<q):0<q.num:=by
 have Z:0<=q.num:=Rat.num_nonneg.2 (by grind);have X:q.num≠0:=fun e=>by
  have:q=0:=Rat.num_eq_zero.1 e
  grind
 omega
structure OnG (A B C q:P2)(f g h:Rat):Prop where
 s0:arG q B C
 s1:arG q C A
 s2:arG q A B
 s:arG A B C
 pos:0<cf A B C
 n:dv f/\dv g/\dv h
 w:dv (cf q B C)/\dv (cf q C A)/\dv (cf q A B)
 m:dv (cf q B C*f)/\dv (cf q C A*g)/\dv (cf q A B*h)
 a:dv (cf q B C*f+cf q C A*g)/\dv (cf q B C*f+cf q C A*g+cf q A B*h)
 d:dv (cf A B C)
theorem Wp(A B C q:P2)(f g h:Rat):(cf q B C*f+cf q C A*g+cf q A B*h) / cf A B C=DV (qi A B C q) f g h:=by unfold DV qi;simp only;rw[Gw,Gv q B C,Gv q C A,Gv q A B]
def uX(P:List P2)(T:List Tr)(L:List Rat):Mem:=[.cells false 2 (pC P),.cells false 3 (tC T),.cells false 1 (qC L)]
section
variable {P:List P2}{T:List Tr}{L:List Rat}{t:Tr}{A B C q:P2}{f g h:Rat}{i:Nat}
theorem Kp:(aI f110).map (fun o=>dO o.toList)=[[0,0,0,4,12,30,62,0,0,256,768,1920,3968,8191,16383],[0,0,2,6,0,16,48,0,128,384,1022,2047,4095]]:=by kernel_rfl
theorem PX(H:T[i]? =some t)(hA:P[t.1]? =some A)(hB:P[t.2.1]? =some B)(hC:P[t.2.2]? =some C)(hf:L[t.1]? =some f)(hg:L[t.2.1]? =some g)(hh:L[t.2.2]? =some h)(ok:OnG A B C q f g h):
  kO prog 110 [.agg [.slice 0 0 P.length none,.slice 1 0 T.length none],.slice 2 0 L.length none,.int .i64 (i:Int),pA q] (uX P T L) (.str (ao (DV (qi A B C q) f g h))) (uX P T L):=by
 have hG:aX prog 110=some f110:=by kernel_rfl
 have hc:=tJ H hA hB hC;obtain⟨c0,c1,c2⟩:=Xj H;obtain⟨k1,k2⟩:=Mk H;have j:=gL H;have l1:=gL hf;have l2:=gL hg;have l3:=gL hh;have v1:(qC L)[t.1]? =some (.str (ao f)):=by simp[qC,hf]
 have v2:(qC L)[t.2.1]? =some (.str (ao g)):=by simp[qC,hg]
 have v3:(qC L)[t.2.2]? =some (.str (ao h)):=by simp[qC,hh]
 have ql:(qC L).length=L.length:=by simp[qC]
 rw[<-Wp];obtain⟨r0,r1,r2,r,pos,⟨⟨n1,n2⟩,⟨n3,n4⟩,n5,n6⟩,⟨⟨w1,w2⟩,⟨w3,w4⟩,w5,w6⟩,⟨⟨Y,W⟩,⟨J,I⟩,m5,m6⟩,⟨⟨U,S⟩,X,V⟩,d1,d2⟩:=ok;have pos:0<(cf A B C).num:=VQ pos;obtain⟨L1,Z⟩:=xE (α:=List (FuncId×List AV×(Mem->Prop)×afh)) [(109,[.agg [.slice 0 0 P.length none,.slice 1 0 T.length none],.int .i64 (i:Int)],(fun M=>M.length=5/\M[0]? =some (.cells false 2 (pC P))/\M[1]? =some (.cells false 3 (tC T))),⟨.slice 5 0 3 none,none,[.cells true 2 (pC [A,B,C])]⟩)];have R:qS prog (eG L1):=mM fun e he M hp=>by rw[Z,List.mem_singleton] at he;rw[he] at hp |-;obtain⟨h5,h0,h1⟩:M.length=5/\M[0]? =some (.cells false 2 (pC P))/\M[1]? =some (.cells false 3 (tC T)):=hp;have:=qG H hA hB hC h0 h1;rw[h5] at this;exact aC this
 have hO:qS prog (y9.or (eG L1) (ag v7)):=qS.or R Ej;have e1:∀M:Mem,(M.length=5/\M[0]? =some (.cells false 2 (pC P))/\M[1]? =some (.cells false 3 (tC T)))->eG L1 (.fn 109) [.agg [.slice 0 0 P.length none,.slice 1 0 T.length none],.int .i64 (i:Int)] M=some ⟨.slice 5 0 3 none,none,[.cells true 2 (pC [A,B,C])]⟩:=fun M h=>by rw[Z];exact dU h
 have e2:∀a M,eG L1 (.fn 191) a M=none:=fun a M=>by rw[Z,bN (.inl (by decide))];rfl
 have e3:∀a M,eG L1 (.fn 94) a M=none:=fun a M=>by rw[Z,bN (.inl (by decide))];rfl
 have e4:∀a M,eG L1 (.fn 90) a M=none:=fun a M=>by rw[Z,bN (.inl (by decide))];rfl
 have e5:∀a M,eG L1 (.fn 192) a M=none:=fun a M=>by rw[Z,bN (.inl (by decide))];rfl
 obtain⟨O,N⟩:=xE (eG L1);rw[<-N] at hO e1 e2 e3 e4 e5;clear N Z R hc;obtain⟨i1,i2,i3⟩:=t;obtain⟨x1,y1⟩:=A;obtain⟨x2,y2⟩:=B;obtain⟨x3,y3⟩:=C;obtain⟨u,v⟩:=q;simp only at c0 c1 c2 v1 v2 v3 l1 l2 l3;obtain⟨s0,hs0⟩:=xE (cf (u,v) (x2,y2) (x3,y3));obtain⟨s1,hs1⟩:=xE (cf (u,v) (x3,y3) (x1,y1));obtain⟨s2,hs2⟩:=xE (cf (u,v) (x1,y1) (x2,y2));obtain⟨s3,hs3⟩:=xE (cf (x1,y1) (x2,y2) (x3,y3));rw[<-hs0] at w1 w2 Y W U S X V |-;rw[<-hs1] at w3 w4 J I U S X V |-;rw[<-hs2] at w5 w6 m5 m6 X V |-;rw[<-hs3] at d1 d2 pos |-;obtain⟨p0,G⟩:=xE (s0*f);obtain⟨p1,F⟩:=xE (s1*g);obtain⟨p2,D⟩:=xE (s2*h);rw[<-G] at Y W U S X V |-;rw[<-F] at J I U S X V |-;rw[<-D] at m5 m6 X V |-;obtain⟨t1,o⟩:=xE (p0+p1);rw[<-o] at U S X V |-;obtain⟨t2,m⟩:=xE (t1+p2);rw[<-m] at X V |-;have z0:dY [48]=some 0:=by
  have:([48]:List UInt8)=ao 0:=by decide
  rw[this];exact aB 0
 have zn:(ai 0).length<=2000/\(ai 1).length<=2000:=⟨by decide,by decide⟩;obtain⟨zn1,zn2⟩:=zn;obtain⟨os,D'⟩:∃os,aI f110=os:=⟨_,rfl⟩
 have UV:=cG D' Kp;have j0:fv [0,0,0,4,12,30,62,0,0,256,768,1920,3968,8191,16383] 14=true:=by decide
 have j1:fv [0,0,2,6,0,16,48,0,128,384,1022,2047,4095] 12=true:=by decide
 simp only[aI,ca,f110,lA] at D';subst D';simp only[lB] at UV;obtain⟨P',hb1⟩:=UV;have y1' :IntKind.i64.wrap 1=1:=rfl;have y2' :IntKind.i64.wrap 2=2:=rfl;have y3' :IntKind.i64.wrap 3=3:=rfl;have y4' :IntKind.i64.wrap 4=4:=rfl;refine gQ hO (lv:=fun _=>[10,11,12]) (K:=5) ?_;clear hO;unfold uX;simp[-getElem?_pos,-AV.afi,-AV.known,-AV.cells,-cO,-List.all_eq_true,vS,mS,aa,hG,f110,y9.or,e1,e2,e3,e4,e5,ba,ga,pA,pC,y1',y2',y3',y4',j,c0,c1,c2,v1,v2,v3,l1,l2,l3,-aG,an P',an hb1,bD,bt,bB,j0,j1,ag,v7,gP,iD,aB,z0,zn1,zn2,r0,r1,r2,r,pos,n1,n2,n3,n4,n5,n6,w1,w2,w3,w4,w5,w6,Y,W,J,I,m5,m6,U,S,X,V,d1,d2,<-hs0,<-hs1,<-hs2,<-hs3,<-G,<-F,<-D,<-o,<-m,Rat.zero_add,Nat.testBit]
end
structure AtG (P:List P2)(T:List Tr)(L:List Rat)(q:P2):Prop where
 tri:∀(i:Nat) t,T[i]? =some t->∃A B C f g h,P[t.1]? =some A/\P[t.2.1]? =some B/\P[t.2.2]? =some C/\L[t.1]? =some f/\L[t.2.1]? =some g/\L[t.2.2]? =some h/\Xu A B C q/\OnG A B C q f g h
 hl:T.length<=1000
def xd(T:List Tr)(L:List Rat)(j:Nat)(w:Rat×Rat×Rat):Rat:=DV w (L.getD (T.getD j (0,0,0)).1 0) (L.getD (T.getD j (0,0,0)).2.1 0) (L.getD (T.getD j (0,0,0)).2.2 0)
def atV(P:List P2)(T:List Tr)(L:List Rat)(q:P2):AV:=match GQ P q T 0 with
 |none=>.tuple [.str [],.bool false]
 |some (j,w)=>.tuple [.str (ao (xd T L j w)),.bool true]
def atM(P:List P2)(T:List Tr)(L:List Rat)(q:P2):Mem:=uX P T L++[.cells true 0 [.slice 0 0 P.length none,.slice 1 0 T.length none],.cells true 0 [.str (ao q.1),.str (ao q.2)]]
def kq(P:List P2)(T:List Tr)(L:List Rat)(q:P2)(c:Go.Eng.Callee)(a:List AV)(N:Mem)(r:afh):Prop:=
 (∃(i:Nat) (t:Tr) (A B C:P2),c=.fn 109/\a=[.agg [.slice 0 0 P.length none,.slice 1 0 T.length none],.int .i64 (i:Int)]/\N=atM P T L q/\T[i]? =some t/\(P[t.1]? =some A/\P[t.2.1]? =some B/\P[t.2.2]? =some C)/\r=⟨.slice 5 0 3 none,none,[.cells true 2 (pC [A,B,C])]⟩)\/
 (∃A B C:P2,c=.fn 108/\a=[.slice 5 0 3 none,pA q]/\N=atM P T L q++[.cells true 2 (pC [A,B,C])]/\Xu A B C q/\r=⟨.int .i64 (whV A B C q),none,[]⟩)\/
 (∃(i:Nat) (t:Tr) (A B C:P2) (f g h:Rat) (x:afl),c=.fn 110/\a=[.agg [.slice 0 0 P.length none,.slice 1 0 T.length none],.slice 2 0 L.length none,.int .i64 (i:Int),pA q]/\N=atM P T L q++[x]/\T[i]? =some t/\(P[t.1]? =some A/\P[t.2.1]? =some B/\P[t.2.2]? =some C)/\(L[t.1]? =some f/\L[t.2.1]? =some g/\L[t.2.2]? =some h)/\OnG A B C q f g h/\r=⟨.str (ao (DV (qi A B C q) f g h)),none,[]⟩)
variable{A B C:P2}{env:Env}{i:Nat}{t:Tr}
section
variable {P:List P2}{T:List Tr}{L:List Rat}{q:P2}
theorem qJ{c:Go.Eng.Callee}{a:List AV}{N:Mem}{r r' :afh}(h:kq P T L q c a N r)(h' :kq P T L q c a N r'):r' =r:=by
 rcases h with⟨i,t,A,B,C,rfl,rfl,rfl,M,⟨K,G,F⟩,rfl⟩ | ⟨A,B,C,rfl,rfl,rfl,_,rfl⟩ | ⟨i,t,A,B,C,f,g,h,x,rfl,rfl,rfl,M,⟨K,G,F⟩,⟨j,Y,W⟩,_,rfl⟩
 .rcases h' with⟨D,J,u,o,m,_,e,_,Z,⟨X,V,U⟩,rfl⟩ | ⟨_,_,_,e,_⟩ | ⟨_,_,_,_,_,_,_,_,_,e,_⟩
  .simp only[List.cons.injEq,AV.int.injEq,true_and,and_true] at e
   obtain rfl:i=D :=by omega
   rw[M] at Z;cases Z;rw[K] at X;rw[G] at V;rw[F] at U;obtain rfl:=ZQ X;obtain rfl:=ZQ V;obtain rfl:=ZQ U;rfl
  .cases e
  .cases e
 .rcases h' with⟨_,_,_,_,_,e,_⟩ | ⟨u,o,m,_,_,e,_,rfl⟩ | ⟨_,_,_,_,_,_,_,_,_,e,_⟩
  .cases e
  .have e:=List.append_cancel_left e
   simp only[pC,List.cons.injEq,afl.cells.injEq,AV.str.injEq,and_true,true_and] at e;obtain⟨I,H,e3,e4,e5,e6⟩:=e;obtain rfl:A=u :=Prod.ext (eH I) (eH H);obtain rfl:B=o :=Prod.ext (eH e3) (eH e4);obtain rfl:C=m :=Prod.ext (eH e5) (eH e6);rfl
  .cases e
 .rcases h' with⟨_,_,_,_,_,e,_⟩ | ⟨_,_,_,e,_⟩ | ⟨D,J,u,o,m,f',g',h',x',_,e,_,Z,⟨X,V,U⟩,⟨S,R,O⟩,_,rfl⟩
  .cases e
  .cases e
  .simp only[List.cons.injEq,AV.int.injEq,true_and,and_true] at e
   obtain rfl:i=D :=by omega
   rw[M] at Z;cases Z;rw[K] at X;rw[G] at V;rw[F] at U;rw[j] at S;rw[Y] at R;rw[W] at O;obtain rfl:=ZQ X;obtain rfl:=ZQ V;obtain rfl:=ZQ U;obtain rfl:=ZQ S;obtain rfl:=ZQ R;obtain rfl:=ZQ O;rfl
theorem PY{f g h:Rat}(H:T[i]? =some t)(I:P[t.1]? =some A)(J:P[t.2.1]? =some B)(W:P[t.2.2]? =some C)(hf:L[t.1]? =some f)(hg:L[t.2.1]? =some g)(Y:L[t.2.2]? =some h)(ok:OnG A B C q f g h)(Z:Mem):
  kO prog 110 [.agg [.slice 0 0 P.length none,.slice 1 0 T.length none],.slice 2 0 L.length none,.int .i64 (i:Int),pA q] (uX P T L++Z) (.str (ao (DV (qi A B C q) f g h))) (uX P T L++Z):=by
 have:=kO.frame (M:=uX P T L++Z) (new:=[]) (args:=[.agg [.slice 0 0 P.length none,.slice 1 0 T.length none],.slice 2 0 L.length none,.int .i64 (i:Int),pA q]) [0,1,2] (m:=uX P T L) rfl (by simp[uX]) (by rfl) (fun j s X=>by
  match j with
  |0=>simp[uX] at X;subst X;exact cw (dX P) rfl P1
  |1=>simp[uX] at X;subst X;exact cw (fW T) rfl P1
  |2=>simp[uX] at X;subst X;exact cw (oz L) rfl P1
  |j+3=>simp[uX] at X) rfl (by rw[List.append_nil];exact PX H I J W hf hg Y ok)
 simpa [AV.afz,AV.ren,fa,pA] using this
theorem Na:qS prog (qt (kq P T L q)):=tn fun c a N r h=>by
 rcases h with⟨i,t,A,B,C,rfl,rfl,rfl,Z,⟨X,V,U⟩,rfl⟩ | ⟨A,B,C,rfl,rfl,rfl,S,rfl⟩ | ⟨i,t,A,B,C,f,g,h,x,rfl,rfl,rfl,Z,⟨X,V,U⟩,⟨R,O,K⟩,G,rfl⟩
 .have:=qG (M:=atM P T L q) (pb:=0) (tb:=1) (o1:=false) (o2:=false) Z X V U rfl rfl
  exact aC this
 .exact bH (Fv (M:=atM P T L q++[.cells true 2 (pC [A,B,C])]) (b:=5) (o:=true) S rfl)
 .have:=PY Z X V U R O K G ([.cells true 0 [.slice 0 0 P.length none,.slice 1 0 T.length none],.cells true 0 [.str (ao q.1),.str (ao q.2)]]++[x])
  rw[<-Y1] at this;exact aC (by simpa [atM] using this)
variable {O:y9}
theorem Ig:(aI f55).map (fun o=>dO o.toList)=[[0,0,3,0,15,31]]:=by kernel_rfl
def Af(L:List Rat)(env:Env):Prop:=ae env 1=.slice 2 0 L.length none/\ae env 3=.ptr 3 0/\ae env 5=.ptr 4 0
theorem qL{b:Code}(J:ah f55=[b])(W:i<T.length)(hT:T.length<=1000){R:List AV}(Y:∀f,AV.afn f R=true){z:List UInt8}{n:Int}(H:O (.fn 109) [.agg [.slice 0 0 P.length none,.slice 1 0 T.length none],.int .i64 (i:Int)] (atM P T L q)=some ⟨.slice 5 0 3 none,none,[.cells true 2 R]⟩)(I:O (.fn 108) [.slice 5 0 3 none,pA q] (atM P T L q++[.cells true 2 R])=some ⟨.int .i64 n,none,[]⟩)(eO:∀x,O (.fn 110) [.agg [.slice 0 0 P.length none,.slice 1 0 T.length none],.slice 2 0 L.length none,.int .i64 (i:Int),pA q] (atM P T L q++[x])=some ⟨.str z,none,[]⟩)(hp:Af L env)(l8:ae env 8=.int .i64 (i:Int))(d:Bool):
  (¬0<=n->∃X,aU (bd prog) (fun _=>[8]) O 1100 27 3 true b ⟨env,atM P T L q,d⟩=some (.normal,X)/\(∃x,X.mem=atM P T L q++[x])/\X.afD=d/\ae X.env 8=.int .i64 ((i+1:Nat):Int))/\
  (0<=n->∃V x,aU (bd prog) (fun _=>[8]) O 1100 27 3 true b ⟨env,atM P T L q,d⟩=some (.ret,⟨V,atM P T L q++[x],d⟩)/\ae V 6=.str z/\ae V 7=.bool true):=by
 obtain⟨G,h3,M⟩:=hp;obtain⟨Z,U⟩:∃Z,aI f55=Z :=⟨_,rfl⟩
 have S :=cG U Ig;simp only[aI,ca,f55,List.nil_append,List.append_nil] at U;subst U;simp only[lB] at S;simp[ah,aE,f55] at J;subst J;have K:IntKind.i64.wrap ((i:Int)+1)=((i+1:Nat):Int):=by rw[af];omega
 obtain⟨D,F⟩:=xE (i+1);rw[<-F] at K |-;unfold atM uX pA at*;simp only[List.cons_append,List.nil_append] at H I eO |-;constructor
 .intro N
  simp[-getElem?_pos,-AV.afi,-AV.known,-AV.cells,-cO,-List.all_eq_true,rS,mS,h3,M,l8,W,H,I,Y,N,K,-bF,-bn,-aG,-AV.adM,-afl.adM,Cv,aY S,cq,cc,dW,cK,cS,gB,bef,Nat.testBit]
 .intro N
  simp[-getElem?_pos,-AV.afi,-AV.known,-AV.cells,-cO,-List.all_eq_true,rS,mS,G,h3,M,l8,W,H,I,eO,Y,N,-bF,-bn,-aG,-AV.adM,-afl.adM,Cv,aY S,cq,cc,dW,cK,cS,gB,bef,Nat.testBit]
def atE(wr:List Nat)(H:Env)(i:Nat):Env:=[(8,.int .i64 (i:Int))]++((wr.filter fun t=> ![8].contains t).map fun t=>(t,AV.undef))++H
theorem yv{b:Code}(I:ah f55=[b])(H:Env)(i:Nat)(h:Af L H):Af L (atE (ad b) H i)/\ae (atE (ad b) H i) 8=.int .i64 (i:Int):=by simp[ah,aE,f55] at I;subst I;simpa [atE,Af] using h
theorem yw{b:Code}(H:ah f55=[b])(I:Env){s:XS}{k:Nat}{x:afl}{d:Bool}(J:s.mem=atM P T L q++[x])(hd:s.afD=d)(W:ae s.env 8=.int .i64 (k:Int)):
  mg [8] (ad b) I 5 s=⟨atE (ad b) I k,atM P T L q,d⟩:=by
 simp[ah,aE,f55] at H;subst H;unfold atM uX at J;simp[mg,J,W,hd,atE,atM,uX,vj,sD,gu]
theorem Nb{b:Code}(H:ah f55=[b])(I:Af L env)(J:ae env 8=.int .i64 (T.length:Int))(d:Bool):
  ∃Z,aU (bd prog) (fun _=>[8]) O 1100 27 3 true b ⟨env,atM P T L q,d⟩=some (.exit 0,⟨Z,atM P T L q,d⟩):=by
 obtain⟨X,h3,V⟩:=I;simp[ah,aE,f55] at H;subst H;unfold atM uX;simp[-getElem?_pos,-AV.afi,-AV.known,-AV.cells,-cO,-List.all_eq_true,mS,h3,J]
theorem AtG.at(H:AtG P T L q)(h:T[i]? =some t):∃A B C f g k,P[t.1]? =some A/\P[t.2.1]? =some B/\P[t.2.2]? =some C/\L[t.1]? =some f/\L[t.2.1]? =some g/\L[t.2.2]? =some k/\Xu A B C q/\OnG A B C q f g k/\xf P q t=qi A B C q/\xd T L i (xf P q t)=DV (qi A B C q) f g k:=by
 obtain⟨A,B,C,f,g,k,Z,X,h3,V,U,S,R,N⟩:=H.tri i t h;have e:xf P q t=qi A B C q:=by unfold xf;simp[List.getD,Z,X,h3]
 have M:T.getD i (0,0,0)=t:=by simp[List.getD,h]
 refine⟨A,B,C,f,g,k,Z,X,h3,V,U,S,R,N,e,?_⟩;unfold xd;rw[e,M];simp[List.getD,V,U,S]
theorem tZ(H:T[i]? =some t){f g k:Rat}(I:P[t.1]? =some A)(J:P[t.2.1]? =some B)(W:P[t.2.2]? =some C)(hf:L[t.1]? =some f)(hg:L[t.2.1]? =some g)(Y:L[t.2.2]? =some k)(ht:Xu A B C q)(ok:OnG A B C q f g k)(hO:O=qt (kq P T L q)):
  O (.fn 109) [.agg [.slice 0 0 P.length none,.slice 1 0 T.length none],.int .i64 (i:Int)] (atM P T L q)=some ⟨.slice 5 0 3 none,none,[.cells true 2 (pC [A,B,C])]⟩/\
  O (.fn 108) [.slice 5 0 3 none,pA q] (atM P T L q++[.cells true 2 (pC [A,B,C])])=some ⟨.int .i64 (whV A B C q),none,[]⟩/\
  ∀x,O (.fn 110) [.agg [.slice 0 0 P.length none,.slice 1 0 T.length none],.slice 2 0 L.length none,.int .i64 (i:Int),pA q] (atM P T L q++[x])=some ⟨.str (ao (DV (qi A B C q) f g k)),none,[]⟩:=by
 subst hO;refine⟨?_,?_,fun x=>?_⟩
 .have y:kq P T L q (.fn 109) [.agg [.slice 0 0 P.length none,.slice 1 0 T.length none],.int .i64 (i:Int)] (atM P T L q) ⟨.slice 5 0 3 none,none,[.cells true 2 (pC [A,B,C])]⟩:=.inl ⟨i,t,A,B,C,rfl,rfl,rfl,H,⟨I,J,W⟩,rfl⟩
  exact fj y fun X Z =>qJ y Z
 .have y:kq P T L q (.fn 108) [.slice 5 0 3 none,pA q] (atM P T L q++[.cells true 2 (pC [A,B,C])]) ⟨.int .i64 (whV A B C q),none,[]⟩:=.inr (.inl ⟨A,B,C,rfl,rfl,rfl,ht,rfl⟩)
  exact fj y fun X Z =>qJ y Z
 .have y:kq P T L q (.fn 110) [.agg [.slice 0 0 P.length none,.slice 1 0 T.length none],.slice 2 0 L.length none,.int .i64 (i:Int),pA q] (atM P T L q++[x]) ⟨.str (ao (DV (qi A B C q) f g k)),none,[]⟩:=.inr (.inr ⟨i,t,A,B,C,f,g,k,x,rfl,rfl,rfl,H,⟨I,J,W⟩,⟨hf,hg,Y⟩,ok,rfl⟩)
  exact fj y fun X Z =>qJ y Z
section
variable (H:AtG P T L q)
include H
theorem FE(hO:O=qt (kq P T L q)){b:Code}(I:ah f55=[b]){j:Nat}(J:T[j]? =some t)(ZY:inQ (xf P q t))(W:∀(l:Nat) s,l<j->T[l]? =some s->¬inQ (xf P q s)):
  ∃F:Env->Bool->Env×Mem×afl,∀Z d,(Af L Z/\ae Z 8=.int .i64 0)->
   aU (bd prog) (fun _=>[8]) O 1100 27 3 true (.loop b) ⟨Z,atM P T L q,d⟩=some (.ret,⟨(F Z d).1,(F Z d).2.1,d⟩)/\(F Z d).2.1=atM P T L q++[(F Z d).2.2]/\ae (F Z d).1 6=.str (ao (xd T L j (xf P q t)))/\ae (F Z d).1 7=.bool true:=by
 have hT:=H.hl;have U:=gL J;refine pK rfl (fun Z=>Af L Z/\ae Z 8=.int .i64 0) (fun _ V X x=>X =atM P T L q++[x]/\ae V 6=.str (ao (xd T L j (xf P q t)))/\ae V 7=.bool true) ?_;rintro Z d ⟨hp,h8⟩;have e0:aw [8] (ad b) Z Z=atE (ad b) Z 0:=by simp[aw,atE,h8]
 rw[e0];have F':(atM P T L q).length=5:=rfl;rw[F'];refine n8 (α:=Nat) (fun i=>⟨atE (ad b) Z i,atM P T L q,d⟩) (fun i=>j-i) (fun i=>i<=j) .ret d (fun V X =>∃x,X =atM P T L q++[x]/\ae V 6=.str (ao (xd T L j (xf P q t)))/\ae V 7=.bool true) (by simp) ?_ 1100 0 (by omega) (by omega);intro i hi;obtain⟨q1,q2⟩:=yv I Z i hp;by_cases S:i=j
 .right
  subst S;obtain⟨A,B,C,f,g,k,R,N,M,K,G,D,u,o,e,e2⟩:=H.at J;rw[e] at ZY;rw[e2];obtain⟨m,Y,c3⟩:=tZ J R N M K G D u o hO;obtain⟨V,x,h1,h2,h3⟩:=(qL I U hT (fun f=>TP f _) m Y c3 q1 q2 d).2 (Uk.2 ZY);exact⟨V,_,h1,x,rfl,h2,h3⟩
 .left
  obtain⟨s,hs⟩:∃s,T[i]? =some s:=⟨_,GT (by omega)⟩
  obtain⟨A,B,C,f,g,k,R,N,M,K,G,D,u,o,e,e2⟩:=H.at hs;have hn:=W i s (by omega) hs;rw[e] at hn;obtain⟨m,Y,c3⟩:=tZ hs R N M K G D u o hO;obtain⟨s',h1,⟨x,h2⟩,h3,h4⟩:=(qL I (by omega) hT (fun f=>TP f _) m Y c3 q1 q2 d).1 (fun h=>hn (Uk.1 h));exact⟨i+1,s',h1,yw I Z h2 h3 h4,by omega,by omega⟩
theorem Ih(W:O=qt (kq P T L q)){b:Code}(I:ah f55=[b])(J:∀(l:Nat) s,T[l]? =some s->¬inQ (xf P q s)):
  ∃F:Env->Bool->Env,∀Z d,(Af L Z/\ae Z 8=.int .i64 0)->
   aU (bd prog) (fun _=>[8]) O 1100 27 3 true (.loop b) ⟨Z,atM P T L q,d⟩=some (.exit 0,⟨F Z d,atM P T L q,d⟩)/\True:=by
 have hT:=H.hl;refine bl rfl (fun Z=>Af L Z/\ae Z 8=.int .i64 0) (fun _ _=>True) ?_;rintro Z d ⟨hp,h8⟩;have M:aw [8] (ad b) Z Z=atE (ad b) Z 0:=by simp[aw,atE,h8]
 rw[M];have K:(atM P T L q).length=5:=rfl;rw[K];refine bG (α:=Nat) (fun i=>⟨atE (ad b) Z i,atM P T L q,d⟩) (fun i=>T.length-i) (fun i=>i<=T.length) (.exit 0) _ d (fun _=>True) (by simp) ?_ 1100 0 (by omega) (by omega);intro i hi;obtain⟨S,R⟩:=yv I Z i hp;by_cases X:i=T.length
 .right
  subst X;obtain⟨G,V⟩:=Nb (O:=O) (P:=P) (q:=q) I S R d;exact⟨G,V,trivial⟩
 .left
  obtain⟨s,U⟩:∃s,T[i]? =some s:=⟨_,GT (by omega)⟩
  obtain⟨A,B,C,f,g,k,D,u,o,m,j,Y,ht,ok,e,e2⟩:=H.at U;have N:=J i s U;rw[e] at N;obtain⟨c1,c2,c3⟩:=tZ U D u o m j Y ht ok W;obtain⟨s',V,⟨x,h2⟩,h3,h4⟩:=(qL I (by omega) hT (fun f=>TP f _) c1 c2 c3 S R d).1 (fun h=>N (Uk.1 h));exact⟨i+1,s',V,yw I Z h2 h3 h4,by omega,by omega⟩
theorem PV:kO prog 55 [.agg [.slice 0 0 P.length none,.slice 1 0 T.length none],.slice 2 0 L.length none,pA q] (uX P T L) (atV P T L q) (uX P T L):=by
 have u:aX prog 55=some f55:=by kernel_rfl
 obtain⟨b,R⟩:∃b,ah f55=[b]:=⟨_,rfl⟩
 have M:=Na (P:=P) (T:=T) (L:=L) (q:=q);obtain⟨O,Z⟩:=xE (qt (kq P T L q));unfold atV;have hl:=H.hl;cases ZM:GQ P q T 0 with
 |none=>
  obtain⟨F,V⟩:=Ih H Z R (LB ZM);have U:=fun X d h=>(V X d h).1
  clear V;rw[<-Z] at M;simp[ah,aE,f55] at R;subst R;unfold atM uX Af at U;simp only[List.cons_append,List.nil_append] at U;refine gQ M (lv:=fun _=>[8]) (K:=1100) ?_;unfold uX pA;simp[-AV.afi,-AV.known,-AV.cells,-List.all_eq_true,vS,aa,u,f55,U]
 |some r=>
  obtain⟨j,w⟩:=r;obtain⟨i,t,o,m,Y,rfl,G⟩:=sc ZM;obtain rfl:i=j:=by omega
  obtain⟨F,V⟩:=FE H Z R m Y G;have U:=fun X d h=>(V X d h).1
  have D:=fun X d h=>(V X d h).2.1
  have S:=fun X d h=>(V X d h).2.2.1
  have N:=fun X d h=>(V X d h).2.2.2
  clear V;rw[<-Z] at M;simp[ah,aE,f55] at R;subst R;obtain⟨z,W⟩:=xE (xd T L i (xf P q t));simp only;rw[<-W] at S |-;unfold atM uX Af at U D;unfold Af at S N;simp only[List.cons_append,List.nil_append] at U D;have J:∃r,aa (bd prog) (fun _=>[8]) (aX prog) O 1100 55 [.agg [.slice 0 0 P.length none,.slice 1 0 T.length none],.slice 2 0 L.length none,pA q] (uX P T L)=some r/\r.v=.tuple [.str (ao z),.bool true]/\r.mem (uX P T L)=uX P T L:=by unfold uX pA;simp[-AV.afi,-AV.known,-AV.cells,-List.all_eq_true,vS,aa,u,f55,U,D,S,N];done
  obtain⟨r,I,h2,h3⟩:=J;have:=(ar aj (aJ _) M (aM _) I).1
  rwa [h2,h3] at this
theorem PW{M:Mem}{pb tb I:Nat}{o1 o2 o3:Bool}(J:M[pb]? =some (.cells o1 2 (pC P)))(m2:M[tb]? =some (.cells o2 3 (tC T)))(W:M[I]? =some (.cells o3 1 (qC L))):
  kO prog 55 [.agg [.slice pb 0 P.length none,.slice tb 0 T.length none],.slice I 0 L.length none,pA q] M (atV P T L q) M:=by
 have X:=gL J;have V:=gL m2;have U:=gL W;have S:(atV P T L q).closed=true:=by unfold atV;split<;>rfl
 have:=kO.frame (M:=M) (new:=[]) (args:=[.agg [.slice 0 0 P.length none,.slice 1 0 T.length none],.slice 2 0 L.length none,pA q]) [pb,tb,I] (m:=uX P T L) rfl (by simp[X,V,U]) (by rfl) (fun j s Z=>by
  match j with
  |0=>simp[uX] at Z;subst Z;exact cw (dX P) J P1
  |1=>simp[uX] at Z;subst Z;exact cw (fW T) m2 P1
  |2=>simp[uX] at Z;subst Z;exact cw (oz L) W P1
  |j+3=>simp[uX] at Z) rfl (by rw[List.append_nil];exact PV H)
 simpa [AV.afz,AV.ren,fa,pA,jS _ _ S] using this
end
end
end Go.Proofs
namespace Go.Proofs
open Go.Eng
section
variable {u v:V3}
end
end Go.Proofs
