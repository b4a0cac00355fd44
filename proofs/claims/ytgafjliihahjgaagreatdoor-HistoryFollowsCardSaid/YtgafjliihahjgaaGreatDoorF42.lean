/- See F54. -/
import Derived.Test.YtgafjliihahjgaaGreatDoorF41
set_option linter.all false
set_option maxRecDepth 100000
set_option maxHeartbeats 40000000
namespace Go.Proofs
open Go.Eng
section
variable {O:aeT}{M:Mem}{pv tv ev:AV}{nm:List UInt8}{n i q:Nat}{p:V3}
end
end Go.Proofs
namespace Go.Proofs
open Go.Eng
open Tryz
open Classical in
noncomputable def ei:List (FuncId×List AV×(Mem→Prop)×aeQ)→aeT
 | [],_,_,_=>none
 |x::L,c,args,M=>if c=.fn x.1∧args=x.2.1∧x.2.2.1 M then some x.2.2.2 else ei L c args M
variable{L:List (FuncId×List AV×(Mem→Prop)×aeQ)}
theorem ja{P:Program}(h:∀x∈L,∀M,x.2.2.1 M→jS P (.fn x.1) x.2.1 M x.2.2.2):HS P (ei L):=dE fun c a M r Z=>by
 induction L with
 |nil=>simp[ei] at Z
 |cons x L ih=>
  rw[ei] at Z;split at Z
  ·rename_i hc
   obtain⟨rfl,rfl,X⟩:=hc;cases Z;exact h x (by simp) M X
  ·exact ih (fun y W=>h y (by simp[W])) Z
variable{a:List AV}{f:FuncId}{m:Mem}{r:aeQ}
theorem db{p:Mem→Prop}(h:p m):ei ((f,a,p,r)::L) (.fn f) a m=some r:=by rw[ei,if_pos ⟨rfl,rfl,h⟩]
theorem de{g:FuncId}{b:List AV}{p:Mem→Prop}(h:f≠g∨¬p m):ei ((f,a,p,r)::L) (.fn g) b m=ei L (.fn g) b m:=by rw[ei,if_neg (fun e=>h.elim (fun h=>h (by have:=e.1;cases this;rfl)) fun h=>h e.2.2)]
def dnK:Nat→Nat
 |0=>4
 |k+1=>5*dnK k
def vlK:Nat→Nat
 |0=>71
 |k+1=>2*vlK k+20
def plK(k:Nat)(p:V3):Prop:=∃D,D≤dnK k∧vSm D (vlK k) p
variable{k:Nat}
theorem Mm(A:k≤3):dnK k≤500∧vlK k≤800:=by
 have:k=0∨k=1∨k=2∨k=3:=by omega
 rcases this with rfl | rfl | rfl | rfl<;>exact⟨by decide,by decide⟩
variable{w:EvD}
theorem Xz{s:aeX}{p:V3}(G:w.Ok s)(A:Bool)(h:plK k p)(H:k≤3):plK (k+1) (w.mv A p):=by obtain⟨D,V,Z⟩:=h;obtain⟨S,X⟩:=Mm H;obtain⟨E,O,W⟩:=ZJ G A Z (by omega) X;exact⟨E,by simp only[dnK];omega,W⟩
theorem XA{p:V3}(h:plK k p)(A:k≤3):plK 3 p:=by
 obtain⟨D,Z,X⟩:=h;have:k=0∨k=1∨k=2∨k=3:=by omega
 rcases this with rfl | rfl | rfl | rfl<;>simp only[dnK] at Z<;>exact⟨D,by simp only[dnK];omega,X.mono (by decide)⟩
def plL(A:Bool):List EvD→V3→Prop
 | [],p=>plK 3 p
 |w::l,p=>plK 3 p∧plL A l (w.mv A p)
theorem XC{s:aeX}{A:Bool}:∀{l:List EvD} {k:Nat} {p:V3},(∀w∈l,w.Ok s)→plK k p→k+l.length≤3→plL A l p
 | [],k,p,_,h,hk=>XA h (by simpa using hk)
 |w::l,k,p,hw,h,hk=>by rw[List.length_cons] at hk;exact⟨XA h (by omega),XC (k:=k+1) (fun x Z=>hw x (by simp[Z])) (Xz (hw w (by simp)) A h (by omega)) (by omega)⟩
theorem XB{A:Bool}:∀{l:List EvD} {p:V3},plL A l p→plK 3 p
 | [],_,h=>h
 |_::_,_,h=>h.1
theorem U7{p:V3}(h:plK k p)(A:k≤3):vC p:=by obtain⟨D,W,Z⟩:=h;obtain⟨V,X⟩:=Mm A;have:=Z.mono X;exact this.vC
variable{ev:List AV}{i:Nat}{v:V3}{ws:List EvD}
section
variable {s:aeX}{p t q:Nat}{evs:List (List AV)}{cs:List Evc}{M:Mem}
section
variable (H:afK s p t q evs cs M)
include H
theorem Tryz.afK.ahJ:∃ws:List EvD,ws.length=cs.length∧∀(i:Nat) c w,cs[i]? =some c→ws[i]? =some w→w.Ok s∧w.Fin∧c=w.con c.nm:=
 BP (P:=fun _ c w=>EvD.Ok s w∧EvD.Fin w∧c=w.con c.nm) cs fun i c hc=>(H.ag1 c (List.mem_of_getElem? hc)).evf
section
variable (hw:∀(i:Nat) c w,cs[i]? =some c→ws[i]? =some w→w.Ok s∧c=w.con c.nm)(h1:evs[i]? =some ev)(h2:ws[i]? =some w)(bck:Bool)(hv:plK k v)(hk:k≤3)(X:Mem)
include hw h1 h2 bck hv hk X
theorem Tryz.afK.ahK:
  kO prog 52 [.agg ev,vA v,.bool bck] (M++X) (vA (w.mv bck v)) (M++X):=by
 have W:=gL h1;obtain⟨c,hc⟩:∃c,cs[i]? =some c:=⟨_,List.getElem?_eq_getElem (by rw[←H.len];exact W)⟩
 obtain⟨V,S⟩:=hw i c w hc h2;have Z:=(H.more X).con i ev c h1 hc;rw[S] at Z;obtain⟨D,J,O⟩:=hv;obtain⟨F,K⟩:=Mm hk;exact HT Z V bck O (by omega) K
theorem Tryz.afK.ahc:
  kO prog (if bck then 20 else 21) [shB s p t,.agg ev,vA v] (M++X) (.tuple [vA (w.mv bck v),.int .i64 0]) (M++X):=by
 have V:=gL h1;obtain⟨c,hc⟩:∃c,cs[i]? =some c:=⟨_,List.getElem?_eq_getElem (by rw[←H.len];exact V)⟩
 obtain⟨S,O⟩:=hw i c w hc h2;have Z:=(H.more X).con i ev c h1 hc;have W:=(H.ag1 c (List.mem_of_getElem? hc)).chk;rw[O] at Z W;obtain⟨_,K⟩:=(H.more X).hp;obtain⟨_,J⟩:=(H.more X).ht;obtain⟨D,B,F⟩:=hv;obtain⟨z,C⟩:=Mm hk;exact HI Z W S bck F (by omega) C K J
end
theorem AO(A:LI [bk] (cs.map unE)=false)(G:vC v):kO prog 29 [.agg (dv s p t q cs.length),vA v] M (.int .i64 0) M:=by
 have V:aK prog 29=some f29:=by kernel_rfl
 obtain⟨S,O,h3,K⟩:=G;have X:HS prog (aeT.or (bT 35 [.agg (dv s p t q cs.length)] (.int .i64 0) (fun N=>∃Z,N=M++Z)) (af aH)):=HS.or (cf fun N ⟨Z,hZ⟩=>by
  subst hZ;have:=(H.more Z).chk
  rwa [A] at this) cQ
 unfold dv at X ⊢;obtain⟨E,W⟩:=xE (evV q cs.length);have J:E.aeS=true:=by rw[W];exact Eo _ _
 rw[←W] at X ⊢;have h:aa (aN prog) (fun _=>[]) (aK prog) (aeT.or (bT 35 [.agg [.slice p 0 s.P.length none,.slice t 0 s.T.length none,.str bk,E]] (.int .i64 0) (fun N=>∃Z,N=M++Z)) (af aH)) 1 29 [.agg [.slice p 0 s.P.length none,.slice t 0 s.T.length none,.str bk,E],vA v] M=some ⟨.int .i64 0,none,[]⟩:=by
  clear X;have F:∀s,(AV.str s).aeS=true:=fun _=>rfl
  have D:∀b o n c,(AV.slice b o n c).aeS=true:=fun _ _ _ _=>rfl
  simp[-AV.aeS,aa,V,f29,aeT.or,bT,af,aH,vA,S,O,h3,K]
 have:=(ah ae (ar _) X (au _) h).1;simpa [aeQ.mem] using this
end
end
end Go.Proofs
namespace Go.Proofs
open Go.Eng
section
variable {s:aeX}{p t q:Nat}{evs:List (List AV)}{cs:List Evc}{M:Mem}{ws:List EvD}{v:V3}
end
section
variable {s:aeX}{p t q:Nat}{evs:List (List AV)}{cs:List Evc}{M:Mem}{ws:List EvD}{v:V3}
end
end Go.Proofs
namespace Go.Proofs
open Go.Eng
open Tryz
section
variable {s:aeX}{p t q:Nat}{evs:List (List AV)}{cs:List Evc}{M:Mem}{ws:List EvD}{v:V3}
end
theorem WH(n:Int)(d:Nat)(A:d=2∨d=4)(G:n.natAbs≤142):n.natAbs.gcd d=1∨(So n (n.natAbs.gcd d)∧So d (n.natAbs.gcd d)):=by
 have Z:n.natAbs.gcd d∣d:=Nat.gcd_dvd_right _ _;have X:n.natAbs.gcd d∣n.natAbs:=Nat.gcd_dvd_left _ _;obtain⟨g,W⟩:=xE (n.natAbs.gcd d);rw[←W] at Z X ⊢;have V:g≤4:=by have:=Nat.le_of_dvd (by omega) Z;omega
 have S:0<g:=Nat.pos_of_dvd_of_pos Z (by omega);have hc:g=1∨g=2∨g=3∨g=4:=by omega
 rcases hc with rfl | rfl | rfl | rfl
 ·exact .inl rfl
 ·refine .inr ⟨.inl ⟨rfl,by omega,by omega,by omega⟩,.inl ⟨rfl,by omega,by omega,by omega⟩⟩
 ·rcases A with rfl | rfl<;>omega
 ·refine .inr ⟨.inr (.inl ⟨rfl,by omega,by omega,by omega⟩),.inr (.inl ⟨rfl,by omega,by omega,by omega⟩)⟩
def plP(s:aeX)(x y:Int):P2:=(mkRat (x+s.sx.tmod 8*2) (if s.half then 4 else 2),mkRat (y+s.sy.tmod 8*2) (if s.half then 4 else 2))
open Classical in
noncomputable def Gi(f:FuncId)(args:List AV):Option AV:=
 match f,args with
 |56,[.int .i64 n,.int .i64 d]=>if (d=2∨d=4)∧n.natAbs≤142 then some (.tuple [.str (ak (mkRat n d.toNat)),.int .i64 0]) else none
 |_,_=>none
theorem Of:HS prog (af Gi):=bH fun f Z v h mem=>by
 unfold Gi at h;split at h
 ·rename_i n d
  split at h
  ·rename_i hc
   cases h;have:=Ia n d.toNat (by omega) (by omega) (by omega) (WH n d.toNat (by omega) hc.2) mem
   rwa [Int.toNat_of_nonneg (by omega)] at this
  ·cases h
 ·cases h
theorem Fc(s:aeX)(x y:Int)(A:Ak x)(G:Ak y)(M:Mem):
  kO prog 33 [s.av,.agg [.int .i8 x,.int .i8 y],.int .i64 2] M (pA (plP s x y)) M:=by
 have O:aK prog 33=some f33:=by kernel_rfl
 obtain⟨I,W,V,K⟩:=s;have J:=DO W;have F:=DO V;unfold Ak at A G;unfold aeX.av plP;simp only;obtain⟨u,hu⟩:=xE (W.tmod 8);obtain⟨v,S⟩:=xE (V.tmod 8);rw[←hu] at J ⊢;rw[←S] at F ⊢;refine aA Of ?_ M;have D:IntKind.i64.wrap x=x:=dO (by omega) (by omega);have C:IntKind.i64.wrap y=y:=dO (by omega) (by omega);have B:IntKind.i64.wrap u=u:=dO (by omega) (by omega);have z:IntKind.i64.wrap v=v:=dO (by omega) (by omega);have Z:IntKind.i64.wrap (u*2)=u*2:=dO (by omega) (by omega);have X:IntKind.i64.wrap (v*2)=v*2:=dO (by omega) (by omega);have m:IntKind.i64.wrap (x+u*2)=x+u*2:=dO (by omega) (by omega);have j:IntKind.i64.wrap (y+v*2)=y+v*2:=dO (by omega) (by omega);have H:IntKind.i64.wrap 1=1:=rfl;have Y:IntKind.i64.wrap 2=2:=rfl;have R:IntKind.i64.wrap 4=4:=rfl;have f1:(x+u*2).natAbs≤142:=by omega
 have f2:(y+v*2).natAbs≤142:=by omega
 cases K<;>simp[aa,O,f33,af,Gi,←hu,←S,D,C,B,z,Z,X,m,j,Y,R,f1,f2,bW,aE,pA]
def plV(s:aeX)(x:Z3):V3:=((plP s x.1 x.2.1).1,(plP s x.1 x.2.1).2,mkRat x.2.2 2)
def z8(x:Z3):Prop:=Ak x.1∧Ak x.2.1∧Ak x.2.2
def zB(x:Z3):AV:=.agg [.int .i8 x.1,.int .i8 x.2.1,.int .i8 x.2.2]
section
variable (s:aeX)(x:Z3)(hx:z8 x)
include s x hx
theorem Zd:plK 0 (plV s x):=by
 obtain⟨X,W,h3⟩:=hx;unfold Ak at X W h3;have S:=DO s.sx;have O:=DO s.sy;have Z:∀n:Int,n.natAbs≤142→Sm 4 71 (mkRat n (if s.half then 4 else 2)):=fun n M=>by
  cases s.half
  ·exact(CS (V:=71) (by decide) (by simp;omega)).to (by decide) (by decide) (Nat.le_refl 71)
  ·exact CS (by decide) (by simp;omega)
 exact⟨4,Nat.le_refl _,Z _ (by omega),Z _ (by omega),(CS (n:=x.2.2) (d:=2) (V:=71) (by decide) (by omega)).to (by decide) (by decide) (Nat.le_refl 71)⟩
theorem xY(a:AV)(m:Mem)(A:(a=.y9∧m=[])∨∃n,a=.slice 0 0 n none∧m=[.aeP]):
  kO prog 16 [iH s a,zB x] m (vA (plV s x)) m:=by
 have C:aK prog 16=some f16:=by kernel_rfl
 obtain⟨Z,X,W⟩:=x;obtain⟨J,F,h3⟩:=hx;have V :=h3;unfold Ak at V;simp only at J F V;have S:HS prog (aeT.or (af (bY [(33,[s.av,.agg [.int .i8 Z,.int .i8 X],.int .i64 2],pA (plP s Z X))])) (af iW)):=HS.or (du fun e he M=>by rw[List.mem_singleton] at he;rw[he];exact Fc s Z X J F M) oC
 obtain⟨D,O⟩:∃D,aC f16=[D]:=⟨_,rfl⟩
 obtain⟨K,B⟩:=dj O (l:=[0,1,0,4,0,16,48,112,255,511]) (j:=9) (by kernel_rfl) (by decide);simp[aC,bn,f16] at O;subst O;have z:IntKind.i64.wrap W=W:=dO (by omega) (by omega);have f3:W.natAbs<100000000:=by omega
 unfold plV;simp only;obtain⟨q,hq⟩:=xE (plP s Z X);rw[←hq] at S ⊢;have h:aa (aN prog) (fun _=>[]) (aK prog) (aeT.or (af (bY [(33,[s.av,.agg [.int .i8 Z,.int .i8 X],.int .i64 2],pA q)])) (af iW)) 1 16 [iH s a,zB (Z,X,W)] m=some ⟨vA (q.1,q.2,mkRat W 2),none,[]⟩:=by clear S;rcases A with⟨rfl,rfl⟩ | ⟨n,rfl,rfl⟩<;>simp[aa,C,f16,aeT.or,bY,af,iW,iH,zB,aeX.av,pA,vA,z,f3,bW,aE,-aB,ag K,aS,aO,aP,B,Nat.testBit]
 have:=(ah ae (ar _) S (au _) h).1;simpa [aeQ.mem] using this
theorem If(a:AV)(M:Mem)(A:a=.y9∨∃b n,a=.slice b 0 n none∧b<M.length):
  kO prog 16 [iH s a,zB x] M (vA (plV s x)) M:=by
 rcases A with rfl | ⟨b,n,rfl,X⟩
 ·exact kO.lift rfl rfl (xY s x hx .y9 [] (.inl ⟨rfl,rfl⟩)) M
 ·have:=kO.frame (M:=M) (new:=[]) [b] rfl (by simpa using X) (by rfl) (fun i t Z=>by
   match i with
   |0=>simp at Z;subst Z;trivial
   |i+1=>simp at Z) rfl (xY s x hx (.slice 0 0 n none) [.aeP] (.inr ⟨n,rfl,rfl⟩))
  simpa [iH,zB,vA,AV.ae3,AV.ren,dL] using this
end
end Go.Proofs
