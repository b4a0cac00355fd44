/- See R54. -/
import Derived.Test.YtgafjliihahjgaaGreatDoorR49
set_option linter.all false
set_option maxRecDepth 100000
set_option maxHeartbeats 40000000
namespace Go.Proofs
open Go.Eng
open Tryz
theorem S9(b:Bool):sgB (!b)= - sgB b:=by cases b<;>rfl
theorem WH{n v:Z3}(h:AM v n=0):(n.1:Rat)*(v.1:Rat)+(n.2.1:Rat)*(v.2.1:Rat)+(n.2.2:Rat)*(v.2.2:Rat)=0:=by
 have h' :=congrArg (fun z:Int=>(z:Rat)) h;unfold AM at h';simp only[Rat.intCast_add,Rat.intCast_mul] at h';have e0:((0:Int):Rat)=0:=rfl;rw[e0] at h'
 grind
theorem JT{n v:Z3}(h:AM v n=0)(p:V3)(k:Rat):eX (zV n) (oY p (jR (zV v) k))=eX (zV n) p:=by
 have:=WH h;unfold eX oY jR zV;simp only
 grind
theorem DG(p v:V3)(k:Rat):oY (oY p (jR v k)) (jR v (-k))=p:=by unfold oY jR;obtain⟨p1,p2,p3⟩:=p;simp only[Prod.mk.injEq];refine⟨?_,?_,?_⟩<;>grind
theorem PN{n:Z3}{o:Int}{v:Z3}(h:AM v n=0)(b:Bool)(p:V3):xv n o v (!b) (xv n o v b p)=p:=by
 unfold xv;by_cases h0:(o:Rat)≤eX (zV n) p
 ·rw[if_pos h0,JT h,if_pos h0,S9,DG]
 ·rw[if_neg h0,if_neg h0]
theorem Sw{n:Z3}{K:List P2}{v:Z3}(h:AM v n=0)(b:Bool)(p:V3):Fk n K v (!b) (Fk n K v b p)=p:=by unfold Fk;rw[JT h,S9,Rat.neg_mul,DG]
variable{i:Nat}
theorem SY(hi:i≤5)(b:Bool)(v:V3):KW (KD (lx (bR i) (!b))) (KW (KD (lx (bR i) b)) v)=v:=by
 obtain⟨x,y,z⟩:=v;have h:i=0∨i=1∨i=2∨i=3∨i=4∨i=5:=by omega
 have e:∀(n:Int) (d:Nat),mkRat n d=(n:Rat)*(1 / (d:Rat)):=fun n d=>Bg
 rcases h with rfl | rfl | rfl | rfl | rfl | rfl<;>cases b<;>
  simp[KD,lx,bR,xI,KW,eX,e]<;>
  refine⟨?_,?_,?_⟩<;>grind
theorem Sx(hi:i≤5)(c:Z3)(b:Bool)(p:V3):Kg (bR i) c (!b) (Kg (bR i) c b p)=p:=by
 rw[Fm,Fm];have h1:=SY hi b p;have h2:=SY hi b (zV c);obtain⟨R,hR⟩:∃R,R=KD (lx (bR i) b):=⟨_,rfl⟩
 obtain⟨S,hS⟩:∃S,S=KD (lx (bR i) (!b)):=⟨_,rfl⟩
 obtain⟨q,hq⟩:∃q,q=zV c:=⟨_,rfl⟩
 rw[←hR,←hS] at h1 h2;rw[←hq] at h2;rw[←hR,←hS,←hq];unfold KW eX oY Wy at*;simp only[Prod.ext_iff] at h1 h2 ⊢;obtain⟨a1,a2,a3⟩:=h1;obtain⟨b1,b2,b3⟩:=h2;refine⟨?_,?_,?_⟩<;>grind
variable{s:aeE}
theorem Vl{w:EvD}(hw:w.Ok s)(b:Bool)(p:V3):w.mv (!b) (w.mv b p)=p:=by
 cases w with
 |dep Z us Ys=>rfl
 |afT n o w u=>rfl
 |fault n o v=>exact PN hw.2.2.2.2 b p
 |fold n d c v=>exact Sw hw.2.2.2.2.2 b p
 |age i c=>exact Sx hw.1 c b p
structure Fol where
 u:List UInt8
 l:List Int
 e:Int
 q:V3
noncomputable def jV(s:aeE):List EvD→V3→Fol
 | [],p=>⟨ar,[],-1,p⟩
 |w::r,p=>match KV w (nuE s w p) with
  |some u=>⟨u,[nuE s w p],r.length,p⟩
  |none=>⟨(jV s r (w.mv true p)).u,nuE s w p::(jV s r (w.mv true p)).l,(jV s r (w.mv true p)).e,(jV s r (w.mv true p)).q⟩
variable{r:List EvD}
theorem kN{w:EvD}{p:V3}{u:List UInt8}(h:KV w (nuE s w p)=some u):jV s (w::r) p=⟨u,[nuE s w p],r.length,p⟩:=by rw[jV,h]
theorem kM{w:EvD}{p:V3}(h:KV w (nuE s w p)=none):jV s (w::r) p=⟨(jV s r (w.mv true p)).u,nuE s w p::(jV s r (w.mv true p)).l,(jV s r (w.mv true p)).e,(jV s r (w.mv true p)).q⟩:=by rw[jV,h]
theorem V0(s:aeE):∀(l:List EvD) (p:V3),-1≤(jV s l p).e∧(jV s l p).e<l.length
 | [],p=>by simp[jV]
 |w::r,p=>by
  have:=V0 s r (w.mv true p);cases h:KV w (nuE s w p) with
  |some u=>rw[kN h];simp only[List.length_cons];omega
  |none=>rw[kM h];simp only[List.length_cons];omega
theorem R4(s:aeE):∀(l:List EvD) (p:V3),((jV s l p).l.length:Int)=l.length-max (jV s l p).e 0
 | [],p=>by show((0:Nat):Int)=((0:Nat):Int)-max (-1) 0;omega
 |w::r,p=>by
  have:=R4 s r (w.mv true p);have:=V0 s r (w.mv true p);cases h:KV w (nuE s w p) with
  |some u=>rw[kN h];simp only[List.length_cons,List.length_nil];omega
  |none=>rw[kM h];simp only[List.length_cons];omega
theorem Uy{w:EvD}{p:V3}(h:(jV s (w::r) p).e≠r.length):(jV s (w::r) p).u=(jV s r (w.mv true p)).u:=by
 cases he:KV w (nuE s w p) with
 |some u=>rw[kN he] at h;exact absurd rfl h
 |none=>rw[kM he]
theorem Uw{w:EvD}(hw:w.Ok s){n:Int}(hn:Xz w n){u:List UInt8}(h:KV w n=some u)(nm:List UInt8):u=[]∨u∈unE (w.con nm):=by
 cases w with
 |dep Z us Ys=>
  have h1:(if n= -2 then some [] else if 0≤n then some (us.getD n.toNat []) else none)=some u:=h;have h2:n<(us.length:Int):=hn;clear h hn;split at h1
  ·exact .inl (by simpa using h1.symm)
  ·split at h1
   ·right
    simp only[Option.some.injEq] at h1;subst h1;show us.getD n.toNat []∈us
    have hk:n.toNat<us.length:=by omega
    rw[List.getD_eq_getElem?_getD,List.getElem?_eq_getElem hk];exact List.getElem_mem hk
   ·cases h1
 |afT a o w x=>
  have h1:(if n=1 then some x else none)=some u:=h;clear h;split at h1
  ·right
   simp only[Option.some.injEq] at h1;subst h1;show x∈[x]
   exact List.mem_cons_self
  ·cases h1
 |_=>cases h
theorem Nr(s:aeE):∀(l:List EvD) (p:V3),(∀w∈l,w.Ok s)→(jV s l p).u=[]∨(jV s l p).u=ar∨∃w∈l,∀nm,(jV s l p).u∈unE (w.con nm)
 | [],p,_=>.inr (.inl rfl)
 |w::r,p,hl=>by
  cases h:KV w (nuE s w p) with
  |some u=>
   rw[kN h];simp only;by_cases hu:u=[]
   ·exact .inl hu
   ·refine .inr (.inr ⟨w,by simp,fun nm=>?_⟩)
    rcases Uw (hl w (by simp)) (Kq (hl w (by simp)) p) h nm with h1 | h1
    ·exact absurd h1 hu
    ·exact h1
  |none=>
   rw[kM h];simp only;rcases Nr s r (w.mv true p) (fun x hx=>hl x (by simp[hx])) with h1 | h1 | ⟨x,hx,h1⟩
   ·exact .inl h1
   ·exact .inr (.inl h1)
   ·exact .inr (.inr ⟨x,by simp[hx],h1⟩)
theorem WK{s:aeE}:∀{l:List EvD}{p:V3},plL true l p→plK 3 (jV s l p).q
 | [],p,h=>h
 |w::r,p,h=>by
  cases he:KV w (nuE s w p) with
  |some u=>rw[kN he];exact h.1
  |none=>rw[kM he];exact WK h.2
theorem NG{b:Bool}{w:EvD}:∀{l:List EvD}{p:V3},plL b l p→plK 3 (w.mv b (mvL b l p))→plL b (l++[w]) p
 | [],p,h,h2=>⟨h,h2⟩
 |x::l,p,h,h2=>⟨h.1,NG (l:=l) h.2 h2⟩
theorem Nz{b:Bool}{w:EvD}:∀{l:List EvD}{p:V3},mvL b (l++[w]) p=w.mv b (mvL b l p)
 | [],p=>rfl
 |x::l,p=>Nz (l:=l)
theorem Fp{s:aeE}{b:Bool}:∀{l:List EvD}{p:V3},(∀w∈l,w.Ok s)→mvL (!b) l.reverse (mvL b l p)=p
 | [],p,_=>rfl
 |w::r,p,h=>by
  rw[List.reverse_cons,Nz];show w.mv (!b) (mvL (!b) r.reverse (mvL b r (w.mv b p)))=p
  rw[Fp fun x hx=>h x (by simp[hx])];exact Vl (h w (by simp)) b p
theorem ML{s:aeE}{b:Bool}:∀{l:List EvD}{p:V3},(∀w∈l,w.Ok s)→plL b l p→plL (!b) l.reverse (mvL b l p)
 | [],p,_,h=>h
 |w::r,p,hw,h=>by
  rw[List.reverse_cons];have h1:=ML (b:=b) (l:=r) (p:=w.mv b p) (fun x hx=>hw x (by simp[hx])) h.2;refine NG h1 ?_;show plK 3 (w.mv (!b) (mvL (!b) r.reverse (mvL b r (w.mv b p))))
  rw[Fp fun x hx=>hw x (by simp[hx]),Vl (hw w (by simp)) b p];exact h.1
variable{ws:List EvD}
theorem SB(hw:∀w∈ws,w.Ok s)(b:Bool)(i:Nat)(v:V3):mvI ws (!b) i (mvI ws b i v)=v:=by
 unfold mvI;have hd:∀w∈ws.drop i,w.Ok s:=fun w h=>hw w (List.mem_of_mem_drop h)
 cases b with
 |false=>
  have:=Fp (b:=false) (p:=v) hd;simpa using this
 |true=>
  have:=Fp (b:=true) (l:=(ws.drop i).reverse) (p:=v) fun w h=>hd w (List.mem_reverse.1 h)
  simpa using this
theorem SR(hw:∀w∈ws,w.Ok s)(b:Bool){v:V3}(h:plL b (if b then (ws.drop i).reverse else ws.drop i) v):plL (!b) (if (!b) then (ws.drop i).reverse else ws.drop i) (mvI ws b i v):=by
 unfold mvI;have hd:∀w∈ws.drop i,w.Ok s:=fun w h=>hw w (List.mem_of_mem_drop h)
 cases b with
 |false=>
  have:=ML (b:=false) (p:=v) hd h;simpa using this
 |true=>
  have:=ML (b:=true) (l:=(ws.drop i).reverse) (p:=v) (fun w h=>hd w (List.mem_reverse.1 h)) h;simpa using this
theorem Qh{M:Mem}{v:AV}(hv:v.kS=true)(hk:v.cells=[v])(hkn:v.known=true):kF prog 49 [v] M (.func 83 [.ptr M.length 0]) (M++[.cells true 0 [v]]):=by
 have hG:aT prog 49=some f49:=by kernel_rfl
 have h:aU (aM prog) (fun _=>[]) (aT prog) bq 1 49 [v] M=some (.func 83 [.ptr M.length 0],M++[.cells true 0 [v]]):=by simp[-getElem?_pos,-AV.kS,-AV.known,-AV.cells,-bk,-List.all_eq_true,aU,hG,f49,hk,hkn]
 exact aO ae (aq _) (ah _) (au _) h
variable{b:Code}{env:Env}{g:Bool}
section
variable {O:adM}{N:Mem}{yb bs q n j:Nat}{o:Bool}{C e:List AV}{v:AV}
theorem Gs{m0:Nat}(hb:ai f83=[b])(l0:ab env 0=.yield yb)(l1:ab env 1=.ptr bs 0)(l3:ab env 3=.int .i64 j)(hj:j<n)(hn:n≤1000)(h1:N[bs]? =some (.cells true 0 [.slice q 0 n none]))(h2:N[q]? =some (.cells o 32 C))(hC:C.length=n*32)(he:(C.drop (j*32)).take 32=e)(ha:e.all AV.kS=true){p new:Mem}(hO:O (.yld yb) [.int .i64 j,.agg e] N=some ⟨.bool g,some p,new⟩)(d:Bool):
  ∃s',aN (aM prog) (fun _=>[3,3,3]) O 9 19 m0 true b ⟨env,N,d⟩=some (if g then .normal else .ret,s')∧s'.mem=p++new∧(g=true→ab s'.env 3=.int .i64 ((j:Int)-1)):=by
 simp[ai,aK,f83] at hb;subst hb;have w1:IntKind.i64.wrap ((j:Int)-1)=(j:Int)-1:=al (by omega) (by omega);have hc:j*32+32≤C.length:=by omega
 cases g<;>simp[-List.all_eq_true,HS.mem,l0,l1,l3,h1,h2,hj,hc,he,hO,w1]
theorem zK(hb:ai f83=[b])(l3:ab env 3=.int .i64 (-1))(m0:Nat)(d:Bool):
  ∃AC,aN (aM prog) (fun _=>[3,3,3]) O 9 19 m0 true b ⟨env,N,d⟩=some (.exit 0,⟨AC,N,d⟩):=by
 simp[ai,aK,f83] at hb;subst hb;simp[l3]
theorem pg(hb:ai f83=[b])(z' env:Env):ab (aD [3,3,3] (aa b) z' env) 3=ab env 3∧ab (aD [3,3,3] (aa b) z' env) 0=ab z' 0∧ab (aD [3,3,3] (aa b) z' env) 1=ab z' 1:=by simp[ai,aK,f83] at hb;subst hb;simp[aD]
theorem zL{N' :Mem}(h1:N[bs]? =some (.cells true 0 [v]))(hl:∀N,lD (aM prog) 38 N v=some (.int .i64 n))(hn:n≤1000)(h:∀b,ai f83=[b]→∀(z':Env) (d:Bool),(ab z' 0=.yield yb∧ab z' 1=.ptr bs 0∧ab z' 3=.int .i64 ((n:Int)-1))→∃r:Env×Bool,ej [3,3,3] (aa b) z' N.length (aN (aM prog) (fun _=>[3,3,3]) O 9 19 N.length true b) 9 ⟨aD [3,3,3] (aa b) z' z',N,d⟩=some (if g then .ret else .exit 0,⟨r.1,N',r.2⟩)):
  aU (aM prog) (fun _=>[3,3,3]) (aT prog) O 9 83 [.yield yb,.ptr bs 0] N=some (.tuple [],N'):=by
 have hG:aT prog 83=some f83:=by kernel_rfl
 obtain⟨b,hb⟩:∃b,ai f83=[b]:=⟨_,rfl⟩
 obtain⟨F,hF⟩:=jq (β:=Env×Bool) (fun env d hp=>by
  have:=h b hb env d hp
  rwa [show ej [3,3,3] (aa b) env N.length (aN (aM prog) (fun _=>[3,3,3]) O 9 19 N.length true b) 9 ⟨aD [3,3,3] (aa b) env env,N,d⟩=aN (aM prog) (fun _=>[3,3,3]) O 9 19 N.length true (.loop b) ⟨env,N,d⟩ from rfl] at this)
 have w1:IntKind.i64.wrap ((n:Int)-1)=(n:Int)-1:=al (by omega) (by omega);clear h;simp[ai,aK,f83] at hb;subst hb;cases g<;>simp[-lD,aU,hG,f83,h1,hl,w1,hF]
end
def foM(M:Mem) (h T4 BX:aeD) (p:V3) (T5:List AV) (lp:afv) (Z:Mem):Mem:=M++(h::.cells true 0 (vL p)::T4::.cells true 0 T5::BX::.loop lp::Z)
section
variable (M:Mem)(h T4 BX:aeD)(p:V3)(T5:List AV)(lp:afv)
include M h T4 BX p T5 lp
theorem Mn(Z Y:Mem):foM M h T4 BX p T5 lp Z++Y=foM M h T4 BX p T5 lp (Z++Y):=by simp[foM]
theorem Fe(Z:Mem):(foM M h T4 BX p T5 lp Z).length=M.length+(Z.length+6):=by simp[foM]
theorem R2(Z:Mem):(foM M h T4 BX p T5 lp Z)[M.length+4]? =some BX:=by unfold foM;rw[dC];rfl
end
theorem VZ{M:Mem}{q:Nat}{x:aeD}(hq:M[q]? =some x)(h T4 BX:aeD)(p:V3)(T5:List AV)(lp:afv)(Z:Mem):(foM M h T4 BX p T5 lp Z)[q]? =some x:=by unfold foM;rw[List.getElem?_append_left (gL hq)];exact hq
def foT(u:List UInt8) (pv:AV) (e:Int):List AV:=[.str u,pv,.int .i64 e,.str [],.str [],.str []]
def vy(M Z:Mem) (pv:AV) (L:List AV) (Z1:Mem):Prop:=(pv=.kK∧L=[]∧Z1=Z)∨∃i,pv=.slice (M.length+(i+6)) 0 L.length none∧Z[i]? =some (.cells true 1 L)∧Z1=Z.set i .kO∧0<L.length
section
variable {O:adM}{M Z Z1:Mem}{pv tv E w:AV}{nm u0:List UInt8}{p p1:V3}{T4 BX:aeD}{z':Env}{ps:Array Tmp}{Yd body:Code}{ev L:List AV}{j n:Int}
theorem OJ{o:Option (List UInt8)}(hp:vy M Z w L Z1)(hL:L.length≤1000)(hb:qI f30=[(ps,Yd,body)])(l2:ab z' 2=.ptr M.length 0)(l3:ab z' 3=.ptr (M.length+1) 0)(l5:ab z' 5=.ptr (M.length+3) 0)(cp:pv.kS=true)(ct:tv.kS=true)(eN:∀X,O (.fn 50) [.agg [pv,tv],.agg ev,vA p] (M++X)=some ⟨.int .i64 n,none,[]⟩)(eE:∀X,O (.fn 51) [.agg ev,.int .i64 n] (M++X)=some ⟨.tuple [.str (o.getD []),.bool o.isSome],none,[]⟩)(eM:∀X,O (.fn 52) [.agg ev,vA p,.bool true] (M++X)=some ⟨vA p1,none,[]⟩)(l0:ev.length=32)(g0:ev.all AV.kS=true):
  qZ (aM prog) (fun _=>[]) O 2 (M.length+5) [.int .i64 j,.agg ev] (foM M (.cells true 0 [pv,tv,.str nm,E]) T4 BX p (foT u0 w (-1)) ⟨.ready,none,z',47,ps,Yd,body⟩ Z)=
   some (.bool (!o.isSome),foM M (.cells true 0 [pv,tv,.str nm,E]) T4 BX (if o.isSome then p else p1) (foT (o.getD u0) (.slice (M.length+(Z.length+8)) 0 (L.length+1) none) (if o.isSome then j else -1)) (if o.isSome then⟨mK (some (.exit 0)),some (.exit 0),z',47,ps,Yd,body⟩ else⟨.ready,none,z',47,ps,Yd,body⟩) (Z1++[.cells true 0 ev,.cells true 1 [.int .i64 n],.cells true 1 (L++[.int .i64 n])])):=by
 have t0:ev.take 32=ev:=List.take_of_length_le (by omega);have XZ:dv Yd=true∧dv body=true∧ps= #[17,18]:=by simp[qI,mO,f30] at hb;obtain⟨rfl,rfl,rfl⟩:=hb;exact⟨by decide,by decide,rfl⟩
 obtain⟨aaP,aaR,rfl⟩:=XZ;have w1:IntKind.i64.wrap (-1)= -1:=rfl;unfold vA at*;unfold foM foT;simp only[vL];simp[qZ,aaP,aaR];simp[qI,mO,f30] at hb;obtain⟨rfl,rfl⟩:=hb;clear aaP aaR;have q1:(L.length+1)*8≤140737488355328:=by omega
 have q2:L.length+1≤140737488355328:=by omega
 have hz:∀i,Z[i]? =some (.cells true 1 L)→(∀Y:Mem,(Z++Y)[i]? =some (.cells true 1 L))∧∀Y:Mem,(Z++Y).set i .kO=Z.set i .kO++Y:=fun i hi=>by have li:=(gL hi);exact⟨fun Y=>by rw[List.getElem?_append_left li];exact hi,fun Y=>List.set_append_left _ _ li⟩
 rcases hp with⟨rfl,rfl,rfl⟩ | ⟨i,rfl,hi,rfl,_⟩
 rotate_left
 obtain⟨z1,z2⟩:=hz i hi;have z3:∀Y:Mem,(Z.set i .kO++Y)[Z.length]? =Y[0]? :=fun Y=>by have:=tO (Z.set i .kO) Y;rwa [List.length_set] at this
 all_goals cases o<;>simp[-getElem?_pos,-AV.kS,-AV.known,-AV.cells,-bk,-List.all_eq_true,vS,mS, *,AX,mK,Nat.add_assoc]
end
end Go.Proofs
namespace Go.Proofs
open Go.Eng
open Tryz
def foI(M:Mem):AV→Option Nat
 |.slice b _ _ _=>some (b-(M.length+6))
 |_=>none
def Ux(M Z:Mem) (pv:AV):List AV:=match foI M pv with
 |some i=>match Z[i]? with
  |some (.cells _ _ cs)=>cs
  |_=>[]
 |none=>[]
def JZ(M Z:Mem) (pv:AV):Mem:=match foI M pv with
 |some i=>Z.set i .kO
 |none=>Z
def JY(M Z:Mem) (pv:AV) (ev:List AV) (n:Int):Mem:=[.cells true 0 ev,.cells true 1 [.int .i64 n],.cells true 1 (Ux M Z pv++[.int .i64 n])]
def Vg(M Z:Mem) (pv:AV):AV:=.slice (M.length+(Z.length+8)) 0 ((Ux M Z pv).length+1) none
variable{L:List AV}{Z1:Mem}
section
variable{M Z:Mem}{pv:AV}(h:vy M Z pv L Z1)
include M Z pv h
theorem Vv:Ux M Z pv=L∧JZ M Z pv=Z1∧Z1.length=Z.length:=by
 rcases h with⟨rfl,rfl,rfl⟩ | ⟨i,rfl,hi,rfl,_⟩
 ·exact⟨rfl,rfl,rfl⟩
 ·have e:foI M (.slice (M.length+(i+6)) 0 L.length none)=some i:=by show some _=some _;congr 1;omega
  exact⟨by unfold Ux;rw[e];simp only[hi],by unfold JZ;rw[e],by rw[List.length_set]⟩
theorem NJ(ev:List AV)(n:Int):∃Z2,vy M (JZ M Z pv++JY M Z pv ev n) (Vg M Z pv) (L++[.int .i64 n]) Z2:=by obtain⟨h1,h2,h3⟩:=Vv h;unfold Vg JY;rw[h1,h2];refine⟨_,.inr ⟨Z.length+2,by simp[Nat.add_assoc],?_,rfl,by simp⟩⟩;rw[List.getElem?_append_right (by omega),h3,Nat.add_sub_cancel_left];rfl
theorem Wd:(pv.kS=true∧pv.known=true∧pv.cells=[pv])∧∀a:Mem,a.length=6→aeJ (M++(a++Z)) pv 1 L.length L:=by
 rcases h with⟨rfl,rfl,rfl⟩ | ⟨i,rfl,hi,rfl,hl⟩
 ·exact⟨⟨rfl,rfl,rfl⟩,fun a ha=>.inl ⟨rfl,rfl,rfl⟩⟩
 ·exact⟨⟨rfl,rfl,rfl⟩,fun a ha=>.inr ⟨_,true,rfl,hl,by rw[dC,show i+6=a.length+i by omega,List.getElem?_append_right (by omega),Nat.add_sub_cancel_left];exact hi⟩⟩
end
structure FoR where
 Z:Mem
 pv:AV
 st:LoopState
 afe:Option Code
noncomputable def uW(s:aeE) (M:Mem):List (EvD×List AV)→V3→Mem→AV→FoR
 | [],_,Z,pv=>⟨Z,pv,.ready,none⟩
 |x::r,p,Z,pv=>match KV x.1 (nuE s x.1 p) with
  |some _=>⟨JZ M Z pv++JY M Z pv x.2 (nuE s x.1 p),Vg M Z pv,mK (some (.exit 0)),some (.exit 0)⟩
  |none=>uW s M r (x.1.mv true p) (JZ M Z pv++JY M Z pv x.2 (nuE s x.1 p)) (Vg M Z pv)
theorem Nq{s:aeE}{M:Mem}:∀(l:List (EvD×List AV)) (p:V3) (Z:Mem) (pv:AV) (L:List AV) (Z1:Mem),vy M Z pv L Z1→
  ((uW s M l p Z pv).st== .busy)=false∧(qi (uW s M l p Z pv).afe=some .normal∨qi (uW s M l p Z pv).afe=some (.exit 0))∧∃Z2,vy M (uW s M l p Z pv).Z (uW s M l p Z pv).pv (L++(jV s (l.map Prod.fst) p).l.map fun n=>.int .i64 n) Z2
 | [],p,Z,pv,L,Z1,h=>⟨rfl,.inl rfl,Z1,by show vy M Z pv (L++[]) Z1;rw[List.append_nil];exact h⟩
 |x::r,p,Z,pv,L,Z1,h=>by
  obtain⟨Z2,h2⟩:=NJ h x.2 (nuE s x.1 p);rw[List.map_cons,uW];cases e:KV x.1 (nuE s x.1 p) with
  |some u=>
   rw[kN e];exact⟨rfl,.inr rfl,Z2,h2⟩
  |none=>
   rw[kM e];have:=Nq (s:=s) r (x.1.mv true p) _ _ _ _ h2;simpa using this
variable{ev:List AV}{w:AV}
section
variable {M:Mem}{s:aeE}{pv tv E:AV}{p p1:V3}{h T4 BX:aeD}{z':Env}{ps:Array Tmp}{Yd body:Code}
def R3(M:Mem) (h T4 BX:aeD) (z':Env) (ps:Array Tmp) (Yd body:Code) (o:Option (List UInt8)) (p p1:V3) (j:Int) (ev:List AV) (n:Int) (Z:Mem) (pv:AV):HS:=
 ⟨.bool (!o.isSome),some (foM M h T4 BX (if o.isSome then p else p1) (foT (o.getD ar) (Vg M Z pv) (if o.isSome then j else -1)) (if o.isSome then⟨mK (some (.exit 0)),some (.exit 0),z',47,ps,Yd,body⟩ else⟨.ready,none,z',47,ps,Yd,body⟩) (JZ M Z pv)),JY M Z pv ev n⟩
theorem Ev{Z:Mem}{o:Option (List UInt8)}{j n:Int}(hp:vy M Z w L Z1)(hL:L.length≤1000)(hb:qI f30=[(ps,Yd,body)])(l2:ab z' 2=.ptr M.length 0)(l3:ab z' 3=.ptr (M.length+1) 0)(l5:ab z' 5=.ptr (M.length+3) 0)(cp:pv.kS=true)(ct:tv.kS=true)(hN:∀X,kF prog 50 [.agg [pv,tv],.agg ev,vA p] (M++X) (.int .i64 n) (M++X))(hE:∀X,kF prog 51 [.agg ev,.int .i64 n] (M++X) (Nj o) (M++X))(hM:∀X,kF prog 52 [.agg ev,vA p,.bool true] (M++X) (vA p1) (M++X))(l0:ev.length=32)(g0:ev.all AV.kS=true):
  mC prog (.yld (M.length+5)) [.int .i64 j,.agg ev] (foM M (.cells true 0 [pv,tv,.str ar,E]) T4 BX p (foT ar w (-1)) ⟨.ready,none,z',47,ps,Yd,body⟩ Z) (R3 M (.cells true 0 [pv,tv,.str ar,E]) T4 BX z' ps Yd body o p p1 j ev n Z w):=by
 obtain⟨h1,h2,h3⟩:=Vv hp;have ee:Nj o=.tuple [.str (o.getD []),.bool o.isSome]:=by cases o<;>rfl
 rw[ee] at hE;have hO:=gH (P:=prog) (L:=[(50,[.agg [pv,tv],.agg ev,vA p],(fun N=>∃X,N=M++X),⟨.int .i64 n,none,[]⟩),(51,[.agg ev,.int .i64 n],(fun N=>∃X,N=M++X),⟨.tuple [.str (o.getD []),.bool o.isSome],none,[]⟩),(52,[.agg ev,vA p,.bool true],(fun N=>∃X,N=M++X),⟨vA p1,none,[]⟩)]) fun y hy N hq=>by
  simp only[List.mem_cons,List.not_mem_nil,or_false] at hy;rcases hy with rfl | rfl | rfl<;>obtain⟨X,rfl⟩:=hq
  ·exact af (by simpa using hN X)
  ·exact af (by simpa using hE X)
  ·exact af (by simpa using hM X)
 have hr:=yF ae (aq _) hO (OJ (j:=j) (u0:=ar) (E:=E) (nm:=ar) (T4:=T4) (BX:=BX) hp hL hb l2 l3 l5 cp ct (fun X=>bl ⟨X,rfl⟩) (fun X=>by rw[aC (.inl (by decide))];exact bl ⟨X,rfl⟩) (fun X=>by rw[aC (.inl (by decide)),aC (.inl (by decide))];exact bl ⟨X,rfl⟩) l0 g0);unfold R3 Vg JY;rw[h1,h2];refine⟨?_,fun q hq=>?_⟩
 ·simp only[HS.mem,Option.getD_some,Mn]
  exact hr
 ·cases hq
  rw[Fe,Fe,h3]
theorem Xg{v w:V3}(h:vL v=vL w):v=w:=by obtain⟨a,b,c⟩:=v;obtain⟨a',b',c'⟩:=w;simp only[vL,List.cons.injEq,AV.str.injEq,and_true] at h;obtain⟨h1,h2,h3⟩:=h;rw[gO h1,gO h2,gO h3]
theorem VY{p p' :V3}{w' :AV}{lp lp' :afv}{Z Z' :Mem}(e:foM M h T4 BX p (foT ar w (-1)) lp Z=foM M h T4 BX p' (foT ar w' (-1)) lp' Z'):p=p' ∧w=w' ∧lp=lp' ∧Z=Z' :=by have e:=List.append_cancel_left e;simp only[List.cons.injEq,aeD.cells.injEq,aeD.loop.injEq,foT,true_and,and_true] at e;exact⟨Xg e.1,e.2⟩
variable {O:adM}{xs:List (EvD×List AV)}{q n:Nat}{o:Bool}{C:List AV}
theorem xd{b:Code}(hb:ai f83=[b]) (hn:xs.length=n) (hn2:n≤900) (hq:M[q]? =some (.cells o 32 C)) (hC:C.length=n*32) (hx:∀(j:Nat) x,xs[j]? =some x→(C.drop (j*32)).take 32=x.2∧x.2.all AV.kS=true)
  (hO:∀(j:Nat) x p Z w L Z1,xs[j]? =some x→plK 3 p→vy M Z w L Z1→L.length≤1000→O (.yld (M.length+5)) [.int .i64 j,.agg x.2] (foM M h T4 (.cells true 0 [.slice q 0 n none]) p (foT ar w (-1)) ⟨.ready,none,z',47,ps,Yd,body⟩ Z)=some (R3 M h T4 (.cells true 0 [.slice q 0 n none]) z' ps Yd body (KV x.1 (nuE s x.1 p)) p (x.1.mv true p) j x.2 (nuE s x.1 p) Z w))
  {ZH:Env}(l0:ab ZH 0=.yield (M.length+5)) (l1:ab ZH 1=.ptr (M.length+4) 0) (m1 m0:Nat):
  ∀(k:Nat) (p:V3) (Z:Mem) (w:AV) (L:List AV) (Z1:Mem) (env:Env) (d:Bool) (K:Nat),k≤n→k<K→plL true ((xs.take k).reverse.map Prod.fst) p→vy M Z w L Z1→L.length+k≤1000→ab env 3=.int .i64 ((k:Int)-1)→
   ∃r:Env×Bool,ej [3,3,3] (aa b) ZH m1 (aN (aM prog) (fun _=>[3,3,3]) O 9 19 m0 true b) K ⟨aD [3,3,3] (aa b) ZH env,foM M h T4 (.cells true 0 [.slice q 0 n none]) p (foT ar w (-1)) ⟨.ready,none,z',47,ps,Yd,body⟩ Z,d⟩=
    some (if (uW s M (xs.take k).reverse p Z w).afe.isSome then .ret else .exit 0,⟨r.1,foM M h T4 (.cells true 0 [.slice q 0 n none]) (jV s ((xs.take k).reverse.map Prod.fst) p).q (foT (jV s ((xs.take k).reverse.map Prod.fst) p).u (uW s M (xs.take k).reverse p Z w).pv (jV s ((xs.take k).reverse.map Prod.fst) p).e) ⟨(uW s M (xs.take k).reverse p Z w).st,(uW s M (xs.take k).reverse p Z w).afe,z',47,ps,Yd,body⟩ (uW s M (xs.take k).reverse p Z w).Z,r.2⟩)
 |0,p,Z,w,L,Z1,env,d,K,hk,hK,hv,hp,hL,h3=>by
  obtain⟨K,rfl⟩:∃k,K=k+1:=⟨K-1,by omega⟩
  obtain⟨q1,q2,q3⟩:=pg hb ZH env;obtain⟨AC,h1⟩:=zK (O:=O) (N:=foM M h T4 (.cells true 0 [.slice q 0 n none]) p (foT ar w (-1)) ⟨.ready,none,z',47,ps,Yd,body⟩ Z) hb (env:=aD [3,3,3] (aa b) ZH env) (by rw[q1];exact h3) m0 d;exact⟨(AC,d),by rw[ej,h1];rfl⟩
 |k+1,p,Z,w,L,Z1,env,d,K,hk,hK,hv,hp,hL,h3=>by
  obtain⟨K,rfl⟩:∃k,K=k+1:=⟨K-1,by omega⟩
  obtain⟨q1,q2,q3⟩:=pg hb ZH env;obtain⟨x,hxk⟩:∃x,xs[k]? =some x:=⟨_,List.getElem?_eq_getElem (by omega)⟩
  have ex:(xs.take (k+1)).reverse=x::(xs.take k).reverse:=by rw[List.take_add_one,hxk];simp
  rw[ex] at hv ⊢;have hc:=hO k x p Z w L Z1 hxk hv.1 hp (by omega);obtain⟨c1,c2⟩:=hx k x hxk;have h3' :ab env 3=.int .i64 (k:Int):=by rw[h3];congr 1;omega
  unfold R3 at hc;obtain⟨s',t1,t2,t3⟩:=Gs (m0:=m0) hb (env:=aD [3,3,3] (aa b) ZH env) (by rw[q2];exact l0) (by rw[q3];exact l1) (by rw[q1];exact h3') (show k<n by omega) (by omega) (R2 _ _ _ _ _ _ _ _) (VZ hq _ _ _ _ _ _ _) hC c1 c2 hc d;rw[Mn] at t2;rw[ej,t1,List.map_cons,uW];cases e:KV x.1 (nuE s x.1 p) with
  |some u=>
   rw[e] at t2;rw[kN e];refine⟨(s'.env,s'.aeS),?_⟩;simp only[Option.isSome_some,Bool.not_true,Bool.false_eq_true,if_false,if_true,List.length_map,List.length_reverse,List.length_take];rw[show min k xs.length=k by omega];have e2:s'.mem=foM M h T4 (.cells true 0 [.slice q 0 n none]) p (foT u (Vg M Z w) (k:Int)) ⟨mK (some (.exit 0)),some (.exit 0),z',47,ps,Yd,body⟩ (JZ M Z w++JY M Z w x.2 (nuE s x.1 p)):=t2;rw[←e2]
  |none=>
   rw[e] at t2 t3;rw[kM e];obtain⟨Z2,hp2⟩:=NJ hp x.2 (nuE s x.1 p);obtain⟨r,hr⟩:=xd hb hn hn2 hq hC hx hO l0 l1 m1 m0 k (x.1.mv true p) _ _ _ _ s'.env s'.aeS K (by omega) (by omega) hv.2 hp2 (by simp;omega) (t3 rfl);refine⟨r,?_⟩;have hs:iV [3,3,3] (aa b) ZH m1 s' =⟨aD [3,3,3] (aa b) ZH s'.env,foM M h T4 (.cells true 0 [.slice q 0 n none]) (x.1.mv true p) (foT ar (Vg M Z w) (-1)) ⟨.ready,none,z',47,ps,Yd,body⟩ (JZ M Z w++JY M Z w x.2 (nuE s x.1 p)),s'.aeS⟩:=by simp[iV,zd,t2]
   simp only[Option.isSome_none,Bool.not_false,if_true];rw[hs];exact hr
end
section
variable {s:aeE}{p t q:Nat}{evs:List (List AV)}{cs:List Evc}{M:Mem}{ws:List EvD}{v:V3}{ps:Array Tmp}{Yd body:Code}
def NU(M:Mem) (h T4 BX:aeD) (v:V3) (ps:Array Tmp) (Yd body:Code) (F:Fol):Prop:=
 ∃(st:LoopState) (afe:Option Code) (Z:Mem) (X6:AV),(st== .busy)=false∧(qi afe=some .normal∨qi afe=some (.exit 0))∧(X6.kS=true∧X6.known=true∧X6.cells=[X6])∧(∀a:Mem,a.length=6→aeJ (M++(a++Z)) X6 1 F.l.length (F.l.map fun n=>.int .i64 n))∧
  ∀z':Env,(ab z' 2=.ptr M.length 0∧ab z' 3=.ptr (M.length+1) 0∧ab z' 5=.ptr (M.length+3) 0)→
   kF prog 83 [.yield (M.length+5),.ptr (M.length+4) 0] (foM M h T4 BX v (foT ar .kK (-1)) ⟨.ready,none,z',47,ps,Yd,body⟩ []) (.tuple []) (foM M h T4 BX F.q (foT F.u X6 F.e) ⟨st,afe,z',47,ps,Yd,body⟩ []++Z)
theorem Tryz.ae2.ahC(H:ae2 s p t q evs cs M)(hw:∀(i:Nat) c w,cs[i]? =some c→ws[i]? =some w→w.Ok s∧c=w.con c.nm){i:Nat}{w:EvD}(h1:evs[i]? =some ev)(h2:ws[i]? =some w){v:V3}(hv:plK 3 v):
  (∀X,kF prog 50 [.agg [.slice p 0 s.P.length none,.slice t 0 s.T.length none],.agg ev,vA v] (M++X) (.int .i64 (nuE s w v)) (M++X))∧(∀X,kF prog 51 [.agg ev,.int .i64 (nuE s w v)] (M++X) (Nj (KV w (nuE s w v))) (M++X))∧
   (∀X,kF prog 52 [.agg ev,vA v,.bool true] (M++X) (vA (w.mv true v)) (M++X))∧ev.length=32∧ev.all AV.kS=true:=by
 have hl:=(gL h1);obtain⟨c,hc⟩:∃c,cs[i]? =some c:=⟨_,List.getElem?_eq_getElem (by rw[←H.len];exact hl)⟩
 obtain⟨o1,o2⟩:=hw i c w hc h2;obtain⟨D,hD,hp⟩:=id hv;obtain⟨b1,b2⟩:=NF (k:=3) (by decide);have hE:=fun X=>(H.more X).con i ev c h1 hc
 rw[o2] at hE;refine⟨fun X=>?_,fun X=>KZ (hE X) o1 (Kq o1 v),fun X=>H.agN hw h1 h2 true hv (by decide) X,H.l32 ev (List.mem_of_getElem? h1),List.all_eq_true.2 (H.cok ev (List.mem_of_getElem? h1))⟩;obtain⟨_,m1⟩:=(H.more X).hp;obtain⟨_,m2⟩:=(H.more X).ht;exact Ot (hE X) o1 (hp.mono b2) (by omega) m1 m2
theorem PA{evs:List (List AV)}(h32:∀e∈evs,e.length=32){j:Nat}{e:List AV}(h:evs[j]? =some e):(evs.flatten.drop (j*32)).take 32=e:=by rw[qj j h32,List.drop_eq_getElem_cons (gL h),(List.getElem?_eq_some_iff.1 h).2,List.flatten_cons];have:=h32 e (List.mem_of_getElem? h);rw[←this,List.take_left]
theorem OI(H:ae2 s p t q evs cs M)(hwl:ws.length=cs.length)(hw:∀(i:Nat) c w,cs[i]? =some c→ws[i]? =some w→w.Ok s∧c=w.con c.nm)(hv:plL true ws.reverse v)(hb:qI f30=[(ps,Yd,body)])(T4:aeD):
  NU M (.cells true 0 (aP s p t q cs.length)) T4 (.cells true 0 [evV q cs.length]) v ps Yd body (jV s ws.reverse v):=by
 obtain⟨xs,hxs⟩:∃xs,xs=ws.zip evs:=⟨_,rfl⟩
 have hl:=H.len;have hxl:xs.length=cs.length:=by rw[hxs,List.length_zip];omega
 have hxf:xs.map Prod.fst=ws:=by rw[hxs,List.map_fst_zip (by omega)]
 have hxa:∀(j:Nat) x,xs[j]? =some x→ws[j]? =some x.1∧evs[j]? =some x.2:=fun j x h=>by rw[hxs] at h;exact List.getElem?_zip_eq_some.1 h
 have hp0:vy M [] .kK [] []:=.inl ⟨rfl,rfl,rfl⟩;obtain⟨r1,r2,Z2,r3⟩:=Nq (s:=s) xs.reverse v [] .kK [] [] hp0;obtain⟨r4,r5⟩:=Wd r3;rw[List.map_reverse,hxf,List.nil_append] at r5;refine⟨_,_,_,_,r1,r2,r4,fun a ha=>by have:=r5 a ha;rwa [List.length_map] at this,fun z' ⟨l2,l3,l5⟩=>?_⟩;rw[Mn,List.nil_append];by_cases hc:cs.length=0
 ·have e:evV q cs.length=.kK:=by unfold evV;rw[if_pos hc]
  have ew:ws=[]:=List.eq_nil_of_length_eq_zero (by omega);have ex:xs=[]:=List.eq_nil_of_length_eq_zero (by omega);rw[e,ew,ex];exact aO ae (aq _) (ah _) (au _) (zL (O:=bq) (n:=0) (g:=false) (R2 _ _ _ _ _ _ _ _) (fun N=>by simp) (by decide) fun b hb env d ⟨_,_,h3⟩=>by obtain⟨q1,_,_⟩:=pg hb env env;obtain⟨AC,h1⟩:=zK (O:=bq) (N:=foM M (.cells true 0 (aP s p t q cs.length)) T4 (.cells true 0 [.kK]) v (foT ar .kK (-1)) ⟨.ready,none,z',47,ps,Yd,body⟩ []) hb (env:=aD [3,3,3] (aa b) env env) (by rw[q1];exact h3) (foM M (.cells true 0 (aP s p t q cs.length)) T4 (.cells true 0 [.kK]) v (foT ar .kK (-1)) ⟨.ready,none,z',47,ps,Yd,body⟩ []).length d;exact⟨(AC,d),by rw[ej,h1];rfl⟩)
 ·have e:evV q cs.length=.slice q 0 cs.length none:=by unfold evV;rw[if_neg hc]
  obtain⟨o,hq⟩:=H.hq (by rintro rfl;simp at hl;omega);have small:=H.small;unfold aP;rw[e];obtain⟨O,hO,hf⟩:=jY (P:=prog) (ι:=Nat×(EvD×List AV)×V3×Mem×AV) (fun i=>xs[i.1]? =some i.2.1∧plK 3 i.2.2.1∧∃L Z1,vy M i.2.2.2.1 i.2.2.2.2 L Z1∧L.length≤1000) (fun _=>.yld (M.length+5)) (fun i=>[.int .i64 (i.1:Int),.agg i.2.1.2])
   (fun i=>foM M (.cells true 0 [.slice p 0 s.P.length none,.slice t 0 s.T.length none,.str ar,.slice q 0 cs.length none]) T4 (.cells true 0 [.slice q 0 cs.length none]) i.2.2.1 (foT ar i.2.2.2.2 (-1)) ⟨.ready,none,z',47,ps,Yd,body⟩ i.2.2.2.1)
   (fun i=>R3 M (.cells true 0 [.slice p 0 s.P.length none,.slice t 0 s.T.length none,.str ar,.slice q 0 cs.length none]) T4 (.cells true 0 [.slice q 0 cs.length none]) z' ps Yd body (KV i.2.1.1 (nuE s i.2.1.1 i.2.2.1)) i.2.2.1 (i.2.1.1.mv true i.2.2.1) i.1 i.2.1.2 (nuE s i.2.1.1 i.2.2.1) i.2.2.2.1 i.2.2.2.2)
   (fun i ⟨h1,h2,L,Z1,h3,h4⟩=>by obtain⟨a1,a2⟩:=hxa i.1 i.2.1 h1;obtain⟨N1,E1,M1,L1,G1⟩:=H.ahC hw a2 a1 h2;exact Ev h3 h4 hb l2 l3 l5 rfl rfl N1 E1 M1 L1 G1)
   (fun i j hi hj _ ha hm=>by
    obtain⟨h1,h2,h3,h4⟩:=VY hm;obtain⟨i1,i2,i3,i4,i5⟩:=i;obtain⟨j1,j2,j3,j4,j5⟩:=j;simp only[List.cons.injEq,AV.int.injEq,true_and] at ha;simp only at h1 h2 h4;subst h1;subst h2;subst h4;obtain rfl:i1=j1:=by omega
    have e1:=hi.1;have e2:=hj.1;simp only at e1 e2;rw[e1] at e2;cases e2;rfl)
  exact aO ae (aq _) hO (au _) (zL (O:=O) (n:=cs.length) (g:=(uW s M xs.reverse v [] .kK).afe.isSome) (R2 _ _ _ _ _ _ _ _) (fun N=>by simp) (by omega) fun b hb env d ⟨h0,h1,h3⟩=>by
   have:=fun m1 m0=>xd (s:=s) (xs:=xs) (o:=o) hb hxl (by omega) hq H.flat (fun j x hx=>by obtain⟨_,a2⟩:=hxa j x hx;exact⟨PA H.l32 a2,List.all_eq_true.2 (H.cok x.2 (List.mem_of_getElem? a2))⟩) (fun j x p Z w L Z1 a1 a2 a3 a4=>hf (j,x,p,Z,w) ⟨a1,a2,L,Z1,a3,a4⟩) h0 h1 m1 m0 cs.length v [] .kK [] [] env d 9 (Nat.le_refl _) (by omega) (by rw[←hxl,List.take_length,List.map_reverse,hxf];exact hv) hp0 (by simp;omega) h3
   rw[←hxl,List.take_length,List.map_reverse,hxf] at this;rw[←hxl];exact this _ _)
end
end Go.Proofs
