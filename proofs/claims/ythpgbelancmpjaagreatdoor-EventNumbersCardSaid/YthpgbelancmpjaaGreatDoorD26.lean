/- See D38. -/
import Derived.Test.YthpgbelancmpjaaGreatDoorD25
set_option linter.all false
set_option maxRecDepth 100000
set_option maxHeartbeats 40000000
namespace Go.Proofs
open Go.Eng
open Tryz
def uE(a:Nat):AV×AV:=(.int .i64 (a:Int),.bool true)
def Xl(L:List Nat)(a:Nat):List Nat:=if a∈L then L else L++[a]
def YL(L:List Nat)(t:Tr):List Nat:=Xl (Xl (Xl L t.1) t.2.1) t.2.2
def Mr(H:List Tr):List Nat:=H.foldl YL []
theorem V4{α:Type}{l:List α}{i:Nat}{x:α}(h:l[i]? =some x):l.set i x=l:=by
 apply List.ext_getElem?;intro j;rw[List.getElem?_set];by_cases Z:i=j
 .subst Z
  rw[if_pos rfl,if_pos (gL h),h]
 .rw[if_neg Z]
theorem xt(a:Nat):∀(L:List Nat) (i:Nat),(a∉L->kc (bd prog) 3 (.int .i64 (a:Int)) (L.map uE) i=some none)/\(a∈L->∃q,kc (bd prog) 3 (.int .i64 (a:Int)) (L.map uE) i=some (some (i+q,.bool true))/\L[q]? =some a)
 | [],i=>⟨fun _=>rfl,fun h=>by cases h⟩
 |b::L,i=>by
  have e:k9 (bd prog) 20 3 (.int .i64 (a:Int)) (.int .i64 (b:Int))=some (decide ((a:Int)=(b:Int))):=by simp[k9]
  simp only[List.map_cons,kc,uE,e];have Z:=xt a L (i+1);by_cases h:a=b
  .subst h
   simp only[decide_true];exact⟨fun h=>absurd (List.mem_cons_self ..) h,fun _=>⟨0,rfl,rfl⟩⟩
  .have X :¬((a:Int)=(b:Int)):=by omega
   simp only[X,decide_false];refine⟨fun V=>Z.1 (fun h2=>V (List.mem_cons_of_mem _ h2)),fun U=>?_⟩;rcases List.mem_cons.1 U with h2 | h2
   .exact absurd h2 h
   .obtain⟨q,S,R⟩:=Z.2 h2
    exact⟨q+1,by rw[S,show i+1+q=i+(q+1) by omega],by simpa using R⟩
theorem R1(M:Mem)(b:Nat)(L:List Nat)(a:Nat)(H:M[b]? =some (.map (L.map uE))):fP (bd prog) M 228 (.map b) (.int .i64 (a:Int)) (.bool true)=some (M.set b (.map ((Xl L a).map uE))):=by
 have Z:mC (bd prog) 20 3 (.int .i64 (a:Int))=true:=by simp[mC]
 unfold fP;rw[KH];simp only[H,Z,if_true];by_cases h:a∈L
 .obtain⟨q,X,V⟩:=(xt a L 0).2 h
  rw[X];have:Xl L a=L:=if_pos h;rw[this,QQZ];simp only[AV.af7,if_true];rw[show((.int .i64 (a:Int),.bool true):AV×AV)=uE a from rfl,V4 (l:=L.map uE) (i:=q) (x:=uE a) (by rw[Zo,V];rfl)]
 .rw[(xt a L 0).1 h]
  have:Xl L a=L++[a]:=if_neg h;rw[this];simp[uE]
theorem TZ(n:Nat):∀L:List Nat,(L.map uE).flatMap (fun e=>e.1.refs n++e.2.refs n)=[]
 | []=>rfl
 |p::N=>by simp[uE,AV.refs,TZ n N]
variable{TS:List Tr}{n:Nat}
theorem RM{t:Tr}(h:TS[n]? =some t):Mr (TS.take (n+1))=YL (Mr (TS.take n)) t:=by rw[List.take_add_one,h];simp[Mr]
def wh(H:List P2)(TS:List Tr)(D:List (AV×AV))(L:List Nat):Mem:=[.cells false 2 (pC H),.cells false 3 (tC TS),msB H.length TS.length,.map D,.map (L.map uE)]
def BJ(c:Code):List Nat:=if (ad c).contains 23 then [23] else [28]
variable{K:Nat}{b:Code}
theorem BK{O:y9}(H:List P2)(TS:List Tr)(D:List (AV×AV))(Zc:TS.length<=1000000000)(J:D.flatMap (fun e=>e.1.refs 5++e.2.refs 5)=[])(hK:TS.length<K+5){W:Code}(I:ah f100=[b,W]):
  ∃F:Env->Bool->Env,∀Z d,(ae Z 5=.map 4/\ae Z 21=.slice 1 0 TS.length none/\ae Z 22=.int .i64 TS.length/\ae Z 23=.int .i64 0/\ae Z 1=.ptr 2 0/\ae Z 3=.map 3)->
   aU (bd prog) BJ O (K+5) 55 2 true (.loop b) ⟨Z,wh H TS D [],d⟩=some (.exit 0,⟨F Z d,wh H TS D (Mr TS),d⟩)/\ae (F Z d) 1=.ptr 2 0/\ae (F Z d) 3=.map 3/\ae (F Z d) 5=.map 4:=by
 refine bl (L:=[23]) (by simp[ah,aE,f100] at I;rw[<-I.1];rfl) (fun Z=>ae Z 5=.map 4/\ae Z 21=.slice 1 0 TS.length none/\ae Z 22=.int .i64 TS.length/\ae Z 23=.int .i64 0/\ae Z 1=.ptr 2 0/\ae Z 3=.map 3) (fun _ U =>ae U 1=.ptr 2 0/\ae U 3=.map 3/\ae U 5=.map 4) ?_;rintro Z d ⟨h5,h21,h22,h23,h1,h3⟩;simp[ah,aE,f100] at I;obtain⟨I,-⟩:=I;have R:aw [23] (ad b) Z ((23,.int .i64 ((0:Nat):Int))::Z)=aw [23] (ad b) Z Z:=by simp[aw,h23]
 rw[<-R];refine bG (α:=Nat) (fun n=>⟨aw [23] (ad b) Z ((23,.int .i64 (n:Int))::Z),wh H TS D (Mr (TS.take n)),d⟩) (fun n=>TS.length-n) (fun n=>n<=TS.length) (.exit 0) _ d _ (by simp) ?_ (K+5) 0 (by omega) (by omega);intro n Z5;clear R;subst I;by_cases S:n<TS.length
 .left
  obtain⟨t,N⟩:∃q,TS[n]? =some q:=⟨TS[n],GT S⟩
  obtain⟨M,j⟩:=Mk N;have X:=RM N;obtain⟨G,C,B⟩:=t;simp only[YL] at M X;have w1:IntKind.i64.wrap ((n:Int)+1)=((n+1:Nat):Int):=by rw[af];omega
  obtain⟨m,Y⟩:=xE (n+1);rw[<-Y] at w1 X;obtain⟨L,o⟩:=xE (Mr (TS.take n));rw[<-o] at X;rw[<-o];have v1:IntKind.i64.wrap 1=1:=rfl;have v2:IntKind.i64.wrap 2=2:=rfl;have v3:IntKind.i64.wrap 3=3:=rfl;have v2' :IntKind.i64.wrap (1+1)=2:=rfl;have v3' :IntKind.i64.wrap (2+1)=3:=rfl;have u:∀(V :List Nat) (a:Nat),fP (bd prog) [.cells false 2 (pC H),.cells false 3 (tC TS),.cells true 0 [.slice 0 0 H.length none,.slice 1 0 TS.length none],.map D,.map (V.map uE),.cells true 0 [.int .i64 (G:Int),.int .i64 (C:Int),.int .i64 (B:Int)]] 228 (.map 4) (.int .i64 (a:Int)) (.bool true)=
    some [.cells false 2 (pC H),.cells false 3 (tC TS),.cells true 0 [.slice 0 0 H.length none,.slice 1 0 TS.length none],.map D,.map ((Xl V a).map uE),.cells true 0 [.int .i64 (G:Int),.int .i64 (C:Int),.int .i64 (B:Int)]]:=fun V a=>R1 _ 4 V a rfl
  refine⟨m,?_⟩;simp[wh,h5,h21,h22,S,M,j,ba,ga,v1,v2,v3,BJ,u,J,X,msB,vj,sD,TZ,w1];omega
 .right
  have e:TS.take n=TS:=B5 (by omega);rw[e];have Y5 :¬(n:Int)<TS.length:=by omega
  simp[h22,h1,h3,h5,S]
theorem W6(f:Nat->Option Nat)(H:List Sd):(H.map sdE).map (fun e=>(e.1.ren f,e.2.ren f))=H.map sdE:=by rw[List.map_map];exact List.map_congr_left fun s _=>OD f s
theorem V2(f:Nat->Option Nat)(H:List Sd):H.map ((fun(e:AV×AV)=>(e.1.ren f,e.2.ren f))∘sdE)=H.map sdE:=
 List.map_congr_left fun s _=>OD f s
def Br(I:List P2)(TS:List Tr)(H:List Sd):Prop:=
 kO prog 180 [.agg [.slice 0 0 I.length none,.slice 1 0 TS.length none]] [.qK,.cells false 3 (tC TS)] (.tuple [.map 2,.bool true]) ([.qK,.cells false 3 (tC TS)]++[.map (H.map sdE)])
structure Tryz.Whole (PS:List P2)(TS:List Tr)(sds:List Sd)(cyc:List Nat):Prop where
 dg:∀p∈PS,pDg 200 p
 nodup:PS.Nodup
 ah6:Br PS TS sds
 outer:vh sds=true
 cy:B4 (tE sds)=some (cyc.map fun(n:Nat)=>(n:Int))
 used:(Mr TS).length=PS.length
 once:TK PS cyc
 tr:∀t∈TS,YJ PS t
 len:PS.length<=400
 ah7:TS≠[]
 ahZ:TS.length<=800
 ah8:cyc.length<=1000000
open Classical in
noncomputable def At(J:List P2)(TS:List Tr)(I:List Sd)(H:List Nat):y9:=fun c Z M=>match c,Z with
 |.fn 180,[.agg [.slice b 0 n none,.slice c 0 k none]]=>if n=J.length/\k=TS.length/\b<M.length/\(∃o,M[c]? =some (.cells o 3 (tC TS))) then some ⟨.tuple [.map M.length,.bool true],none,[.map (I.map sdE)]⟩ else none
 |.fn 181,[.agg [.slice b 0 _ none,.slice c 0 _ none],.map q]=>if b<M.length/\c<M.length/\Rq M q=some (I.map sdE) then some ⟨.tuple [.slice M.length 0 H.length none,.bool true],none,[.cells true 1 (cZ H)]⟩ else none
 |.fn 182,[.agg [.slice b 0 n none,.slice c 0 _ none],.slice q 0 l none]=>if n=J.length/\l=H.length/\c<M.length/\(∃o,M[b]? =some (.cells o 2 (pC J)))/\(∃o,M[q]? =some (.cells o 1 (cZ H))) then some ⟨.bool true,none,[]⟩ else none
 |_,_=>none
theorem KV:∀Z:List Nat,AV.afm (cZ Z)=true
 | []=>rfl
 |c::l=>by have:=KV l;simp only[cZ] at this;simp[cZ,AV.afm,AV.closed,this]
theorem Yx(H:List Nat):iZ (H.map fun(n:Nat)=>(n:Int))=cZ H:=by simp[iZ,cZ]
theorem gn{M:Mem}{b:Nat}{s:afl}(h:M[b]? =some s):b<M.length:=gL h
variable{PS:List P2}{cyc:List Nat}{sds:List Sd}
section
variable (hw:Whole PS TS sds cyc)
include hw
theorem NU:qS prog (At PS TS sds cyc):=by
 refine cB fun c V M r h=>?_
 unfold At at h;split at h
 .rename_i b n c k
  split at h
  .rename_i U
   obtain⟨rfl,rfl,O,o,X⟩:=U;cases h;refine aC ?_;have:=kO.frame (M:=M) (new:=[.map (sds.map sdE)]) [b,c] (m:=[.qK,.cells false 3 (tC TS)]) rfl (by
    intro k S;simp only[lM] at S;rcases S with rfl | rfl
    .exact O
    .exact gn X) (by rfl) (fun i s Z=>by
    match i with
    |0=>simp at Z;subst Z;trivial
    |1=>simp at Z;subst Z;exact cw (fW TS) X (P1)
    |i+2=>simp at Z) rfl hw.ah6
   simpa [AV.afz,AV.ren,fa,afl.ren,W6,V2] using this
  .cases h
 .rename_i b n c k q
  split at h
  .rename_i U
   obtain⟨O,N,X⟩:=U;cases h;refine aC ?_;have:=yo M sds (cyc.map fun(n:Nat)=>(n:Int)) q b c n k O N X hw.outer hw.cy;rw[Yx,QXY] at this;exact this
  .cases h
 .rename_i b n c k q l
  split at h
  .rename_i U
   obtain⟨rfl,rfl,N,⟨o,X⟩,⟨L,R⟩⟩:=U;cases h;refine aC ?_;have:=kO.frame (M:=M) (new:=[]) (args:=[.agg [.slice 0 0 PS.length none,.slice 1 0 k none],.slice 2 0 cyc.length none]) [b,c,q] (m:=[.cells false 2 (pC PS),.qK,.cells false 1 (cZ cyc)]) rfl (by
    intro k S;simp only[lM] at S;rcases S with rfl | rfl | rfl
    .exact gn X
    .exact N
    .exact gn R) (by rfl) (fun i s Z=>by
    match i with
    |0=>simp at Z;subst Z;exact cw (dX PS) X (P1)
    |1=>simp at Z;subst Z;trivial
    |2=>simp at Z;subst Z;exact cw (KV cyc) R (P1)
    |i+3=>simp at Z) rfl (by simpa using ML PS k cyc hw.dg hw.once hw.ah8)
   simpa [AV.afz,AV.ren,fa] using this
  .cases h
 .cases h
theorem HD:
  kO prog 100 [.agg [.slice 0 0 PS.length none,.slice 1 0 TS.length none]] [.cells false 2 (pC PS),.cells false 3 (tC TS)] (.bool true) [.cells false 2 (pC PS),.cells false 3 (tC TS)]:=by
 have L:aX prog 100=some f100:=by kernel_rfl
 have D:=hw.len;have C:=hw.ahZ;obtain⟨b,N,V⟩:∃b N,ah f100=[b,N]:=⟨_,_,rfl⟩
 obtain⟨K,B⟩:=xE TS.length;obtain⟨F,X⟩:=BK (O:=At PS TS sds cyc) (K:=K) PS TS (sds.map sdE) (by omega) (so 5 sds) (by omega) V;simp[ah,aE,f100] at V;obtain⟨rfl,rfl⟩:=V;have M:=fun Z d h=>(X Z d h).1
 have U:=fun Z d h=>(X Z d h).2.1
 have S:=fun Z d h=>(X Z d h).2.2.1
 have R:=fun Z d h=>(X Z d h).2.2.2
 clear X;have G:=hw.used;refine dj (lv:=BJ) (K:=(K+5)) (NU hw) ?_;simp only[wh,List.map_nil,msB] at M;simp[aa,L,f100,M,U,S,R,At,Rq,G]
theorem NA:qS prog (pj PS TS):=by
 refine cB fun c Z M r h=>?_
 unfold pj at h;split at h
 .rename_i b n c k
  split at h
  .rename_i R
   obtain⟨rfl,rfl,⟨o,U⟩,⟨O,X⟩⟩:=R;cases h;refine aC ?_;have:=kO.frame (M:=M) (new:=[]) (args:=[.agg [.slice 0 0 PS.length none,.slice 1 0 TS.length none]]) [b,c] (m:=[.cells false 2 (pC PS),.cells false 3 (tC TS)]) rfl (by
    intro k S;simp only[lM] at S;rcases S with rfl | rfl
    .exact gn U
    .exact gn X) (by rfl) (fun i s V=>by
    match i with
    |0=>simp at V;subst V;exact cw (dX PS) U (P1)
    |1=>simp at V;subst V;exact cw (fW TS) X (P1)
    |i+2=>simp at V) rfl (by simpa using HD hw)
   simpa [AV.afz,AV.ren,fa] using this
  .cases h
 .exact dZ Bl h
theorem Fg:
  kO prog 46 [.agg [.slice 0 0 PS.length none,.slice 1 0 TS.length none]] [.cells false 2 (pC PS),.cells false 3 (tC TS)] (.int .i64 0) [.cells false 2 (pC PS),.cells false 3 (tC TS)]:=by
 have B:aX prog 46=some f46:=by kernel_rfl
 have Y:=hw.len;have W:=hw.ahZ;have u:0<TS.length:=by have:=hw.ah7;cases TS with | nil=>exact absurd rfl this | cons a l=>simp
 obtain⟨N,M,L,G,D,V⟩:∃N M L G D,ah f46=[N,M,L,G,D]:=⟨_,_,_,_,_,rfl⟩
 obtain⟨K,J⟩:=xE (PS.length+TS.length);obtain⟨F,U⟩:=xA (K:=K+5) PS TS hw.dg hw.nodup (by omega) (by omega) V;obtain⟨I,S⟩:=xB (K:=K) PS TS (PS.map pmE) hw.dg hw.tr (by omega) (by omega) (G4 4 PS) (by omega) V;simp[ah,aE,f46] at V;obtain⟨rfl,rfl,rfl,rfl,rfl⟩:=V;have C:=fun Z d h=>(U Z d h).1
 have X:=fun Z d h=>(S Z d h).1
 have R:=fun Z d h=>(U Z d h).2
 have O:=fun Z d h=>(S Z d h).2
 clear U S;have o:¬(800:Int)<TS.length:=by omega
 have m:¬(400:Int)<PS.length:=by omega
 have H:¬800<TS.length:=by omega
 have n4:¬400<PS.length:=by omega
 have j:¬TS.length=0:=by omega
 have n6:¬(TS.length:Int)=0:=by omega
 refine dj (lv:=vT) (K:=(K+5)) (NA hw) ?_;simp only[msB] at C X;simp[aa,B,f46,C,X,R,O,pj,o,m,j]
end
noncomputable def Aq(f:FuncId)(args:List AV):Option AV:=
 match f,args with
 |88,[.int .i64 n,.int .i64 d]=>if 0<d/\dV n=true/\dV d=true then some (.tuple [.str (ao (mkRat n d.toNat)),.int .i64 0]) else none
 |_,_=>none
theorem QH:qS prog (ag Aq):=bP fun f Z v h mem=>by
 unfold Aq at h;split at h
 .rename_i n d
  split at h
  .rename_i X
   cases h;have:=HF n d.toNat (by omega) X.2.1 (by rw[QQd (by omega)];exact X.2.2) mem;rw[QQd (by omega)] at this;exact this
  .cases h
 .cases h
theorem pH{n:Int}(h0: -1000000<=n)(h1:n<=1000000):dV n=true:=by unfold dV;simp;omega
theorem gV{n:Int}(h0: -1000000<=n)(h1:n<=1000000):IntKind.i64.wrap n=n:=by rw[af]
theorem Hy(s:afq)(hs:s.Ok)(x y:Int)(H: -128<=x)(I:x<=127)(J: -128<=y)(W:y<=127)(k:Nat)(Y:k=1\/k=2)(M:Mem):
  kO prog 34 [s.av,.agg [.int .i8 x,.int .i8 y],.int .i64 (k:Int)] M (pA (s.pt k x y)) M:=by
 have R:aX prog 34=some f34:=by kernel_rfl
 obtain⟨kd,O,N,L⟩:=s;have B:=RK O;have o:=RK N;unfold afq.av afq.pt;simp only;obtain⟨u,Z⟩:=xE (O.tmod 8);obtain⟨v,X⟩:=xE (N.tmod 8);rw[<-Z] at B |-;rw[<-X] at o |-;refine aA QH ?_ M;have G:IntKind.i64.wrap x=x:=gV (by omega) (by omega);have F:IntKind.i64.wrap y=y:=gV (by omega) (by omega);have D:IntKind.i64.wrap u=u:=gV (by omega) (by omega);have C:IntKind.i64.wrap v=v:=gV (by omega) (by omega);rcases Y with rfl | rfl
 .have V:IntKind.i64.wrap (x+u)=x+u:=gV (by omega) (by omega)
  have U:IntKind.i64.wrap (y+v)=y+v:=gV (by omega) (by omega);have m:IntKind.i64.wrap 1=1:=rfl;have S:IntKind.i64.wrap 2=2:=rfl;have f1:dV (x+u)=true:=pH (by omega) (by omega);have f2:dV (y+v)=true:=pH (by omega) (by omega);have f3:dV 1=true:=rfl;have f4:dV 2=true:=rfl;cases L<;>simp[aa,R,f34,ag,Aq,<-Z,<-X,G,F,D,C,V,U,m,S,f1,f2,f3,f4,cv,aH,pA]
 .have V:IntKind.i64.wrap (x+u*2)=x+u*2:=gV (by omega) (by omega)
  have U:IntKind.i64.wrap (y+v*2)=y+v*2:=gV (by omega) (by omega);have j:IntKind.i64.wrap (u*2)=u*2:=gV (by omega) (by omega);have c2:IntKind.i64.wrap (v*2)=v*2:=gV (by omega) (by omega);have S:IntKind.i64.wrap 2=2:=rfl;have b4:IntKind.i64.wrap 4=4:=rfl;have f1:dV (x+u*2)=true:=pH (by omega) (by omega);have f2:dV (y+v*2)=true:=pH (by omega) (by omega);have f3:dV 2=true:=rfl;have f4:dV 4=true:=rfl;cases L<;>simp[aa,R,f34,ag,Aq,<-Z,<-X,G,F,D,C,V,U,j,c2,S,b4,f1,f2,f3,f4,cv,aH,pA]
theorem Ff(k:Nat)(H:k<256):kO prog 33 [.int .u8 (k:Int)] [] (.tuple [.slice 0 0 (ej (k%8)).length none,.slice 1 0 (bY (k%8)).length none]) [.cells true 2 (iP (ej (k%8))),.cells true 3 (tC (bY (k%8)))]:=by
 have S:aX prog 33=some f33:=by kernel_rfl
 have X:(k:Int).tmod 8=((k%8:Nat):Int):=rfl;have V:k%8<8:=Nat.mod_lt _ (by omega);obtain⟨j,U⟩:=xE (k%8);rw[<-U] at X V |-;have h:aa (bd prog) (fun _=>[]) (aX prog) cP 1 33 [.int .u8 (k:Int)] []=some ⟨.tuple [.slice 0 0 (ej j).length none,.slice 1 0 (bY j).length none],none,[.cells true 2 (iP (ej j)),.cells true 3 (tC (bY j))]⟩:=by
  have Z:j=0\/j=1\/j=2\/j=3\/j=4\/j=5\/j=6\/j=7:=by omega
  clear V U;rcases Z with rfl | rfl | rfl | rfl | rfl | rfl | rfl | rfl<;>simp[aa,S,f33,X,ej,bY,sqI,iP,tC,cv]<;>exact⟨rfl,rfl⟩
 have:=(ar aj (aJ _) (az _) (aM _) h).1;simpa [afh.mem] using this
theorem Hz(k:Nat)(H:k<256)(M:Mem):kO prog 33 [.int .u8 (k:Int)] M (.tuple [.slice M.length 0 (ej (k%8)).length none,.slice (M.length+1) 0 (bY (k%8)).length none]) (M++[.cells true 2 (iP (ej (k%8))),.cells true 3 (tC (bY (k%8)))]):=by have:=kO.frame (M:=M) (new:=[.cells true 2 (iP (ej (k%8))),.cells true 3 (tC (bY (k%8)))]) (args:=[.int .u8 (k:Int)]) [] (m:=[]) rfl (by simp) (by rfl) (fun i s Z=>by simp at Z) rfl (Ff k H);simpa [AV.ren,AV.afz,fa,afl.ren,Ti,Mm] using this
noncomputable def ph(s:afq):y9:=fun c Z M=>match c,Z with
 |.fn 33,[.int .u8 k]=>if k=(s.kind:Int) then some ⟨.tuple [.slice M.length 0 (ej (s.kind%8)).length none,.slice (M.length+1) 0 (bY (s.kind%8)).length none],none,[.cells true 2 (iP (ej (s.kind%8))),.cells true 3 (tC (bY (s.kind%8)))]⟩ else none
 |.fn 34,[.agg [.int .u8 k,.int .i8 sx,.int .i8 sy,.bool h],.agg [.int .i8 x,.int .i8 y],.int .i64 n]=>if k=(s.kind:Int)/\sx=s.sx/\sy=s.sy/\h=s.half/\ -128<=x/\x<=127/\ -128<=y/\y<=127/\n=1 then some ⟨pA (s.pt 1 x y),none,[]⟩ else none
 |_,_=>none
theorem Nx(s:afq)(hs:s.Ok):qS prog (ph s):=by
 refine cB fun c X M r h=>?_
 unfold ph at h;split at h
 .split at h
  .rename_i Z
   subst Z;cases h;exact aC (Hz s.kind hs.kind M)
  .cases h
 .split at h
  .rename_i Z
   obtain⟨rfl,rfl,rfl,rfl,V,U,h3,S,rfl⟩:=Z;cases h;refine aC ?_;rw[List.append_nil];exact Hy s hs _ _ V U h3 S 1 (.inl rfl) M
  .cases h
 .cases h
def Uc(L:List (Int×Int)):Prop:=∀p∈L,0<=p.1/\p.1<=6/\0<=p.2/\p.2<=6
theorem Me(k:Nat)(H:k<8):Uc (ej k):=by
 have Z:k=0\/k=1\/k=2\/k=3\/k=4\/k=5\/k=6\/k=7:=by omega
 rcases Z with rfl | rfl | rfl | rfl | rfl | rfl | rfl | rfl<;>(unfold Uc;decide)
def XP(n:Nat):AV:=match n with
 |0=>.qF
 |n+1=>.slice 5 0 (n+1) none
def Oi(s:afq)(H:List (Int×Int))(TS:List Tr)(n:Nat):Mem:=
 [.cells true 0 [.int .u8 s.kind,.int .i8 s.sx,.int .i8 s.sy,.bool s.half],.cells true 0 [.qF,.qF],.cells true 2 (iP H),.cells true 3 (tC TS),.cells true 0 [XP n,.slice 3 0 TS.length none]]++
  (match n with
  |0=>[]
  |n+1=>[.cells true 2 (pC ((H.take (n+1)).map fun p=>s.pt 1 p.1 p.2))])
theorem Cn{s:afq}{H:List (Int×Int)}(h:0<n):Oi s H TS n=
  [.cells true 0 [.int .u8 s.kind,.int .i8 s.sx,.int .i8 s.sy,.bool s.half],.cells true 0 [.qF,.qF],.cells true 2 (iP H),.cells true 3 (tC TS),.cells true 0 [.slice 5 0 n none,.slice 3 0 TS.length none],.cells true 2 (pC ((H.take n).map fun p=>s.pt 1 p.1 p.2))]:=by
 cases n with
 |zero=>omega
 |succ n=>rfl
theorem Bj(s:afq)(H:List (Int×Int))(TS:List Tr)(I:Uc H)(hl:H.length<=1000000)(hK:H.length<K)(hb:ah f8=[b]):
  ∃F:Env->Env,∀Z,(ae Z 1=.ptr 0 0/\ae Z 3=.slice 2 0 H.length none/\ae Z 5=.ptr 4 0/\ae Z 6=.int .i64 0/\ae Z 2=.ptr 1 0)->
   aU (bd prog) (fun _=>[6,6]) (ph s) K 42 0 true (.loop b) ⟨Z,Oi s H TS 0,false⟩=some (.exit 0,⟨F Z,Oi s H TS H.length,decide (0<H.length)⟩)/\ae (F Z) 5=.ptr 4 0/\ae (F Z) 2=.ptr 1 0:=by
 refine uY (L:=[6,6]) rfl false _ (fun Z=>ae Z 1=.ptr 0 0/\ae Z 3=.slice 2 0 H.length none/\ae Z 5=.ptr 4 0/\ae Z 6=.int .i64 0/\ae Z 2=.ptr 1 0) (fun _ AC =>ae AC 5=.ptr 4 0/\ae AC 2=.ptr 1 0) ?_;rintro Z ⟨h1,h3,h5,h6,h2⟩;obtain⟨O,W⟩:∃O,aI f8=[O]:=⟨_,rfl⟩
 have UV:=kM W (l:=[0,1,0,0,0,24,56,120,248,0,0,1536,3584,7680,15872,32760,65532,131068,262143,524287,1048575]) (by kernel_rfl);have N:KR [0,1,0,0,0,24,56,120,248,0,0,1536,3584,7680,15872,32760,65532,131068,262143,524287,1048575] 21 17=true:=by decide
 have M:KR [0,1,0,0,0,24,56,120,248,0,0,1536,3584,7680,15872,32760,65532,131068,262143,524287,1048575] 21 18=true:=by decide
 have G:KR [0,1,0,0,0,24,56,120,248,0,0,1536,3584,7680,15872,32760,65532,131068,262143,524287,1048575] 21 20=true:=by decide
 have D:fv [0,1,0,0,0,24,56,120,248,0,0,1536,3584,7680,15872,32760,65532,131068,262143,524287,1048575] 18=true:=by decide
 have C:fv [0,1,0,0,0,24,56,120,248,0,0,1536,3584,7680,15872,32760,65532,131068,262143,524287,1048575] 20=true:=by decide
 simp[aI,ca,f8] at W;simp[ah,aE,f8] at hb;have j:aw [6,6] (ad b) Z ((6,.int .i64 ((0:Nat):Int))::Z)=aw [6,6] (ad b) Z Z:=by simp[aw,h6]
 rw[<-j];refine bG (α:=Nat) (fun n=>⟨aw [6,6] (ad b) Z ((6,.int .i64 (n:Int))::Z),Oi s H TS n,decide (0<n)⟩) (fun n=>H.length-n) (fun n=>n<=H.length) (.exit 0) _ _ _ (by simp) ?_ K 0 (by omega) (by omega);intro n Z5;clear j;subst hb;subst W;by_cases J:n<H.length
 .left
  obtain⟨p,hp⟩:∃q,H[n]? =some q:=⟨H[n],GT J⟩
  obtain⟨q1,q2,q3⟩:=YE hp;obtain⟨x0,x1,y0,y1⟩:=I p (J1 hp);obtain⟨S,R⟩:=p;simp only at q1 q2 x0 x1 y0 y1;have U:(H.take (n+1)).map (fun p=>s.pt 1 p.1 p.2)=(H.take n).map (fun p=>s.pt 1 p.1 p.2)++[s.pt 1 S R]:=by rw[List.take_add_one,hp];simp
  have v1:IntKind.i8.wrap S=S:=Um (by omega) (by omega);have v2:IntKind.i8.wrap R=R:=Um (by omega) (by omega);have c1: -128<=S:=by omega
  have c2:S<=127:=by omega
  have c3: -128<=R:=by omega
  have c4:R<=127:=by omega
  have w1:IntKind.i64.wrap ((n:Int)+1)=((n+1:Nat):Int):=by rw[af];omega
  obtain⟨P,Y⟩:=xE ((H.take n).map (fun p=>s.pt 1 p.1 p.2));have B:P.length=n:=by rw[Y,QXY,S2];omega
  obtain⟨z,hz⟩:=xE (s.pt 1 S R);rw[<-Y,<-hz] at U;have X:pC (P++[z])=pC P++[.str (ao z.1),.str (ao z.2)]:=by rw[LS];rfl
  have u:=CG P;rw[B] at u;obtain⟨m,hm⟩:=xE (n+1);refine⟨m,?_⟩;by_cases j:n=0
  .subst j
   have Zg:m=1:=by omega
   subst Zg;have hP0:P=[]:=Mp B;rw[hP0] at U X;simp at U X;have w0:IntKind.i64.wrap 1=1:=rfl;simp[Oi,XP,h1,h3,h5,J,q1,q2,v1,v2,c1,c2,c3,c4,w0,ph,<-hz,pA,-aG,CU UV,wU,Cr,Pf,cS,N,M,G,D,C,U,X,Oe,sD,Ti,Mm,XV,cv,Nat.testBit];omega
  .have V:0<n:=by omega
   rw[<-hm] at w1 U;have o:0<m:=by omega
   have hd1:decide (0<n)=true:=by simpa using V
   rw[Cn V,Cn o,hd1,<-Y,U,X];clear Y U X;have g1:m*32<=140737488355328:=by omega
   have g2:n<=140737488355327:=by omega
   have g5:(Oi s H TS 0).length=5:=rfl;have g4:m<=140737488355328:=by omega
   have g3:(pC P).take (n*2)=pC P:=B5 (by omega);simp[h1,h3,h5,J,q1,q2,v1,v2,c1,c2,c3,c4,w1,ph,<-hz,pA,-aG,CU UV,wU,Cr,Pf,cS,N,M,G,D,C,u,o,<-hm,g1,g4,g3,g5,TP,Oe,sD,vj,Ti,Mm,Pm,cv,Nat.testBit];omega
 .right
  have e:n=H.length:=by omega
  subst e;simp[h3,h5,h2]
theorem RE(k:Nat):0<(ej k).length:=by unfold ej;split<;>simp[sqI]
theorem E2(k:Nat):(ej k).length<=6:=by unfold ej;split<;>simp[sqI]
theorem afq.agA(s:afq):s.P.length=(ej (s.kind%8)).length:=by simp[afq.P]
theorem Hw(s:afq)(hs:s.Ok):kO prog 8 [s.av] [] (.agg [.slice 0 0 s.P.length none,.slice 1 0 s.T.length none]) [.cells true 2 (pC s.P),.cells true 3 (tC s.T)]:=by
 have G:aX prog 8=some f8:=by kernel_rfl
 have X:=RE (s.kind%8);have B:=E2 (s.kind%8);obtain⟨b,N⟩:∃b,ah f8=[b]:=⟨_,rfl⟩
 obtain⟨F,U⟩:=Bj (K:=10) s (ej (s.kind%8)) (bY (s.kind%8)) (Me _ (Nat.mod_lt _ (by omega))) (by omega) (by omega) N;simp[ah,aE,f8] at N;subst N;have D:decide (0<(ej (s.kind%8)).length)=true:=by simpa using X
 rw[Cn X,D,P1] at U;have M:=fun S h=>(U S h).1
 have R:=fun S h=>(U S h).2.1
 have O:=fun S h=>(U S h).2.2
 clear U;have C:Oi s (ej (s.kind%8)) (bY (s.kind%8)) 0=[.cells true 0 [.int .u8 s.kind,.int .i8 s.sx,.int .i8 s.sy,.bool s.half],.cells true 0 [.qF,.qF],.cells true 2 (iP (ej (s.kind%8))),.cells true 3 (tC (bY (s.kind%8))),.cells true 0 [.qF,.slice 3 0 (bY (s.kind%8)).length none]]:=rfl;rw[C] at M;rw[afq.agA];unfold afq.P afq.T;obtain⟨L,Z⟩:=xE (ej (s.kind%8));obtain⟨ST,V⟩:=xE (bY (s.kind%8));rw[<-Z,<-V] at M;rw[<-Z] at R O;rw[<-Z,<-V];have h:aa (bd prog) (fun _=>[6,6]) (aX prog) (ph s) 10 8 [s.av] []=some ⟨.agg [.slice 0 0 L.length none,.slice 1 0 ST.length none],some [],[.cells true 2 (pC (L.map fun p=>s.pt 1 p.1 p.2)),.cells true 3 (tC ST)]⟩:=by simp[aa,G,f8,afq.av,M,R,O,ph,<-Z,<-V,sD,vj,Mm,Pm,cv,aH];exact⟨rfl,rfl⟩
 have:=(ar aj (aJ _) (Nx s hs) (aM _) h).1;simpa [afh.mem] using this
theorem MF(s:afq)(hs:s.Ok)(M:Mem):kO prog 8 [s.av] M (.agg [.slice M.length 0 s.P.length none,.slice (M.length+1) 0 s.T.length none]) (M++[.cells true 2 (pC s.P),.cells true 3 (tC s.T)]):=by have:=kO.frame (M:=M) (new:=[.cells true 2 (pC s.P),.cells true 3 (tC s.T)]) (args:=[s.av]) [] (m:=[]) rfl (by simp) (by rfl) (fun i s hs=>by simp at hs) rfl (Hw s hs);simpa [AV.ren,AV.afz,fa,afl.ren,Pm,Mm,afq.av] using this
def jd(PS:List P2)(TS:List Tr)(cyc:List Nat):Bool:=
 decide PS.Nodup&&(PS.all fun p=>decide (p.1.num.natAbs<1000)&&decide (p.1.den<10)&&decide (p.2.num.natAbs<1000)&&decide (p.2.den<10))&&
  (TS.all fun t=>match PS[t.1]?,PS[t.2.1]?,PS[t.2.2]? with
   |some p,some q,some r=>decide (0<gd (cf p q r))
   |_,_,_=>false)&&
  ((List.range cyc.length).all fun i=>decide (0<=gd (cf (CI PS cyc i) (CI PS cyc (i+1)) (CI PS cyc (i+2)))))&&decide (mr PS cyc cyc.length=1)
def VW(k:Nat)(u v:Int)(h:Bool):List P2:=
 (ej k).map fun p=>(mkRat (p.1+u*(1:Nat)) ((if h then 2 else 1)*1),mkRat (p.2+v*(1:Nat)) ((if h then 2 else 1)*1))
theorem W9:((List.range 15).all fun a=>(List.range 15).all fun b=>[false,true].all fun h=>jd (VW 0 ((a:Int)-7) ((b:Int)-7) h) (bY 0) (mu 0))=true:=by kernel_rfl
theorem Xa:((List.range 15).all fun a=>(List.range 15).all fun b=>[false,true].all fun h=>jd (VW 1 ((a:Int)-7) ((b:Int)-7) h) (bY 1) (mu 1))=true:=by kernel_rfl
theorem Xb:((List.range 15).all fun a=>(List.range 15).all fun b=>[false,true].all fun h=>jd (VW 2 ((a:Int)-7) ((b:Int)-7) h) (bY 2) (mu 2))=true:=by kernel_rfl
theorem Xc:((List.range 15).all fun a=>(List.range 15).all fun b=>[false,true].all fun h=>jd (VW 3 ((a:Int)-7) ((b:Int)-7) h) (bY 3) (mu 3))=true:=by kernel_rfl
theorem Xd:((List.range 15).all fun a=>(List.range 15).all fun b=>[false,true].all fun h=>jd (VW 4 ((a:Int)-7) ((b:Int)-7) h) (bY 4) (mu 4))=true:=by kernel_rfl
theorem Xe:((List.range 15).all fun a=>(List.range 15).all fun b=>[false,true].all fun h=>jd (VW 5 ((a:Int)-7) ((b:Int)-7) h) (bY 5) (mu 5))=true:=by kernel_rfl
theorem Xf:((List.range 15).all fun a=>(List.range 15).all fun b=>[false,true].all fun h=>jd (VW 6 ((a:Int)-7) ((b:Int)-7) h) (bY 6) (mu 6))=true:=by kernel_rfl
theorem Xg:((List.range 15).all fun a=>(List.range 15).all fun b=>[false,true].all fun h=>jd (VW 7 ((a:Int)-7) ((b:Int)-7) h) (bY 7) (mu 7))=true:=by kernel_rfl
theorem RF(k:Nat)(H:k<8):((List.range 15).all fun a=>(List.range 15).all fun b=>[false,true].all fun h=>jd (VW k ((a:Int)-7) ((b:Int)-7) h) (bY k) (mu k))=true:=by
 have Z:k=0\/k=1\/k=2\/k=3\/k=4\/k=5\/k=6\/k=7:=by omega
 rcases Z with rfl | rfl | rfl | rfl | rfl | rfl | rfl | rfl
 .exact W9
 .exact Xa
 .exact Xb
 .exact Xc
 .exact Xd
 .exact Xe
 .exact Xf
 .exact Xg
theorem Pv(s:afq):jd s.P s.T (mu (s.kind%8))=true:=by
 have Z:s.kind%8<8:=Nat.mod_lt _ (by omega);have h:=RF (s.kind%8) Z;obtain⟨R,O⟩:=RK s.sx;obtain⟨v0,N⟩:=RK s.sy;have X:=List.all_eq_true.1 h (s.sx.tmod 8+7).toNat (List.mem_range.2 (by omega));have V:=List.all_eq_true.1 X (s.sy.tmod 8+7).toNat (List.mem_range.2 (by omega));have h3:=List.all_eq_true.1 V s.half (by cases s.half<;>simp);have U:(((s.sx.tmod 8+7).toNat:Nat):Int)-7=s.sx.tmod 8:=by omega
 have S:(((s.sy.tmod 8+7).toNat:Nat):Int)-7=s.sy.tmod 8:=by omega
 rw[U,S] at h3;exact h3
def RD:List Tr->Int->List Sd
 | [],_=>[]
 |t::l,i=>((t.1,t.2.1),i)::((t.2.1,t.2.2),i)::((t.2.2,t.1),i)::RD l (i+1)
theorem QI:kO prog 180 [.agg [.slice 0 0 (ej 0).length none,.slice 1 0 (bY 0).length none]] [.qK,.cells false 3 (tC (bY 0))] (.tuple [.map 2,.bool true]) ([.qK,.cells false 3 (tC (bY 0))]++[.map ((RD (bY 0) 0).map sdE)]):=
 sg (lv:=ad) (K:=60) (n:=10) aj (aJ _) (aM _) (az _) (by as_aux_lemma=>kernel_rfl)
theorem QJ:kO prog 180 [.agg [.slice 0 0 (ej 1).length none,.slice 1 0 (bY 1).length none]] [.qK,.cells false 3 (tC (bY 1))] (.tuple [.map 2,.bool true]) ([.qK,.cells false 3 (tC (bY 1))]++[.map ((RD (bY 1) 0).map sdE)]):=
 sg (lv:=ad) (K:=60) (n:=10) aj (aJ _) (aM _) (az _) (by as_aux_lemma=>kernel_rfl)
theorem QK:kO prog 180 [.agg [.slice 0 0 (ej 2).length none,.slice 1 0 (bY 2).length none]] [.qK,.cells false 3 (tC (bY 2))] (.tuple [.map 2,.bool true]) ([.qK,.cells false 3 (tC (bY 2))]++[.map ((RD (bY 2) 0).map sdE)]):=
 sg (lv:=ad) (K:=60) (n:=10) aj (aJ _) (aM _) (az _) (by as_aux_lemma=>kernel_rfl)
theorem QL:kO prog 180 [.agg [.slice 0 0 (ej 3).length none,.slice 1 0 (bY 3).length none]] [.qK,.cells false 3 (tC (bY 3))] (.tuple [.map 2,.bool true]) ([.qK,.cells false 3 (tC (bY 3))]++[.map ((RD (bY 3) 0).map sdE)]):=
 sg (lv:=ad) (K:=60) (n:=10) aj (aJ _) (aM _) (az _) (by as_aux_lemma=>kernel_rfl)
theorem QM:kO prog 180 [.agg [.slice 0 0 (ej 4).length none,.slice 1 0 (bY 4).length none]] [.qK,.cells false 3 (tC (bY 4))] (.tuple [.map 2,.bool true]) ([.qK,.cells false 3 (tC (bY 4))]++[.map ((RD (bY 4) 0).map sdE)]):=
 sg (lv:=ad) (K:=60) (n:=10) aj (aJ _) (aM _) (az _) (by as_aux_lemma=>kernel_rfl)
theorem QN:kO prog 180 [.agg [.slice 0 0 (ej 5).length none,.slice 1 0 (bY 5).length none]] [.qK,.cells false 3 (tC (bY 5))] (.tuple [.map 2,.bool true]) ([.qK,.cells false 3 (tC (bY 5))]++[.map ((RD (bY 5) 0).map sdE)]):=
 sg (lv:=ad) (K:=60) (n:=10) aj (aJ _) (aM _) (az _) (by as_aux_lemma=>kernel_rfl)
theorem QO:kO prog 180 [.agg [.slice 0 0 (ej 6).length none,.slice 1 0 (bY 6).length none]] [.qK,.cells false 3 (tC (bY 6))] (.tuple [.map 2,.bool true]) ([.qK,.cells false 3 (tC (bY 6))]++[.map ((RD (bY 6) 0).map sdE)]):=
 sg (lv:=ad) (K:=60) (n:=10) aj (aJ _) (aM _) (az _) (by as_aux_lemma=>kernel_rfl)
theorem QP:kO prog 180 [.agg [.slice 0 0 (ej 7).length none,.slice 1 0 (bY 7).length none]] [.qK,.cells false 3 (tC (bY 7))] (.tuple [.map 2,.bool true]) ([.qK,.cells false 3 (tC (bY 7))]++[.map ((RD (bY 7) 0).map sdE)]):=
 sg (lv:=ad) (K:=60) (n:=10) aj (aJ _) (aM _) (az _) (by as_aux_lemma=>kernel_rfl)
theorem Gg(k:Nat)(H:k<8):kO prog 180 [.agg [.slice 0 0 (ej k).length none,.slice 1 0 (bY k).length none]] [.qK,.cells false 3 (tC (bY k))] (.tuple [.map 2,.bool true]) ([.qK,.cells false 3 (tC (bY k))]++[.map ((RD (bY k) 0).map sdE)]):=by
 have Z:k=0\/k=1\/k=2\/k=3\/k=4\/k=5\/k=6\/k=7:=by omega
 rcases Z with rfl | rfl | rfl | rfl | rfl | rfl | rfl | rfl
 .exact QI
 .exact QJ
 .exact QK
 .exact QL
 .exact QM
 .exact QN
 .exact QO
 .exact QP
theorem OE(k:Nat)(H:k<8):vh (RD (bY k) 0)=true/\B4 (tE (RD (bY k) 0))=some ((mu k).map fun(n:Nat)=>(n:Int))/\(Mr (bY k)).length=(ej k).length/\mu k≠[]/\(∀c∈mu k,c<(ej k).length)/\bY k≠[]/\(bY k).length<=4/\(mu k).length<=6:=by
 have Z:k=0\/k=1\/k=2\/k=3\/k=4\/k=5\/k=6\/k=7:=by omega
 rcases Z with rfl | rfl | rfl | rfl | rfl | rfl | rfl | rfl<;>decide
theorem zV(s:afq):Whole s.P s.T (RD s.T 0) (mu (s.kind%8)):=by
 have X:s.kind%8<8:=Nat.mod_lt _ (by omega);have h:=Pv s;obtain⟨f1,f2,f3,f4,f5,f6,f7,f8⟩:=OE (s.kind%8) X;have Z:=afq.agA s;have o:=E2 (s.kind%8);unfold jd at h;simp only[C0,Es] at h;obtain⟨⟨⟨⟨V,U⟩,h3⟩,S⟩,R⟩:=h;refine⟨fun p O=>?_,V,?_,f1,f2,by rw[Z];exact f3,⟨f4,by rw[Z];exact f5,fun i N=>?_,R⟩,fun t M=>?_,by omega,f6,by show(bY _).length<=800;omega,by omega⟩
 .have:=List.all_eq_true.1 U p O
  simp only[C0,Es] at this;obtain⟨⟨⟨L,G⟩,F⟩,D⟩:=this;have d1:dg 3 1 p.1:=⟨L,G⟩;have d2:dg 3 1 p.2:=⟨F,D⟩;exact⟨d1.mono (by omega) (by omega),d2.mono (by omega) (by omega)⟩
 .unfold Br
  rw[Z];exact Gg (s.kind%8) X
 .have:=List.all_eq_true.1 S i (List.mem_range.2 N)
  simpa using this
 .have:=List.all_eq_true.1 h3 t M
  unfold YJ;split at this
  .rename_i p q r C B u
   exact⟨p,q,r,C,B,u,by simpa using this⟩
  .cases this
theorem Fh(s:afq):kO prog 46 [.agg [.slice 0 0 s.P.length none,.slice 1 0 s.T.length none]] [.cells false 2 (pC s.P),.cells false 3 (tC s.T)] (.int .i64 0) [.cells false 2 (pC s.P),.cells false 3 (tC s.T)]:=
 Fg (zV s)
end Go.Proofs
