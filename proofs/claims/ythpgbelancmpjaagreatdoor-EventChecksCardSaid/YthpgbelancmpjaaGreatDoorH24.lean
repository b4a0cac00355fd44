/- See H38. -/
import Derived.Test.YthpgbelancmpjaaGreatDoorH23
set_option linter.all false
set_option maxRecDepth 100000
set_option maxHeartbeats 40000000
namespace Go.Proofs
open Go.Eng
open Tryz
def uE(a:Nat):AV×AV:=(.int .i64 (a:Int),.bool true)
def Yn(L:List Nat)(a:Nat):List Nat:=if a∈L then L else L++[a]
def ZM(L:List Nat)(t:Tr):List Nat:=Yn (Yn (Yn L t.1) t.2.1) t.2.2
def Mj(H:List Tr):List Nat:=H.foldl ZM []
theorem WW{α:Type}{l:List α}{i:Nat}{x:α}(h:l[i]? =some x):l.set i x=l:=by
 apply List.ext_getElem?;intro j;rw[List.getElem?_set];by_cases Z:i=j
 .subst Z
  rw[if_pos rfl,if_pos (gL h),h]
 .rw[if_neg Z]
theorem xV(a:Nat):∀(L:List Nat) (i:Nat),(a∉L->jU (aL prog) 3 (.int .i64 (a:Int)) (L.map uE) i=some none)/\(a∈L->∃q,jU (aL prog) 3 (.int .i64 (a:Int)) (L.map uE) i=some (some (i+q,.bool true))/\L[q]? =some a)
 | [],i=>⟨fun _=>rfl,fun h=>by cases h⟩
 |b::L,i=>by
  have e:kS (aL prog) 20 3 (.int .i64 (a:Int)) (.int .i64 (b:Int))=some (decide ((a:Int)=(b:Int))):=by simp[kS]
  simp only[List.map_cons,jU,uE,e];have Z:=xV a L (i+1);by_cases h:a=b
  .subst h
   simp only[decide_true];exact⟨fun h=>absurd (List.mem_cons_self ..) h,fun _=>⟨0,rfl,rfl⟩⟩
  .have X :¬((a:Int)=(b:Int)):=by omega
   simp only[X,decide_false];refine⟨fun V=>Z.1 (fun h2=>V (List.mem_cons_of_mem _ h2)),fun U=>?_⟩;rcases List.mem_cons.1 U with h2 | h2
   .exact absurd h2 h
   .obtain⟨q,S,R⟩:=Z.2 h2
    exact⟨q+1,by rw[S,show i+1+q=i+(q+1) by omega],by simpa using R⟩
theorem R9(M:Mem)(b:Nat)(L:List Nat)(a:Nat)(H:M[b]? =some (.map (L.map uE))):fz (aL prog) M 228 (.map b) (.int .i64 (a:Int)) (.bool true)=some (M.set b (.map ((Yn L a).map uE))):=by
 have Z:mG (aL prog) 20 3 (.int .i64 (a:Int))=true:=by simp[mG]
 unfold fz;rw[KL];simp only[H,Z,if_true];by_cases h:a∈L
 .obtain⟨q,X,V⟩:=(xV a L 0).2 h
  rw[X];have:Yn L a=L:=if_pos h;rw[this,QQY];simp only[AV.agl,if_true];rw[show((.int .i64 (a:Int),.bool true):AV×AV)=uE a from rfl,WW (l:=L.map uE) (i:=q) (x:=uE a) (by rw[Y1,V];rfl)]
 .rw[(xV a L 0).1 h]
  have:Yn L a=L++[a]:=if_neg h;rw[this];simp[uE]
theorem U1(n:Nat):∀L:List Nat,(L.map uE).flatMap (fun e=>e.1.refs n++e.2.refs n)=[]
 | []=>rfl
 |p::N=>by simp[uE,AV.refs,U1 n N]
variable{TS:List Tr}{n:Nat}
theorem RN{t:Tr}(h:TS[n]? =some t):Mj (TS.take (n+1))=ZM (Mj (TS.take n)) t:=by rw[List.take_add_one,h];simp[Mj]
def wL(H:List P2)(TS:List Tr)(D:List (AV×AV))(L:List Nat):Mem:=[.cells false 2 (pC H),.cells false 3 (tC TS),msB H.length TS.length,.map D,.map (L.map uE)]
def Cn(c:Code):List Nat:=if (ae c).contains 23 then [23] else [28]
variable{K:Nat}{b:Code}
theorem Co{O:afu}(H:List P2)(TS:List Tr)(D:List (AV×AV))(Z':TS.length<=1000000000)(J:D.flatMap (fun e=>e.1.refs 5++e.2.refs 5)=[])(hK:TS.length<K+5){W:Code}(I:ah f100=[b,W]):
  ∃F:Env->Bool->Env,∀Z d,(aa Z 5=.map 4/\aa Z 21=.slice 1 0 TS.length none/\aa Z 22=.int .i64 TS.length/\aa Z 23=.int .i64 0/\aa Z 1=.ptr 2 0/\aa Z 3=.map 3)->
   aO (aL prog) Cn O (K+5) 55 2 true (.loop b) ⟨Z,wL H TS D [],d⟩=some (.exit 0,⟨F Z d,wL H TS D (Mj TS),d⟩)/\aa (F Z d) 1=.ptr 2 0/\aa (F Z d) 3=.map 3/\aa (F Z d) 5=.map 4:=by
 refine bG (L:=[23]) (by simp[ah,aw,f100] at I;rw[<-I.1];rfl) (fun Z=>aa Z 5=.map 4/\aa Z 21=.slice 1 0 TS.length none/\aa Z 22=.int .i64 TS.length/\aa Z 23=.int .i64 0/\aa Z 1=.ptr 2 0/\aa Z 3=.map 3) (fun _ S =>aa S 1=.ptr 2 0/\aa S 3=.map 3/\aa S 5=.map 4) ?_;rintro Z d ⟨h5,h21,h22,h23,h1,h3⟩;simp[ah,aw,f100] at I;obtain⟨I,-⟩:=I;have X:au [23] (ae b) Z ((23,.int .i64 ((0:Nat):Int))::Z)=au [23] (ae b) Z Z:=by simp[au,h23]
 rw[<-X];refine bZ (α:=Nat) (fun n=>⟨au [23] (ae b) Z ((23,.int .i64 (n:Int))::Z),wL H TS D (Mj (TS.take n)),d⟩) (fun n=>TS.length-n) (fun n=>n<=TS.length) (.exit 0) _ d _ (by simp) ?_ (K+5) 0 (by omega) (by omega);intro n y;clear X;subst I;by_cases R:n<TS.length
 .left
  obtain⟨t,Q⟩:∃q,TS[n]? =some q:=⟨TS[n],LB R⟩
  obtain⟨N,o⟩:=Ze Q;have V:=RN Q;obtain⟨M,G,C⟩:=t;simp only[ZM] at N V;have w1:IntKind.i64.wrap ((n:Int)+1)=((n+1:Nat):Int):=by rw[af];omega
  obtain⟨m,j⟩:=xE (n+1);rw[<-j] at w1 V;obtain⟨L,B⟩:=xE (Mj (TS.take n));rw[<-B] at V;rw[<-B];have Y:IntKind.i64.wrap 1=1:=rfl;have v2:IntKind.i64.wrap 2=2:=rfl;have v3:IntKind.i64.wrap 3=3:=rfl;have v2' :IntKind.i64.wrap (1+1)=2:=rfl;have v3' :IntKind.i64.wrap (2+1)=3:=rfl;have u:∀(U :List Nat) (a:Nat),fz (aL prog) [.cells false 2 (pC H),.cells false 3 (tC TS),.cells true 0 [.slice 0 0 H.length none,.slice 1 0 TS.length none],.map D,.map (U.map uE),.cells true 0 [.int .i64 (M:Int),.int .i64 (G:Int),.int .i64 (C:Int)]] 228 (.map 4) (.int .i64 (a:Int)) (.bool true)=
    some [.cells false 2 (pC H),.cells false 3 (tC TS),.cells true 0 [.slice 0 0 H.length none,.slice 1 0 TS.length none],.map D,.map ((Yn U a).map uE),.cells true 0 [.int .i64 (M:Int),.int .i64 (G:Int),.int .i64 (C:Int)]]:=fun U a=>R9 _ 4 U a rfl
  refine⟨m,?_⟩;simp[wL,h5,h21,h22,R,N,o,bw,ga,Y,v2,v3,Cn,u,J,V,msB,yI,vE,U1,w1];omega
 .right
  have e:TS.take n=TS:=An (by omega);rw[e];have aao :¬(n:Int)<TS.length:=by omega
  simp[h22,h1,h3,h5,R]
theorem XX(f:Nat->Option Nat)(H:List Sd):(H.map sdE).map (fun e=>(e.1.ren f,e.2.ren f))=H.map sdE:=by rw[List.map_map];exact List.map_congr_left fun s _=>Of f s
theorem WU(f:Nat->Option Nat)(H:List Sd):H.map ((fun(e:AV×AV)=>(e.1.ren f,e.2.ren f))∘sdE)=H.map sdE:=
 List.map_congr_left fun s _=>Of f s
def BV(I:List P2)(TS:List Tr)(H:List Sd):Prop:=
 bz prog 180 [.agg [.slice 0 0 I.length none,.slice 1 0 TS.length none]] [.y9,.cells false 3 (tC TS)] (.tuple [.map 2,.bool true]) ([.y9,.cells false 3 (tC TS)]++[.map (H.map sdE)])
structure Tryz.Whole (PS:List P2)(TS:List Tr)(sds:List Sd)(cyc:List Nat):Prop where
 dg:∀p∈PS,pDg 200 p
 nodup:PS.Nodup
 aii:BV PS TS sds
 outer:vv sds=true
 cy:CI (tJ sds)=some (cyc.map fun(n:Nat)=>(n:Int))
 used:(Mj TS).length=PS.length
 once:UP PS cyc
 tr:∀t∈TS,ZJ PS t
 len:PS.length<=400
 aij:TS≠[]
 aia:TS.length<=800
 aik:cyc.length<=1000000
open Classical in
noncomputable def AI(J:List P2)(TS:List Tr)(I:List Sd)(H:List Nat):afu:=fun c Z M=>match c,Z with
 |.fn 180,[.agg [.slice b 0 n none,.slice c 0 k none]]=>if n=J.length/\k=TS.length/\b<M.length/\(∃o,M[c]? =some (.cells o 3 (tC TS))) then some ⟨.tuple [.map M.length,.bool true],none,[.map (I.map sdE)]⟩ else none
 |.fn 181,[.agg [.slice b 0 _ none,.slice c 0 _ none],.map q]=>if b<M.length/\c<M.length/\Rq M q=some (I.map sdE) then some ⟨.tuple [.slice M.length 0 H.length none,.bool true],none,[.cells true 1 (cZ H)]⟩ else none
 |.fn 182,[.agg [.slice b 0 n none,.slice c 0 _ none],.slice q 0 l none]=>if n=J.length/\l=H.length/\c<M.length/\(∃o,M[b]? =some (.cells o 2 (pC J)))/\(∃o,M[q]? =some (.cells o 1 (cZ H))) then some ⟨.bool true,none,[]⟩ else none
 |_,_=>none
theorem KY:∀Z:List Nat,AV.afA (cZ Z)=true
 | []=>rfl
 |c::l=>by have:=KY l;simp only[cZ] at this;simp[cZ,AV.afA,AV.closed,this]
theorem Zy(H:List Nat):iZ (H.map fun(n:Nat)=>(n:Int))=cZ H:=by simp[iZ,cZ]
theorem fV{M:Mem}{b:Nat}{s:afz}(h:M[b]? =some s):b<M.length:=gL h
variable{PS:List P2}{cyc:List Nat}{sds:List Sd}
section
variable (hw:Whole PS TS sds cyc)
include hw
theorem NA:afs prog (AI PS TS sds cyc):=by
 refine cG fun c U M r h=>?_
 unfold AI at h;split at h
 .rename_i b n c k
  split at h
  .rename_i S
   obtain⟨rfl,rfl,O,o,X⟩:=S;cases h;refine aA ?_;have:=bz.frame (M:=M) (new:=[.map (sds.map sdE)]) [b,c] (m:=[.y9,.cells false 3 (tC TS)]) rfl (by
    intro k R;simp only[lM] at R;rcases R with rfl | rfl
    .exact O
    .exact fV X) (by rfl) (fun i s Z=>by
    match i with
    |0=>simp at Z;subst Z;trivial
    |1=>simp at Z;subst Z;exact gm (mz TS) X (V1)
    |i+2=>simp at Z) rfl hw.aii
   simpa [AV.afR,AV.ren,back,afz.ren,XX,WU] using this
  .cases h
 .rename_i b n c k q
  split at h
  .rename_i S
   obtain⟨O,V,X⟩:=S;cases h;refine aA ?_;have:=yS M sds (cyc.map fun(n:Nat)=>(n:Int)) q b c n k O V X hw.outer hw.cy;rw[Zy,QQm] at this;exact this
  .cases h
 .rename_i b n c k q l
  split at h
  .rename_i S
   obtain⟨rfl,rfl,V,⟨o,X⟩,⟨N,Q⟩⟩:=S;cases h;refine aA ?_;have:=bz.frame (M:=M) (new:=[]) (args:=[.agg [.slice 0 0 PS.length none,.slice 1 0 k none],.slice 2 0 cyc.length none]) [b,c,q] (m:=[.cells false 2 (pC PS),.y9,.cells false 1 (cZ cyc)]) rfl (by
    intro k R;simp only[lM] at R;rcases R with rfl | rfl | rfl
    .exact fV X
    .exact V
    .exact fV Q) (by rfl) (fun i s Z=>by
    match i with
    |0=>simp at Z;subst Z;exact gm (gW PS) X (V1)
    |1=>simp at Z;subst Z;trivial
    |2=>simp at Z;subst Z;exact gm (KY cyc) Q (V1)
    |i+3=>simp at Z) rfl (by simpa using MH PS k cyc hw.dg hw.once hw.aik)
   simpa [AV.afR,AV.ren,back] using this
  .cases h
 .cases h
theorem H0:
  bz prog 100 [.agg [.slice 0 0 PS.length none,.slice 1 0 TS.length none]] [.cells false 2 (pC PS),.cells false 3 (tC TS)] (.bool true) [.cells false 2 (pC PS),.cells false 3 (tC TS)]:=by
 have M:bq prog 100=some f100:=by kernel_rfl
 have D:=hw.len;have C:=hw.aia;obtain⟨b,Q,V⟩:∃b Q,ah f100=[b,Q]:=⟨_,_,rfl⟩
 obtain⟨K,B⟩:=xE TS.length;obtain⟨F,X⟩:=Co (O:=AI PS TS sds cyc) (K:=K) PS TS (sds.map sdE) (by omega) (sB 5 sds) (by omega) V;simp[ah,aw,f100] at V;obtain⟨rfl,rfl⟩:=V;have N:=fun Z d h=>(X Z d h).1
 have U:=fun Z d h=>(X Z d h).2.1
 have S:=fun Z d h=>(X Z d h).2.2.1
 have R:=fun Z d h=>(X Z d h).2.2.2
 clear X;have G:=hw.used;refine fQ (lv:=Cn) (K:=(K+5)) (NA hw) ?_;simp only[wL,List.map_nil,msB] at N;simp[ad,M,f100,N,U,S,R,AI,Rq,G]
theorem Np:afs prog (pK PS TS):=by
 refine cG fun c Z M r h=>?_
 unfold pK at h;split at h
 .rename_i b n c k
  split at h
  .rename_i R
   obtain⟨rfl,rfl,⟨o,U⟩,⟨Q,X⟩⟩:=R;cases h;refine aA ?_;have:=bz.frame (M:=M) (new:=[]) (args:=[.agg [.slice 0 0 PS.length none,.slice 1 0 TS.length none]]) [b,c] (m:=[.cells false 2 (pC PS),.cells false 3 (tC TS)]) rfl (by
    intro k S;simp only[lM] at S;rcases S with rfl | rfl
    .exact fV U
    .exact fV X) (by rfl) (fun i s V=>by
    match i with
    |0=>simp at V;subst V;exact gm (gW PS) U (V1)
    |1=>simp at V;subst V;exact gm (mz TS) X (V1)
    |i+2=>simp at V) rfl (by simpa using H0 hw)
   simpa [AV.afR,AV.ren,back] using this
  .cases h
 .exact ee BP h
theorem FV:
  bz prog 46 [.agg [.slice 0 0 PS.length none,.slice 1 0 TS.length none]] [.cells false 2 (pC PS),.cells false 3 (tC TS)] (.int .i64 0) [.cells false 2 (pC PS),.cells false 3 (tC TS)]:=by
 have B:bq prog 46=some f46:=by kernel_rfl
 have m:=hw.len;have j:=hw.aia;have y:0<TS.length:=by have:=hw.aij;cases TS with | nil=>exact absurd rfl this | cons a l=>simp
 obtain⟨O,N,M,G,D,V⟩:∃O N M G D,ah f46=[O,N,M,G,D]:=⟨_,_,_,_,_,rfl⟩
 obtain⟨K,Y⟩:=xE (PS.length+TS.length);obtain⟨F,U⟩:=yc (K:=K+5) PS TS hw.dg hw.nodup (by omega) (by omega) V;obtain⟨W,S⟩:=yd (K:=K) PS TS (PS.map pmE) hw.dg hw.tr (by omega) (by omega) (Ht 4 PS) (by omega) V;simp[ah,aw,f46] at V;obtain⟨rfl,rfl,rfl,rfl,rfl⟩:=V;have C:=fun Z d h=>(U Z d h).1
 have X:=fun Z d h=>(S Z d h).1
 have R:=fun Z d h=>(U Z d h).2
 have Q:=fun Z d h=>(S Z d h).2
 clear U S;have u:¬(800:Int)<TS.length:=by omega
 have o:¬(400:Int)<PS.length:=by omega
 have J:¬800<TS.length:=by omega
 have I:¬400<PS.length:=by omega
 have n5:¬TS.length=0:=by omega
 have H:¬(TS.length:Int)=0:=by omega
 refine fQ (lv:=we) (K:=(K+5)) (Np hw) ?_;simp only[msB] at C X;simp[ad,B,f46,C,X,R,Q,pK,u,o,n5]
end
noncomputable def AG(f:FuncId)(args:List AV):Option AV:=
 match f,args with
 |88,[.int .i64 n,.int .i64 d]=>if 0<d/\ef n=true/\ef d=true then some (.tuple [.str (aJ (mkRat n d.toNat)),.int .i64 0]) else none
 |_,_=>none
theorem QH:afs prog (ai AG):=bT fun f Z v h mem=>by
 unfold AG at h;split at h
 .rename_i n d
  split at h
  .rename_i X
   cases h;have:=R6 n d.toNat (by omega) X.2.1 (by rw[QQb (by omega)];exact X.2.2) mem;rw[QQb (by omega)] at this;exact this
  .cases h
 .cases h
theorem pW{n:Int}(h0: -1000000<=n)(h1:n<=1000000):ef n=true:=by unfold ef;simp;omega
theorem gJ{n:Int}(h0: -1000000<=n)(h1:n<=1000000):IntKind.i64.wrap n=n:=by rw[af]
theorem HW(s:afI)(hs:s.Ok)(x y:Int)(H: -128<=x)(I:x<=127)(J: -128<=y)(W:y<=127)(k:Nat)(Y:k=1\/k=2)(M:Mem):
  bz prog 34 [s.av,.agg [.int .i8 x,.int .i8 y],.int .i64 (k:Int)] M (pA (s.pt k x y)) M:=by
 have R:bq prog 34=some f34:=by kernel_rfl
 obtain⟨kd,Q,O,N⟩:=s;have B:=W5 Q;have o:=W5 O;unfold afI.av afI.pt;simp only;obtain⟨u,Z⟩:=xE (Q.tmod 8);obtain⟨v,X⟩:=xE (O.tmod 8);rw[<-Z] at B |-;rw[<-X] at o |-;refine az QH ?_ M;have G:IntKind.i64.wrap x=x:=gJ (by omega) (by omega);have F:IntKind.i64.wrap y=y:=gJ (by omega) (by omega);have D:IntKind.i64.wrap u=u:=gJ (by omega) (by omega);have C:IntKind.i64.wrap v=v:=gJ (by omega) (by omega);rcases Y with rfl | rfl
 .have V:IntKind.i64.wrap (x+u)=x+u:=gJ (by omega) (by omega)
  have U:IntKind.i64.wrap (y+v)=y+v:=gJ (by omega) (by omega);have m:IntKind.i64.wrap 1=1:=rfl;have S:IntKind.i64.wrap 2=2:=rfl;have f1:ef (x+u)=true:=pW (by omega) (by omega);have f2:ef (y+v)=true:=pW (by omega) (by omega);have f3:ef 1=true:=rfl;have f4:ef 2=true:=rfl;cases N<;>simp[ad,R,f34,ai,AG,<-Z,<-X,G,F,D,C,V,U,m,S,f1,f2,f3,f4,aD,ag,pA]
 .have V:IntKind.i64.wrap (x+u*2)=x+u*2:=gJ (by omega) (by omega)
  have U:IntKind.i64.wrap (y+v*2)=y+v*2:=gJ (by omega) (by omega);have j:IntKind.i64.wrap (u*2)=u*2:=gJ (by omega) (by omega);have c2:IntKind.i64.wrap (v*2)=v*2:=gJ (by omega) (by omega);have S:IntKind.i64.wrap 2=2:=rfl;have b4:IntKind.i64.wrap 4=4:=rfl;have f1:ef (x+u*2)=true:=pW (by omega) (by omega);have f2:ef (y+v*2)=true:=pW (by omega) (by omega);have f3:ef 2=true:=rfl;have f4:ef 4=true:=rfl;cases N<;>simp[ad,R,f34,ai,AG,<-Z,<-X,G,F,D,C,V,U,j,c2,S,b4,f1,f2,f3,f4,aD,ag,pA]
theorem FU(k:Nat)(H:k<256):bz prog 33 [.int .u8 (k:Int)] [] (.tuple [.slice 0 0 (ej (k%8)).length none,.slice 1 0 (cm (k%8)).length none]) [.cells true 2 (iP (ej (k%8))),.cells true 3 (tC (cm (k%8)))]:=by
 have S:bq prog 33=some f33:=by kernel_rfl
 have X:(k:Int).tmod 8=((k%8:Nat):Int):=rfl;have V:k%8<8:=Nat.mod_lt _ (by omega);obtain⟨j,U⟩:=xE (k%8);rw[<-U] at X V |-;have h:ad (aL prog) (fun _=>[]) (bq prog) bC 1 33 [.int .u8 (k:Int)] []=some ⟨.tuple [.slice 0 0 (ej j).length none,.slice 1 0 (cm j).length none],none,[.cells true 2 (iP (ej j)),.cells true 3 (tC (cm j))]⟩:=by
  have Z:j=0\/j=1\/j=2\/j=3\/j=4\/j=5\/j=6\/j=7:=by omega
  clear V U;rcases Z with rfl | rfl | rfl | rfl | rfl | rfl | rfl | rfl<;>simp[ad,S,f33,X,ej,cm,sqI,iP,tC,aD]<;>exact⟨rfl,rfl⟩
 have:=(aB ak (aI _) (ar _) (aQ _) h).1;simpa [afw.mem] using this
theorem HY(k:Nat)(H:k<256)(M:Mem):bz prog 33 [.int .u8 (k:Int)] M (.tuple [.slice M.length 0 (ej (k%8)).length none,.slice (M.length+1) 0 (cm (k%8)).length none]) (M++[.cells true 2 (iP (ej (k%8))),.cells true 3 (tC (cm (k%8)))]):=by have:=bz.frame (M:=M) (new:=[.cells true 2 (iP (ej (k%8))),.cells true 3 (tC (cm (k%8)))]) (args:=[.int .u8 (k:Int)]) [] (m:=[]) rfl (by simp) (by rfl) (fun i s Z=>by simp at Z) rfl (FU k H);simpa [AV.ren,AV.afR,back,afz.ren,Un,Mg] using this
noncomputable def pJ(s:afI):afu:=fun c Z M=>match c,Z with
 |.fn 33,[.int .u8 k]=>if k=(s.kind:Int) then some ⟨.tuple [.slice M.length 0 (ej (s.kind%8)).length none,.slice (M.length+1) 0 (cm (s.kind%8)).length none],none,[.cells true 2 (iP (ej (s.kind%8))),.cells true 3 (tC (cm (s.kind%8)))]⟩ else none
 |.fn 34,[.agg [.int .u8 k,.int .i8 sx,.int .i8 sy,.bool h],.agg [.int .i8 x,.int .i8 y],.int .i64 n]=>if k=(s.kind:Int)/\sx=s.sx/\sy=s.sy/\h=s.half/\ -128<=x/\x<=127/\ -128<=y/\y<=127/\n=1 then some ⟨pA (s.pt 1 x y),none,[]⟩ else none
 |_,_=>none
theorem No(s:afI)(hs:s.Ok):afs prog (pJ s):=by
 refine cG fun c X M r h=>?_
 unfold pJ at h;split at h
 .split at h
  .rename_i Z
   subst Z;cases h;exact aA (HY s.kind hs.kind M)
  .cases h
 .split at h
  .rename_i Z
   obtain⟨rfl,rfl,rfl,rfl,V,U,h3,S,rfl⟩:=Z;cases h;refine aA ?_;rw[List.append_nil];exact HW s hs _ _ V U h3 S 1 (.inl rfl) M
  .cases h
 .cases h
def Vb(L:List (Int×Int)):Prop:=∀p∈L,0<=p.1/\p.1<=6/\0<=p.2/\p.2<=6
theorem Mc(k:Nat)(H:k<8):Vb (ej k):=by
 have Z:k=0\/k=1\/k=2\/k=3\/k=4\/k=5\/k=6\/k=7:=by omega
 rcases Z with rfl | rfl | rfl | rfl | rfl | rfl | rfl | rfl<;>(unfold Vb;decide)
def YX(n:Nat):AV:=match n with
 |0=>.kO
 |n+1=>.slice 5 0 (n+1) none
def NX(s:afI)(H:List (Int×Int))(TS:List Tr)(n:Nat):Mem:=
 [.cells true 0 [.int .u8 s.kind,.int .i8 s.sx,.int .i8 s.sy,.bool s.half],.cells true 0 [.kO,.kO],.cells true 2 (iP H),.cells true 3 (tC TS),.cells true 0 [YX n,.slice 3 0 TS.length none]]++
  (match n with
  |0=>[]
  |n+1=>[.cells true 2 (pC ((H.take (n+1)).map fun p=>s.pt 1 p.1 p.2))])
theorem C8{s:afI}{H:List (Int×Int)}(h:0<n):NX s H TS n=
  [.cells true 0 [.int .u8 s.kind,.int .i8 s.sx,.int .i8 s.sy,.bool s.half],.cells true 0 [.kO,.kO],.cells true 2 (iP H),.cells true 3 (tC TS),.cells true 0 [.slice 5 0 n none,.slice 3 0 TS.length none],.cells true 2 (pC ((H.take n).map fun p=>s.pt 1 p.1 p.2))]:=by
 cases n with
 |zero=>omega
 |succ n=>rfl
theorem BN(s:afI)(H:List (Int×Int))(TS:List Tr)(I:Vb H)(hl:H.length<=1000000)(hK:H.length<K)(hb:ah f8=[b]):
  ∃F:Env->Env,∀Z,(aa Z 1=.ptr 0 0/\aa Z 3=.slice 2 0 H.length none/\aa Z 5=.ptr 4 0/\aa Z 6=.int .i64 0/\aa Z 2=.ptr 1 0)->
   aO (aL prog) (fun _=>[6,6]) (pJ s) K 42 0 true (.loop b) ⟨Z,NX s H TS 0,false⟩=some (.exit 0,⟨F Z,NX s H TS H.length,decide (0<H.length)⟩)/\aa (F Z) 5=.ptr 4 0/\aa (F Z) 2=.ptr 1 0:=by
 refine vn (L:=[6,6]) rfl false _ (fun Z=>aa Z 1=.ptr 0 0/\aa Z 3=.slice 2 0 H.length none/\aa Z 5=.ptr 4 0/\aa Z 6=.int .i64 0/\aa Z 2=.ptr 1 0) (fun _ AC =>aa AC 5=.ptr 4 0/\aa AC 2=.ptr 1 0) ?_;rintro Z ⟨h1,h3,h5,h6,h2⟩;obtain⟨O,Y⟩:∃O,bn f8=[O]:=⟨_,rfl⟩
 have N:=wR Y (l:=[0,1,0,0,0,24,56,120,248,0,0,1536,3584,7680,15872,32760,65532,131068,262143,524287,1048575]) (by kernel_rfl);have M:KV [0,1,0,0,0,24,56,120,248,0,0,1536,3584,7680,15872,32760,65532,131068,262143,524287,1048575] 21 17=true:=by decide
 have G:KV [0,1,0,0,0,24,56,120,248,0,0,1536,3584,7680,15872,32760,65532,131068,262143,524287,1048575] 21 18=true:=by decide
 have D:KV [0,1,0,0,0,24,56,120,248,0,0,1536,3584,7680,15872,32760,65532,131068,262143,524287,1048575] 21 20=true:=by decide
 have C:jr [0,1,0,0,0,24,56,120,248,0,0,1536,3584,7680,15872,32760,65532,131068,262143,524287,1048575] 18=true:=by decide
 have B:jr [0,1,0,0,0,24,56,120,248,0,0,1536,3584,7680,15872,32760,65532,131068,262143,524287,1048575] 20=true:=by decide
 simp[bn,cU,f8] at Y;simp[ah,aw,f8] at hb;have V:au [6,6] (ae b) Z ((6,.int .i64 ((0:Nat):Int))::Z)=au [6,6] (ae b) Z Z:=by simp[au,h6]
 rw[<-V];refine bZ (α:=Nat) (fun n=>⟨au [6,6] (ae b) Z ((6,.int .i64 (n:Int))::Z),NX s H TS n,decide (0<n)⟩) (fun n=>H.length-n) (fun n=>n<=H.length) (.exit 0) _ _ _ (by simp) ?_ K 0 (by omega) (by omega);intro n hn1;clear V;subst hb;subst Y;by_cases W:n<H.length
 .left
  obtain⟨p,J⟩:∃q,H[n]? =some q:=⟨H[n],LB W⟩
  obtain⟨q1,q2,q3⟩:=ZF J;obtain⟨x0,x1,y0,y1⟩:=I p (Lo J);obtain⟨R,Q⟩:=p;simp only at q1 q2 x0 x1 y0 y1;have S:(H.take (n+1)).map (fun p=>s.pt 1 p.1 p.2)=(H.take n).map (fun p=>s.pt 1 p.1 p.2)++[s.pt 1 R Q]:=by rw[List.take_add_one,J];simp
  have v1:IntKind.i8.wrap R=R:=Vj (by omega) (by omega);have v2:IntKind.i8.wrap Q=Q:=Vj (by omega) (by omega);have c1: -128<=R:=by omega
  have c2:R<=127:=by omega
  have c3: -128<=Q:=by omega
  have c4:Q<=127:=by omega
  have w1:IntKind.i64.wrap ((n:Int)+1)=((n+1:Nat):Int):=by rw[af];omega
  obtain⟨P,j⟩:=xE ((H.take n).map (fun p=>s.pt 1 p.1 p.2));have y:P.length=n:=by rw[j,QQm,M0];omega
  obtain⟨z,hz⟩:=xE (s.pt 1 R Q);rw[<-j,<-hz] at S;have X:pC (P++[z])=pC P++[.str (aJ z.1),.str (aJ z.2)]:=by rw[LQ];rfl
  have u:=Dp P;rw[y] at u;obtain⟨m,hm⟩:=xE (n+1);refine⟨m,?_⟩;by_cases V:n=0
  .subst V
   have hm1:m=1:=by omega
   subst hm1;have hP0:P=[]:=GT y;rw[hP0] at S X;simp at S X;have w0:IntKind.i64.wrap 1=1:=rfl;simp[NX,YX,h1,h3,h5,W,q1,q2,v1,v2,c1,c2,c3,c4,w0,pJ,<-hz,pA,-aN,DF N,xq,Dc,OY,cF,M,G,D,C,B,S,X,NS,vE,Un,Mg,Y5,aD,Nat.testBit];omega
  .have U:0<n:=by omega
   rw[<-hm] at w1 S;have o:0<m:=by omega
   have hd1:decide (0<n)=true:=by simpa using U
   rw[C8 U,C8 o,hd1,<-j,S,X];clear j S X;have g1:m*32<=140737488355328:=by omega
   have g2:n<=140737488355327:=by omega
   have g5:(NX s H TS 0).length=5:=rfl;have g4:m<=140737488355328:=by omega
   have g3:(pC P).take (n*2)=pC P:=An (by omega);simp[h1,h3,h5,W,q1,q2,v1,v2,c1,c2,c3,c4,w1,pJ,<-hz,pA,-aN,DF N,xq,Dc,OY,cF,M,G,D,C,B,u,o,<-hm,g1,g4,g3,g5,Y6,NS,vE,yI,Un,Mg,US,aD,Nat.testBit];omega
 .right
  have e:n=H.length:=by omega
  subst e;simp[h3,h5,h2]
theorem RF(k:Nat):0<(ej k).length:=by unfold ej;split<;>simp[sqI]
theorem FK(k:Nat):(ej k).length<=6:=by unfold ej;split<;>simp[sqI]
theorem afI.agN(s:afI):s.P.length=(ej (s.kind%8)).length:=by simp[afI.P]
theorem HV(s:afI)(hs:s.Ok):bz prog 8 [s.av] [] (.agg [.slice 0 0 s.P.length none,.slice 1 0 s.T.length none]) [.cells true 2 (pC s.P),.cells true 3 (tC s.T)]:=by
 have D:bq prog 8=some f8:=by kernel_rfl
 have X:=RF (s.kind%8);have C:=FK (s.kind%8);obtain⟨b,O⟩:∃b,ah f8=[b]:=⟨_,rfl⟩
 obtain⟨F,U⟩:=BN (K:=10) s (ej (s.kind%8)) (cm (s.kind%8)) (Mc _ (Nat.mod_lt _ (by omega))) (by omega) (by omega) O;simp[ah,aw,f8] at O;subst O;have B:decide (0<(ej (s.kind%8)).length)=true:=by simpa using X
 rw[C8 X,B,V1] at U;have N:=fun S h=>(U S h).1
 have R:=fun S h=>(U S h).2.1
 have Q:=fun S h=>(U S h).2.2
 clear U;have M:NX s (ej (s.kind%8)) (cm (s.kind%8)) 0=[.cells true 0 [.int .u8 s.kind,.int .i8 s.sx,.int .i8 s.sy,.bool s.half],.cells true 0 [.kO,.kO],.cells true 2 (iP (ej (s.kind%8))),.cells true 3 (tC (cm (s.kind%8))),.cells true 0 [.kO,.slice 3 0 (cm (s.kind%8)).length none]]:=rfl;rw[M] at N;rw[afI.agN];unfold afI.P afI.T;obtain⟨G,Z⟩:=xE (ej (s.kind%8));obtain⟨ST,V⟩:=xE (cm (s.kind%8));rw[<-Z,<-V] at N;rw[<-Z] at R Q;rw[<-Z,<-V];have h:ad (aL prog) (fun _=>[6,6]) (bq prog) (pJ s) 10 8 [s.av] []=some ⟨.agg [.slice 0 0 G.length none,.slice 1 0 ST.length none],some [],[.cells true 2 (pC (G.map fun p=>s.pt 1 p.1 p.2)),.cells true 3 (tC ST)]⟩:=by simp[ad,D,f8,afI.av,N,R,Q,pJ,<-Z,<-V,vE,yI,Mg,US,aD,ag];exact⟨rfl,rfl⟩
 have:=(aB ak (aI _) (No s hs) (aQ _) h).1;simpa [afw.mem] using this
theorem ME(s:afI)(hs:s.Ok)(M:Mem):bz prog 8 [s.av] M (.agg [.slice M.length 0 s.P.length none,.slice (M.length+1) 0 s.T.length none]) (M++[.cells true 2 (pC s.P),.cells true 3 (tC s.T)]):=by have:=bz.frame (M:=M) (new:=[.cells true 2 (pC s.P),.cells true 3 (tC s.T)]) (args:=[s.av]) [] (m:=[]) rfl (by simp) (by rfl) (fun i s hs=>by simp at hs) rfl (HV s hs);simpa [AV.ren,AV.afR,back,afz.ren,US,Mg,afI.av] using this
def jE(PS:List P2)(TS:List Tr)(cyc:List Nat):Bool:=
 decide PS.Nodup&&(PS.all fun p=>decide (p.1.num.natAbs<1000)&&decide (p.1.den<10)&&decide (p.2.num.natAbs<1000)&&decide (p.2.den<10))&&
  (TS.all fun t=>match PS[t.1]?,PS[t.2.1]?,PS[t.2.2]? with
   |some p,some q,some r=>decide (0<kU (uZ p q r))
   |_,_,_=>false)&&
  ((List.range cyc.length).all fun i=>decide (0<=kU (uZ (Ds PS cyc i) (Ds PS cyc (i+1)) (Ds PS cyc (i+2)))))&&decide (mr PS cyc cyc.length=1)
def WQ(k:Nat)(u v:Int)(h:Bool):List P2:=
 (ej k).map fun p=>(mkRat (p.1+u*(1:Nat)) ((if h then 2 else 1)*1),mkRat (p.2+v*(1:Nat)) ((if h then 2 else 1)*1))
theorem X8:((List.range 15).all fun a=>(List.range 15).all fun b=>[false,true].all fun h=>jE (WQ 0 ((a:Int)-7) ((b:Int)-7) h) (cm 0) (my 0))=true:=by kernel_rfl
theorem X9:((List.range 15).all fun a=>(List.range 15).all fun b=>[false,true].all fun h=>jE (WQ 1 ((a:Int)-7) ((b:Int)-7) h) (cm 1) (my 1))=true:=by kernel_rfl
theorem Ya:((List.range 15).all fun a=>(List.range 15).all fun b=>[false,true].all fun h=>jE (WQ 2 ((a:Int)-7) ((b:Int)-7) h) (cm 2) (my 2))=true:=by kernel_rfl
theorem Yb:((List.range 15).all fun a=>(List.range 15).all fun b=>[false,true].all fun h=>jE (WQ 3 ((a:Int)-7) ((b:Int)-7) h) (cm 3) (my 3))=true:=by kernel_rfl
theorem Yc:((List.range 15).all fun a=>(List.range 15).all fun b=>[false,true].all fun h=>jE (WQ 4 ((a:Int)-7) ((b:Int)-7) h) (cm 4) (my 4))=true:=by kernel_rfl
theorem Yd:((List.range 15).all fun a=>(List.range 15).all fun b=>[false,true].all fun h=>jE (WQ 5 ((a:Int)-7) ((b:Int)-7) h) (cm 5) (my 5))=true:=by kernel_rfl
theorem Ye:((List.range 15).all fun a=>(List.range 15).all fun b=>[false,true].all fun h=>jE (WQ 6 ((a:Int)-7) ((b:Int)-7) h) (cm 6) (my 6))=true:=by kernel_rfl
theorem Yf:((List.range 15).all fun a=>(List.range 15).all fun b=>[false,true].all fun h=>jE (WQ 7 ((a:Int)-7) ((b:Int)-7) h) (cm 7) (my 7))=true:=by kernel_rfl
theorem RH(k:Nat)(H:k<8):((List.range 15).all fun a=>(List.range 15).all fun b=>[false,true].all fun h=>jE (WQ k ((a:Int)-7) ((b:Int)-7) h) (cm k) (my k))=true:=by
 have Z:k=0\/k=1\/k=2\/k=3\/k=4\/k=5\/k=6\/k=7:=by omega
 rcases Z with rfl | rfl | rfl | rfl | rfl | rfl | rfl | rfl
 .exact X8
 .exact X9
 .exact Ya
 .exact Yb
 .exact Yc
 .exact Yd
 .exact Ye
 .exact Yf
theorem W0(s:afI):jE s.P s.T (my (s.kind%8))=true:=by
 have Z:s.kind%8<8:=Nat.mod_lt _ (by omega);have h:=RH (s.kind%8) Z;obtain⟨R,Q⟩:=W5 s.sx;obtain⟨v0,O⟩:=W5 s.sy;have X:=List.all_eq_true.1 h (s.sx.tmod 8+7).toNat (List.mem_range.2 (by omega));have V:=List.all_eq_true.1 X (s.sy.tmod 8+7).toNat (List.mem_range.2 (by omega));have h3:=List.all_eq_true.1 V s.half (by cases s.half<;>simp);have U:(((s.sx.tmod 8+7).toNat:Nat):Int)-7=s.sx.tmod 8:=by omega
 have S:(((s.sy.tmod 8+7).toNat:Nat):Int)-7=s.sy.tmod 8:=by omega
 rw[U,S] at h3;exact h3
def RE:List Tr->Int->List Sd
 | [],_=>[]
 |t::l,i=>((t.1,t.2.1),i)::((t.2.1,t.2.2),i)::((t.2.2,t.1),i)::RE l (i+1)
theorem QI:bz prog 180 [.agg [.slice 0 0 (ej 0).length none,.slice 1 0 (cm 0).length none]] [.y9,.cells false 3 (tC (cm 0))] (.tuple [.map 2,.bool true]) ([.y9,.cells false 3 (tC (cm 0))]++[.map ((RE (cm 0) 0).map sdE)]):=
 si (lv:=ae) (K:=60) (n:=10) ak (aI _) (aQ _) (ar _) (by as_aux_lemma=>kernel_rfl)
theorem QJ:bz prog 180 [.agg [.slice 0 0 (ej 1).length none,.slice 1 0 (cm 1).length none]] [.y9,.cells false 3 (tC (cm 1))] (.tuple [.map 2,.bool true]) ([.y9,.cells false 3 (tC (cm 1))]++[.map ((RE (cm 1) 0).map sdE)]):=
 si (lv:=ae) (K:=60) (n:=10) ak (aI _) (aQ _) (ar _) (by as_aux_lemma=>kernel_rfl)
theorem QK:bz prog 180 [.agg [.slice 0 0 (ej 2).length none,.slice 1 0 (cm 2).length none]] [.y9,.cells false 3 (tC (cm 2))] (.tuple [.map 2,.bool true]) ([.y9,.cells false 3 (tC (cm 2))]++[.map ((RE (cm 2) 0).map sdE)]):=
 si (lv:=ae) (K:=60) (n:=10) ak (aI _) (aQ _) (ar _) (by as_aux_lemma=>kernel_rfl)
theorem QL:bz prog 180 [.agg [.slice 0 0 (ej 3).length none,.slice 1 0 (cm 3).length none]] [.y9,.cells false 3 (tC (cm 3))] (.tuple [.map 2,.bool true]) ([.y9,.cells false 3 (tC (cm 3))]++[.map ((RE (cm 3) 0).map sdE)]):=
 si (lv:=ae) (K:=60) (n:=10) ak (aI _) (aQ _) (ar _) (by as_aux_lemma=>kernel_rfl)
theorem QM:bz prog 180 [.agg [.slice 0 0 (ej 4).length none,.slice 1 0 (cm 4).length none]] [.y9,.cells false 3 (tC (cm 4))] (.tuple [.map 2,.bool true]) ([.y9,.cells false 3 (tC (cm 4))]++[.map ((RE (cm 4) 0).map sdE)]):=
 si (lv:=ae) (K:=60) (n:=10) ak (aI _) (aQ _) (ar _) (by as_aux_lemma=>kernel_rfl)
theorem QN:bz prog 180 [.agg [.slice 0 0 (ej 5).length none,.slice 1 0 (cm 5).length none]] [.y9,.cells false 3 (tC (cm 5))] (.tuple [.map 2,.bool true]) ([.y9,.cells false 3 (tC (cm 5))]++[.map ((RE (cm 5) 0).map sdE)]):=
 si (lv:=ae) (K:=60) (n:=10) ak (aI _) (aQ _) (ar _) (by as_aux_lemma=>kernel_rfl)
theorem QO:bz prog 180 [.agg [.slice 0 0 (ej 6).length none,.slice 1 0 (cm 6).length none]] [.y9,.cells false 3 (tC (cm 6))] (.tuple [.map 2,.bool true]) ([.y9,.cells false 3 (tC (cm 6))]++[.map ((RE (cm 6) 0).map sdE)]):=
 si (lv:=ae) (K:=60) (n:=10) ak (aI _) (aQ _) (ar _) (by as_aux_lemma=>kernel_rfl)
theorem QP:bz prog 180 [.agg [.slice 0 0 (ej 7).length none,.slice 1 0 (cm 7).length none]] [.y9,.cells false 3 (tC (cm 7))] (.tuple [.map 2,.bool true]) ([.y9,.cells false 3 (tC (cm 7))]++[.map ((RE (cm 7) 0).map sdE)]):=
 si (lv:=ae) (K:=60) (n:=10) ak (aI _) (aQ _) (ar _) (by as_aux_lemma=>kernel_rfl)
theorem GK(k:Nat)(H:k<8):bz prog 180 [.agg [.slice 0 0 (ej k).length none,.slice 1 0 (cm k).length none]] [.y9,.cells false 3 (tC (cm k))] (.tuple [.map 2,.bool true]) ([.y9,.cells false 3 (tC (cm k))]++[.map ((RE (cm k) 0).map sdE)]):=by
 have Z:k=0\/k=1\/k=2\/k=3\/k=4\/k=5\/k=6\/k=7:=by omega
 rcases Z with rfl | rfl | rfl | rfl | rfl | rfl | rfl | rfl
 .exact QI
 .exact QJ
 .exact QK
 .exact QL
 .exact QM
 .exact QN
 .exact QO
 .exact QP
theorem Og(k:Nat)(H:k<8):vv (RE (cm k) 0)=true/\CI (tJ (RE (cm k) 0))=some ((my k).map fun(n:Nat)=>(n:Int))/\(Mj (cm k)).length=(ej k).length/\my k≠[]/\(∀c∈my k,c<(ej k).length)/\cm k≠[]/\(cm k).length<=4/\(my k).length<=6:=by
 have Z:k=0\/k=1\/k=2\/k=3\/k=4\/k=5\/k=6\/k=7:=by omega
 rcases Z with rfl | rfl | rfl | rfl | rfl | rfl | rfl | rfl<;>decide
theorem Ap(s:afI):Whole s.P s.T (RE s.T 0) (my (s.kind%8)):=by
 have X:s.kind%8<8:=Nat.mod_lt _ (by omega);have h:=W0 s;obtain⟨f1,f2,f3,f4,f5,f6,f7,f8⟩:=Og (s.kind%8) X;have Z:=afI.agN s;have V:=FK (s.kind%8);unfold jE at h;simp only[Ar,Cs] at h;obtain⟨⟨⟨⟨U,S⟩,h3⟩,R⟩,Q⟩:=h;refine⟨fun p O=>?_,U,?_,f1,f2,by rw[Z];exact f3,⟨f4,by rw[Z];exact f5,fun i N=>?_,Q⟩,fun t M=>?_,by omega,f6,by show(cm _).length<=800;omega,by omega⟩
 .have:=List.all_eq_true.1 S p O
  simp only[Ar,Cs] at this;obtain⟨⟨⟨G,F⟩,D⟩,C⟩:=this;have d1:dg 3 1 p.1:=⟨G,F⟩;have d2:dg 3 1 p.2:=⟨D,C⟩;exact⟨d1.mono (by omega) (by omega),d2.mono (by omega) (by omega)⟩
 .unfold BV
  rw[Z];exact GK (s.kind%8) X
 .have:=List.all_eq_true.1 R i (List.mem_range.2 N)
  simpa using this
 .have:=List.all_eq_true.1 h3 t M
  unfold ZJ;split at this
  .rename_i p q r B y u
   exact⟨p,q,r,B,y,u,by simpa using this⟩
  .cases this
theorem FW(s:afI):bz prog 46 [.agg [.slice 0 0 s.P.length none,.slice 1 0 s.T.length none]] [.cells false 2 (pC s.P),.cells false 3 (tC s.T)] (.int .i64 0) [.cells false 2 (pC s.P),.cells false 3 (tC s.T)]:=
 FV (Ap s)
end Go.Proofs
