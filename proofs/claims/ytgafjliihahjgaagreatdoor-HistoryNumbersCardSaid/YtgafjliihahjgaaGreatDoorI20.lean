/- See I36. -/
import Derived.Test.YtgafjliihahjgaaGreatDoorI19
set_option linter.all false
set_option maxRecDepth 100000
set_option maxHeartbeats 40000000
namespace Go.Proofs
open Go.Eng
open Tryz
def uE(a:Nat):AV×AV:=(.int .i64 (a:Int),.bool true)
def YW(L:List Nat)(a:Nat):List Nat:=if a∈L then L else L++[a]
def aaa(L:List Nat)(t:Tr):List Nat:=YW (YW (YW L t.1) t.2.1) t.2.2
def Nr(y:List Tr):List Nat:=y.foldl aaa []
theorem Xv{α:Type}{l:List α}{i:Nat}{x:α}(h:l[i]? =some x):l.set i x=l:=by
 apply List.ext_getElem?;intro j;rw[List.getElem?_set];by_cases Z:i=j
 .subst Z
  rw[if_pos rfl,if_pos (gL h),h]
 .rw[if_neg Z]
theorem yI(a:Nat):∀(L:List Nat) (i:Nat),(a∉L->kB (aU prog) 3 (.int .i64 (a:Int)) (L.map uE) i=some none)/\(a∈L->∃q,kB (aU prog) 3 (.int .i64 (a:Int)) (L.map uE) i=some (some (i+q,.bool true))/\L[q]? =some a)
 | [],i=>⟨fun _=>rfl,fun h=>by cases h⟩
 |b::L,i=>by
  have e:mI (aU prog) 20 3 (.int .i64 (a:Int)) (.int .i64 (b:Int))=some (decide ((a:Int)=(b:Int))):=by simp[mI]
  simp only[List.map_cons,kB,uE,e];have Z:=yI a L (i+1);by_cases h:a=b
  .subst h
   simp only[decide_true];exact⟨fun h=>absurd (List.mem_cons_self ..) h,fun _=>⟨0,rfl,rfl⟩⟩
  .have X :¬((a:Int)=(b:Int)):=by omega
   simp only[X,decide_false];refine⟨fun W=>Z.1 (fun h2=>W (List.mem_cons_of_mem _ h2)),fun V=>?_⟩;rcases List.mem_cons.1 V with h2 | h2
   .exact absurd h2 h
   .obtain⟨q,S,O⟩:=Z.2 h2
    exact⟨q+1,by rw[S,show i+1+q=i+(q+1) by omega],by simpa using O⟩
theorem TB(M:Mem)(b:Nat)(L:List Nat)(a:Nat)(y:M[b]? =some (.map (L.map uE))):fY (aU prog) M 255 (.map b) (.int .i64 (a:Int)) (.bool true)=some (M.set b (.map ((YW L a).map uE))):=by
 have Z:na (aU prog) 20 3 (.int .i64 (a:Int))=true:=by simp[na]
 unfold fY;rw[LX];simp only[y,Z,if_true];by_cases h:a∈L
 .obtain⟨q,X,W⟩:=(yI a L 0).2 h
  rw[X];have:YW L a=L:=if_pos h;rw[this,QQZ];simp only[AV.agT,if_true];rw[show((.int .i64 (a:Int),.bool true):AV×AV)=uE a from rfl,Xv (l:=L.map uE) (i:=q) (x:=uE a) (by rw[QQX,W];rfl)]
 .rw[(yI a L 0).1 h]
  have:YW L a=L++[a]:=if_neg h;rw[this];simp[uE]
theorem VC(n:Nat):∀L:List Nat,(L.map uE).flatMap (fun e=>e.1.refs n++e.2.refs n)=[]
 | []=>rfl
 |p::N=>by simp[uE,AV.refs,VC n N]
variable{TS:List Tr}{n:Nat}
theorem Td{t:Tr}(h:TS[n]? =some t):Nr (TS.take (n+1))=aaa (Nr (TS.take n)) t:=by rw[List.take_add_one,h];simp[Nr]
def xr(y:List P2)(TS:List Tr)(D:List (AV×AV))(L:List Nat):Mem:=[.cells false 2 (pC y),.cells false 3 (tC TS),msB y.length TS.length,.map D,.map (L.map uE)]
def CK(c:Code):List Nat:=if (ab c).contains 23 then [23] else [28]
variable{K:Nat}{b:Code}
theorem CL{O:af3}(y:List P2)(TS:List Tr)(D:List (AV×AV))(I:TS.length<=1000000000)(Q:D.flatMap (fun e=>e.1.refs 5++e.2.refs 5)=[])(hK:TS.length<K+5){R:Code}(H:ag f107=[b,R]):
  ∃F:Env->Bool->Env,∀Z d,(ad Z 5=.map 4/\ad Z 21=.slice 1 0 TS.length none/\ad Z 22=.int .i64 TS.length/\ad Z 23=.int .i64 0/\ad Z 1=.ptr 2 0/\ad Z 3=.map 3)->
   aT (aU prog) CK O (K+5) 55 2 true (.loop b) ⟨Z,xr y TS D [],d⟩=some (.exit 0,⟨F Z d,xr y TS D (Nr TS),d⟩)/\ad (F Z d) 1=.ptr 2 0/\ad (F Z d) 3=.map 3/\ad (F Z d) 5=.map 4:=by
 refine bG (L:=[23]) (by simp[ag,aH,f107] at H;rw[<-H.1];rfl) (fun Z=>ad Z 5=.map 4/\ad Z 21=.slice 1 0 TS.length none/\ad Z 22=.int .i64 TS.length/\ad Z 23=.int .i64 0/\ad Z 1=.ptr 2 0/\ad Z 3=.map 3) (fun _ S =>ad S 1=.ptr 2 0/\ad S 3=.map 3/\ad S 5=.map 4) ?_;rintro Z d ⟨h5,h21,h22,h23,h1,h3⟩;simp[ag,aH,f107] at H;obtain⟨H,-⟩:=H;have X:au [23] (ab b) Z ((23,.int .i64 ((0:Nat):Int))::Z)=au [23] (ab b) Z Z:=by simp[au,h23]
 rw[<-X];refine bW (α:=Nat) (fun n=>⟨au [23] (ab b) Z ((23,.int .i64 (n:Int))::Z),xr y TS D (Nr (TS.take n)),d⟩) (fun n=>TS.length-n) (fun n=>n<=TS.length) (.exit 0) _ d _ (by simp) ?_ (K+5) 0 (by omega) (by omega);intro n j;clear X;subst H;by_cases M:n<TS.length
 .left
  obtain⟨t,J⟩:∃q,TS[n]? =some q:=⟨TS[n],GT M⟩
  obtain⟨G,Y⟩:=XA J;have W:=Td J;obtain⟨C,B,A⟩:=t;simp only[aaa] at G W;have w1:IntKind.i64.wrap ((n:Int)+1)=((n+1:Nat):Int):=by rw[ai];omega
  obtain⟨m,hm⟩:=xE (n+1);rw[<-hm] at w1 W;obtain⟨L,z⟩:=xE (Nr (TS.take n));rw[<-z] at W;rw[<-z];have v1:IntKind.i64.wrap 1=1:=rfl;have v2:IntKind.i64.wrap 2=2:=rfl;have v3:IntKind.i64.wrap 3=3:=rfl;have v2' :IntKind.i64.wrap (1+1)=2:=rfl;have v3' :IntKind.i64.wrap (2+1)=3:=rfl;have u:∀(V :List Nat) (a:Nat),fY (aU prog) [.cells false 2 (pC y),.cells false 3 (tC TS),.cells true 0 [.slice 0 0 y.length none,.slice 1 0 TS.length none],.map D,.map (V.map uE),.cells true 0 [.int .i64 (C:Int),.int .i64 (B:Int),.int .i64 (A:Int)]] 255 (.map 4) (.int .i64 (a:Int)) (.bool true)=
    some [.cells false 2 (pC y),.cells false 3 (tC TS),.cells true 0 [.slice 0 0 y.length none,.slice 1 0 TS.length none],.map D,.map ((YW V a).map uE),.cells true 0 [.int .i64 (C:Int),.int .i64 (B:Int),.int .i64 (A:Int)]]:=fun V a=>TB _ 4 V a rfl
  refine⟨m,?_⟩;simp[xr,h5,h21,h22,M,G,Y,aR,fW,v1,v2,v3,CK,u,Q,W,msB,fB,fQ,VC,w1];omega
 .right
  have e:TS.take n=TS:=GE (by omega);rw[e];have X' :¬(n:Int)<TS.length:=by omega
  simp[h22,h1,h3,h5,M]
theorem YH(f:Nat->Option Nat)(y:List Sd):(y.map sdE).map (fun e=>(e.1.ren f,e.2.ren f))=y.map sdE:=by rw[List.map_map];exact List.map_congr_left fun s _=>PA f s
theorem Xu(f:Nat->Option Nat)(y:List Sd):y.map ((fun(e:AV×AV)=>(e.1.ren f,e.2.ren f))∘sdE)=y.map sdE:=
 List.map_congr_left fun s _=>PA f s
def CD(H:List P2)(TS:List Tr)(y:List Sd):Prop:=
 kO prog 160 [.agg [.slice 0 0 H.length none,.slice 1 0 TS.length none]] [.HS,.cells false 3 (tC TS)] (.tuple [.map 2,.bool true]) ([.HS,.cells false 3 (tC TS)]++[.map (y.map sdE)])
structure Tryz.Whole (PS:List P2)(TS:List Tr)(sds:List Sd)(cyc:List Nat):Prop where
 dg:∀p∈PS,pDg 200 p
 nodup:PS.Nodup
 aiQ:CD PS TS sds
 outer:wB sds=true
 cy:C5 (ur sds)=some (cyc.map fun(n:Nat)=>(n:Int))
 used:(Nr TS).length=PS.length
 once:Vp PS cyc
 tr:∀t∈TS,Z8 PS t
 len:PS.length<=400
 aiR:TS≠[]
 aiN:TS.length<=800
 aiS:cyc.length<=1000000
open Classical in
noncomputable def Bj(I:List P2)(TS:List Tr)(H:List Sd)(y:List Nat):af3:=fun c Z M=>match c,Z with
 |.fn 160,[.agg [.slice b 0 n none,.slice c 0 k none]]=>if n=I.length/\k=TS.length/\b<M.length/\(∃o,M[c]? =some (.cells o 3 (tC TS))) then some ⟨.tuple [.map M.length,.bool true],none,[.map (H.map sdE)]⟩ else none
 |.fn 161,[.agg [.slice b 0 _ none,.slice c 0 _ none],.map q]=>if b<M.length/\c<M.length/\SK M q=some (H.map sdE) then some ⟨.tuple [.slice M.length 0 y.length none,.bool true],none,[.cells true 1 (cZ y)]⟩ else none
 |.fn 162,[.agg [.slice b 0 n none,.slice c 0 _ none],.slice q 0 l none]=>if n=I.length/\l=y.length/\c<M.length/\(∃o,M[b]? =some (.cells o 2 (pC I)))/\(∃o,M[q]? =some (.cells o 1 (cZ y))) then some ⟨.bool true,none,[]⟩ else none
 |_,_=>none
theorem Me:∀Z:List Nat,AV.af9 (cZ Z)=true
 | []=>rfl
 |c::l=>by have:=Me l;simp only[cZ] at this;simp[cZ,AV.af9,AV.closed,this]
theorem ZX(y:List Nat):iZ (y.map fun(n:Nat)=>(n:Int))=cZ y:=by simp[iZ,cZ]
theorem sR{M:Mem}{b:Nat}{s:af6}(h:M[b]? =some s):b<M.length:=gL h
variable{PS:List P2}{cyc:List Nat}{sds:List Sd}
section
variable (hw:Whole PS TS sds cyc)
include hw
theorem OK:adM prog (Bj PS TS sds cyc):=by
 refine cP fun c V M r h=>?_
 unfold Bj at h;split at h
 .rename_i b n c k
  split at h
  .rename_i hc
   obtain⟨rfl,rfl,J,o,X⟩:=hc;cases h;refine aC ?_;have:=kO.frame (M:=M) (new:=[.map (sds.map sdE)]) [b,c] (m:=[.HS,.cells false 3 (tC TS)]) rfl (by
    intro k S;simp only[lM] at S;rcases S with rfl | rfl
    .exact J
    .exact sR X) (by rfl) (fun i s Z=>by
    match i with
    |0=>simp at Z;subst Z;trivial
    |1=>simp at Z;subst Z;exact bY (gA TS) X (O1)
    |i+2=>simp at Z) rfl hw.aiQ
   simpa [AV.agd,AV.ren,eg,af6.ren,YH,Xu] using this
  .cases h
 .rename_i b n c k q
  split at h
  .rename_i hc
   obtain⟨J,W,X⟩:=hc;cases h;refine aC ?_;have:=zt M sds (cyc.map fun(n:Nat)=>(n:Int)) q b c n k J W X hw.outer hw.cy;rw[ZX,QQi] at this;exact this
  .cases h
 .rename_i b n c k q l
  split at h
  .rename_i hc
   obtain⟨rfl,rfl,W,⟨o,X⟩,⟨G,O⟩⟩:=hc;cases h;refine aC ?_;have:=kO.frame (M:=M) (new:=[]) (args:=[.agg [.slice 0 0 PS.length none,.slice 1 0 k none],.slice 2 0 cyc.length none]) [b,c,q] (m:=[.cells false 2 (pC PS),.HS,.cells false 1 (cZ cyc)]) rfl (by
    intro k S;simp only[lM] at S;rcases S with rfl | rfl | rfl
    .exact sR X
    .exact W
    .exact sR O) (by rfl) (fun i s Z=>by
    match i with
    |0=>simp at Z;subst Z;exact bY (fl PS) X (O1)
    |1=>simp at Z;subst Z;trivial
    |2=>simp at Z;subst Z;exact bY (Me cyc) O (O1)
    |i+3=>simp at Z) rfl (by simpa using NI PS k cyc hw.dg hw.once hw.aiS)
   simpa [AV.agd,AV.ren,eg] using this
  .cases h
 .cases h
theorem IU:
  kO prog 107 [.agg [.slice 0 0 PS.length none,.slice 1 0 TS.length none]] [.cells false 2 (pC PS),.cells false 3 (tC TS)] (.bool true) [.cells false 2 (pC PS),.cells false 3 (tC TS)]:=by
 have D:aS prog 107=some f107:=by kernel_rfl
 have B:=hw.len;have C:=hw.aiN;obtain⟨b,J,W⟩:∃b J,ag f107=[b,J]:=⟨_,_,rfl⟩
 obtain⟨K,A⟩:=xE TS.length;obtain⟨F,X⟩:=CL (O:=Bj PS TS sds cyc) (K:=K) PS TS (sds.map sdE) (by omega) (tx 5 sds) (by omega) W;simp[ag,aH,f107] at W;obtain⟨rfl,rfl⟩:=W;have G:=fun Z d h=>(X Z d h).1
 have V:=fun Z d h=>(X Z d h).2.1
 have S:=fun Z d h=>(X Z d h).2.2.1
 have M:=fun Z d h=>(X Z d h).2.2.2
 clear X;have hu:=hw.used;refine dx (lv:=CK) (K:=(K+5)) (OK hw) ?_;simp only[xr,List.map_nil,msB] at G;simp[aa,D,f107,G,V,S,M,Bj,SK,hu]
theorem OC:adM prog (pV PS TS):=by
 refine cP fun c Z M r h=>?_
 unfold pV at h;split at h
 .rename_i b n c k
  split at h
  .rename_i hc
   obtain⟨rfl,rfl,⟨o,V⟩,⟨O,X⟩⟩:=hc;cases h;refine aC ?_;have:=kO.frame (M:=M) (new:=[]) (args:=[.agg [.slice 0 0 PS.length none,.slice 1 0 TS.length none]]) [b,c] (m:=[.cells false 2 (pC PS),.cells false 3 (tC TS)]) rfl (by
    intro k S;simp only[lM] at S;rcases S with rfl | rfl
    .exact sR V
    .exact sR X) (by rfl) (fun i s W=>by
    match i with
    |0=>simp at W;subst W;exact bY (fl PS) V (O1)
    |1=>simp at W;subst W;exact bY (gA TS) X (O1)
    |i+2=>simp at W) rfl (by simpa using IU hw)
   simpa [AV.agd,AV.ren,eg] using this
  .cases h
 .exact fK Cv h
theorem GD:
  kO prog 59 [.agg [.slice 0 0 PS.length none,.slice 1 0 TS.length none]] [.cells false 2 (pC PS),.cells false 3 (tC TS)] (.int .i64 0) [.cells false 2 (pC PS),.cells false 3 (tC TS)]:=by
 have z:aS prog 59=some f59:=by kernel_rfl
 have Q:=hw.len;have u:=hw.aiN;have m:0<TS.length:=by have:=hw.aiR;cases TS with | nil=>exact absurd rfl this | cons a l=>simp
 obtain⟨J,G,D,C,B,V⟩:∃J G D C B,ag f59=[J,G,D,C,B]:=⟨_,_,_,_,_,rfl⟩
 obtain⟨K,I⟩:=xE (PS.length+TS.length);obtain⟨F,S⟩:=yN (K:=K+5) PS TS hw.dg hw.nodup (by omega) (by omega) V;obtain⟨H,Z⟩:=yO (K:=K) PS TS (PS.map pmE) hw.dg hw.tr (by omega) (by omega) (Ia 4 PS) (by omega) V;simp[ag,aH,f59] at V;obtain⟨rfl,rfl,rfl,rfl,rfl⟩:=V;have A:=fun X d h=>(S X d h).1
 have W:=fun X d h=>(Z X d h).1
 have O:=fun X d h=>(S X d h).2
 have M:=fun X d h=>(Z X d h).2
 clear S Z;have j:¬(800:Int)<TS.length:=by omega
 have Y:¬(400:Int)<PS.length:=by omega
 have y:¬800<TS.length:=by omega
 have n4:¬400<PS.length:=by omega
 have R:¬TS.length=0:=by omega
 have n6:¬(TS.length:Int)=0:=by omega
 refine dx (lv:=xk) (K:=(K+5)) (OC hw) ?_;simp only[msB] at A W;simp[aa,z,f59,A,W,O,M,pV,j,Y,R]
end
noncomputable def Bi(f:FuncId)(args:List AV):Option AV:=
 match f,args with
 |56,[.int .i64 n,.int .i64 d]=>if 0<d/\dw n=true/\dw d=true then some (.tuple [.str (aB (mkRat n d.toNat)),.int .i64 0]) else none
 |_,_=>none
theorem RP:adM prog (af Bi):=bX fun f Z v h mem=>by
 unfold Bi at h;split at h
 .rename_i n d
  split at h
  .rename_i hc
   cases h;have:=Ty n d.toNat (by omega) hc.2.1 (by rw[QQe (by omega)];exact hc.2.2) mem;rw[QQe (by omega)] at this;exact this
  .cases h
 .cases h
theorem qd{n:Int}(h0: -1000000<=n)(h1:n<=1000000):dw n=true:=by unfold dw;simp;omega
theorem ik{n:Int}(h0: -1000000<=n)(h1:n<=1000000):IntKind.i64.wrap n=n:=by rw[ai]
theorem IQ(s:af8)(hs:s.Ok)(x y:Int)(H: -128<=x)(I:x<=127)(Q: -128<=y)(R:y<=127)(k:Nat)(hk:k=1\/k=2)(M:Mem):
  kO prog 33 [s.av,.agg [.int .i8 x,.int .i8 y],.int .i64 (k:Int)] M (pA (s.pt k x y)) M:=by
 have S:aS prog 33=some f33:=by kernel_rfl
 obtain⟨kd,O,J,G⟩:=s;have A:=Tc O;have z:=Tc J;unfold af8.av af8.pt;simp only;obtain⟨u,hu⟩:=xE (O.tmod 8);obtain⟨v,Z⟩:=xE (J.tmod 8);rw[<-hu] at A |-;rw[<-Z] at z |-;refine aD RP ?_ M;have F:IntKind.i64.wrap x=x:=ik (by omega) (by omega);have D:IntKind.i64.wrap y=y:=ik (by omega) (by omega);have C:IntKind.i64.wrap u=u:=ik (by omega) (by omega);have B:IntKind.i64.wrap v=v:=ik (by omega) (by omega);rcases hk with rfl | rfl
 .have X:IntKind.i64.wrap (x+u)=x+u:=ik (by omega) (by omega)
  have W:IntKind.i64.wrap (y+v)=y+v:=ik (by omega) (by omega);have m:IntKind.i64.wrap 1=1:=rfl;have V:IntKind.i64.wrap 2=2:=rfl;have f1:dw (x+u)=true:=qd (by omega) (by omega);have f2:dw (y+v)=true:=qd (by omega) (by omega);have f3:dw 1=true:=rfl;have f4:dw 2=true:=rfl;cases G<;>simp[aa,S,f33,af,Bi,<-hu,<-Z,F,D,C,B,X,W,m,V,f1,f2,f3,f4,bZ,aF,pA]
 .have X:IntKind.i64.wrap (x+u*2)=x+u*2:=ik (by omega) (by omega)
  have W:IntKind.i64.wrap (y+v*2)=y+v*2:=ik (by omega) (by omega);have j:IntKind.i64.wrap (u*2)=u*2:=ik (by omega) (by omega);have Y:IntKind.i64.wrap (v*2)=v*2:=ik (by omega) (by omega);have V:IntKind.i64.wrap 2=2:=rfl;have b4:IntKind.i64.wrap 4=4:=rfl;have f1:dw (x+u*2)=true:=qd (by omega) (by omega);have f2:dw (y+v*2)=true:=qd (by omega) (by omega);have f3:dw 2=true:=rfl;have f4:dw 4=true:=rfl;cases G<;>simp[aa,S,f33,af,Bi,<-hu,<-Z,F,D,C,B,X,W,j,Y,V,b4,f1,f2,f3,f4,bZ,aF,pA]
theorem GC(k:Nat)(hk:k<256):kO prog 45 [.int .u8 (k:Int)] [] (.tuple [.slice 0 0 (er (k%8)).length none,.slice 1 0 (bL (k%8)).length none]) [.cells true 2 (iP (er (k%8))),.cells true 3 (tC (bL (k%8)))]:=by
 have S:aS prog 45=some f45:=by kernel_rfl
 have X:(k:Int).tmod 8=((k%8:Nat):Int):=rfl;have W:k%8<8:=Nat.mod_lt _ (by omega);obtain⟨j,V⟩:=xE (k%8);rw[<-V] at X W |-;have h:aa (aU prog) (fun _=>[]) (aS prog) bD 1 45 [.int .u8 (k:Int)] []=some ⟨.tuple [.slice 0 0 (er j).length none,.slice 1 0 (bL j).length none],none,[.cells true 2 (iP (er j)),.cells true 3 (tC (bL j))]⟩:=by
  have Z:j=0\/j=1\/j=2\/j=3\/j=4\/j=5\/j=6\/j=7:=by omega
  clear W V;rcases Z with rfl | rfl | rfl | rfl | rfl | rfl | rfl | rfl<;>simp[aa,S,f45,X,er,bL,sqI,iP,tC,bZ]<;>exact⟨rfl,rfl⟩
 have:=(ah ae (al _) (aj _) (ao _) h).1;simpa [afA.mem] using this
theorem IS(k:Nat)(hk:k<256)(M:Mem):kO prog 45 [.int .u8 (k:Int)] M (.tuple [.slice M.length 0 (er (k%8)).length none,.slice (M.length+1) 0 (bL (k%8)).length none]) (M++[.cells true 2 (iP (er (k%8))),.cells true 3 (tC (bL (k%8)))]):=by have:=kO.frame (M:=M) (new:=[.cells true 2 (iP (er (k%8))),.cells true 3 (tC (bL (k%8)))]) (args:=[.int .u8 (k:Int)]) [] (m:=[]) rfl (by simp) (by rfl) (fun i s Z=>by simp at Z) rfl (GC k hk);simpa [AV.ren,AV.agd,eg,af6.ren,UT,kj] using this
noncomputable def pU(s:af8):af3:=fun c Z M=>match c,Z with
 |.fn 45,[.int .u8 k]=>if k=(s.kind:Int) then some ⟨.tuple [.slice M.length 0 (er (s.kind%8)).length none,.slice (M.length+1) 0 (bL (s.kind%8)).length none],none,[.cells true 2 (iP (er (s.kind%8))),.cells true 3 (tC (bL (s.kind%8)))]⟩ else none
 |.fn 33,[.agg [.int .u8 k,.int .i8 sx,.int .i8 sy,.bool h],.agg [.int .i8 x,.int .i8 y],.int .i64 n]=>if k=(s.kind:Int)/\sx=s.sx/\sy=s.sy/\h=s.half/\ -128<=x/\x<=127/\ -128<=y/\y<=127/\n=1 then some ⟨pA (s.pt 1 x y),none,[]⟩ else none
 |_,_=>none
theorem OA(s:af8)(hs:s.Ok):adM prog (pU s):=by
 refine cP fun c Z M r h=>?_
 unfold pU at h;split at h
 .split at h
  .rename_i hc
   subst hc;cases h;exact aC (IS s.kind hs.kind M)
  .cases h
 .split at h
  .rename_i hc
   obtain⟨rfl,rfl,rfl,rfl,X,W,h3,V,rfl⟩:=hc;cases h;refine aC ?_;rw[List.append_nil];exact IQ s hs _ _ X W h3 V 1 (.inl rfl) M
  .cases h
 .cases h
def VO(L:List (Int×Int)):Prop:=∀p∈L,0<=p.1/\p.1<=6/\0<=p.2/\p.2<=6
theorem Ni(k:Nat)(hk:k<8):VO (er k):=by
 have Z:k=0\/k=1\/k=2\/k=3\/k=4\/k=5\/k=6\/k=7:=by omega
 rcases Z with rfl | rfl | rfl | rfl | rfl | rfl | rfl | rfl<;>(unfold VO;decide)
def Zq(n:Nat):AV:=match n with
 |0=>.y9
 |n+1=>.slice 5 0 (n+1) none
def Pf(s:af8)(y:List (Int×Int))(TS:List Tr)(n:Nat):Mem:=
 [.cells true 0 [.int .u8 s.kind,.int .i8 s.sx,.int .i8 s.sy,.bool s.half],.cells true 0 [.y9,.y9],.cells true 2 (iP y),.cells true 3 (tC TS),.cells true 0 [Zq n,.slice 3 0 TS.length none]]++
  (match n with
  |0=>[]
  |n+1=>[.cells true 2 (pC ((y.take (n+1)).map fun p=>s.pt 1 p.1 p.2))])
theorem Ds{s:af8}{y:List (Int×Int)}(h:0<n):Pf s y TS n=
  [.cells true 0 [.int .u8 s.kind,.int .i8 s.sx,.int .i8 s.sy,.bool s.half],.cells true 0 [.y9,.y9],.cells true 2 (iP y),.cells true 3 (tC TS),.cells true 0 [.slice 5 0 n none,.slice 3 0 TS.length none],.cells true 2 (pC ((y.take n).map fun p=>s.pt 1 p.1 p.2))]:=by
 cases n with
 |zero=>omega
 |succ n=>rfl
theorem Ct(s:af8)(y:List (Int×Int))(TS:List Tr)(H:VO y)(hl:y.length<=1000000)(hK:y.length<K)(hb:ag f27=[b]):
  ∃F:Env->Env,∀Z,(ad Z 1=.ptr 0 0/\ad Z 3=.slice 2 0 y.length none/\ad Z 5=.ptr 4 0/\ad Z 6=.int .i64 0/\ad Z 2=.ptr 1 0)->
   aT (aU prog) (fun _=>[6,6]) (pU s) K 42 0 true (.loop b) ⟨Z,Pf s y TS 0,false⟩=some (.exit 0,⟨F Z,Pf s y TS y.length,decide (0<y.length)⟩)/\ad (F Z) 5=.ptr 4 0/\ad (F Z) 2=.ptr 1 0:=by
 refine mL (L:=[6,6]) rfl false _ (fun Z=>ad Z 1=.ptr 0 0/\ad Z 3=.slice 2 0 y.length none/\ad Z 5=.ptr 4 0/\ad Z 6=.int .i64 0/\ad Z 2=.ptr 1 0) (fun _ AC =>ad AC 5=.ptr 4 0/\ad AC 2=.ptr 1 0) ?_;rintro Z ⟨h1,h3,h5,h6,h2⟩;obtain⟨J,Q⟩:∃J,aN f27=[J]:=⟨_,rfl⟩
 have PP:=jm Q (l:=[0,1,0,0,0,24,56,120,248,0,0,1536,3584,7680,15872,32760,65532,131068,262143,524287,1048575]) (by kernel_rfl);have G:su [0,1,0,0,0,24,56,120,248,0,0,1536,3584,7680,15872,32760,65532,131068,262143,524287,1048575] 21 17=true:=by decide
 have D:su [0,1,0,0,0,24,56,120,248,0,0,1536,3584,7680,15872,32760,65532,131068,262143,524287,1048575] 21 18=true:=by decide
 have C:su [0,1,0,0,0,24,56,120,248,0,0,1536,3584,7680,15872,32760,65532,131068,262143,524287,1048575] 21 20=true:=by decide
 have B:be [0,1,0,0,0,24,56,120,248,0,0,1536,3584,7680,15872,32760,65532,131068,262143,524287,1048575] 18=true:=by decide
 have A:be [0,1,0,0,0,24,56,120,248,0,0,1536,3584,7680,15872,32760,65532,131068,262143,524287,1048575] 20=true:=by decide
 simp[aN,cj,f27] at Q;simp[ag,aH,f27] at hb;have W:au [6,6] (ab b) Z ((6,.int .i64 ((0:Nat):Int))::Z)=au [6,6] (ab b) Z Z:=by simp[au,h6]
 rw[<-W];refine bW (α:=Nat) (fun n=>⟨au [6,6] (ab b) Z ((6,.int .i64 (n:Int))::Z),Pf s y TS n,decide (0<n)⟩) (fun n=>y.length-n) (fun n=>n<=y.length) (.exit 0) _ _ _ (by simp) ?_ K 0 (by omega) (by omega);intro n hn1;clear W;subst hb;subst Q;by_cases I:n<y.length
 .left
  obtain⟨p,hp⟩:∃q,y[n]? =some q:=⟨y[n],GT I⟩
  obtain⟨q1,q2,q3⟩:=Z4 hp;obtain⟨x0,x1,y0,y1⟩:=H p (Lo hp);obtain⟨O,M⟩:=p;simp only at q1 q2 x0 x1 y0 y1;have S:(y.take (n+1)).map (fun p=>s.pt 1 p.1 p.2)=(y.take n).map (fun p=>s.pt 1 p.1 p.2)++[s.pt 1 O M]:=by rw[List.take_add_one,hp];simp
  have v1:IntKind.i8.wrap O=O:=VU (by omega) (by omega);have v2:IntKind.i8.wrap M=M:=VU (by omega) (by omega);have c1: -128<=O:=by omega
  have c2:O<=127:=by omega
  have c3: -128<=M:=by omega
  have c4:M<=127:=by omega
  have w1:IntKind.i64.wrap ((n:Int)+1)=((n+1:Nat):Int):=by rw[ai];omega
  obtain⟨P,R⟩:=xE ((y.take n).map (fun p=>s.pt 1 p.1 p.2));have u:P.length=n:=by rw[R,QQi,P3];omega
  obtain⟨z,hz⟩:=xE (s.pt 1 O M);rw[<-R,<-hz] at S;have X:pC (P++[z])=pC P++[.str (aB z.1),.str (aB z.2)]:=by rw[DK];rfl
  have j:=xX P;rw[u] at j;obtain⟨m,hm⟩:=xE (n+1);refine⟨m,?_⟩;by_cases W:n=0
  .subst W
   have hm1:m=1:=by omega
   subst hm1;have hP0:P=[]:=M0 u;rw[hP0] at S X;simp at S X;have w0:IntKind.i64.wrap 1=1:=rfl;simp[Pf,Zq,h1,h3,h5,I,q1,q2,v1,v2,c1,c2,c3,c4,w0,pU,<-hz,pA,-aJ,kK PP,mc,sT,zP,dm,G,D,C,B,A,S,X,O8,fQ,UT,kj,Zt,bZ,Nat.testBit];omega
  .have V:0<n:=by omega
   rw[<-hm] at w1 S;have Y:0<m:=by omega
   have hd1:decide (0<n)=true:=by simpa using V
   rw[Ds V,Ds Y,hd1,<-R,S,X];clear R S X;have g1:m*32<=140737488355328:=by omega
   have g2:n<=140737488355327:=by omega
   have g5:(Pf s y TS 0).length=5:=rfl;have g4:m<=140737488355328:=by omega
   have g3:(pC P).take (n*2)=pC P:=GE (by omega);simp[h1,h3,h5,I,q1,q2,v1,v2,c1,c2,c3,c4,w1,pU,<-hz,pA,-aJ,kK PP,mc,sT,zP,dm,G,D,C,B,A,j,Y,<-hm,g1,g4,g3,g5,DL,O8,fQ,fB,UT,kj,iH,bZ,Nat.testBit];omega
 .right
  have e:n=y.length:=by omega
  subst e;simp[h3,h5,h2]
theorem S5(k:Nat):0<(er k).length:=by unfold er;split<;>simp[sqI]
theorem Gk(k:Nat):(er k).length<=6:=by unfold er;split<;>simp[sqI]
theorem af8.ahl(s:af8):s.P.length=(er (s.kind%8)).length:=by simp[af8.P]
theorem IN(s:af8)(hs:s.Ok):kO prog 27 [s.av] [] (.agg [.slice 0 0 s.P.length none,.slice 1 0 s.T.length none]) [.cells true 2 (pC s.P),.cells true 3 (tC s.T)]:=by
 have B:aS prog 27=some f27:=by kernel_rfl
 have X:=S5 (s.kind%8);have A:=Gk (s.kind%8);obtain⟨b,J⟩:∃b,ag f27=[b]:=⟨_,rfl⟩
 obtain⟨F,V⟩:=Ct (K:=10) s (er (s.kind%8)) (bL (s.kind%8)) (Ni _ (Nat.mod_lt _ (by omega))) (by omega) (by omega) J;simp[ag,aH,f27] at J;subst J;have z:decide (0<(er (s.kind%8)).length)=true:=by simpa using X
 rw[Ds X,z,O1] at V;have G:=fun S h=>(V S h).1
 have O:=fun S h=>(V S h).2.1
 have M:=fun S h=>(V S h).2.2
 clear V;have D:Pf s (er (s.kind%8)) (bL (s.kind%8)) 0=[.cells true 0 [.int .u8 s.kind,.int .i8 s.sx,.int .i8 s.sy,.bool s.half],.cells true 0 [.y9,.y9],.cells true 2 (iP (er (s.kind%8))),.cells true 3 (tC (bL (s.kind%8))),.cells true 0 [.y9,.slice 3 0 (bL (s.kind%8)).length none]]:=rfl;rw[D] at G;rw[af8.ahl];unfold af8.P af8.T;obtain⟨C,Z⟩:=xE (er (s.kind%8));obtain⟨ST,W⟩:=xE (bL (s.kind%8));rw[<-Z,<-W] at G;rw[<-Z] at O M;rw[<-Z,<-W];have h:aa (aU prog) (fun _=>[6,6]) (aS prog) (pU s) 10 27 [s.av] []=some ⟨.agg [.slice 0 0 C.length none,.slice 1 0 ST.length none],some [],[.cells true 2 (pC (C.map fun p=>s.pt 1 p.1 p.2)),.cells true 3 (tC ST)]⟩:=by simp[aa,B,f27,af8.av,G,O,M,pU,<-Z,<-W,fQ,fB,kj,iH,bZ,aF];exact⟨rfl,rfl⟩
 have:=(ah ae (al _) (OA s hs) (ao _) h).1;simpa [afA.mem] using this
theorem NG(s:af8)(hs:s.Ok)(M:Mem):kO prog 27 [s.av] M (.agg [.slice M.length 0 s.P.length none,.slice (M.length+1) 0 s.T.length none]) (M++[.cells true 2 (pC s.P),.cells true 3 (tC s.T)]):=by have:=kO.frame (M:=M) (new:=[.cells true 2 (pC s.P),.cells true 3 (tC s.T)]) (args:=[s.av]) [] (m:=[]) rfl (by simp) (by rfl) (fun i s hs=>by simp at hs) rfl (IN s hs);simpa [AV.ren,AV.agd,eg,af6.ren,iH,kj,af8.av] using this
def jv(PS:List P2)(TS:List Tr)(cyc:List Nat):Bool:=
 decide PS.Nodup&&(PS.all fun p=>decide (p.1.num.natAbs<1000)&&decide (p.1.den<10)&&decide (p.2.num.natAbs<1000)&&decide (p.2.den<10))&&
  (TS.all fun t=>match PS[t.1]?,PS[t.2.1]?,PS[t.2.2]? with
   |some p,some q,some r=>decide (0<oB (dJ p q r))
   |_,_,_=>false)&&
  ((List.range cyc.length).all fun i=>decide (0<=oB (dJ (DN PS cyc i) (DN PS cyc (i+1)) (DN PS cyc (i+2)))))&&decide (mR PS cyc cyc.length=1)
def Xn(k:Nat)(u v:Int)(h:Bool):List P2:=
 (er k).map fun p=>(mkRat (p.1+u*(1:Nat)) ((if h then 2 else 1)*1),mkRat (p.2+v*(1:Nat)) ((if h then 2 else 1)*1))
theorem YK:((List.range 15).all fun a=>(List.range 15).all fun b=>[false,true].all fun h=>jv (Xn 0 ((a:Int)-7) ((b:Int)-7) h) (bL 0) (mW 0))=true:=by kernel_rfl
theorem YL:((List.range 15).all fun a=>(List.range 15).all fun b=>[false,true].all fun h=>jv (Xn 1 ((a:Int)-7) ((b:Int)-7) h) (bL 1) (mW 1))=true:=by kernel_rfl
theorem YM:((List.range 15).all fun a=>(List.range 15).all fun b=>[false,true].all fun h=>jv (Xn 2 ((a:Int)-7) ((b:Int)-7) h) (bL 2) (mW 2))=true:=by kernel_rfl
theorem YN:((List.range 15).all fun a=>(List.range 15).all fun b=>[false,true].all fun h=>jv (Xn 3 ((a:Int)-7) ((b:Int)-7) h) (bL 3) (mW 3))=true:=by kernel_rfl
theorem YO:((List.range 15).all fun a=>(List.range 15).all fun b=>[false,true].all fun h=>jv (Xn 4 ((a:Int)-7) ((b:Int)-7) h) (bL 4) (mW 4))=true:=by kernel_rfl
theorem YP:((List.range 15).all fun a=>(List.range 15).all fun b=>[false,true].all fun h=>jv (Xn 5 ((a:Int)-7) ((b:Int)-7) h) (bL 5) (mW 5))=true:=by kernel_rfl
theorem YQ:((List.range 15).all fun a=>(List.range 15).all fun b=>[false,true].all fun h=>jv (Xn 6 ((a:Int)-7) ((b:Int)-7) h) (bL 6) (mW 6))=true:=by kernel_rfl
theorem YR:((List.range 15).all fun a=>(List.range 15).all fun b=>[false,true].all fun h=>jv (Xn 7 ((a:Int)-7) ((b:Int)-7) h) (bL 7) (mW 7))=true:=by kernel_rfl
theorem S6(k:Nat)(hk:k<8):((List.range 15).all fun a=>(List.range 15).all fun b=>[false,true].all fun h=>jv (Xn k ((a:Int)-7) ((b:Int)-7) h) (bL k) (mW k))=true:=by
 have Z:k=0\/k=1\/k=2\/k=3\/k=4\/k=5\/k=6\/k=7:=by omega
 rcases Z with rfl | rfl | rfl | rfl | rfl | rfl | rfl | rfl
 .exact YK
 .exact YL
 .exact YM
 .exact YN
 .exact YO
 .exact YP
 .exact YQ
 .exact YR
theorem QB(s:af8):jv s.P s.T (mW (s.kind%8))=true:=by
 have Z:s.kind%8<8:=Nat.mod_lt _ (by omega);have h:=S6 (s.kind%8) Z;obtain⟨O,M⟩:=Tc s.sx;obtain⟨J,G⟩:=Tc s.sy;have X:=List.all_eq_true.1 h (s.sx.tmod 8+7).toNat (List.mem_range.2 (by omega));have W:=List.all_eq_true.1 X (s.sy.tmod 8+7).toNat (List.mem_range.2 (by omega));have h3:=List.all_eq_true.1 W s.half (by cases s.half<;>simp);have V:(((s.sx.tmod 8+7).toNat:Nat):Int)-7=s.sx.tmod 8:=by omega
 have S:(((s.sy.tmod 8+7).toNat:Nat):Int)-7=s.sy.tmod 8:=by omega
 rw[V,S] at h3;exact h3
def S4:List Tr->Int->List Sd
 | [],_=>[]
 |t::l,i=>((t.1,t.2.1),i)::((t.2.1,t.2.2),i)::((t.2.2,t.1),i)::S4 l (i+1)
theorem RQ:kO prog 160 [.agg [.slice 0 0 (er 0).length none,.slice 1 0 (bL 0).length none]] [.HS,.cells false 3 (tC (bL 0))] (.tuple [.map 2,.bool true]) ([.HS,.cells false 3 (tC (bL 0))]++[.map ((S4 (bL 0) 0).map sdE)]):=
 eh (lv:=ab) (K:=60) (n:=10) ae (al _) (ao _) (aj _) (by as_aux_lemma=>kernel_rfl)
theorem RR:kO prog 160 [.agg [.slice 0 0 (er 1).length none,.slice 1 0 (bL 1).length none]] [.HS,.cells false 3 (tC (bL 1))] (.tuple [.map 2,.bool true]) ([.HS,.cells false 3 (tC (bL 1))]++[.map ((S4 (bL 1) 0).map sdE)]):=
 eh (lv:=ab) (K:=60) (n:=10) ae (al _) (ao _) (aj _) (by as_aux_lemma=>kernel_rfl)
theorem RS:kO prog 160 [.agg [.slice 0 0 (er 2).length none,.slice 1 0 (bL 2).length none]] [.HS,.cells false 3 (tC (bL 2))] (.tuple [.map 2,.bool true]) ([.HS,.cells false 3 (tC (bL 2))]++[.map ((S4 (bL 2) 0).map sdE)]):=
 eh (lv:=ab) (K:=60) (n:=10) ae (al _) (ao _) (aj _) (by as_aux_lemma=>kernel_rfl)
theorem RT:kO prog 160 [.agg [.slice 0 0 (er 3).length none,.slice 1 0 (bL 3).length none]] [.HS,.cells false 3 (tC (bL 3))] (.tuple [.map 2,.bool true]) ([.HS,.cells false 3 (tC (bL 3))]++[.map ((S4 (bL 3) 0).map sdE)]):=
 eh (lv:=ab) (K:=60) (n:=10) ae (al _) (ao _) (aj _) (by as_aux_lemma=>kernel_rfl)
theorem RU:kO prog 160 [.agg [.slice 0 0 (er 4).length none,.slice 1 0 (bL 4).length none]] [.HS,.cells false 3 (tC (bL 4))] (.tuple [.map 2,.bool true]) ([.HS,.cells false 3 (tC (bL 4))]++[.map ((S4 (bL 4) 0).map sdE)]):=
 eh (lv:=ab) (K:=60) (n:=10) ae (al _) (ao _) (aj _) (by as_aux_lemma=>kernel_rfl)
theorem RV:kO prog 160 [.agg [.slice 0 0 (er 5).length none,.slice 1 0 (bL 5).length none]] [.HS,.cells false 3 (tC (bL 5))] (.tuple [.map 2,.bool true]) ([.HS,.cells false 3 (tC (bL 5))]++[.map ((S4 (bL 5) 0).map sdE)]):=
 eh (lv:=ab) (K:=60) (n:=10) ae (al _) (ao _) (aj _) (by as_aux_lemma=>kernel_rfl)
theorem RW:kO prog 160 [.agg [.slice 0 0 (er 6).length none,.slice 1 0 (bL 6).length none]] [.HS,.cells false 3 (tC (bL 6))] (.tuple [.map 2,.bool true]) ([.HS,.cells false 3 (tC (bL 6))]++[.map ((S4 (bL 6) 0).map sdE)]):=
 eh (lv:=ab) (K:=60) (n:=10) ae (al _) (ao _) (aj _) (by as_aux_lemma=>kernel_rfl)
theorem RX:kO prog 160 [.agg [.slice 0 0 (er 7).length none,.slice 1 0 (bL 7).length none]] [.HS,.cells false 3 (tC (bL 7))] (.tuple [.map 2,.bool true]) ([.HS,.cells false 3 (tC (bL 7))]++[.map ((S4 (bL 7) 0).map sdE)]):=
 eh (lv:=ab) (K:=60) (n:=10) ae (al _) (ao _) (aj _) (by as_aux_lemma=>kernel_rfl)
theorem Hu(k:Nat)(hk:k<8):kO prog 160 [.agg [.slice 0 0 (er k).length none,.slice 1 0 (bL k).length none]] [.HS,.cells false 3 (tC (bL k))] (.tuple [.map 2,.bool true]) ([.HS,.cells false 3 (tC (bL k))]++[.map ((S4 (bL k) 0).map sdE)]):=by
 have Z:k=0\/k=1\/k=2\/k=3\/k=4\/k=5\/k=6\/k=7:=by omega
 rcases Z with rfl | rfl | rfl | rfl | rfl | rfl | rfl | rfl
 .exact RQ
 .exact RR
 .exact RS
 .exact RT
 .exact RU
 .exact RV
 .exact RW
 .exact RX
theorem PB(k:Nat)(hk:k<8):wB (S4 (bL k) 0)=true/\C5 (ur (S4 (bL k) 0))=some ((mW k).map fun(n:Nat)=>(n:Int))/\(Nr (bL k)).length=(er k).length/\mW k≠[]/\(∀c∈mW k,c<(er k).length)/\bL k≠[]/\(bL k).length<=4/\(mW k).length<=6:=by
 have Z:k=0\/k=1\/k=2\/k=3\/k=4\/k=5\/k=6\/k=7:=by omega
 rcases Z with rfl | rfl | rfl | rfl | rfl | rfl | rfl | rfl<;>decide
theorem AT(s:af8):Whole s.P s.T (S4 s.T 0) (mW (s.kind%8)):=by
 have X:s.kind%8<8:=Nat.mod_lt _ (by omega);have h:=QB s;obtain⟨f1,f2,f3,f4,f5,f6,f7,f8⟩:=PB (s.kind%8) X;have Z:=af8.ahl s;have W:=Gk (s.kind%8);unfold jv at h;simp only[Es,L0] at h;obtain⟨⟨⟨⟨V,S⟩,h3⟩,O⟩,M⟩:=h;refine⟨fun p J=>?_,V,?_,f1,f2,by rw[Z];exact f3,⟨f4,by rw[Z];exact f5,fun i G=>?_,M⟩,fun t F=>?_,by omega,f6,by show(bL _).length<=800;omega,by omega⟩
 .have:=List.all_eq_true.1 S p J
  simp only[Es,L0] at this;obtain⟨⟨⟨D,C⟩,B⟩,A⟩:=this;have d1:dg 3 1 p.1:=⟨D,C⟩;have d2:dg 3 1 p.2:=⟨B,A⟩;exact⟨d1.mono (by omega) (by omega),d2.mono (by omega) (by omega)⟩
 .unfold CD
  rw[Z];exact Hu (s.kind%8) X
 .have:=List.all_eq_true.1 O i (List.mem_range.2 G)
  simpa using this
 .have:=List.all_eq_true.1 h3 t F
  unfold Z8;split at this
  .rename_i p q r z u m
   exact⟨p,q,r,z,u,m,by simpa using this⟩
  .cases this
theorem GF(s:af8):kO prog 59 [.agg [.slice 0 0 s.P.length none,.slice 1 0 s.T.length none]] [.cells false 2 (pC s.P),.cells false 3 (tC s.T)] (.int .i64 0) [.cells false 2 (pC s.P),.cells false 3 (tC s.T)]:=
 GD (AT s)
end Go.Proofs
