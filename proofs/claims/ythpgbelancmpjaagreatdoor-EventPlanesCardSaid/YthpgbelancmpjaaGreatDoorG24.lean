/- See G38. -/
import Derived.Test.YthpgbelancmpjaaGreatDoorG23
set_option linter.all false
set_option maxRecDepth 100000
set_option maxHeartbeats 40000000
namespace Go.Proofs
open Go.Eng
open Tryz
def uE(a:Nat):AV×AV:=(.int .i64 (a:Int),.bool true)
def XC(L:List Nat)(a:Nat):List Nat:=if a∈L then L else L++[a]
def Y8(L:List Nat)(t:Tr):List Nat:=XC (XC (XC L t.1) t.2.1) t.2.2
def MD(H:List Tr):List Nat:=H.foldl Y8 []
theorem Wd{α:Type}{l:List α}{i:Nat}{x:α}(h:l[i]? =some x):l.set i x=l:=by
 apply List.ext_getElem?;intro j;rw[List.getElem?_set];by_cases Z:i=j
 .subst Z
  rw[if_pos rfl,if_pos (gL h),h]
 .rw[if_neg Z]
theorem xG(a:Nat):∀(L:List Nat) (i:Nat),(a∉L->ke (aX prog) 3 (.int .i64 (a:Int)) (L.map uE) i=some none)/\(a∈L->∃q,ke (aX prog) 3 (.int .i64 (a:Int)) (L.map uE) i=some (some (i+q,.bool true))/\L[q]? =some a)
 | [],i=>⟨fun _=>rfl,fun h=>by cases h⟩
 |b::L,i=>by
  have e:lg (aX prog) 20 3 (.int .i64 (a:Int)) (.int .i64 (b:Int))=some (decide ((a:Int)=(b:Int))):=by simp[lg]
  simp only[List.map_cons,ke,uE,e];have Z:=xG a L (i+1);by_cases h:a=b
  .subst h
   simp only[decide_true];exact⟨fun h=>absurd (List.mem_cons_self ..) h,fun _=>⟨0,rfl,rfl⟩⟩
  .have X :¬((a:Int)=(b:Int)):=by omega
   simp only[X,decide_false];refine⟨fun V=>Z.1 (fun h2=>V (List.mem_cons_of_mem _ h2)),fun U=>?_⟩;rcases List.mem_cons.1 U with h2 | h2
   .exact absurd h2 h
   .obtain⟨q,S,R⟩:=Z.2 h2
    exact⟨q+1,by rw[S,show i+1+q=i+(q+1) by omega],by simpa using R⟩
theorem Sf(M:Mem)(b:Nat)(L:List Nat)(a:Nat)(H:M[b]? =some (.map (L.map uE))):fP (aX prog) M 228 (.map b) (.int .i64 (a:Int)) (.bool true)=some (M.set b (.map ((XC L a).map uE))):=by
 have Z:mA (aX prog) 20 3 (.int .i64 (a:Int))=true:=by simp[mA]
 unfold fP;rw[KV];simp only[H,Z,if_true];by_cases h:a∈L
 .obtain⟨q,X,V⟩:=(xG a L 0).2 h
  rw[X];have:XC L a=L:=if_pos h;rw[this,QQb];simp only[AV.agd,if_true];rw[show((.int .i64 (a:Int),.bool true):AV×AV)=uE a from rfl,Wd (l:=L.map uE) (i:=q) (x:=uE a) (by rw[QQJ,V];rfl)]
 .rw[(xG a L 0).1 h]
  have:XC L a=L++[a]:=if_neg h;rw[this];simp[uE]
theorem Ud(n:Nat):∀L:List Nat,(L.map uE).flatMap (fun e=>e.1.refs n++e.2.refs n)=[]
 | []=>rfl
 |p::N=>by simp[uE,AV.refs,Ud n N]
variable{TS:List Tr}{n:Nat}
theorem RW{t:Tr}(h:TS[n]? =some t):MD (TS.take (n+1))=Y8 (MD (TS.take n)) t:=by rw[List.take_add_one,h];simp[MD]
def wF(H:List P2)(TS:List Tr)(D:List (AV×AV))(L:List Nat):Mem:=[.cells false 2 (pC H),.cells false 3 (tC TS),msB H.length TS.length,.map D,.map (L.map uE)]
def BU(c:Code):List Nat:=if (aa c).contains 23 then [23] else [28]
variable{K:Nat}{b:Code}
theorem BV{O:y9}(H:List P2)(TS:List Tr)(D:List (AV×AV))(ZB:TS.length<=1000000000)(J:D.flatMap (fun e=>e.1.refs 5++e.2.refs 5)=[])(hK:TS.length<K+5){Y:Code}(I:ag f100=[b,Y]):
  ∃F:Env->Bool->Env,∀Z d,(ad Z 5=.map 4/\ad Z 21=.slice 1 0 TS.length none/\ad Z 22=.int .i64 TS.length/\ad Z 23=.int .i64 0/\ad Z 1=.ptr 2 0/\ad Z 3=.map 3)->
   aL (aX prog) BU O (K+5) 55 2 true (.loop b) ⟨Z,wF H TS D [],d⟩=some (.exit 0,⟨F Z d,wF H TS D (MD TS),d⟩)/\ad (F Z d) 1=.ptr 2 0/\ad (F Z d) 3=.map 3/\ad (F Z d) 5=.map 4:=by
 refine bj (L:=[23]) (by simp[ag,aE,f100] at I;rw[<-I.1];rfl) (fun Z=>ad Z 5=.map 4/\ad Z 21=.slice 1 0 TS.length none/\ad Z 22=.int .i64 TS.length/\ad Z 23=.int .i64 0/\ad Z 1=.ptr 2 0/\ad Z 3=.map 3) (fun _ U =>ad U 1=.ptr 2 0/\ad U 3=.map 3/\ad U 5=.map 4) ?_;rintro Z d ⟨h5,h21,h22,h23,h1,h3⟩;simp[ag,aE,f100] at I;obtain⟨I,-⟩:=I;have R:an [23] (aa b) Z ((23,.int .i64 ((0:Nat):Int))::Z)=an [23] (aa b) Z Z:=by simp[an,h23]
 rw[<-R];refine bI (α:=Nat) (fun n=>⟨an [23] (aa b) Z ((23,.int .i64 (n:Int))::Z),wF H TS D (MD (TS.take n)),d⟩) (fun n=>TS.length-n) (fun n=>n<=TS.length) (.exit 0) _ d _ (by simp) ?_ (K+5) 0 (by omega) (by omega);intro n j;clear R;subst I;by_cases S:n<TS.length
 .left
  obtain⟨t,N⟩:∃q,TS[n]? =some q:=⟨TS[n],G2 S⟩
  obtain⟨M,k2⟩:=Mx N;have X:=RW N;obtain⟨G,C,B⟩:=t;simp only[Y8] at M X;have w1:IntKind.i64.wrap ((n:Int)+1)=((n+1:Nat):Int):=by rw[af];omega
  obtain⟨m,hm⟩:=xE (n+1);rw[<-hm] at w1 X;obtain⟨L,o⟩:=xE (MD (TS.take n));rw[<-o] at X;rw[<-o];have v1:IntKind.i64.wrap 1=1:=rfl;have v2:IntKind.i64.wrap 2=2:=rfl;have v3:IntKind.i64.wrap 3=3:=rfl;have v2' :IntKind.i64.wrap (1+1)=2:=rfl;have v3' :IntKind.i64.wrap (2+1)=3:=rfl;have u:∀(V :List Nat) (a:Nat),fP (aX prog) [.cells false 2 (pC H),.cells false 3 (tC TS),.cells true 0 [.slice 0 0 H.length none,.slice 1 0 TS.length none],.map D,.map (V.map uE),.cells true 0 [.int .i64 (G:Int),.int .i64 (C:Int),.int .i64 (B:Int)]] 228 (.map 4) (.int .i64 (a:Int)) (.bool true)=
    some [.cells false 2 (pC H),.cells false 3 (tC TS),.cells true 0 [.slice 0 0 H.length none,.slice 1 0 TS.length none],.map D,.map ((XC V a).map uE),.cells true 0 [.int .i64 (G:Int),.int .i64 (C:Int),.int .i64 (B:Int)]]:=fun V a=>Sf _ 4 V a rfl
  refine⟨m,?_⟩;simp[wF,h5,h21,h22,S,M,k2,aM,fj,v1,v2,v3,BU,u,J,X,msB,vv,sH,Ud,w1];omega
 .right
  have e:TS.take n=TS:=B5 (by omega);rw[e];have Zt :¬(n:Int)<TS.length:=by omega
  simp[h22,h1,h3,h5,S]
theorem Xm(f:Nat->Option Nat)(H:List Sd):(H.map sdE).map (fun e=>(e.1.ren f,e.2.ren f))=H.map sdE:=by rw[List.map_map];exact List.map_congr_left fun s _=>OL f s
theorem Wc(f:Nat->Option Nat)(H:List Sd):H.map ((fun(e:AV×AV)=>(e.1.ren f,e.2.ren f))∘sdE)=H.map sdE:=
 List.map_congr_left fun s _=>OL f s
def BC(I:List P2)(TS:List Tr)(H:List Sd):Prop:=
 kO prog 180 [.agg [.slice 0 0 I.length none,.slice 1 0 TS.length none]] [.qK,.cells false 3 (tC TS)] (.tuple [.map 2,.bool true]) ([.qK,.cells false 3 (tC TS)]++[.map (H.map sdE)])
structure Tryz.Whole (PS:List P2)(TS:List Tr)(sds:List Sd)(cyc:List Nat):Prop where
 dg:∀p∈PS,pDg 200 p
 nodup:PS.Nodup
 aib:BC PS TS sds
 outer:vt sds=true
 cy:Cf (tG sds)=some (cyc.map fun(n:Nat)=>(n:Int))
 used:(MD TS).length=PS.length
 once:TW PS cyc
 tr:∀t∈TS,Y6 PS t
 len:PS.length<=400
 aic:TS≠[]
 ah4:TS.length<=800
 aid:cyc.length<=1000000
open Classical in
noncomputable def AG(J:List P2)(TS:List Tr)(I:List Sd)(H:List Nat):y9:=fun c Z M=>match c,Z with
 |.fn 180,[.agg [.slice b 0 n none,.slice c 0 k none]]=>if n=J.length/\k=TS.length/\b<M.length/\(∃o,M[c]? =some (.cells o 3 (tC TS))) then some ⟨.tuple [.map M.length,.bool true],none,[.map (I.map sdE)]⟩ else none
 |.fn 181,[.agg [.slice b 0 _ none,.slice c 0 _ none],.map q]=>if b<M.length/\c<M.length/\RB M q=some (I.map sdE) then some ⟨.tuple [.slice M.length 0 H.length none,.bool true],none,[.cells true 1 (cZ H)]⟩ else none
 |.fn 182,[.agg [.slice b 0 n none,.slice c 0 _ none],.slice q 0 l none]=>if n=J.length/\l=H.length/\c<M.length/\(∃o,M[b]? =some (.cells o 2 (pC J)))/\(∃o,M[q]? =some (.cells o 1 (cZ H))) then some ⟨.bool true,none,[]⟩ else none
 |_,_=>none
theorem Li:∀Z:List Nat,AV.afr (cZ Z)=true
 | []=>rfl
 |c::l=>by have:=Li l;simp only[cZ] at this;simp[cZ,AV.afr,AV.closed,this]
theorem YS(H:List Nat):iZ (H.map fun(n:Nat)=>(n:Int))=cZ H:=by simp[iZ,cZ]
theorem gp{M:Mem}{b:Nat}{s:afq}(h:M[b]? =some s):b<M.length:=gL h
variable{PS:List P2}{cyc:List Nat}{sds:List Sd}
section
variable (hw:Whole PS TS sds cyc)
include hw
theorem N3:qS prog (AG PS TS sds cyc):=by
 refine cw fun c V M r h=>?_
 unfold AG at h;split at h
 .rename_i b n c k
  split at h
  .rename_i U
   obtain⟨rfl,rfl,O,o,X⟩:=U;cases h;refine au ?_;have:=kO.frame (M:=M) (new:=[.map (sds.map sdE)]) [b,c] (m:=[.qK,.cells false 3 (tC TS)]) rfl (by
    intro k S;simp only[lM] at S;rcases S with rfl | rfl
    .exact O
    .exact gp X) (by rfl) (fun i s Z=>by
    match i with
    |0=>simp at Z;subst Z;trivial
    |1=>simp at Z;subst Z;exact cH (fY TS) X (P1)
    |i+2=>simp at Z) rfl hw.aib
   simpa [AV.afI,AV.ren,fA,afq.ren,Xm,Wc] using this
  .cases h
 .rename_i b n c k q
  split at h
  .rename_i U
   obtain⟨O,N,X⟩:=U;cases h;refine au ?_;have:=yF M sds (cyc.map fun(n:Nat)=>(n:Int)) q b c n k O N X hw.outer hw.cy;rw[YS,QXf] at this;exact this
  .cases h
 .rename_i b n c k q l
  split at h
  .rename_i U
   obtain⟨rfl,rfl,N,⟨o,X⟩,⟨L,R⟩⟩:=U;cases h;refine au ?_;have:=kO.frame (M:=M) (new:=[]) (args:=[.agg [.slice 0 0 PS.length none,.slice 1 0 k none],.slice 2 0 cyc.length none]) [b,c,q] (m:=[.cells false 2 (pC PS),.qK,.cells false 1 (cZ cyc)]) rfl (by
    intro k S;simp only[lM] at S;rcases S with rfl | rfl | rfl
    .exact gp X
    .exact N
    .exact gp R) (by rfl) (fun i s Z=>by
    match i with
    |0=>simp at Z;subst Z;exact cH (ea PS) X (P1)
    |1=>simp at Z;subst Z;trivial
    |2=>simp at Z;subst Z;exact cH (Li cyc) R (P1)
    |i+3=>simp at Z) rfl (by simpa using MR PS k cyc hw.dg hw.once hw.aid)
   simpa [AV.afI,AV.ren,fA] using this
  .cases h
 .cases h
theorem HP:
  kO prog 100 [.agg [.slice 0 0 PS.length none,.slice 1 0 TS.length none]] [.cells false 2 (pC PS),.cells false 3 (tC TS)] (.bool true) [.cells false 2 (pC PS),.cells false 3 (tC TS)]:=by
 have L:aZ prog 100=some f100:=by kernel_rfl
 have C:=hw.len;have B:=hw.ah4;obtain⟨b,N,V⟩:∃b N,ag f100=[b,N]:=⟨_,_,rfl⟩
 obtain⟨K,u⟩:=xE TS.length;obtain⟨F,X⟩:=BV (O:=AG PS TS sds cyc) (K:=K) PS TS (sds.map sdE) (by omega) (sw 5 sds) (by omega) V;simp[ag,aE,f100] at V;obtain⟨rfl,rfl⟩:=V;have M:=fun Z d h=>(X Z d h).1
 have U:=fun Z d h=>(X Z d h).2.1
 have S:=fun Z d h=>(X Z d h).2.2.1
 have R:=fun Z d h=>(X Z d h).2.2.2
 clear X;have G:=hw.used;refine dv (lv:=BU) (K:=(K+5)) (N3 hw) ?_;simp only[wF,List.map_nil,msB] at M;simp[ae,L,f100,M,U,S,R,AG,RB,G]
theorem NJ:qS prog (pj PS TS):=by
 refine cw fun c Z M r h=>?_
 unfold pj at h;split at h
 .rename_i b n c k
  split at h
  .rename_i R
   obtain⟨rfl,rfl,⟨o,U⟩,⟨O,X⟩⟩:=R;cases h;refine au ?_;have:=kO.frame (M:=M) (new:=[]) (args:=[.agg [.slice 0 0 PS.length none,.slice 1 0 TS.length none]]) [b,c] (m:=[.cells false 2 (pC PS),.cells false 3 (tC TS)]) rfl (by
    intro k S;simp only[lM] at S;rcases S with rfl | rfl
    .exact gp U
    .exact gp X) (by rfl) (fun i s V=>by
    match i with
    |0=>simp at V;subst V;exact cH (ea PS) U (P1)
    |1=>simp at V;subst V;exact cH (fY TS) X (P1)
    |i+2=>simp at V) rfl (by simpa using HP hw)
   simpa [AV.afI,AV.ren,fA] using this
  .cases h
 .exact ee Bw h
theorem Ft:
  kO prog 46 [.agg [.slice 0 0 PS.length none,.slice 1 0 TS.length none]] [.cells false 2 (pC PS),.cells false 3 (tC TS)] (.int .i64 0) [.cells false 2 (pC PS),.cells false 3 (tC TS)]:=by
 have u:aZ prog 46=some f46:=by kernel_rfl
 have J:=hw.len;have I:=hw.ah4;have o:0<TS.length:=by have:=hw.aic;cases TS with | nil=>exact absurd rfl this | cons a l=>simp
 obtain⟨N,M,L,G,C,V⟩:∃N M L G C,ag f46=[N,M,L,G,C]:=⟨_,_,_,_,_,rfl⟩
 obtain⟨K,H⟩:=xE (PS.length+TS.length);obtain⟨F,U⟩:=xM (K:=K+5) PS TS hw.dg hw.nodup (by omega) (by omega) V;obtain⟨F2,S⟩:=xN (K:=K) PS TS (PS.map pmE) hw.dg hw.tr (by omega) (by omega) (Hj 4 PS) (by omega) V;simp[ag,aE,f46] at V;obtain⟨rfl,rfl,rfl,rfl,rfl⟩:=V;have B:=fun Z d h=>(U Z d h).1
 have X:=fun Z d h=>(S Z d h).1
 have R:=fun Z d h=>(U Z d h).2
 have O:=fun Z d h=>(S Z d h).2
 clear U S;have m:¬(800:Int)<TS.length:=by omega
 have j:¬(400:Int)<PS.length:=by omega
 have n3:¬800<TS.length:=by omega
 have n4:¬400<PS.length:=by omega
 have Y:¬TS.length=0:=by omega
 have n6:¬(TS.length:Int)=0:=by omega
 refine dv (lv:=v8) (K:=(K+5)) (NJ hw) ?_;simp only[msB] at B X;simp[ae,u,f46,B,X,R,O,pj,m,j,Y]
end
noncomputable def AE(f:FuncId)(args:List AV):Option AV:=
 match f,args with
 |88,[.int .i64 n,.int .i64 d]=>if 0<d/\dY n=true/\dY d=true then some (.tuple [.str (aq (mkRat n d.toNat)),.int .i64 0]) else none
 |_,_=>none
theorem QP:qS prog (ah AE):=bM fun f Z v h mem=>by
 unfold AE at h;split at h
 .rename_i n d
  split at h
  .rename_i X
   cases h;have:=HR n d.toNat (by omega) X.2.1 (by rw[QQi (by omega)];exact X.2.2) mem;rw[QQi (by omega)] at this;exact this
  .cases h
 .cases h
theorem pJ{n:Int}(h0: -1000000<=n)(h1:n<=1000000):dY n=true:=by unfold dY;simp;omega
theorem gT{n:Int}(h0: -1000000<=n)(h1:n<=1000000):IntKind.i64.wrap n=n:=by rw[af]
theorem HK(s:afv)(hs:s.Ok)(x y:Int)(H: -128<=x)(I:x<=127)(J: -128<=y)(Y:y<=127)(k:Nat)(hk:k=1\/k=2)(M:Mem):
  kO prog 34 [s.av,.agg [.int .i8 x,.int .i8 y],.int .i64 (k:Int)] M (pA (s.pt k x y)) M:=by
 have R:aZ prog 34=some f34:=by kernel_rfl
 obtain⟨kd,O,N,L⟩:=s;have o:=RU O;have m:=RU N;unfold afv.av afv.pt;simp only;obtain⟨u,Z⟩:=xE (O.tmod 8);obtain⟨v,X⟩:=xE (N.tmod 8);rw[<-Z] at o |-;rw[<-X] at m |-;refine aA QP ?_ M;have G:IntKind.i64.wrap x=x:=gT (by omega) (by omega);have F:IntKind.i64.wrap y=y:=gT (by omega) (by omega);have C:IntKind.i64.wrap u=u:=gT (by omega) (by omega);have B:IntKind.i64.wrap v=v:=gT (by omega) (by omega);rcases hk with rfl | rfl
 .have V:IntKind.i64.wrap (x+u)=x+u:=gT (by omega) (by omega)
  have U:IntKind.i64.wrap (y+v)=y+v:=gT (by omega) (by omega);have j:IntKind.i64.wrap 1=1:=rfl;have S:IntKind.i64.wrap 2=2:=rfl;have f1:dY (x+u)=true:=pJ (by omega) (by omega);have f2:dY (y+v)=true:=pJ (by omega) (by omega);have f3:dY 1=true:=rfl;have f4:dY 2=true:=rfl;cases L<;>simp[ae,R,f34,ah,AE,<-Z,<-X,G,F,C,B,V,U,j,S,f1,f2,f3,f4,cj,aH,pA]
 .have V:IntKind.i64.wrap (x+u*2)=x+u*2:=gT (by omega) (by omega)
  have U:IntKind.i64.wrap (y+v*2)=y+v*2:=gT (by omega) (by omega);have c1:IntKind.i64.wrap (u*2)=u*2:=gT (by omega) (by omega);have c2:IntKind.i64.wrap (v*2)=v*2:=gT (by omega) (by omega);have S:IntKind.i64.wrap 2=2:=rfl;have b4:IntKind.i64.wrap 4=4:=rfl;have f1:dY (x+u*2)=true:=pJ (by omega) (by omega);have f2:dY (y+v*2)=true:=pJ (by omega) (by omega);have f3:dY 2=true:=rfl;have f4:dY 4=true:=rfl;cases L<;>simp[ae,R,f34,ah,AE,<-Z,<-X,G,F,C,B,V,U,c1,c2,S,b4,f1,f2,f3,f4,cj,aH,pA]
theorem Fs(k:Nat)(H:k<256):kO prog 33 [.int .u8 (k:Int)] [] (.tuple [.slice 0 0 (ef (k%8)).length none,.slice 1 0 (bY (k%8)).length none]) [.cells true 2 (iP (ef (k%8))),.cells true 3 (tC (bY (k%8)))]:=by
 have S:aZ prog 33=some f33:=by kernel_rfl
 have X:(k:Int).tmod 8=((k%8:Nat):Int):=rfl;have V:k%8<8:=Nat.mod_lt _ (by omega);obtain⟨j,U⟩:=xE (k%8);rw[<-U] at X V |-;have h:ae (aX prog) (fun _=>[]) (aZ prog) cO 1 33 [.int .u8 (k:Int)] []=some ⟨.tuple [.slice 0 0 (ef j).length none,.slice 1 0 (bY j).length none],none,[.cells true 2 (iP (ef j)),.cells true 3 (tC (bY j))]⟩:=by
  have Z:j=0\/j=1\/j=2\/j=3\/j=4\/j=5\/j=6\/j=7:=by omega
  clear V U;rcases Z with rfl | rfl | rfl | rfl | rfl | rfl | rfl | rfl<;>simp[ae,S,f33,X,ef,bY,sqI,iP,tC,cj]<;>exact⟨rfl,rfl⟩
 have:=(aB aj (aI _) (az _) (aQ _) h).1;simpa [afl.mem] using this
theorem HL(k:Nat)(H:k<256)(M:Mem):kO prog 33 [.int .u8 (k:Int)] M (.tuple [.slice M.length 0 (ef (k%8)).length none,.slice (M.length+1) 0 (bY (k%8)).length none]) (M++[.cells true 2 (iP (ef (k%8))),.cells true 3 (tC (bY (k%8)))]):=by have:=kO.frame (M:=M) (new:=[.cells true 2 (iP (ef (k%8))),.cells true 3 (tC (bY (k%8)))]) (args:=[.int .u8 (k:Int)]) [] (m:=[]) rfl (by simp) (by rfl) (fun i s Z=>by simp at Z) rfl (Fs k H);simpa [AV.ren,AV.afI,fA,afq.ren,Tw,Mz] using this
noncomputable def ph(s:afv):y9:=fun c Z M=>match c,Z with
 |.fn 33,[.int .u8 k]=>if k=(s.kind:Int) then some ⟨.tuple [.slice M.length 0 (ef (s.kind%8)).length none,.slice (M.length+1) 0 (bY (s.kind%8)).length none],none,[.cells true 2 (iP (ef (s.kind%8))),.cells true 3 (tC (bY (s.kind%8)))]⟩ else none
 |.fn 34,[.agg [.int .u8 k,.int .i8 sx,.int .i8 sy,.bool h],.agg [.int .i8 x,.int .i8 y],.int .i64 n]=>if k=(s.kind:Int)/\sx=s.sx/\sy=s.sy/\h=s.half/\ -128<=x/\x<=127/\ -128<=y/\y<=127/\n=1 then some ⟨pA (s.pt 1 x y),none,[]⟩ else none
 |_,_=>none
theorem NF(s:afv)(hs:s.Ok):qS prog (ph s):=by
 refine cw fun c X M r h=>?_
 unfold ph at h;split at h
 .split at h
  .rename_i Z
   subst Z;cases h;exact au (HL s.kind hs.kind M)
  .cases h
 .split at h
  .rename_i Z
   obtain⟨rfl,rfl,rfl,rfl,V,U,h3,S,rfl⟩:=Z;cases h;refine au ?_;rw[List.append_nil];exact HK s hs _ _ V U h3 S 1 (.inl rfl) M
  .cases h
 .cases h
def Uo(L:List (Int×Int)):Prop:=∀p∈L,0<=p.1/\p.1<=6/\0<=p.2/\p.2<=6
theorem Mt(k:Nat)(H:k<8):Uo (ef k):=by
 have Z:k=0\/k=1\/k=2\/k=3\/k=4\/k=5\/k=6\/k=7:=by omega
 rcases Z with rfl | rfl | rfl | rfl | rfl | rfl | rfl | rfl<;>(unfold Uo;decide)
def Ym(n:Nat):AV:=match n with
 |0=>.qF
 |n+1=>.slice 5 0 (n+1) none
def Ou(s:afv)(H:List (Int×Int))(TS:List Tr)(n:Nat):Mem:=
 [.cells true 0 [.int .u8 s.kind,.int .i8 s.sx,.int .i8 s.sy,.bool s.half],.cells true 0 [.qF,.qF],.cells true 2 (iP H),.cells true 3 (tC TS),.cells true 0 [Ym n,.slice 3 0 TS.length none]]++
  (match n with
  |0=>[]
  |n+1=>[.cells true 2 (pC ((H.take (n+1)).map fun p=>s.pt 1 p.1 p.2))])
theorem CA{s:afv}{H:List (Int×Int)}(h:0<n):Ou s H TS n=
  [.cells true 0 [.int .u8 s.kind,.int .i8 s.sx,.int .i8 s.sy,.bool s.half],.cells true 0 [.qF,.qF],.cells true 2 (iP H),.cells true 3 (tC TS),.cells true 0 [.slice 5 0 n none,.slice 3 0 TS.length none],.cells true 2 (pC ((H.take n).map fun p=>s.pt 1 p.1 p.2))]:=by
 cases n with
 |zero=>omega
 |succ n=>rfl
theorem Bu(s:afv)(H:List (Int×Int))(TS:List Tr)(I:Uo H)(hl:H.length<=1000000)(hK:H.length<K)(hb:ag f8=[b]):
  ∃F:Env->Env,∀Z,(ad Z 1=.ptr 0 0/\ad Z 3=.slice 2 0 H.length none/\ad Z 5=.ptr 4 0/\ad Z 6=.int .i64 0/\ad Z 2=.ptr 1 0)->
   aL (aX prog) (fun _=>[6,6]) (ph s) K 42 0 true (.loop b) ⟨Z,Ou s H TS 0,false⟩=some (.exit 0,⟨F Z,Ou s H TS H.length,decide (0<H.length)⟩)/\ad (F Z) 5=.ptr 4 0/\ad (F Z) 2=.ptr 1 0:=by
 refine vj (L:=[6,6]) rfl false _ (fun Z=>ad Z 1=.ptr 0 0/\ad Z 3=.slice 2 0 H.length none/\ad Z 5=.ptr 4 0/\ad Z 6=.int .i64 0/\ad Z 2=.ptr 1 0) (fun _ D' =>ad D' 5=.ptr 4 0/\ad D' 2=.ptr 1 0) ?_;rintro Z ⟨h1,h3,h5,h6,h2⟩;obtain⟨O,F'⟩:∃O,aJ f8=[O]:=⟨_,rfl⟩
 have X':=nS F' (l:=[0,1,0,0,0,24,56,120,248,0,0,1536,3584,7680,15872,32760,65532,131068,262143,524287,1048575]) (by kernel_rfl);have N:Lf [0,1,0,0,0,24,56,120,248,0,0,1536,3584,7680,15872,32760,65532,131068,262143,524287,1048575] 21 17=true:=by decide
 have M:Lf [0,1,0,0,0,24,56,120,248,0,0,1536,3584,7680,15872,32760,65532,131068,262143,524287,1048575] 21 18=true:=by decide
 have G:Lf [0,1,0,0,0,24,56,120,248,0,0,1536,3584,7680,15872,32760,65532,131068,262143,524287,1048575] 21 20=true:=by decide
 have C:fu [0,1,0,0,0,24,56,120,248,0,0,1536,3584,7680,15872,32760,65532,131068,262143,524287,1048575] 18=true:=by decide
 have B:fu [0,1,0,0,0,24,56,120,248,0,0,1536,3584,7680,15872,32760,65532,131068,262143,524287,1048575] 20=true:=by decide
 simp[aJ,cB,f8] at F';simp[ag,aE,f8] at hb;have Y:an [6,6] (aa b) Z ((6,.int .i64 ((0:Nat):Int))::Z)=an [6,6] (aa b) Z Z:=by simp[an,h6]
 rw[<-Y];refine bI (α:=Nat) (fun n=>⟨an [6,6] (aa b) Z ((6,.int .i64 (n:Int))::Z),Ou s H TS n,decide (0<n)⟩) (fun n=>H.length-n) (fun n=>n<=H.length) (.exit 0) _ _ _ (by simp) ?_ K 0 (by omega) (by omega);intro n hn1;clear Y;subst hb;subst F';by_cases FS:n<H.length
 .left
  obtain⟨p,hp⟩:∃q,H[n]? =some q:=⟨H[n],G2 FS⟩
  obtain⟨q1,q2,q3⟩:=YZ hp;obtain⟨x0,x1,y0,y1⟩:=I p (J1 hp);obtain⟨S,R⟩:=p;simp only at q1 q2 x0 x1 y0 y1;have U:(H.take (n+1)).map (fun p=>s.pt 1 p.1 p.2)=(H.take n).map (fun p=>s.pt 1 p.1 p.2)++[s.pt 1 S R]:=by rw[List.take_add_one,hp];simp
  have v1:IntKind.i8.wrap S=S:=Uz (by omega) (by omega);have v2:IntKind.i8.wrap R=R:=Uz (by omega) (by omega);have c1: -128<=S:=by omega
  have c2:S<=127:=by omega
  have c3: -128<=R:=by omega
  have c4:R<=127:=by omega
  have w1:IntKind.i64.wrap ((n:Int)+1)=((n+1:Nat):Int):=by rw[af];omega
  obtain⟨P,J⟩:=xE ((H.take n).map (fun p=>s.pt 1 p.1 p.2));have u:P.length=n:=by rw[J,QXf,SP];omega
  obtain⟨z,hz⟩:=xE (s.pt 1 S R);rw[<-J,<-hz] at U;have X:pC (P++[z])=pC P++[.str (aq z.1),.str (aq z.2)]:=by rw[Md];rfl
  have o:=CS P;rw[u] at o;obtain⟨m,hm⟩:=xE (n+1);refine⟨m,?_⟩;by_cases Y:n=0
  .subst Y
   have ZA:m=1:=by omega
   subst ZA;have hP0:P=[]:=Mp u;rw[hP0] at U X;simp at U X;have w0:IntKind.i64.wrap 1=1:=rfl;simp[Ou,Ym,h1,h3,h5,FS,q1,q2,v1,v2,c1,c2,c3,c4,w0,ph,<-hz,pA,-aR,De X',xf,CF,Ps,dR,N,M,G,C,B,U,X,Om,sH,Tw,Mz,Yq,cj,Nat.testBit];omega
  .have V:0<n:=by omega
   rw[<-hm] at w1 U;have j:0<m:=by omega
   have hd1:decide (0<n)=true:=by simpa using V
   rw[CA V,CA j,hd1,<-J,U,X];clear J U X;have g1:m*32<=140737488355328:=by omega
   have g2:n<=140737488355327:=by omega
   have g5:(Ou s H TS 0).length=5:=rfl;have g4:m<=140737488355328:=by omega
   have g3:(pC P).take (n*2)=pC P:=B5 (by omega);simp[h1,h3,h5,FS,q1,q2,v1,v2,c1,c2,c3,c4,w1,ph,<-hz,pA,-aR,De X',xf,CF,Ps,dR,N,M,G,C,B,o,j,<-hm,g1,g4,g3,g5,T1,Om,sH,vv,Tw,Mz,Pz,cj,Nat.testBit];omega
 .right
  have e:n=H.length:=by omega
  subst e;simp[h3,h5,h2]
theorem RP(k:Nat):0<(ef k).length:=by unfold ef;split<;>simp[sqI]
theorem Ff(k:Nat):(ef k).length<=6:=by unfold ef;split<;>simp[sqI]
theorem afv.agF(s:afv):s.P.length=(ef (s.kind%8)).length:=by simp[afv.P]
theorem HI(s:afv)(hs:s.Ok):kO prog 8 [s.av] [] (.agg [.slice 0 0 s.P.length none,.slice 1 0 s.T.length none]) [.cells true 2 (pC s.P),.cells true 3 (tC s.T)]:=by
 have G:aZ prog 8=some f8:=by kernel_rfl
 have X:=RP (s.kind%8);have u:=Ff (s.kind%8);obtain⟨b,N⟩:∃b,ag f8=[b]:=⟨_,rfl⟩
 obtain⟨F,U⟩:=Bu (K:=10) s (ef (s.kind%8)) (bY (s.kind%8)) (Mt _ (Nat.mod_lt _ (by omega))) (by omega) (by omega) N;simp[ag,aE,f8] at N;subst N;have C:decide (0<(ef (s.kind%8)).length)=true:=by simpa using X
 rw[CA X,C,P1] at U;have M:=fun S h=>(U S h).1
 have R:=fun S h=>(U S h).2.1
 have O:=fun S h=>(U S h).2.2
 clear U;have B:Ou s (ef (s.kind%8)) (bY (s.kind%8)) 0=[.cells true 0 [.int .u8 s.kind,.int .i8 s.sx,.int .i8 s.sy,.bool s.half],.cells true 0 [.qF,.qF],.cells true 2 (iP (ef (s.kind%8))),.cells true 3 (tC (bY (s.kind%8))),.cells true 0 [.qF,.slice 3 0 (bY (s.kind%8)).length none]]:=rfl;rw[B] at M;rw[afv.agF];unfold afv.P afv.T;obtain⟨L,Z⟩:=xE (ef (s.kind%8));obtain⟨ST,V⟩:=xE (bY (s.kind%8));rw[<-Z,<-V] at M;rw[<-Z] at R O;rw[<-Z,<-V];have h:ae (aX prog) (fun _=>[6,6]) (aZ prog) (ph s) 10 8 [s.av] []=some ⟨.agg [.slice 0 0 L.length none,.slice 1 0 ST.length none],some [],[.cells true 2 (pC (L.map fun p=>s.pt 1 p.1 p.2)),.cells true 3 (tC ST)]⟩:=by simp[ae,G,f8,afv.av,M,R,O,ph,<-Z,<-V,sH,vv,Mz,Pz,cj,aH];exact⟨rfl,rfl⟩
 have:=(aB aj (aI _) (NF s hs) (aQ _) h).1;simpa [afl.mem] using this
theorem ML(s:afv)(hs:s.Ok)(M:Mem):kO prog 8 [s.av] M (.agg [.slice M.length 0 s.P.length none,.slice (M.length+1) 0 s.T.length none]) (M++[.cells true 2 (pC s.P),.cells true 3 (tC s.T)]):=by have:=kO.frame (M:=M) (new:=[.cells true 2 (pC s.P),.cells true 3 (tC s.T)]) (args:=[s.av]) [] (m:=[]) rfl (by simp) (by rfl) (fun i s hs=>by simp at hs) rfl (HI s hs);simpa [AV.ren,AV.afI,fA,afq.ren,Pz,Mz,afv.av] using this
def ja(PS:List P2)(TS:List Tr)(cyc:List Nat):Bool:=
 decide PS.Nodup&&(PS.all fun p=>decide (p.1.num.natAbs<1000)&&decide (p.1.den<10)&&decide (p.2.num.natAbs<1000)&&decide (p.2.den<10))&&
  (TS.all fun t=>match PS[t.1]?,PS[t.2.1]?,PS[t.2.2]? with
   |some p,some q,some r=>decide (0<ga (bD p q r))
   |_,_,_=>false)&&
  ((List.range cyc.length).all fun i=>decide (0<=ga (bD (CU PS cyc i) (CU PS cyc (i+1)) (CU PS cyc (i+2)))))&&decide (mj PS cyc cyc.length=1)
def V7(k:Nat)(u v:Int)(h:Bool):List P2:=
 (ef k).map fun p=>(mkRat (p.1+u*(1:Nat)) ((if h then 2 else 1)*1),mkRat (p.2+v*(1:Nat)) ((if h then 2 else 1)*1))
theorem Xp:((List.range 15).all fun a=>(List.range 15).all fun b=>[false,true].all fun h=>ja (V7 0 ((a:Int)-7) ((b:Int)-7) h) (bY 0) (ml 0))=true:=by kernel_rfl
theorem Xq:((List.range 15).all fun a=>(List.range 15).all fun b=>[false,true].all fun h=>ja (V7 1 ((a:Int)-7) ((b:Int)-7) h) (bY 1) (ml 1))=true:=by kernel_rfl
theorem Xr:((List.range 15).all fun a=>(List.range 15).all fun b=>[false,true].all fun h=>ja (V7 2 ((a:Int)-7) ((b:Int)-7) h) (bY 2) (ml 2))=true:=by kernel_rfl
theorem Xt:((List.range 15).all fun a=>(List.range 15).all fun b=>[false,true].all fun h=>ja (V7 3 ((a:Int)-7) ((b:Int)-7) h) (bY 3) (ml 3))=true:=by kernel_rfl
theorem Xu:((List.range 15).all fun a=>(List.range 15).all fun b=>[false,true].all fun h=>ja (V7 4 ((a:Int)-7) ((b:Int)-7) h) (bY 4) (ml 4))=true:=by kernel_rfl
theorem Xv:((List.range 15).all fun a=>(List.range 15).all fun b=>[false,true].all fun h=>ja (V7 5 ((a:Int)-7) ((b:Int)-7) h) (bY 5) (ml 5))=true:=by kernel_rfl
theorem Xw:((List.range 15).all fun a=>(List.range 15).all fun b=>[false,true].all fun h=>ja (V7 6 ((a:Int)-7) ((b:Int)-7) h) (bY 6) (ml 6))=true:=by kernel_rfl
theorem Xx:((List.range 15).all fun a=>(List.range 15).all fun b=>[false,true].all fun h=>ja (V7 7 ((a:Int)-7) ((b:Int)-7) h) (bY 7) (ml 7))=true:=by kernel_rfl
theorem RQ(k:Nat)(H:k<8):((List.range 15).all fun a=>(List.range 15).all fun b=>[false,true].all fun h=>ja (V7 k ((a:Int)-7) ((b:Int)-7) h) (bY k) (ml k))=true:=by
 have Z:k=0\/k=1\/k=2\/k=3\/k=4\/k=5\/k=6\/k=7:=by omega
 rcases Z with rfl | rfl | rfl | rfl | rfl | rfl | rfl | rfl
 .exact Xp
 .exact Xq
 .exact Xr
 .exact Xt
 .exact Xu
 .exact Xv
 .exact Xw
 .exact Xx
theorem PG(s:afv):ja s.P s.T (ml (s.kind%8))=true:=by
 have Z:s.kind%8<8:=Nat.mod_lt _ (by omega);have h:=RQ (s.kind%8) Z;obtain⟨R,O⟩:=RU s.sx;obtain⟨v0,N⟩:=RU s.sy;have X:=List.all_eq_true.1 h (s.sx.tmod 8+7).toNat (List.mem_range.2 (by omega));have V:=List.all_eq_true.1 X (s.sy.tmod 8+7).toNat (List.mem_range.2 (by omega));have h3:=List.all_eq_true.1 V s.half (by cases s.half<;>simp);have U:(((s.sx.tmod 8+7).toNat:Nat):Int)-7=s.sx.tmod 8:=by omega
 have S:(((s.sy.tmod 8+7).toNat:Nat):Int)-7=s.sy.tmod 8:=by omega
 rw[U,S] at h3;exact h3
def RO:List Tr->Int->List Sd
 | [],_=>[]
 |t::l,i=>((t.1,t.2.1),i)::((t.2.1,t.2.2),i)::((t.2.2,t.1),i)::RO l (i+1)
theorem QQ:kO prog 180 [.agg [.slice 0 0 (ef 0).length none,.slice 1 0 (bY 0).length none]] [.qK,.cells false 3 (tC (bY 0))] (.tuple [.map 2,.bool true]) ([.qK,.cells false 3 (tC (bY 0))]++[.map ((RO (bY 0) 0).map sdE)]):=
 si (lv:=aa) (K:=60) (n:=10) aj (aI _) (aQ _) (az _) (by as_aux_lemma=>kernel_rfl)
theorem QR:kO prog 180 [.agg [.slice 0 0 (ef 1).length none,.slice 1 0 (bY 1).length none]] [.qK,.cells false 3 (tC (bY 1))] (.tuple [.map 2,.bool true]) ([.qK,.cells false 3 (tC (bY 1))]++[.map ((RO (bY 1) 0).map sdE)]):=
 si (lv:=aa) (K:=60) (n:=10) aj (aI _) (aQ _) (az _) (by as_aux_lemma=>kernel_rfl)
theorem QS:kO prog 180 [.agg [.slice 0 0 (ef 2).length none,.slice 1 0 (bY 2).length none]] [.qK,.cells false 3 (tC (bY 2))] (.tuple [.map 2,.bool true]) ([.qK,.cells false 3 (tC (bY 2))]++[.map ((RO (bY 2) 0).map sdE)]):=
 si (lv:=aa) (K:=60) (n:=10) aj (aI _) (aQ _) (az _) (by as_aux_lemma=>kernel_rfl)
theorem QT:kO prog 180 [.agg [.slice 0 0 (ef 3).length none,.slice 1 0 (bY 3).length none]] [.qK,.cells false 3 (tC (bY 3))] (.tuple [.map 2,.bool true]) ([.qK,.cells false 3 (tC (bY 3))]++[.map ((RO (bY 3) 0).map sdE)]):=
 si (lv:=aa) (K:=60) (n:=10) aj (aI _) (aQ _) (az _) (by as_aux_lemma=>kernel_rfl)
theorem QU:kO prog 180 [.agg [.slice 0 0 (ef 4).length none,.slice 1 0 (bY 4).length none]] [.qK,.cells false 3 (tC (bY 4))] (.tuple [.map 2,.bool true]) ([.qK,.cells false 3 (tC (bY 4))]++[.map ((RO (bY 4) 0).map sdE)]):=
 si (lv:=aa) (K:=60) (n:=10) aj (aI _) (aQ _) (az _) (by as_aux_lemma=>kernel_rfl)
theorem QV:kO prog 180 [.agg [.slice 0 0 (ef 5).length none,.slice 1 0 (bY 5).length none]] [.qK,.cells false 3 (tC (bY 5))] (.tuple [.map 2,.bool true]) ([.qK,.cells false 3 (tC (bY 5))]++[.map ((RO (bY 5) 0).map sdE)]):=
 si (lv:=aa) (K:=60) (n:=10) aj (aI _) (aQ _) (az _) (by as_aux_lemma=>kernel_rfl)
theorem QW:kO prog 180 [.agg [.slice 0 0 (ef 6).length none,.slice 1 0 (bY 6).length none]] [.qK,.cells false 3 (tC (bY 6))] (.tuple [.map 2,.bool true]) ([.qK,.cells false 3 (tC (bY 6))]++[.map ((RO (bY 6) 0).map sdE)]):=
 si (lv:=aa) (K:=60) (n:=10) aj (aI _) (aQ _) (az _) (by as_aux_lemma=>kernel_rfl)
theorem QX:kO prog 180 [.agg [.slice 0 0 (ef 7).length none,.slice 1 0 (bY 7).length none]] [.qK,.cells false 3 (tC (bY 7))] (.tuple [.map 2,.bool true]) ([.qK,.cells false 3 (tC (bY 7))]++[.map ((RO (bY 7) 0).map sdE)]):=
 si (lv:=aa) (K:=60) (n:=10) aj (aI _) (aQ _) (az _) (by as_aux_lemma=>kernel_rfl)
theorem Gr(k:Nat)(H:k<8):kO prog 180 [.agg [.slice 0 0 (ef k).length none,.slice 1 0 (bY k).length none]] [.qK,.cells false 3 (tC (bY k))] (.tuple [.map 2,.bool true]) ([.qK,.cells false 3 (tC (bY k))]++[.map ((RO (bY k) 0).map sdE)]):=by
 have Z:k=0\/k=1\/k=2\/k=3\/k=4\/k=5\/k=6\/k=7:=by omega
 rcases Z with rfl | rfl | rfl | rfl | rfl | rfl | rfl | rfl
 .exact QQ
 .exact QR
 .exact QS
 .exact QT
 .exact QU
 .exact QV
 .exact QW
 .exact QX
theorem ON(k:Nat)(H:k<8):vt (RO (bY k) 0)=true/\Cf (tG (RO (bY k) 0))=some ((ml k).map fun(n:Nat)=>(n:Int))/\(MD (bY k)).length=(ef k).length/\ml k≠[]/\(∀c∈ml k,c<(ef k).length)/\bY k≠[]/\(bY k).length<=4/\(ml k).length<=6:=by
 have Z:k=0\/k=1\/k=2\/k=3\/k=4\/k=5\/k=6\/k=7:=by omega
 rcases Z with rfl | rfl | rfl | rfl | rfl | rfl | rfl | rfl<;>decide
theorem Ak(s:afv):Whole s.P s.T (RO s.T 0) (ml (s.kind%8)):=by
 have X:s.kind%8<8:=Nat.mod_lt _ (by omega);have h:=PG s;obtain⟨f1,f2,f3,f4,f5,f6,f7,f8⟩:=ON (s.kind%8) X;have Z:=afv.agF s;have m:=Ff (s.kind%8);unfold ja at h;simp only[Es,GE] at h;obtain⟨⟨⟨⟨V,U⟩,h3⟩,S⟩,R⟩:=h;refine⟨fun p O=>?_,V,?_,f1,f2,by rw[Z];exact f3,⟨f4,by rw[Z];exact f5,fun i N=>?_,R⟩,fun t M=>?_,by omega,f6,by show(bY _).length<=800;omega,by omega⟩
 .have:=List.all_eq_true.1 U p O
  simp only[Es,GE] at this;obtain⟨⟨⟨L,G⟩,F⟩,C⟩:=this;have d1:dg 3 1 p.1:=⟨L,G⟩;have d2:dg 3 1 p.2:=⟨F,C⟩;exact⟨d1.mono (by omega) (by omega),d2.mono (by omega) (by omega)⟩
 .unfold BC
  rw[Z];exact Gr (s.kind%8) X
 .have:=List.all_eq_true.1 S i (List.mem_range.2 N)
  simpa using this
 .have:=List.all_eq_true.1 h3 t M
  unfold Y6;split at this
  .rename_i p q r B u o
   exact⟨p,q,r,B,u,o,by simpa using this⟩
  .cases this
theorem Fu(s:afv):kO prog 46 [.agg [.slice 0 0 s.P.length none,.slice 1 0 s.T.length none]] [.cells false 2 (pC s.P),.cells false 3 (tC s.T)] (.int .i64 0) [.cells false 2 (pC s.P),.cells false 3 (tC s.T)]:=
 Ft (Ak s)
end Go.Proofs
