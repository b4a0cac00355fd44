/- See F54. -/
import Derived.Test.YtgafjliihahjgaaGreatDoorF25
set_option linter.all false
set_option maxRecDepth 100000
set_option maxHeartbeats 40000000
namespace Go.Proofs
open Go.Eng
open Tryz
theorem nh(L:List (List UInt8))(G:L.length≤1000)(m:Mem)(b:Nat)(o:Bool)(A:m[b]? =some (.cells o 1 (stC L))):
  kO prog 166 [.slice b 0 L.length none,.slice b 0 L.length none] m (.bool true) m:=by
 have X:aK prog 166=some f166:=by kernel_rfl
 have O:=gL A;have Z:HS prog (bT 242 [.slice b 0 L.length none,.slice b 0 L.length none] (.bool true) (fun M=>∃ext,M=m++ext)):=cf fun M W=>by obtain⟨ext,rfl⟩:=W;exact Su L G _ b o (gU A _)
 refine cd Z ?_;have V:∃ext,m=m++ext:=⟨[],by simp⟩
 have S:(∃ext,m=m++ext)=True:=eq_true V;clear Z;simp[aa,X,f166,bT,-List.self_eq_append_right,S]
section
variable (n:Nat)(hn:n≤1000)(L1:List (List UInt8))(hl1:L1.length=n)
include n hn L1 hl1
theorem M6(m:Mem)(c r1:Nat)(o G:Bool)(hc:m[c]? =some (.cells o 1 [.slice r1 0 n none]))(A:m[r1]? =some (.cells G 1 (stC L1))):
  kO prog 243 [.slice c 0 1 none,.slice c 0 1 none,.func 166 []] m (.bool true) m:=by
 have X:aK prog 243=some f243:=by kernel_rfl
 have Z:HS prog (jd [(166,[.slice r1 0 n none,.slice r1 0 n none],.bool true)] (fun M=>M=m)):=mG fun e he M W=>by
  subst W;simp only[lM] at he;subst he
  ·have:=nh L1 (by omega) M r1 G A
   rw[hl1] at this;exact this
 refine cR (lv:=(fun _=>[17])) (K:=5) Z ?_;clear Z;simp[aa,X,f243,jd,af,bY,aQ,er,hc,w1]
theorem M7(L2:List (List UInt8))(A:L2.length=n)(m:Mem)(c r1 r2:Nat)(o I R:Bool)(hc:m[c]? =some (.cells o 1 [.slice r1 0 n none,.slice r2 0 n none]))(G:m[r1]? =some (.cells I 1 (stC L1)))(H:m[r2]? =some (.cells R 1 (stC L2))):
  kO prog 243 [.slice c 0 2 none,.slice c 0 2 none,.func 166 []] m (.bool true) m:=by
 have X:aK prog 243=some f243:=by kernel_rfl
 have Z:HS prog (jd [(166,[.slice r1 0 n none,.slice r1 0 n none],.bool true),(166,[.slice r2 0 n none,.slice r2 0 n none],.bool true)] (fun M=>M=m)):=mG fun e he M W=>by
  subst W;simp only[lM] at he;rcases he with rfl | rfl
  ·have:=nh L1 (by omega) M r1 I G
   rw[hl1] at this;exact this
  ·have:=nh L2 (by omega) M r2 R H
   rw[A] at this;exact this
 refine cR (lv:=(fun _=>[17])) (K:=5) Z ?_;clear Z;simp[aa,X,f243,jd,af,bY,aQ,er,hc,w1,w2]
theorem SB(m:Mem)(c r1:Nat)(o G:Bool)(hc:m[c]? =some (.cells o 1 [.slice r1 0 n none]))(A:m[r1]? =some (.cells G 1 (stC L1))):
  kO prog 167 [.slice c 0 1 none,.slice c 0 1 none] m (.bool true) m:=by
 have X:aK prog 167=some f167:=by kernel_rfl
 have Z:HS prog (bT 243 [.slice c 0 1 none,.slice c 0 1 none,.func 166 []] (.bool true) (fun M=>M=m)):=cf fun M W=>by subst W;exact M6 n hn L1 hl1 M c r1 o G hc A
 refine cd Z ?_;clear Z;simp[aa,X,f167,bT]
theorem SC(L2:List (List UInt8))(A:L2.length=n)(m:Mem)(c r1 r2:Nat)(o I R:Bool)(hc:m[c]? =some (.cells o 1 [.slice r1 0 n none,.slice r2 0 n none]))(G:m[r1]? =some (.cells I 1 (stC L1)))(H:m[r2]? =some (.cells R 1 (stC L2))):
  kO prog 167 [.slice c 0 2 none,.slice c 0 2 none] m (.bool true) m:=by
 have X:aK prog 167=some f167:=by kernel_rfl
 have Z:HS prog (bT 243 [.slice c 0 2 none,.slice c 0 2 none,.func 166 []] (.bool true) (fun M=>M=m)):=cf fun M W=>by subst W;exact M7 n hn L1 hl1 L2 A M c r1 r2 o I R hc G H
 refine cd Z ?_;clear Z;simp[aa,X,f167,bT]
end
section
variable (nm:List UInt8)(B U:List (List UInt8))(hB:B.length≤1000)(hU:U.length≤1000)
include nm B U hB hU
theorem CY(m:Mem)(b u:Nat)(o1 o2:Bool)(A:m[b]? =some (.cells o1 1 (stC B)))(hu:m[u]? =some (.cells o2 1 (stC U))):
  kO prog 110 [.agg (bf nm (.slice b 0 B.length none) (.slice u 0 U.length none) (.y9)),.agg (bf nm (.slice b 0 B.length none) (.slice u 0 U.length none) (.y9))] m (.bool true) m:=by
 have S:=gL A;have O:=gL hu;have W:HS prog (jd [(166,[.slice b 0 B.length none,.slice b 0 B.length none],.bool true),(26,[.slice u 0 U.length none,.slice u 0 U.length none],.bool true)] (fun M=>∃ext,M=m++ext)):=mG fun e he M V=>by
  obtain⟨ext,rfl⟩:=V;simp only[lM] at he;rcases he with rfl | rfl
  ·exact nh B hB _ b o1 (gU A _)
  ·exact AN U hU _ u o2 (gU hu _)
 have k:∀f Z v E,(f,Z,v)∈[(166,[.slice b 0 B.length none,.slice b 0 B.length none],.bool true),(26,[.slice u 0 U.length none,.slice u 0 U.length none],.bool true)]→jd [(166,[.slice b 0 B.length none,.slice b 0 B.length none],.bool true),(26,[.slice u 0 U.length none,.slice u 0 U.length none],.bool true)] (fun M=>∃ext,M=m++ext) (.fn f) Z (m++E)=some ⟨v,none,[]⟩:=fun f Z v E h=>by simp only[lM,Prod.mk.injEq] at h;rcases h with⟨rfl,rfl,rfl⟩ | ⟨rfl,rfl,rfl⟩<;>simp[jd,af,bY]
 have X:∀f Z E,jd [(166,[.slice b 0 B.length none,.slice b 0 B.length none],.bool true),(26,[.slice u 0 U.length none,.slice u 0 U.length none],.bool true)] (fun M=>∃ext,M=m++ext) (.fn f) Z (m++E)=af (bY [(166,[.slice b 0 B.length none,.slice b 0 B.length none],.bool true),(26,[.slice u 0 U.length none,.slice u 0 U.length none],.bool true)]) (.fn f) Z (m++E):=fun f Z E=>by simp[jd]
 refine jg (HS.or' W iD) ?_ ?_ ?_ ?_
 ·unfold aeT.or
  rw[k _ _ (.bool true) _ (by simp)]
 ·unfold aeT.or
  rw[k _ _ (.bool true) _ (by simp)]
 ·unfold aeT.or
  rw[X];simp[af,bY,rV]
 ·unfold aeT.or
  rw[X];simp[af,bY,rV]
section
variable (L1:List (List UInt8))(hl1:L1.length=B.length)
include L1 hl1
theorem CZ(m:Mem)(b u c r1:Nat)(o1 o2 o3 G:Bool)(H:m[b]? =some (.cells o1 1 (stC B)))(hu:m[u]? =some (.cells o2 1 (stC U)))(hc:m[c]? =some (.cells o3 1 [.slice r1 0 B.length none]))(A:m[r1]? =some (.cells G 1 (stC L1))):
  kO prog 110 [.agg (bf nm (.slice b 0 B.length none) (.slice u 0 U.length none) (.slice c 0 1 none)),.agg (bf nm (.slice b 0 B.length none) (.slice u 0 U.length none) (.slice c 0 1 none))] m (.bool true) m:=by
 have O:=gL H;have K:=gL hu;have J:=gL hc;have X:=gL A;have W:HS prog (jd [(166,[.slice b 0 B.length none,.slice b 0 B.length none],.bool true),(26,[.slice u 0 U.length none,.slice u 0 U.length none],.bool true),(167,[.slice c 0 1 none,.slice c 0 1 none],.bool true)] (fun M=>∃ext,M=m++ext)):=mG fun e he M V=>by
  obtain⟨ext,rfl⟩:=V;simp only[lM] at he;rcases he with rfl | rfl | rfl
  ·exact nh B hB _ b o1 (gU H _)
  ·exact AN U hU _ u o2 (gU hu _)
  ·exact SB B.length hB L1 hl1 _ c r1 o3 G (gU hc _) (gU A _)
 have k:∀f Z v E,(f,Z,v)∈[(166,[.slice b 0 B.length none,.slice b 0 B.length none],.bool true),(26,[.slice u 0 U.length none,.slice u 0 U.length none],.bool true),(167,[.slice c 0 1 none,.slice c 0 1 none],.bool true)]→jd [(166,[.slice b 0 B.length none,.slice b 0 B.length none],.bool true),(26,[.slice u 0 U.length none,.slice u 0 U.length none],.bool true),(167,[.slice c 0 1 none,.slice c 0 1 none],.bool true)] (fun M=>∃ext,M=m++ext) (.fn f) Z (m++E)=some ⟨v,none,[]⟩:=fun f Z v E h=>by simp only[lM,Prod.mk.injEq] at h;rcases h with⟨rfl,rfl,rfl⟩ | ⟨rfl,rfl,rfl⟩ | ⟨rfl,rfl,rfl⟩<;>simp[jd,af,bY]
 have S:∀f Z E,jd [(166,[.slice b 0 B.length none,.slice b 0 B.length none],.bool true),(26,[.slice u 0 U.length none,.slice u 0 U.length none],.bool true),(167,[.slice c 0 1 none,.slice c 0 1 none],.bool true)] (fun M=>∃ext,M=m++ext) (.fn f) Z (m++E)=af (bY [(166,[.slice b 0 B.length none,.slice b 0 B.length none],.bool true),(26,[.slice u 0 U.length none,.slice u 0 U.length none],.bool true),(167,[.slice c 0 1 none,.slice c 0 1 none],.bool true)]) (.fn f) Z (m++E):=fun f Z E=>by simp[jd]
 refine jg (HS.or' W iD) ?_ ?_ ?_ ?_
 ·unfold aeT.or
  rw[k _ _ (.bool true) _ (by simp)]
 ·unfold aeT.or
  rw[k _ _ (.bool true) _ (by simp)]
 ·unfold aeT.or
  rw[k _ _ (.bool true) _ (by simp)]
 ·unfold aeT.or
  rw[S];simp[af,bY,rV]
theorem C0(L2:List (List UInt8))(H:L2.length=B.length)(m:Mem)(b u c r1 r2:Nat)(o1 o2 o3 I R:Bool)(Y:m[b]? =some (.cells o1 1 (stC B)))(hu:m[u]? =some (.cells o2 1 (stC U)))(hc:m[c]? =some (.cells o3 1 [.slice r1 0 B.length none,.slice r2 0 B.length none]))(A:m[r1]? =some (.cells I 1 (stC L1)))(G:m[r2]? =some (.cells R 1 (stC L2))):
  kO prog 110 [.agg (bf nm (.slice b 0 B.length none) (.slice u 0 U.length none) (.slice c 0 2 none)),.agg (bf nm (.slice b 0 B.length none) (.slice u 0 U.length none) (.slice c 0 2 none))] m (.bool true) m:=by
 have K:=gL Y;have J:=gL hu;have F:=gL hc;have X:=gL A;have W:=gL G;have V:HS prog (jd [(166,[.slice b 0 B.length none,.slice b 0 B.length none],.bool true),(26,[.slice u 0 U.length none,.slice u 0 U.length none],.bool true),(167,[.slice c 0 2 none,.slice c 0 2 none],.bool true)] (fun M=>∃ext,M=m++ext)):=mG fun e he M S=>by
  obtain⟨ext,rfl⟩:=S;simp only[lM] at he;rcases he with rfl | rfl | rfl
  ·exact nh B hB _ b o1 (gU Y _)
  ·exact AN U hU _ u o2 (gU hu _)
  ·exact SC B.length hB L1 hl1 L2 H _ c r1 r2 o3 I R (gU hc _) (gU A _) (gU G _)
 have k:∀f Z v E,(f,Z,v)∈[(166,[.slice b 0 B.length none,.slice b 0 B.length none],.bool true),(26,[.slice u 0 U.length none,.slice u 0 U.length none],.bool true),(167,[.slice c 0 2 none,.slice c 0 2 none],.bool true)]→jd [(166,[.slice b 0 B.length none,.slice b 0 B.length none],.bool true),(26,[.slice u 0 U.length none,.slice u 0 U.length none],.bool true),(167,[.slice c 0 2 none,.slice c 0 2 none],.bool true)] (fun M=>∃ext,M=m++ext) (.fn f) Z (m++E)=some ⟨v,none,[]⟩:=fun f Z v E h=>by simp only[lM,Prod.mk.injEq] at h;rcases h with⟨rfl,rfl,rfl⟩ | ⟨rfl,rfl,rfl⟩ | ⟨rfl,rfl,rfl⟩<;>simp[jd,af,bY]
 have O:∀f Z E,jd [(166,[.slice b 0 B.length none,.slice b 0 B.length none],.bool true),(26,[.slice u 0 U.length none,.slice u 0 U.length none],.bool true),(167,[.slice c 0 2 none,.slice c 0 2 none],.bool true)] (fun M=>∃ext,M=m++ext) (.fn f) Z (m++E)=af (bY [(166,[.slice b 0 B.length none,.slice b 0 B.length none],.bool true),(26,[.slice u 0 U.length none,.slice u 0 U.length none],.bool true),(167,[.slice c 0 2 none,.slice c 0 2 none],.bool true)]) (.fn f) Z (m++E):=fun f Z E=>by simp[jd]
 refine jg (HS.or' V iD) ?_ ?_ ?_ ?_
 ·unfold aeT.or
  rw[k _ _ (.bool true) _ (by simp)]
 ·unfold aeT.or
  rw[k _ _ (.bool true) _ (by simp)]
 ·unfold aeT.or
  rw[k _ _ (.bool true) _ (by simp)]
 ·unfold aeT.or
  rw[O];simp[af,bY,rV]
end
end
def bA:AV:=.agg [.func 185 [],.func 186 [],.func 187 [],.func 188 [],.func 189 []]
theorem pL(nm:List UInt8)(n k:Nat):kO prog 77 [.agg (bf nm (.slice 0 0 n none) (.slice 1 0 k none) (.y9))] [.aeP,.aeP] bA [.aeP,.aeP]:=by
 have h:aa (aN prog) ab (aK prog) vp 6 77 [.agg (bf nm (.slice 0 0 n none) (.slice 1 0 k none) (.y9))] [.aeP,.aeP]=some ⟨bA,none,[]⟩:=by as_aux_lemma=>kernel_rfl
 have:=(ah ae (ar _) iC (au _) h).1;simpa [aeQ.mem] using this
theorem sR(nm:List UInt8)(n k:Nat)(M:Mem)(A:5≤M.length∨(4≤M.length∧0=0)):kO prog 77 [.agg (bf nm (.slice 2 0 n none) (.slice 3 0 k none) (.y9))] M bA M:=by
 have:=kO.frame (M:=M) (new:=[]) [2,3] rfl (by intro k X;simp at X;omega) (by rfl) (fun i t Z=>by
  match i with
  |0=>simp at Z;subst Z;trivial
  |1=>simp at Z;subst Z;trivial
  |i+2=>simp at Z) rfl (pL nm n k)
 simpa [bf,AV.ae3,AV.ren,dL,bA] using this
def mV(s:aeX)(u0:List UInt8)(Z:List Int):Mem:=[.cells false 2 (pC s.P),.cells false 3 (tC s.T),.cells false 1 (qC (qH Z)),.cells false 1 [.str u0]]
def il(s:aeX)(u0:List UInt8)(Z:List Int)(A:List AV):Mem:=[.cells false 2 (pC s.P),.cells false 3 (tC s.T),.cells false 1 (qC (qH Z)),.cells false 1 [.str u0],.cells true 0 [.slice 0 0 s.P.length none,.slice 1 0 s.T.length none],.cells true 0 A]
theorem agW:aK prog 185=some f185:=by kernel_rfl
theorem yX(s:aeX)(nm:List UInt8)(u0:List UInt8)(Z:List Int):
  kO prog 185 [.agg (bf nm (.slice 2 0 Z.length none) (.slice 3 0 1 none) (.y9)),.ptr 6 0] (il s u0 Z (bf nm (.slice 2 0 Z.length none) (.slice 3 0 1 none) (.y9))++[.cells true 0 (dq 1 nm)]) (.tuple []) (il s u0 Z (bf nm (.slice 2 0 Z.length none) (.slice 3 0 1 none) (.y9))++[.cells true 0 (bf nm (.slice 2 0 Z.length none) (.slice 3 0 1 none) (.y9))]):=by
 have h:aa (aN prog) (fun _=>[]) (aK prog) bM 1 185 [.agg (bf nm (.slice 2 0 Z.length none) (.slice 3 0 1 none) (.y9)),.ptr 6 0] (il s u0 Z (bf nm (.slice 2 0 Z.length none) (.slice 3 0 1 none) (.y9))++[.cells true 0 (dq 1 nm)])=some ⟨.tuple [],some (il s u0 Z (bf nm (.slice 2 0 Z.length none) (.slice 3 0 1 none) (.y9))++[.cells true 0 (bf nm (.slice 2 0 Z.length none) (.slice 3 0 1 none) (.y9))]),[]⟩:=by simp[aa,agW,f185,il,dq,bf,ef,eW,gx,iS,gq,fj]
 have:=(ah ae (ar _) (al _) (au _) h).1;simpa [aeQ.mem] using this
noncomputable def lY(s:aeX)(u0:List UInt8)(Z:List Int)(nm:List UInt8)(A:List AV):List (FuncId×List AV×Mem×aeQ):=[
 (59,[shA s],il s u0 Z A,⟨.int .i64 0,none,[]⟩),
 (77,[.agg A],il s u0 Z A++[.cells true 0 (dq 1 nm)],⟨bA,none,[]⟩),
 (185,[.agg A,.ptr 6 0],il s u0 Z A++[.cells true 0 (dq 1 nm)],⟨.tuple [],some (il s u0 Z A++[.cells true 0 A]),[]⟩),
 (110,[.agg A,.agg A],il s u0 Z A++[.cells true 0 A],⟨.bool true,none,[]⟩),
 (77,[.agg A],il s u0 Z A++[.cells true 0 A],⟨bA,none,[]⟩),
 (186,[shA s,.agg A],il s u0 Z A++[.cells true 0 A],⟨.int .i64 0,none,[]⟩)]
theorem agX:aK prog 61=some f61:=by kernel_rfl
theorem agY:ba [0,1,3,0,15] 4=true:=by decide
theorem agZ:ba [0,1,3,0,0,31,63] 6=true:=by decide
theorem wP(s:aeX)(nm:List UInt8)(u0:List UInt8)(Z:List Int)(G:nm∈bG)(H:u0∈bG)(I:∀z∈Z,z.natAbs<1000)(R:Z.length≤1000)(A:Z.length=s.P.length):
  kO prog 61 [shA s,.agg (bf nm (.slice 2 0 Z.length none) (.slice 3 0 1 none) (.y9))] (mV s u0 Z) (.int .i64 0) (mV s u0 Z):=by
 obtain⟨K,S⟩:∃K,aC f61=K:=⟨_,rfl⟩
 have J:=be S (ls:=[[0,1,3,0,15],[0,1,3,0,0,31,63]]) (by kernel_rfl);simp only[aC,bn,f61,lA] at S;subst S;simp only[lB] at J;obtain⟨C,O⟩:=J;have X:HS prog (af (bY [(109,[.str nm],.int .i64 0)])):=du fun e he M=>by simp only[lM] at he;subst he;exact dD nm G M
 obtain⟨F,W⟩:=xE (bf nm (.slice 2 0 Z.length none) (.slice 3 0 1 none) (.y9));have V:HS prog (fz (lY s u0 Z nm F)):=fL fun e he=>by
  simp only[lY,lM] at he;subst W;have hc:=Hw s nm u0 H  Z I R A (il s u0 Z (bf nm (.slice 2 0 Z.length none) (.slice 3 0 1 none) (.y9))++[.cells true 0 (bf nm (.slice 2 0 Z.length none) (.slice 3 0 1 none) (.y9))]) 2 3 false false false false rfl rfl rfl rfl;have hq:=CY nm ((qH Z).map ak) [u0] (by simp[qH];omega) (by simp) (il s u0 Z (bf nm (.slice 2 0 Z.length none) (.slice 3 0 1 none) (.y9))++[.cells true 0 (bf nm (.slice 2 0 Z.length none) (.slice 3 0 1 none) (.y9))]) 2 3 false false (by rw[←tB];rfl) rfl;have B:((qH Z).map ak).length=Z.length:=by simp[qH]
  rw[B] at hq;rcases he with rfl | rfl | rfl | rfl | rfl | rfl
  ·exact⟨by simpa [aeQ.mem,shA] using dP s (il s u0 Z (bf nm (.slice 2 0 Z.length none) (.slice 3 0 1 none) (.y9))) 0 1 false false rfl rfl,by simp⟩
  ·exact⟨by simpa [aeQ.mem] using sR nm Z.length 1 (il s u0 Z (bf nm (.slice 2 0 Z.length none) (.slice 3 0 1 none) (.y9))++[.cells true 0 (dq 1 nm)]) (by simp[il]),by simp⟩
  ·exact⟨by simpa [aeQ.mem] using yX s nm u0 Z,by simp[il]⟩
  ·exact⟨by simpa [aeQ.mem] using hq,by simp⟩
  ·exact⟨by simpa [aeQ.mem] using sR nm Z.length 1 (il s u0 Z (bf nm (.slice 2 0 Z.length none) (.slice 3 0 1 none) (.y9))++[.cells true 0 (bf nm (.slice 2 0 Z.length none) (.slice 3 0 1 none) (.y9))]) (by simp[il]),by simp⟩
  ·exact⟨by simpa [aeQ.mem] using hc,by simp⟩
 have D:=HS.or' X V;have h:aa (aN prog) (fun _=>[]) (aK prog) (aeT.or (af (bY [(109,[.str nm],.int .i64 0)])) (fz (lY s u0 Z nm F))) 1 61 [shA s,.agg (bf nm (.slice 2 0 Z.length none) (.slice 3 0 1 none) (.y9))] (mV s u0 Z)=some ⟨.int .i64 0,some (mV s u0 Z),[]⟩:=by rw[W];clear D X V A;simp[cO,-aB,ag C,ag O,aS,aO,aP,agY,agZ,Nat.testBit,-ns,gB,gC,aa,agX,f61,aeT.or,af,bY,fz,lY,bA,shA,il,mV,dq,bf,bW,aE,ef,eW,gx,iS,Cv,CQ,gq,fj,Mq]
 have:=(ah ae (ar _) D (au _) h).1;simpa [aeQ.mem] using this
theorem pM(nm:List UInt8)(n k:Nat):kO prog 77 [.agg (bf nm (.slice 0 0 n none) (.slice 1 0 k none) (.slice 2 0 1 none))] [.aeP,.aeP,.aeP] bA [.aeP,.aeP,.aeP]:=by
 have h:aa (aN prog) ab (aK prog) vp 6 77 [.agg (bf nm (.slice 0 0 n none) (.slice 1 0 k none) (.slice 2 0 1 none))] [.aeP,.aeP,.aeP]=some ⟨bA,none,[]⟩:=by as_aux_lemma=>kernel_rfl
 have:=(ah ae (ar _) iC (au _) h).1;simpa [aeQ.mem] using this
theorem sT(nm:List UInt8)(n k:Nat)(M:Mem)(A:5≤M.length∨(4≤M.length∧1=0)):kO prog 77 [.agg (bf nm (.slice 2 0 n none) (.slice 3 0 k none) (.slice 4 0 1 none))] M bA M:=by
 have:=kO.frame (M:=M) (new:=[]) [2,3,4] rfl (by intro k X;simp at X;omega) (by rfl) (fun i t Z=>by
  match i with
  |0=>simp at Z;subst Z;trivial
  |1=>simp at Z;subst Z;trivial
  |2=>simp at Z;subst Z;trivial
  |i+3=>simp at Z) rfl (pM nm n k)
 simpa [bf,AV.ae3,AV.ren,dL,bA] using this
def jT(s:aeX)(u0 A:List UInt8)(Z G:List Int):Mem:=[.cells false 2 (pC s.P),.cells false 3 (tC s.T),.cells false 1 (qC (qH Z)),.cells false 1 [.str u0,.str A],.cells false 1 [.slice 5 0 Z.length none],.cells false 1 (qC (qH G))]
def im(s:aeX)(u0 A:List UInt8)(Z G:List Int)(H:List AV):Mem:=[.cells false 2 (pC s.P),.cells false 3 (tC s.T),.cells false 1 (qC (qH Z)),.cells false 1 [.str u0,.str A],.cells false 1 [.slice 5 0 Z.length none],.cells false 1 (qC (qH G)),.cells true 0 [.slice 0 0 s.P.length none,.slice 1 0 s.T.length none],.cells true 0 H]
theorem yY(s:aeX)(nm:List UInt8)(u0 A:List UInt8)(Z G:List Int):
  kO prog 185 [.agg (bf nm (.slice 2 0 Z.length none) (.slice 3 0 2 none) (.slice 4 0 1 none)),.ptr 8 0] (im s u0 A Z G (bf nm (.slice 2 0 Z.length none) (.slice 3 0 2 none) (.slice 4 0 1 none))++[.cells true 0 (dq 1 nm)]) (.tuple []) (im s u0 A Z G (bf nm (.slice 2 0 Z.length none) (.slice 3 0 2 none) (.slice 4 0 1 none))++[.cells true 0 (bf nm (.slice 2 0 Z.length none) (.slice 3 0 2 none) (.slice 4 0 1 none))]):=by
 have h:aa (aN prog) (fun _=>[]) (aK prog) bM 1 185 [.agg (bf nm (.slice 2 0 Z.length none) (.slice 3 0 2 none) (.slice 4 0 1 none)),.ptr 8 0] (im s u0 A Z G (bf nm (.slice 2 0 Z.length none) (.slice 3 0 2 none) (.slice 4 0 1 none))++[.cells true 0 (dq 1 nm)])=some ⟨.tuple [],some (im s u0 A Z G (bf nm (.slice 2 0 Z.length none) (.slice 3 0 2 none) (.slice 4 0 1 none))++[.cells true 0 (bf nm (.slice 2 0 Z.length none) (.slice 3 0 2 none) (.slice 4 0 1 none))]),[]⟩:=by simp[aa,agW,f185,im,dq,bf,ef,eW,gx,iS,gq,fj]
 have:=(ah ae (ar _) (al _) (au _) h).1;simpa [aeQ.mem] using this
noncomputable def ma(s:aeX)(u0 G:List UInt8)(Z H:List Int)(nm:List UInt8)(A:List AV):List (FuncId×List AV×Mem×aeQ):=[
 (59,[shA s],im s u0 G Z H A,⟨.int .i64 0,none,[]⟩),
 (77,[.agg A],im s u0 G Z H A++[.cells true 0 (dq 1 nm)],⟨bA,none,[]⟩),
 (185,[.agg A,.ptr 8 0],im s u0 G Z H A++[.cells true 0 (dq 1 nm)],⟨.tuple [],some (im s u0 G Z H A++[.cells true 0 A]),[]⟩),
 (110,[.agg A,.agg A],im s u0 G Z H A++[.cells true 0 A],⟨.bool true,none,[]⟩),
 (77,[.agg A],im s u0 G Z H A++[.cells true 0 A],⟨bA,none,[]⟩),
 (186,[shA s,.agg A],im s u0 G Z H A++[.cells true 0 A],⟨.int .i64 0,none,[]⟩)]
theorem wQ(s:aeX)(nm:List UInt8)(u0 G:List UInt8)(Z A:List Int)(hm:nm∈bG)(n0:u0∈bG)(n1:G∈bG)(H:G≠u0)(hZ:∀z∈Z,z.natAbs<1000)(hl:Z.length≤1000)(hn:Z.length=s.P.length)(I:∀z∈A,z.natAbs<1000)(R:A.length=s.P.length)(Y:∀(i:Nat) z y,Z[i]? =some z→A[i]? =some y→z≤y):
  kO prog 61 [shA s,.agg (bf nm (.slice 2 0 Z.length none) (.slice 3 0 2 none) (.slice 4 0 1 none))] (jT s u0 G Z A) (.int .i64 0) (jT s u0 G Z A):=by
 obtain⟨K,S⟩:∃K,aC f61=K:=⟨_,rfl⟩
 have J:=be S (ls:=[[0,1,3,0,15],[0,1,3,0,0,31,63]]) (by kernel_rfl);simp only[aC,bn,f61,lA] at S;subst S;simp only[lB] at J;obtain⟨C,O⟩:=J;have X:HS prog (af (bY [(109,[.str nm],.int .i64 0)])):=du fun e he M=>by simp only[lM] at he;subst he;exact dD nm hm M
 obtain⟨F,W⟩:=xE (bf nm (.slice 2 0 Z.length none) (.slice 3 0 2 none) (.slice 4 0 1 none));have V:HS prog (fz (ma s u0 G Z A nm F)):=fL fun e he=>by
  simp only[ma,lM] at he;subst W;have hc:=Hx s nm u0 G n0 n1 H Z hZ hl hn A I R Y (im s u0 G Z A (bf nm (.slice 2 0 Z.length none) (.slice 3 0 2 none) (.slice 4 0 1 none))++[.cells true 0 (bf nm (.slice 2 0 Z.length none) (.slice 3 0 2 none) (.slice 4 0 1 none))]) 2 3 4 5 false false false false false false rfl rfl rfl rfl rfl rfl;have hq:=CZ nm ((qH Z).map ak) [u0,G] (by simp[qH];omega) (by simp) ((qH A).map ak) (by simp[qH];omega) (im s u0 G Z A (bf nm (.slice 2 0 Z.length none) (.slice 3 0 2 none) (.slice 4 0 1 none))++[.cells true 0 (bf nm (.slice 2 0 Z.length none) (.slice 3 0 2 none) (.slice 4 0 1 none))]) 2 3 4 5 false false false false (by rw[←tB];rfl) rfl (by rw[show((qH Z).map ak).length=Z.length by simp[qH]];rfl) (by rw[←tB];rfl);have B:((qH Z).map ak).length=Z.length:=by simp[qH]
  rw[B] at hq;rcases he with rfl | rfl | rfl | rfl | rfl | rfl
  ·exact⟨by simpa [aeQ.mem,shA] using dP s (im s u0 G Z A (bf nm (.slice 2 0 Z.length none) (.slice 3 0 2 none) (.slice 4 0 1 none))) 0 1 false false rfl rfl,by simp⟩
  ·exact⟨by simpa [aeQ.mem] using sT nm Z.length 2 (im s u0 G Z A (bf nm (.slice 2 0 Z.length none) (.slice 3 0 2 none) (.slice 4 0 1 none))++[.cells true 0 (dq 1 nm)]) (by simp[im]),by simp⟩
  ·exact⟨by simpa [aeQ.mem] using yY s nm u0 G Z A,by simp[im]⟩
  ·exact⟨by simpa [aeQ.mem] using hq,by simp⟩
  ·exact⟨by simpa [aeQ.mem] using sT nm Z.length 2 (im s u0 G Z A (bf nm (.slice 2 0 Z.length none) (.slice 3 0 2 none) (.slice 4 0 1 none))++[.cells true 0 (bf nm (.slice 2 0 Z.length none) (.slice 3 0 2 none) (.slice 4 0 1 none))]) (by simp[im]),by simp⟩
  ·exact⟨by simpa [aeQ.mem] using hc,by simp⟩
 have D:=HS.or' X V;have h:aa (aN prog) (fun _=>[]) (aK prog) (aeT.or (af (bY [(109,[.str nm],.int .i64 0)])) (fz (ma s u0 G Z A nm F))) 1 61 [shA s,.agg (bf nm (.slice 2 0 Z.length none) (.slice 3 0 2 none) (.slice 4 0 1 none))] (jT s u0 G Z A)=some ⟨.int .i64 0,some (jT s u0 G Z A),[]⟩:=by rw[W];clear D X V hn;simp[cO,-aB,ag C,ag O,aS,aO,aP,agY,agZ,Nat.testBit,-ns,gB,gC,aa,agX,f61,aeT.or,af,bY,fz,ma,bA,shA,im,jT,dq,bf,bW,aE,ef,eW,gx,iS,Cv,CQ,gq,fj,Mq]
 have:=(ah ae (ar _) D (au _) h).1;simpa [aeQ.mem] using this
theorem pN(nm:List UInt8)(n k:Nat):kO prog 77 [.agg (bf nm (.slice 0 0 n none) (.slice 1 0 k none) (.slice 2 0 2 none))] [.aeP,.aeP,.aeP] bA [.aeP,.aeP,.aeP]:=by
 have h:aa (aN prog) ab (aK prog) vp 6 77 [.agg (bf nm (.slice 0 0 n none) (.slice 1 0 k none) (.slice 2 0 2 none))] [.aeP,.aeP,.aeP]=some ⟨bA,none,[]⟩:=by as_aux_lemma=>kernel_rfl
 have:=(ah ae (ar _) iC (au _) h).1;simpa [aeQ.mem] using this
theorem sV(nm:List UInt8)(n k:Nat)(M:Mem)(A:5≤M.length∨(4≤M.length∧2=0)):kO prog 77 [.agg (bf nm (.slice 2 0 n none) (.slice 3 0 k none) (.slice 4 0 2 none))] M bA M:=by
 have:=kO.frame (M:=M) (new:=[]) [2,3,4] rfl (by intro k X;simp at X;omega) (by rfl) (fun i t Z=>by
  match i with
  |0=>simp at Z;subst Z;trivial
  |1=>simp at Z;subst Z;trivial
  |2=>simp at Z;subst Z;trivial
  |i+3=>simp at Z) rfl (pN nm n k)
 simpa [bf,AV.ae3,AV.ren,dL,bA] using this
def jm(s:aeX)(u0 A G:List UInt8)(Z H I:List Int):Mem:=[.cells false 2 (pC s.P),.cells false 3 (tC s.T),.cells false 1 (qC (qH Z)),.cells false 1 [.str u0,.str A,.str G],.cells false 1 [.slice 5 0 Z.length none,.slice 6 0 Z.length none],.cells false 1 (qC (qH H)),.cells false 1 (qC (qH I))]
def iq(s:aeX)(u0 A G:List UInt8)(Z H I:List Int)(R:List AV):Mem:=[.cells false 2 (pC s.P),.cells false 3 (tC s.T),.cells false 1 (qC (qH Z)),.cells false 1 [.str u0,.str A,.str G],.cells false 1 [.slice 5 0 Z.length none,.slice 6 0 Z.length none],.cells false 1 (qC (qH H)),.cells false 1 (qC (qH I)),.cells true 0 [.slice 0 0 s.P.length none,.slice 1 0 s.T.length none],.cells true 0 R]
theorem yZ(s:aeX)(nm:List UInt8)(u0 A G:List UInt8)(Z H I:List Int):
  kO prog 185 [.agg (bf nm (.slice 2 0 Z.length none) (.slice 3 0 3 none) (.slice 4 0 2 none)),.ptr 9 0] (iq s u0 A G Z H I (bf nm (.slice 2 0 Z.length none) (.slice 3 0 3 none) (.slice 4 0 2 none))++[.cells true 0 (dq 1 nm)]) (.tuple []) (iq s u0 A G Z H I (bf nm (.slice 2 0 Z.length none) (.slice 3 0 3 none) (.slice 4 0 2 none))++[.cells true 0 (bf nm (.slice 2 0 Z.length none) (.slice 3 0 3 none) (.slice 4 0 2 none))]):=by
 have h:aa (aN prog) (fun _=>[]) (aK prog) bM 1 185 [.agg (bf nm (.slice 2 0 Z.length none) (.slice 3 0 3 none) (.slice 4 0 2 none)),.ptr 9 0] (iq s u0 A G Z H I (bf nm (.slice 2 0 Z.length none) (.slice 3 0 3 none) (.slice 4 0 2 none))++[.cells true 0 (dq 1 nm)])=some ⟨.tuple [],some (iq s u0 A G Z H I (bf nm (.slice 2 0 Z.length none) (.slice 3 0 3 none) (.slice 4 0 2 none))++[.cells true 0 (bf nm (.slice 2 0 Z.length none) (.slice 3 0 3 none) (.slice 4 0 2 none))]),[]⟩:=by simp[aa,agW,f185,iq,dq,bf,ef,eW,gx,iS,gq,fj]
 have:=(ah ae (ar _) (al _) (au _) h).1;simpa [aeQ.mem] using this
noncomputable def mc(s:aeX)(u0 G H:List UInt8)(Z I R:List Int)(nm:List UInt8)(A:List AV):List (FuncId×List AV×Mem×aeQ):=[
 (59,[shA s],iq s u0 G H Z I R A,⟨.int .i64 0,none,[]⟩),
 (77,[.agg A],iq s u0 G H Z I R A++[.cells true 0 (dq 1 nm)],⟨bA,none,[]⟩),
 (185,[.agg A,.ptr 9 0],iq s u0 G H Z I R A++[.cells true 0 (dq 1 nm)],⟨.tuple [],some (iq s u0 G H Z I R A++[.cells true 0 A]),[]⟩),
 (110,[.agg A,.agg A],iq s u0 G H Z I R A++[.cells true 0 A],⟨.bool true,none,[]⟩),
 (77,[.agg A],iq s u0 G H Z I R A++[.cells true 0 A],⟨bA,none,[]⟩),
 (186,[shA s,.agg A],iq s u0 G H Z I R A++[.cells true 0 A],⟨.int .i64 0,none,[]⟩)]
theorem wR(s:aeX)(nm:List UInt8)(u0 G H:List UInt8)(Z A I:List Int)(hm:nm∈bG)(n0:u0∈bG)(n1:G∈bG)(n2:H∈bG)(R:G≠u0)(Y:H≠u0)(d12:H≠G)(hZ:∀z∈Z,z.natAbs<1000)(hl:Z.length≤1000)(hn:Z.length=s.P.length)(hY1:∀z∈A,z.natAbs<1000)(hl1:A.length=s.P.length)(aah:∀(i:Nat) z y,Z[i]? =some z→A[i]? =some y→z≤y)(hY2:∀z∈I,z.natAbs<1000)(hl2:I.length=s.P.length)(aaM:∀(i:Nat) z y,A[i]? =some z→I[i]? =some y→z≤y):
  kO prog 61 [shA s,.agg (bf nm (.slice 2 0 Z.length none) (.slice 3 0 3 none) (.slice 4 0 2 none))] (jm s u0 G H Z A I) (.int .i64 0) (jm s u0 G H Z A I):=by
 obtain⟨K,S⟩:∃K,aC f61=K:=⟨_,rfl⟩
 have J:=be S (ls:=[[0,1,3,0,15],[0,1,3,0,0,31,63]]) (by kernel_rfl);simp only[aC,bn,f61,lA] at S;subst S;simp only[lB] at J;obtain⟨C,O⟩:=J;have X:HS prog (af (bY [(109,[.str nm],.int .i64 0)])):=du fun e he M=>by simp only[lM] at he;subst he;exact dD nm hm M
 obtain⟨F,W⟩:=xE (bf nm (.slice 2 0 Z.length none) (.slice 3 0 3 none) (.slice 4 0 2 none));have V:HS prog (fz (mc s u0 G H Z A I nm F)):=fL fun e he=>by
  simp only[mc,lM] at he;subst W;have hc:=Hy s nm u0 G H n0 n1 n2 R Y d12 Z hZ hl hn A I hY1 hl1 aah hY2 hl2 aaM (iq s u0 G H Z A I (bf nm (.slice 2 0 Z.length none) (.slice 3 0 3 none) (.slice 4 0 2 none))++[.cells true 0 (bf nm (.slice 2 0 Z.length none) (.slice 3 0 3 none) (.slice 4 0 2 none))]) 2 3 4 5 6 false false false false false false false rfl rfl rfl rfl rfl rfl rfl;have hq:=C0 nm ((qH Z).map ak) [u0,G,H] (by simp[qH];omega) (by simp) ((qH A).map ak) (by simp[qH];omega) ((qH I).map ak) (by simp[qH];omega) (iq s u0 G H Z A I (bf nm (.slice 2 0 Z.length none) (.slice 3 0 3 none) (.slice 4 0 2 none))++[.cells true 0 (bf nm (.slice 2 0 Z.length none) (.slice 3 0 3 none) (.slice 4 0 2 none))]) 2 3 4 5 6 false false false false false (by rw[←tB];rfl) rfl (by rw[show((qH Z).map ak).length=Z.length by simp[qH]];rfl) (by rw[←tB];rfl) (by rw[←tB];rfl);have B:((qH Z).map ak).length=Z.length:=by simp[qH]
  rw[B] at hq;rcases he with rfl | rfl | rfl | rfl | rfl | rfl
  ·exact⟨by simpa [aeQ.mem,shA] using dP s (iq s u0 G H Z A I (bf nm (.slice 2 0 Z.length none) (.slice 3 0 3 none) (.slice 4 0 2 none))) 0 1 false false rfl rfl,by simp⟩
  ·exact⟨by simpa [aeQ.mem] using sV nm Z.length 3 (iq s u0 G H Z A I (bf nm (.slice 2 0 Z.length none) (.slice 3 0 3 none) (.slice 4 0 2 none))++[.cells true 0 (dq 1 nm)]) (by simp[iq]),by simp⟩
  ·exact⟨by simpa [aeQ.mem] using yZ s nm u0 G H Z A I,by simp[iq]⟩
  ·exact⟨by simpa [aeQ.mem] using hq,by simp⟩
  ·exact⟨by simpa [aeQ.mem] using sV nm Z.length 3 (iq s u0 G H Z A I (bf nm (.slice 2 0 Z.length none) (.slice 3 0 3 none) (.slice 4 0 2 none))++[.cells true 0 (bf nm (.slice 2 0 Z.length none) (.slice 3 0 3 none) (.slice 4 0 2 none))]) (by simp[iq]),by simp⟩
  ·exact⟨by simpa [aeQ.mem] using hc,by simp⟩
 have D:=HS.or' X V;have h:aa (aN prog) (fun _=>[]) (aK prog) (aeT.or (af (bY [(109,[.str nm],.int .i64 0)])) (fz (mc s u0 G H Z A I nm F))) 1 61 [shA s,.agg (bf nm (.slice 2 0 Z.length none) (.slice 3 0 3 none) (.slice 4 0 2 none))] (jm s u0 G H Z A I)=some ⟨.int .i64 0,some (jm s u0 G H Z A I),[]⟩:=by rw[W];clear D X V hn;simp[cO,-aB,ag C,ag O,aS,aO,aP,agY,agZ,Nat.testBit,-ns,gB,gC,aa,agX,f61,aeT.or,af,bY,fz,mc,bA,shA,iq,jm,dq,bf,bW,aE,ef,eW,gx,iS,Cv,CQ,gq,fj,Mq]
 have:=(ah ae (ar _) D (au _) h).1;simpa [aeQ.mem] using this
end Go.Proofs
