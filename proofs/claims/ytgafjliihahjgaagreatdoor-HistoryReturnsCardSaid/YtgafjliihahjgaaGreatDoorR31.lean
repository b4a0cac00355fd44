/- See R54. -/
import Derived.Test.YtgafjliihahjgaaGreatDoorR30
set_option linter.all false
set_option maxRecDepth 100000
set_option maxHeartbeats 40000000
namespace Go.Proofs
open Go.Eng
open Tryz
theorem mQ(L:List (List UInt8))(hl:L.length≤1000)(m:Mem)(b:Nat)(o:Bool)(hb:m[b]? =some (.cells o 1 (stC L))):
  kF prog 166 [.slice b 0 L.length none,.slice b 0 L.length none] m (.bool true) m:=by
 have hG:aT prog 166=some f166:=by kernel_rfl
 have lb:=(gL hb);have hO:kP prog (gq 242 [.slice b 0 L.length none,.slice b 0 L.length none] (.bool true) (fun M=>∃ext,M=m++ext)):=ic fun M hM=>by obtain⟨ext,rfl⟩:=hM;exact Qj L hl _ b o (by rw[List.getElem?_append_left lb];exact hb)
 refine bB (K:=1) (lv:=fun _=>[]) hO ?_;have e0:∃ext,m=m++ext:=⟨[],by simp⟩
 have e1:(∃ext,m=m++ext)=True:=eq_true e0;clear hO;simp[ad,hG,f166,gq,-List.self_eq_append_right,e1]
section
variable (n:Nat)(hn:n≤1000)(L1:List (List UInt8))(Ym:L1.length=n)
include n hn L1 Ym
theorem K0(m:Mem)(c r1:Nat)(o q1:Bool)(hc:m[c]? =some (.cells o 1 [.slice r1 0 n none]))(Ya:m[r1]? =some (.cells q1 1 (stC L1))):
  kF prog 243 [.slice c 0 1 none,.slice c 0 1 none,.func 166 []] m (.bool true) m:=by
 have hG:aT prog 243=some f243:=by kernel_rfl
 have hO:kP prog (iU [(166,[.slice r1 0 n none,.slice r1 0 n none],.bool true)] (fun M=>M=m)):=mq fun e he M hM=>by
  subst hM;simp only[List.mem_cons,List.not_mem_nil,or_false] at he;subst he
  ·have:=mQ L1 (by omega) M r1 q1 Ya
   rw[Ym] at this;exact this
 refine bB (lv:=(fun _=>[17])) (K:=5) hO ?_;clear hO;simp[ad,hG,f243,iU,ag,cK,aI,ej,hc,w1]
theorem K5(L2:List (List UInt8))(YU:L2.length=n)(m:Mem)(c r1 r2:Nat)(o q1 q2:Bool)(hc:m[c]? =some (.cells o 1 [.slice r1 0 n none,.slice r2 0 n none]))(Ya:m[r1]? =some (.cells q1 1 (stC L1)))(Yc:m[r2]? =some (.cells q2 1 (stC L2))):
  kF prog 243 [.slice c 0 2 none,.slice c 0 2 none,.func 166 []] m (.bool true) m:=by
 have hG:aT prog 243=some f243:=by kernel_rfl
 have hO:kP prog (iU [(166,[.slice r1 0 n none,.slice r1 0 n none],.bool true),(166,[.slice r2 0 n none,.slice r2 0 n none],.bool true)] (fun M=>M=m)):=mq fun e he M hM=>by
  subst hM;simp only[List.mem_cons,List.not_mem_nil,or_false] at he;rcases he with rfl | rfl
  ·have:=mQ L1 (by omega) M r1 q1 Ya
   rw[Ym] at this;exact this
  ·have:=mQ L2 (by omega) M r2 q2 Yc
   rw[YU] at this;exact this
 refine bB (lv:=(fun _=>[17])) (K:=5) hO ?_;clear hO;simp[ad,hG,f243,iU,ag,cK,aI,ej,hc,w1,w2]
theorem Qq(m:Mem)(c r1:Nat)(o q1:Bool)(hc:m[c]? =some (.cells o 1 [.slice r1 0 n none]))(Ya:m[r1]? =some (.cells q1 1 (stC L1))):
  kF prog 167 [.slice c 0 1 none,.slice c 0 1 none] m (.bool true) m:=by
 have hG:aT prog 167=some f167:=by kernel_rfl
 have hO:kP prog (gq 243 [.slice c 0 1 none,.slice c 0 1 none,.func 166 []] (.bool true) (fun M=>M=m)):=ic fun M hM=>by subst hM;exact K0 n hn L1 Ym M c r1 o q1 hc Ya
 refine bB (K:=1) (lv:=fun _=>[]) hO ?_;clear hO;simp[ad,hG,f167,gq]
theorem Qr(L2:List (List UInt8))(YU:L2.length=n)(m:Mem)(c r1 r2:Nat)(o q1 q2:Bool)(hc:m[c]? =some (.cells o 1 [.slice r1 0 n none,.slice r2 0 n none]))(Ya:m[r1]? =some (.cells q1 1 (stC L1)))(Yc:m[r2]? =some (.cells q2 1 (stC L2))):
  kF prog 167 [.slice c 0 2 none,.slice c 0 2 none] m (.bool true) m:=by
 have hG:aT prog 167=some f167:=by kernel_rfl
 have hO:kP prog (gq 243 [.slice c 0 2 none,.slice c 0 2 none,.func 166 []] (.bool true) (fun M=>M=m)):=ic fun M hM=>by subst hM;exact K5 n hn L1 Ym L2 YU M c r1 r2 o q1 q2 hc Ya Yc
 refine bB (K:=1) (lv:=fun _=>[]) hO ?_;clear hO;simp[ad,hG,f167,gq]
end
section
variable (nm:List UInt8)(B U:List (List UInt8))(hB:B.length≤1000)(hU:U.length≤1000)
include nm B U hB hU
theorem BL(m:Mem)(b u:Nat)(o1 o2:Bool)(hb:m[b]? =some (.cells o1 1 (stC B)))(hu:m[u]? =some (.cells o2 1 (stC U))):
  kF prog 110 [.agg (bc nm (.slice b 0 B.length none) (.slice u 0 U.length none) (.kK)),.agg (bc nm (.slice b 0 B.length none) (.slice u 0 U.length none) (.kK))] m (.bool true) m:=by
 have lb:=(gL hb);have lu:=(gL hu);have hO:kP prog (iU [(166,[.slice b 0 B.length none,.slice b 0 B.length none],.bool true),(26,[.slice u 0 U.length none,.slice u 0 U.length none],.bool true)] (fun M=>∃ext,M=m++ext)):=mq fun e he M hM=>by
  obtain⟨ext,rfl⟩:=hM;simp only[List.mem_cons,List.not_mem_nil,or_false] at he;rcases he with rfl | rfl
  ·exact mQ B hB _ b o1 (by rw[List.getElem?_append_left lb];exact hb)
  ·exact zy U hU _ u o2 (by rw[List.getElem?_append_left lu];exact hu)
 have k:∀f args v E,(f,args,v)∈[(166,[.slice b 0 B.length none,.slice b 0 B.length none],.bool true),(26,[.slice u 0 U.length none,.slice u 0 U.length none],.bool true)]→iU [(166,[.slice b 0 B.length none,.slice b 0 B.length none],.bool true),(26,[.slice u 0 U.length none,.slice u 0 U.length none],.bool true)] (fun M=>∃ext,M=m++ext) (.fn f) args (m++E)=some ⟨v,none,[]⟩:=fun f args v E h=>by simp only[List.mem_cons,List.not_mem_nil,or_false,Prod.mk.injEq] at h;rcases h with⟨rfl,rfl,rfl⟩ | ⟨rfl,rfl,rfl⟩<;>simp[iU,ag,cK]
 have k2:∀f args E,iU [(166,[.slice b 0 B.length none,.slice b 0 B.length none],.bool true),(26,[.slice u 0 U.length none,.slice u 0 U.length none],.bool true)] (fun M=>∃ext,M=m++ext) (.fn f) args (m++E)=ag (cK [(166,[.slice b 0 B.length none,.slice b 0 B.length none],.bool true),(26,[.slice u 0 U.length none,.slice u 0 U.length none],.bool true)]) (.fn f) args (m++E):=fun f args E=>by simp[iU]
 refine iX (kP.or' hO iu) ?_ ?_ ?_ ?_
 ·unfold adM.or
  rw[k _ _ (.bool true) _ (by simp)]
 ·unfold adM.or
  rw[k _ _ (.bool true) _ (by simp)]
 ·unfold adM.or
  rw[k2];simp[ag,cK,qS]
 ·unfold adM.or
  rw[k2];simp[ag,cK,qS]
section
variable (L1:List (List UInt8))(Ym:L1.length=B.length)
include L1 Ym
theorem BM(m:Mem)(b u c r1:Nat)(o1 o2 o3 q1:Bool)(hb:m[b]? =some (.cells o1 1 (stC B)))(hu:m[u]? =some (.cells o2 1 (stC U)))(hc:m[c]? =some (.cells o3 1 [.slice r1 0 B.length none]))(Ya:m[r1]? =some (.cells q1 1 (stC L1))):
  kF prog 110 [.agg (bc nm (.slice b 0 B.length none) (.slice u 0 U.length none) (.slice c 0 1 none)),.agg (bc nm (.slice b 0 B.length none) (.slice u 0 U.length none) (.slice c 0 1 none))] m (.bool true) m:=by
 have lb:=(gL hb);have lu:=(gL hu);have lc:=(gL hc);have lr1:=(gL Ya);have hO:kP prog (iU [(166,[.slice b 0 B.length none,.slice b 0 B.length none],.bool true),(26,[.slice u 0 U.length none,.slice u 0 U.length none],.bool true),(167,[.slice c 0 1 none,.slice c 0 1 none],.bool true)] (fun M=>∃ext,M=m++ext)):=mq fun e he M hM=>by
  obtain⟨ext,rfl⟩:=hM;simp only[List.mem_cons,List.not_mem_nil,or_false] at he;rcases he with rfl | rfl | rfl
  ·exact mQ B hB _ b o1 (by rw[List.getElem?_append_left lb];exact hb)
  ·exact zy U hU _ u o2 (by rw[List.getElem?_append_left lu];exact hu)
  ·exact Qq B.length hB L1 Ym _ c r1 o3 q1 (by rw[List.getElem?_append_left lc];exact hc) (by rw[List.getElem?_append_left lr1];exact Ya)
 have k:∀f args v E,(f,args,v)∈[(166,[.slice b 0 B.length none,.slice b 0 B.length none],.bool true),(26,[.slice u 0 U.length none,.slice u 0 U.length none],.bool true),(167,[.slice c 0 1 none,.slice c 0 1 none],.bool true)]→iU [(166,[.slice b 0 B.length none,.slice b 0 B.length none],.bool true),(26,[.slice u 0 U.length none,.slice u 0 U.length none],.bool true),(167,[.slice c 0 1 none,.slice c 0 1 none],.bool true)] (fun M=>∃ext,M=m++ext) (.fn f) args (m++E)=some ⟨v,none,[]⟩:=fun f args v E h=>by simp only[List.mem_cons,List.not_mem_nil,or_false,Prod.mk.injEq] at h;rcases h with⟨rfl,rfl,rfl⟩ | ⟨rfl,rfl,rfl⟩ | ⟨rfl,rfl,rfl⟩<;>simp[iU,ag,cK]
 have k2:∀f args E,iU [(166,[.slice b 0 B.length none,.slice b 0 B.length none],.bool true),(26,[.slice u 0 U.length none,.slice u 0 U.length none],.bool true),(167,[.slice c 0 1 none,.slice c 0 1 none],.bool true)] (fun M=>∃ext,M=m++ext) (.fn f) args (m++E)=ag (cK [(166,[.slice b 0 B.length none,.slice b 0 B.length none],.bool true),(26,[.slice u 0 U.length none,.slice u 0 U.length none],.bool true),(167,[.slice c 0 1 none,.slice c 0 1 none],.bool true)]) (.fn f) args (m++E):=fun f args E=>by simp[iU]
 refine iX (kP.or' hO iu) ?_ ?_ ?_ ?_
 ·unfold adM.or
  rw[k _ _ (.bool true) _ (by simp)]
 ·unfold adM.or
  rw[k _ _ (.bool true) _ (by simp)]
 ·unfold adM.or
  rw[k _ _ (.bool true) _ (by simp)]
 ·unfold adM.or
  rw[k2];simp[ag,cK,qS]
theorem BN(L2:List (List UInt8))(YU:L2.length=B.length)(m:Mem)(b u c r1 r2:Nat)(o1 o2 o3 q1 q2:Bool)(hb:m[b]? =some (.cells o1 1 (stC B)))(hu:m[u]? =some (.cells o2 1 (stC U)))(hc:m[c]? =some (.cells o3 1 [.slice r1 0 B.length none,.slice r2 0 B.length none]))(Ya:m[r1]? =some (.cells q1 1 (stC L1)))(Yc:m[r2]? =some (.cells q2 1 (stC L2))):
  kF prog 110 [.agg (bc nm (.slice b 0 B.length none) (.slice u 0 U.length none) (.slice c 0 2 none)),.agg (bc nm (.slice b 0 B.length none) (.slice u 0 U.length none) (.slice c 0 2 none))] m (.bool true) m:=by
 have lb:=(gL hb);have lu:=(gL hu);have lc:=(gL hc);have lr1:=(gL Ya);have lr2:=(gL Yc);have hO:kP prog (iU [(166,[.slice b 0 B.length none,.slice b 0 B.length none],.bool true),(26,[.slice u 0 U.length none,.slice u 0 U.length none],.bool true),(167,[.slice c 0 2 none,.slice c 0 2 none],.bool true)] (fun M=>∃ext,M=m++ext)):=mq fun e he M hM=>by
  obtain⟨ext,rfl⟩:=hM;simp only[List.mem_cons,List.not_mem_nil,or_false] at he;rcases he with rfl | rfl | rfl
  ·exact mQ B hB _ b o1 (by rw[List.getElem?_append_left lb];exact hb)
  ·exact zy U hU _ u o2 (by rw[List.getElem?_append_left lu];exact hu)
  ·exact Qr B.length hB L1 Ym L2 YU _ c r1 r2 o3 q1 q2 (by rw[List.getElem?_append_left lc];exact hc) (by rw[List.getElem?_append_left lr1];exact Ya) (by rw[List.getElem?_append_left lr2];exact Yc)
 have k:∀f args v E,(f,args,v)∈[(166,[.slice b 0 B.length none,.slice b 0 B.length none],.bool true),(26,[.slice u 0 U.length none,.slice u 0 U.length none],.bool true),(167,[.slice c 0 2 none,.slice c 0 2 none],.bool true)]→iU [(166,[.slice b 0 B.length none,.slice b 0 B.length none],.bool true),(26,[.slice u 0 U.length none,.slice u 0 U.length none],.bool true),(167,[.slice c 0 2 none,.slice c 0 2 none],.bool true)] (fun M=>∃ext,M=m++ext) (.fn f) args (m++E)=some ⟨v,none,[]⟩:=fun f args v E h=>by simp only[List.mem_cons,List.not_mem_nil,or_false,Prod.mk.injEq] at h;rcases h with⟨rfl,rfl,rfl⟩ | ⟨rfl,rfl,rfl⟩ | ⟨rfl,rfl,rfl⟩<;>simp[iU,ag,cK]
 have k2:∀f args E,iU [(166,[.slice b 0 B.length none,.slice b 0 B.length none],.bool true),(26,[.slice u 0 U.length none,.slice u 0 U.length none],.bool true),(167,[.slice c 0 2 none,.slice c 0 2 none],.bool true)] (fun M=>∃ext,M=m++ext) (.fn f) args (m++E)=ag (cK [(166,[.slice b 0 B.length none,.slice b 0 B.length none],.bool true),(26,[.slice u 0 U.length none,.slice u 0 U.length none],.bool true),(167,[.slice c 0 2 none,.slice c 0 2 none],.bool true)]) (.fn f) args (m++E):=fun f args E=>by simp[iU]
 refine iX (kP.or' hO iu) ?_ ?_ ?_ ?_
 ·unfold adM.or
  rw[k _ _ (.bool true) _ (by simp)]
 ·unfold adM.or
  rw[k _ _ (.bool true) _ (by simp)]
 ·unfold adM.or
  rw[k _ _ (.bool true) _ (by simp)]
 ·unfold adM.or
  rw[k2];simp[ag,cK,qS]
end
end
def bI:AV:=.agg [.func 185 [],.func 186 [],.func 187 [],.func 188 [],.func 189 []]
theorem zr(nm:List UInt8)(n k:Nat):kF prog 77 [.agg (bc nm (.slice 0 0 n none) (.slice 1 0 k none) (.kK))] [.kO,.kO] bI [.kO,.kO]:=by
 have h:ad (aM prog) aa (aT prog) ux 6 77 [.agg (bc nm (.slice 0 0 n none) (.slice 1 0 k none) (.kK))] [.kO,.kO]=some ⟨bI,none,[]⟩:=by as_aux_lemma=>kernel_rfl
 have:=(ak ae (aq _) ir (au _) h).1;simpa [HS.mem] using this
theorem rO(nm:List UInt8)(n k:Nat)(M:Mem)(hM:5≤M.length∨(4≤M.length∧0=0)):kF prog 77 [.agg (bc nm (.slice 2 0 n none) (.slice 3 0 k none) (.kK))] M bI M:=by
 have:=kF.frame (M:=M) (new:=[]) [2,3] rfl (by intro k hk;simp at hk;omega) (by rfl) (fun i t hs=>by
  match i with
  |0=>simp at hs;subst hs;trivial
  |1=>simp at hs;subst hs;trivial
  |i+2=>simp at hs) rfl (zr nm n k)
 simpa [bc,AV.aeM,AV.ren,aF,bI] using this
def mJ(s:aeE) (u0:List UInt8) (Z:List Int):Mem:=[.cells false 2 (pC s.P),.cells false 3 (tC s.T),.cells false 1 (qC (qH Z)),.cells false 1 [.str u0]]
def gW(s:aeE) (u0:List UInt8) (Z:List Int) (ev:List AV):Mem:=[.cells false 2 (pC s.P),.cells false 3 (tC s.T),.cells false 1 (qC (qH Z)),.cells false 1 [.str u0],.cells true 0 [.slice 0 0 s.P.length none,.slice 1 0 s.T.length none],.cells true 0 ev]
theorem agA:aT prog 185=some f185:=by kernel_rfl
theorem xO(s:aeE)(nm:List UInt8)(u0:List UInt8)(Z:List Int):
  kF prog 185 [.agg (bc nm (.slice 2 0 Z.length none) (.slice 3 0 1 none) (.kK)),.ptr 6 0] (gW s u0 Z (bc nm (.slice 2 0 Z.length none) (.slice 3 0 1 none) (.kK))++[.cells true 0 (cS 1 nm)]) (.tuple []) (gW s u0 Z (bc nm (.slice 2 0 Z.length none) (.slice 3 0 1 none) (.kK))++[.cells true 0 (bc nm (.slice 2 0 Z.length none) (.slice 3 0 1 none) (.kK))]):=by
 have h:ad (aM prog) (fun _=>[]) (aT prog) bq 1 185 [.agg (bc nm (.slice 2 0 Z.length none) (.slice 3 0 1 none) (.kK)),.ptr 6 0] (gW s u0 Z (bc nm (.slice 2 0 Z.length none) (.slice 3 0 1 none) (.kK))++[.cells true 0 (cS 1 nm)])=some ⟨.tuple [],some (gW s u0 Z (bc nm (.slice 2 0 Z.length none) (.slice 3 0 1 none) (.kK))++[.cells true 0 (bc nm (.slice 2 0 Z.length none) (.slice 3 0 1 none) (.kK))]),[]⟩:=by simp[ad,agA,f185,gW,cS,bc,dV,eO,gA,iS,gg,eJ]
 have:=(ak ae (aq _) (ah _) (au _) h).1;simpa [HS.mem] using this
noncomputable def lV(s:aeE) (u0:List UInt8) (Z:List Int) (nm:List UInt8) (ev:List AV):List (FuncId×List AV×Mem×HS):=[
 (59,[shA s],gW s u0 Z ev,⟨.int .i64 0,none,[]⟩),
 (77,[.agg ev],gW s u0 Z ev++[.cells true 0 (cS 1 nm)],⟨bI,none,[]⟩),
 (185,[.agg ev,.ptr 6 0],gW s u0 Z ev++[.cells true 0 (cS 1 nm)],⟨.tuple [],some (gW s u0 Z ev++[.cells true 0 ev]),[]⟩),
 (110,[.agg ev,.agg ev],gW s u0 Z ev++[.cells true 0 ev],⟨.bool true,none,[]⟩),
 (77,[.agg ev],gW s u0 Z ev++[.cells true 0 ev],⟨bI,none,[]⟩),
 (186,[shA s,.agg ev],gW s u0 Z ev++[.cells true 0 ev],⟨.int .i64 0,none,[]⟩)]
theorem agB:aT prog 61=some f61:=by kernel_rfl
theorem agC:aX [0,1,3,0,15] 4=true:=by decide
theorem agD:aX [0,1,3,0,0,31,63] 6=true:=by decide
def agE:=bj (rfl:aG f61=_) (ls:=[[0,1,3,0,15],[0,1,3,0,0,31,63]]) (by kernel_rfl)
theorem vD(s:aeE)(nm:List UInt8)(u0:List UInt8)(Z:List Int)(hm:nm∈bC)(n0:u0∈bC)(hZ:∀z∈Z,z.natAbs<1000)(hl:Z.length≤1000)(hn:Z.length=s.P.length):
  kF prog 61 [shA s,.agg (bc nm (.slice 2 0 Z.length none) (.slice 3 0 1 none) (.kK))] (mJ s u0 Z) (.int .i64 0) (mJ s u0 Z):=by
 have IR:=agE;simp only[aG,bF,f61,List.nil_append,List.append_nil,List.cons_append,List.map_cons,List.map_nil,List.cons.injEq,and_true] at IR;obtain⟨XY,hb1⟩:=IR;have YC:kP prog (ag (cK [(109,[.str nm],.int .i64 0)])):=fa fun e he M=>by simp only[List.mem_cons,List.not_mem_nil,or_false] at he;subst he;exact dj nm hm M
 obtain⟨ev,X9⟩:∃ev,ev=bc nm (.slice 2 0 Z.length none) (.slice 3 0 1 none) (.kK):=⟨_,rfl⟩
 have Yn:kP prog (fM (lV s u0 Z nm ev)):=iO fun e he=>by
  simp only[lV,List.mem_cons,List.not_mem_nil,or_false] at he;subst X9;have hc:=FN s nm u0 n0  Z hZ hl hn (gW s u0 Z (bc nm (.slice 2 0 Z.length none) (.slice 3 0 1 none) (.kK))++[.cells true 0 (bc nm (.slice 2 0 Z.length none) (.slice 3 0 1 none) (.kK))]) 2 3 false false false false rfl rfl rfl rfl;have hq:=BL nm ((qH Z).map aw) [u0] (by simp[qH];omega) (by simp) (gW s u0 Z (bc nm (.slice 2 0 Z.length none) (.slice 3 0 1 none) (.kK))++[.cells true 0 (bc nm (.slice 2 0 Z.length none) (.slice 3 0 1 none) (.kK))]) 2 3 false false (by rw[←xD];rfl) rfl;have hz:((qH Z).map aw).length=Z.length:=by simp[qH]
  rw[hz] at hq;rcases he with rfl | rfl | rfl | rfl | rfl | rfl
  ·exact⟨by simpa [HS.mem,shA] using dR s (gW s u0 Z (bc nm (.slice 2 0 Z.length none) (.slice 3 0 1 none) (.kK))) 0 1 false false rfl rfl,by simp⟩
  ·exact⟨by simpa [HS.mem] using rO nm Z.length 1 (gW s u0 Z (bc nm (.slice 2 0 Z.length none) (.slice 3 0 1 none) (.kK))++[.cells true 0 (cS 1 nm)]) (by simp[gW]),by simp⟩
  ·exact⟨by simpa [HS.mem] using xO s nm u0 Z,by simp[gW]⟩
  ·exact⟨by simpa [HS.mem] using hq,by simp⟩
  ·exact⟨by simpa [HS.mem] using rO nm Z.length 1 (gW s u0 Z (bc nm (.slice 2 0 Z.length none) (.slice 3 0 1 none) (.kK))++[.cells true 0 (bc nm (.slice 2 0 Z.length none) (.slice 3 0 1 none) (.kK))]) (by simp[gW]),by simp⟩
  ·exact⟨by simpa [HS.mem] using hc,by simp⟩
 have hO:=kP.or' YC Yn;have h:ad (aM prog) (fun _=>[]) (aT prog) (adM.or (ag (cK [(109,[.str nm],.int .i64 0)])) (fM (lV s u0 Z nm ev))) 1 61 [shA s,.agg (bc nm (.slice 2 0 Z.length none) (.slice 3 0 1 none) (.kK))] (mJ s u0 Z)=some ⟨.int .i64 0,some (mJ s u0 Z),[]⟩:=by rw[X9];clear hO YC Yn hn;simp[cz,-aE,aj XY,aj hb1,bn,bf,bm,agC,agD,Nat.testBit,-nb,gr,gu,ad,agB,f61,adM.or,ag,cK,fM,lV,bI,shA,gW,mJ,cS,bc,cM,aR,dV,eO,gA,iS,Bk,wW,gg,eJ,Kw]
 have:=(ak ae (aq _) hO (au _) h).1;simpa [HS.mem] using this
theorem zt(nm:List UInt8)(n k:Nat):kF prog 77 [.agg (bc nm (.slice 0 0 n none) (.slice 1 0 k none) (.slice 2 0 1 none))] [.kO,.kO,.kO] bI [.kO,.kO,.kO]:=by
 have h:ad (aM prog) aa (aT prog) ux 6 77 [.agg (bc nm (.slice 0 0 n none) (.slice 1 0 k none) (.slice 2 0 1 none))] [.kO,.kO,.kO]=some ⟨bI,none,[]⟩:=by as_aux_lemma=>kernel_rfl
 have:=(ak ae (aq _) ir (au _) h).1;simpa [HS.mem] using this
theorem rQ(nm:List UInt8)(n k:Nat)(M:Mem)(hM:5≤M.length∨(4≤M.length∧1=0)):kF prog 77 [.agg (bc nm (.slice 2 0 n none) (.slice 3 0 k none) (.slice 4 0 1 none))] M bI M:=by
 have:=kF.frame (M:=M) (new:=[]) [2,3,4] rfl (by intro k hk;simp at hk;omega) (by rfl) (fun i t hs=>by
  match i with
  |0=>simp at hs;subst hs;trivial
  |1=>simp at hs;subst hs;trivial
  |2=>simp at hs;subst hs;trivial
  |i+3=>simp at hs) rfl (zt nm n k)
 simpa [bc,AV.aeM,AV.ren,aF,bI] using this
def jM(s:aeE) (u0 u1:List UInt8) (Z Y1:List Int):Mem:=[.cells false 2 (pC s.P),.cells false 3 (tC s.T),.cells false 1 (qC (qH Z)),.cells false 1 [.str u0,.str u1],.cells false 1 [.slice 5 0 Z.length none],.cells false 1 (qC (qH Y1))]
def gX(s:aeE) (u0 u1:List UInt8) (Z Y1:List Int) (ev:List AV):Mem:=[.cells false 2 (pC s.P),.cells false 3 (tC s.T),.cells false 1 (qC (qH Z)),.cells false 1 [.str u0,.str u1],.cells false 1 [.slice 5 0 Z.length none],.cells false 1 (qC (qH Y1)),.cells true 0 [.slice 0 0 s.P.length none,.slice 1 0 s.T.length none],.cells true 0 ev]
theorem xP(s:aeE)(nm:List UInt8)(u0 u1:List UInt8)(Z Y1:List Int):
  kF prog 185 [.agg (bc nm (.slice 2 0 Z.length none) (.slice 3 0 2 none) (.slice 4 0 1 none)),.ptr 8 0] (gX s u0 u1 Z Y1 (bc nm (.slice 2 0 Z.length none) (.slice 3 0 2 none) (.slice 4 0 1 none))++[.cells true 0 (cS 1 nm)]) (.tuple []) (gX s u0 u1 Z Y1 (bc nm (.slice 2 0 Z.length none) (.slice 3 0 2 none) (.slice 4 0 1 none))++[.cells true 0 (bc nm (.slice 2 0 Z.length none) (.slice 3 0 2 none) (.slice 4 0 1 none))]):=by
 have h:ad (aM prog) (fun _=>[]) (aT prog) bq 1 185 [.agg (bc nm (.slice 2 0 Z.length none) (.slice 3 0 2 none) (.slice 4 0 1 none)),.ptr 8 0] (gX s u0 u1 Z Y1 (bc nm (.slice 2 0 Z.length none) (.slice 3 0 2 none) (.slice 4 0 1 none))++[.cells true 0 (cS 1 nm)])=some ⟨.tuple [],some (gX s u0 u1 Z Y1 (bc nm (.slice 2 0 Z.length none) (.slice 3 0 2 none) (.slice 4 0 1 none))++[.cells true 0 (bc nm (.slice 2 0 Z.length none) (.slice 3 0 2 none) (.slice 4 0 1 none))]),[]⟩:=by simp[ad,agA,f185,gX,cS,bc,dV,eO,gA,iS,gg,eJ]
 have:=(ak ae (aq _) (ah _) (au _) h).1;simpa [HS.mem] using this
noncomputable def lW(s:aeE) (u0 u1:List UInt8) (Z Y1:List Int) (nm:List UInt8) (ev:List AV):List (FuncId×List AV×Mem×HS):=[
 (59,[shA s],gX s u0 u1 Z Y1 ev,⟨.int .i64 0,none,[]⟩),
 (77,[.agg ev],gX s u0 u1 Z Y1 ev++[.cells true 0 (cS 1 nm)],⟨bI,none,[]⟩),
 (185,[.agg ev,.ptr 8 0],gX s u0 u1 Z Y1 ev++[.cells true 0 (cS 1 nm)],⟨.tuple [],some (gX s u0 u1 Z Y1 ev++[.cells true 0 ev]),[]⟩),
 (110,[.agg ev,.agg ev],gX s u0 u1 Z Y1 ev++[.cells true 0 ev],⟨.bool true,none,[]⟩),
 (77,[.agg ev],gX s u0 u1 Z Y1 ev++[.cells true 0 ev],⟨bI,none,[]⟩),
 (186,[shA s,.agg ev],gX s u0 u1 Z Y1 ev++[.cells true 0 ev],⟨.int .i64 0,none,[]⟩)]
theorem vE(s:aeE)(nm:List UInt8)(u0 u1:List UInt8)(Z Y1:List Int)(hm:nm∈bC)(n0:u0∈bC)(n1:u1∈bC)(ZF:u1≠u0)(hZ:∀z∈Z,z.natAbs<1000)(hl:Z.length≤1000)(hn:Z.length=s.P.length)(Zr:∀z∈Y1,z.natAbs<1000)(Ym:Y1.length=s.P.length)(Yq:∀(i:Nat) z y,Z[i]? =some z→Y1[i]? =some y→z≤y):
  kF prog 61 [shA s,.agg (bc nm (.slice 2 0 Z.length none) (.slice 3 0 2 none) (.slice 4 0 1 none))] (jM s u0 u1 Z Y1) (.int .i64 0) (jM s u0 u1 Z Y1):=by
 have IR:=agE;simp only[aG,bF,f61,List.nil_append,List.append_nil,List.cons_append,List.map_cons,List.map_nil,List.cons.injEq,and_true] at IR;obtain⟨XY,hb1⟩:=IR;have YC:kP prog (ag (cK [(109,[.str nm],.int .i64 0)])):=fa fun e he M=>by simp only[List.mem_cons,List.not_mem_nil,or_false] at he;subst he;exact dj nm hm M
 obtain⟨ev,X9⟩:∃ev,ev=bc nm (.slice 2 0 Z.length none) (.slice 3 0 2 none) (.slice 4 0 1 none):=⟨_,rfl⟩
 have Yn:kP prog (fM (lW s u0 u1 Z Y1 nm ev)):=iO fun e he=>by
  simp only[lW,List.mem_cons,List.not_mem_nil,or_false] at he;subst X9;have hc:=FO s nm u0 u1 n0 n1 ZF Z hZ hl hn Y1 Zr Ym Yq (gX s u0 u1 Z Y1 (bc nm (.slice 2 0 Z.length none) (.slice 3 0 2 none) (.slice 4 0 1 none))++[.cells true 0 (bc nm (.slice 2 0 Z.length none) (.slice 3 0 2 none) (.slice 4 0 1 none))]) 2 3 4 5 false false false false false false rfl rfl rfl rfl rfl rfl;have hq:=BM nm ((qH Z).map aw) [u0,u1] (by simp[qH];omega) (by simp) ((qH Y1).map aw) (by simp[qH];omega) (gX s u0 u1 Z Y1 (bc nm (.slice 2 0 Z.length none) (.slice 3 0 2 none) (.slice 4 0 1 none))++[.cells true 0 (bc nm (.slice 2 0 Z.length none) (.slice 3 0 2 none) (.slice 4 0 1 none))]) 2 3 4 5 false false false false (by rw[←xD];rfl) rfl (by rw[show((qH Z).map aw).length=Z.length by simp[qH]];rfl) (by rw[←xD];rfl);have hz:((qH Z).map aw).length=Z.length:=by simp[qH]
  rw[hz] at hq;rcases he with rfl | rfl | rfl | rfl | rfl | rfl
  ·exact⟨by simpa [HS.mem,shA] using dR s (gX s u0 u1 Z Y1 (bc nm (.slice 2 0 Z.length none) (.slice 3 0 2 none) (.slice 4 0 1 none))) 0 1 false false rfl rfl,by simp⟩
  ·exact⟨by simpa [HS.mem] using rQ nm Z.length 2 (gX s u0 u1 Z Y1 (bc nm (.slice 2 0 Z.length none) (.slice 3 0 2 none) (.slice 4 0 1 none))++[.cells true 0 (cS 1 nm)]) (by simp[gX]),by simp⟩
  ·exact⟨by simpa [HS.mem] using xP s nm u0 u1 Z Y1,by simp[gX]⟩
  ·exact⟨by simpa [HS.mem] using hq,by simp⟩
  ·exact⟨by simpa [HS.mem] using rQ nm Z.length 2 (gX s u0 u1 Z Y1 (bc nm (.slice 2 0 Z.length none) (.slice 3 0 2 none) (.slice 4 0 1 none))++[.cells true 0 (bc nm (.slice 2 0 Z.length none) (.slice 3 0 2 none) (.slice 4 0 1 none))]) (by simp[gX]),by simp⟩
  ·exact⟨by simpa [HS.mem] using hc,by simp⟩
 have hO:=kP.or' YC Yn;have h:ad (aM prog) (fun _=>[]) (aT prog) (adM.or (ag (cK [(109,[.str nm],.int .i64 0)])) (fM (lW s u0 u1 Z Y1 nm ev))) 1 61 [shA s,.agg (bc nm (.slice 2 0 Z.length none) (.slice 3 0 2 none) (.slice 4 0 1 none))] (jM s u0 u1 Z Y1)=some ⟨.int .i64 0,some (jM s u0 u1 Z Y1),[]⟩:=by rw[X9];clear hO YC Yn hn;simp[cz,-aE,aj XY,aj hb1,bn,bf,bm,agC,agD,Nat.testBit,-nb,gr,gu,ad,agB,f61,adM.or,ag,cK,fM,lW,bI,shA,gX,jM,cS,bc,cM,aR,dV,eO,gA,iS,Bk,wW,gg,eJ,Kw]
 have:=(ak ae (aq _) hO (au _) h).1;simpa [HS.mem] using this
theorem zu(nm:List UInt8)(n k:Nat):kF prog 77 [.agg (bc nm (.slice 0 0 n none) (.slice 1 0 k none) (.slice 2 0 2 none))] [.kO,.kO,.kO] bI [.kO,.kO,.kO]:=by
 have h:ad (aM prog) aa (aT prog) ux 6 77 [.agg (bc nm (.slice 0 0 n none) (.slice 1 0 k none) (.slice 2 0 2 none))] [.kO,.kO,.kO]=some ⟨bI,none,[]⟩:=by as_aux_lemma=>kernel_rfl
 have:=(ak ae (aq _) ir (au _) h).1;simpa [HS.mem] using this
theorem rR(nm:List UInt8)(n k:Nat)(M:Mem)(hM:5≤M.length∨(4≤M.length∧2=0)):kF prog 77 [.agg (bc nm (.slice 2 0 n none) (.slice 3 0 k none) (.slice 4 0 2 none))] M bI M:=by
 have:=kF.frame (M:=M) (new:=[]) [2,3,4] rfl (by intro k hk;simp at hk;omega) (by rfl) (fun i t hs=>by
  match i with
  |0=>simp at hs;subst hs;trivial
  |1=>simp at hs;subst hs;trivial
  |2=>simp at hs;subst hs;trivial
  |i+3=>simp at hs) rfl (zu nm n k)
 simpa [bc,AV.aeM,AV.ren,aF,bI] using this
def ji(s:aeE) (u0 u1 u2:List UInt8) (Z Y1 Y2:List Int):Mem:=[.cells false 2 (pC s.P),.cells false 3 (tC s.T),.cells false 1 (qC (qH Z)),.cells false 1 [.str u0,.str u1,.str u2],.cells false 1 [.slice 5 0 Z.length none,.slice 6 0 Z.length none],.cells false 1 (qC (qH Y1)),.cells false 1 (qC (qH Y2))]
def ia(s:aeE) (u0 u1 u2:List UInt8) (Z Y1 Y2:List Int) (ev:List AV):Mem:=[.cells false 2 (pC s.P),.cells false 3 (tC s.T),.cells false 1 (qC (qH Z)),.cells false 1 [.str u0,.str u1,.str u2],.cells false 1 [.slice 5 0 Z.length none,.slice 6 0 Z.length none],.cells false 1 (qC (qH Y1)),.cells false 1 (qC (qH Y2)),.cells true 0 [.slice 0 0 s.P.length none,.slice 1 0 s.T.length none],.cells true 0 ev]
theorem xQ(s:aeE)(nm:List UInt8)(u0 u1 u2:List UInt8)(Z Y1 Y2:List Int):
  kF prog 185 [.agg (bc nm (.slice 2 0 Z.length none) (.slice 3 0 3 none) (.slice 4 0 2 none)),.ptr 9 0] (ia s u0 u1 u2 Z Y1 Y2 (bc nm (.slice 2 0 Z.length none) (.slice 3 0 3 none) (.slice 4 0 2 none))++[.cells true 0 (cS 1 nm)]) (.tuple []) (ia s u0 u1 u2 Z Y1 Y2 (bc nm (.slice 2 0 Z.length none) (.slice 3 0 3 none) (.slice 4 0 2 none))++[.cells true 0 (bc nm (.slice 2 0 Z.length none) (.slice 3 0 3 none) (.slice 4 0 2 none))]):=by
 have h:ad (aM prog) (fun _=>[]) (aT prog) bq 1 185 [.agg (bc nm (.slice 2 0 Z.length none) (.slice 3 0 3 none) (.slice 4 0 2 none)),.ptr 9 0] (ia s u0 u1 u2 Z Y1 Y2 (bc nm (.slice 2 0 Z.length none) (.slice 3 0 3 none) (.slice 4 0 2 none))++[.cells true 0 (cS 1 nm)])=some ⟨.tuple [],some (ia s u0 u1 u2 Z Y1 Y2 (bc nm (.slice 2 0 Z.length none) (.slice 3 0 3 none) (.slice 4 0 2 none))++[.cells true 0 (bc nm (.slice 2 0 Z.length none) (.slice 3 0 3 none) (.slice 4 0 2 none))]),[]⟩:=by simp[ad,agA,f185,ia,cS,bc,dV,eO,gA,iS,gg,eJ]
 have:=(ak ae (aq _) (ah _) (au _) h).1;simpa [HS.mem] using this
noncomputable def lX(s:aeE) (u0 u1 u2:List UInt8) (Z Y1 Y2:List Int) (nm:List UInt8) (ev:List AV):List (FuncId×List AV×Mem×HS):=[
 (59,[shA s],ia s u0 u1 u2 Z Y1 Y2 ev,⟨.int .i64 0,none,[]⟩),
 (77,[.agg ev],ia s u0 u1 u2 Z Y1 Y2 ev++[.cells true 0 (cS 1 nm)],⟨bI,none,[]⟩),
 (185,[.agg ev,.ptr 9 0],ia s u0 u1 u2 Z Y1 Y2 ev++[.cells true 0 (cS 1 nm)],⟨.tuple [],some (ia s u0 u1 u2 Z Y1 Y2 ev++[.cells true 0 ev]),[]⟩),
 (110,[.agg ev,.agg ev],ia s u0 u1 u2 Z Y1 Y2 ev++[.cells true 0 ev],⟨.bool true,none,[]⟩),
 (77,[.agg ev],ia s u0 u1 u2 Z Y1 Y2 ev++[.cells true 0 ev],⟨bI,none,[]⟩),
 (186,[shA s,.agg ev],ia s u0 u1 u2 Z Y1 Y2 ev++[.cells true 0 ev],⟨.int .i64 0,none,[]⟩)]
theorem vG(s:aeE)(nm:List UInt8)(u0 u1 u2:List UInt8)(Z Y1 Y2:List Int)(hm:nm∈bC)(n0:u0∈bC)(n1:u1∈bC)(n2:u2∈bC)(ZF:u1≠u0)(d02:u2≠u0)(d12:u2≠u1)(hZ:∀z∈Z,z.natAbs<1000)(hl:Z.length≤1000)(hn:Z.length=s.P.length)(Zr:∀z∈Y1,z.natAbs<1000)(Ym:Y1.length=s.P.length)(Yq:∀(i:Nat) z y,Z[i]? =some z→Y1[i]? =some y→z≤y)(hY2:∀z∈Y2,z.natAbs<1000)(YU:Y2.length=s.P.length)(ZG:∀(i:Nat) z y,Y1[i]? =some z→Y2[i]? =some y→z≤y):
  kF prog 61 [shA s,.agg (bc nm (.slice 2 0 Z.length none) (.slice 3 0 3 none) (.slice 4 0 2 none))] (ji s u0 u1 u2 Z Y1 Y2) (.int .i64 0) (ji s u0 u1 u2 Z Y1 Y2):=by
 have IR:=agE;simp only[aG,bF,f61,List.nil_append,List.append_nil,List.cons_append,List.map_cons,List.map_nil,List.cons.injEq,and_true] at IR;obtain⟨XY,hb1⟩:=IR;have YC:kP prog (ag (cK [(109,[.str nm],.int .i64 0)])):=fa fun e he M=>by simp only[List.mem_cons,List.not_mem_nil,or_false] at he;subst he;exact dj nm hm M
 obtain⟨ev,X9⟩:∃ev,ev=bc nm (.slice 2 0 Z.length none) (.slice 3 0 3 none) (.slice 4 0 2 none):=⟨_,rfl⟩
 have Yn:kP prog (fM (lX s u0 u1 u2 Z Y1 Y2 nm ev)):=iO fun e he=>by
  simp only[lX,List.mem_cons,List.not_mem_nil,or_false] at he;subst X9;have hc:=FP s nm u0 u1 u2 n0 n1 n2 ZF d02 d12 Z hZ hl hn Y1 Y2 Zr Ym Yq hY2 YU ZG (ia s u0 u1 u2 Z Y1 Y2 (bc nm (.slice 2 0 Z.length none) (.slice 3 0 3 none) (.slice 4 0 2 none))++[.cells true 0 (bc nm (.slice 2 0 Z.length none) (.slice 3 0 3 none) (.slice 4 0 2 none))]) 2 3 4 5 6 false false false false false false false rfl rfl rfl rfl rfl rfl rfl;have hq:=BN nm ((qH Z).map aw) [u0,u1,u2] (by simp[qH];omega) (by simp) ((qH Y1).map aw) (by simp[qH];omega) ((qH Y2).map aw) (by simp[qH];omega) (ia s u0 u1 u2 Z Y1 Y2 (bc nm (.slice 2 0 Z.length none) (.slice 3 0 3 none) (.slice 4 0 2 none))++[.cells true 0 (bc nm (.slice 2 0 Z.length none) (.slice 3 0 3 none) (.slice 4 0 2 none))]) 2 3 4 5 6 false false false false false (by rw[←xD];rfl) rfl (by rw[show((qH Z).map aw).length=Z.length by simp[qH]];rfl) (by rw[←xD];rfl) (by rw[←xD];rfl);have hz:((qH Z).map aw).length=Z.length:=by simp[qH]
  rw[hz] at hq;rcases he with rfl | rfl | rfl | rfl | rfl | rfl
  ·exact⟨by simpa [HS.mem,shA] using dR s (ia s u0 u1 u2 Z Y1 Y2 (bc nm (.slice 2 0 Z.length none) (.slice 3 0 3 none) (.slice 4 0 2 none))) 0 1 false false rfl rfl,by simp⟩
  ·exact⟨by simpa [HS.mem] using rR nm Z.length 3 (ia s u0 u1 u2 Z Y1 Y2 (bc nm (.slice 2 0 Z.length none) (.slice 3 0 3 none) (.slice 4 0 2 none))++[.cells true 0 (cS 1 nm)]) (by simp[ia]),by simp⟩
  ·exact⟨by simpa [HS.mem] using xQ s nm u0 u1 u2 Z Y1 Y2,by simp[ia]⟩
  ·exact⟨by simpa [HS.mem] using hq,by simp⟩
  ·exact⟨by simpa [HS.mem] using rR nm Z.length 3 (ia s u0 u1 u2 Z Y1 Y2 (bc nm (.slice 2 0 Z.length none) (.slice 3 0 3 none) (.slice 4 0 2 none))++[.cells true 0 (bc nm (.slice 2 0 Z.length none) (.slice 3 0 3 none) (.slice 4 0 2 none))]) (by simp[ia]),by simp⟩
  ·exact⟨by simpa [HS.mem] using hc,by simp⟩
 have hO:=kP.or' YC Yn;have h:ad (aM prog) (fun _=>[]) (aT prog) (adM.or (ag (cK [(109,[.str nm],.int .i64 0)])) (fM (lX s u0 u1 u2 Z Y1 Y2 nm ev))) 1 61 [shA s,.agg (bc nm (.slice 2 0 Z.length none) (.slice 3 0 3 none) (.slice 4 0 2 none))] (ji s u0 u1 u2 Z Y1 Y2)=some ⟨.int .i64 0,some (ji s u0 u1 u2 Z Y1 Y2),[]⟩:=by rw[X9];clear hO YC Yn hn;simp[cz,-aE,aj XY,aj hb1,bn,bf,bm,agC,agD,Nat.testBit,-nb,gr,gu,ad,agB,f61,adM.or,ag,cK,fM,lX,bI,shA,ia,ji,cS,bc,cM,aR,dV,eO,gA,iS,Bk,wW,gg,eJ,Kw]
 have:=(ak ae (aq _) hO (au _) h).1;simpa [HS.mem] using this
end Go.Proofs
