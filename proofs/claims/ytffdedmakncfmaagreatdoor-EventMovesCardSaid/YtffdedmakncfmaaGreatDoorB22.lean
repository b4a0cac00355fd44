/- See B54. -/
import Derived.Test.YtffdedmakncfmaaGreatDoorB21
set_option linter.all false
set_option maxRecDepth 100000
set_option maxHeartbeats 40000000
namespace Go.Proofs
open Go.Eng
open Tryz
theorem PH(n:Int)(d:Nat)(hd:d≠0)(y:(ai n.natAbs).length≤10000)(H:(ai d).length≤10000)(mem:Mem):
  kO prog 113 [.str (bB n),.str (ai d)] mem (.tuple [.str (aB (mkRat n d)),.int .i64 0]) mem:=by
 have Z:aT prog 113=some f113:=by kernel_rfl
 refine ao jP ?_ mem;have X:kg (d:Int)=1:=G2 hd;have V:(ai n.natAbs).length≤100000:=by omega
 have h3:(ai d).length≤100000:=by omega
 simp[aa,Z,f113,af,bJ,bD,cq,aO,aQ,cm,bk,aA,X,hd,V,h3]
noncomputable def Bt(f:FuncId)(args:List AV):Option AV:=
 match f,args with
 |113,[.str s,.str t]=>match jj s,wY t with
  |some n,some d=>if d≠0∧(ai n.natAbs).length≤10000∧(ai d).length≤10000 then some (.tuple [.str (aB (mkRat n d)),.int .i64 0]) else none
  |_,_=>none
 |f,args=>be f args
theorem Np:qS prog (af Bt):=bH fun f X v h mem=>by
 unfold Bt at h;split at h
 ·split at h
  ·rename_i m n V U
   split at h
   next Z=>cases h;rw[bN V,fS U];exact PH m n Z.1 Z.2.1 Z.2.2 mem
   ·cases h
  ·cases h
 ·have:=cO.fn _ _ mem ⟨v,none,[]⟩ (by unfold af;simp only;rw[h])
  simpa [y9.mem] using this
theorem fY{n:Nat}(h:n<10 ^ 19):(ai n).length≤20:=by exact aG (by omega) (by omega)
theorem Hz(n:Int)(d:Nat)(hd:d≠0)(y:dF n=true)(H:dF (d:Int)=true)(mem:Mem):
  kO prog 66 [.int .i64 n,.int .i64 d] mem (.tuple [.str (aB (mkRat n d)),.int .i64 0]) mem:=by
 have Z:aT prog 66=some f66:=by kernel_rfl
 refine ao Np ?_ mem;have X:n.natAbs<10 ^ 19:=by unfold dF at y;simp at y;omega
 have V:d<10 ^ 19:=by unfold dF at H;simp at H;omega
 have U:(ai n.natAbs).length≤10000:=by have:=fY X;omega
 have h3:(ai d).length≤10000:=by have:=fY V;omega
 have S:bB (d:Int)=ai d:=rfl;simp[aa,Z,f66,af,Bt,be,bd,bJ,bD,cq,aO,bk,aA,y,H,S,hd,U,h3]
end Go.Proofs
namespace Go.Eng
theorem yq{a:Int}{b:Nat}(y:0<b)(h:0≤a∨a.natAbs%b=0):a.tdiv b=a / b∧a.tmod b=((a.natAbs%b:Nat):Int):=by
 by_cases S:0≤a
 ·obtain⟨n,rfl⟩:∃n:Nat,a=n:=⟨a.toNat,by omega⟩
  rw[wO,wP,Int.natAbs_natCast,Int.natCast_ediv];exact⟨rfl,rfl⟩
 ·have Z:a.natAbs%b=0:=by rcases h with h | h<;>omega
  have X:a= -((a.natAbs / b*b:Nat):Int):=by have:=Nat.div_add_mod a.natAbs b;rw[Z,Nat.add_zero,Nat.mul_comm] at this;omega
  obtain⟨q,U⟩:=xE (a.natAbs / b);rw[←U] at X;rw[Z,X,Int.natCast_mul,←Int.neg_mul];have V :(b:Int)≠0:=by omega
  exact⟨by rw[Int.mul_tdiv_cancel _ V,Int.mul_ediv_cancel _ V],by rw[Int.mul_tmod_left];rfl⟩
end Go.Eng
namespace Go.Proofs
open Go.Eng
open Tryz
theorem MI(s:List UInt8)(mem:Mem):kO prog 126 [.str s] mem (.tuple [.bool (Lib.hasPrefix s [45]),.str (Lib.trimPrefix s [45])]) mem:=by
 have X:aT prog 126=some f126:=by kernel_rfl
 refine ao (ax _) ?_ mem;cases s with
 |nil=>simp[aa,X,f126,Lib.hasPrefix,Lib.trimPrefix]
 |cons c r=>
  have U:0<(r.length:Int)+1:=by omega
  have S:(1:Int)≤(r.length:Int)+1:=by omega
  by_cases h:c=45
  ·subst h
   have Z:Lib.hasPrefix (45::r) [45]=true:=by simp[Lib.hasPrefix,List.isPrefixOf]
   have V:Lib.trimPrefix (45::r) [45]=r:=by unfold Lib.trimPrefix;rw[Z];rfl
   rw[Z,V];simp[aa,X,f126,U,S,Nat.testBit]
  ·have R :¬(45:UInt8)=c:=fun e=>h e.symm
   have Z:Lib.hasPrefix (c::r) [45]=false:=by simp[Lib.hasPrefix,List.isPrefixOf,R]
   have V:Lib.trimPrefix (c::r) [45]=c::r:=by unfold Lib.trimPrefix;rw[Z];rfl
   have h3:¬((c.toNat:Int)=45):=by
    intro e;apply h;apply UInt8.toNat_inj.1;have:c.toNat=45:=by omega
    rw[this];rfl
   rw[Z,V];simp[aa,X,f126,U,h3]
noncomputable def bI(f:FuncId)(args:List AV):Option AV:=
 match f,args with
 |126,[.str s]=>some (.tuple [.bool (Lib.hasPrefix s [45]),.str (Lib.trimPrefix s [45])])
 |f,args=>ak f args
theorem jv:qS prog (af bI):=bH fun f Z v h mem=>by
 unfold bI at h;split at h
 ·cases h;exact MI _ mem
 ·have:=dO.fn _ _ mem ⟨v,none,[]⟩ (by unfold af;simp only;rw[h])
  simpa [y9.mem] using this
theorem MC(n:Int)(mem:Mem):kO prog 118 [.str (bB n)] mem (.int .i64 (kg n)) mem:=by
 have Z:aT prog 118=some f118:=by kernel_rfl
 refine ao jv ?_ mem;by_cases X:n<0
 ·simp[aa,Z,f118,af,bI,aL,aD,X,kg]
 ·by_cases V:n=0
  ·subst V
   have:bB 0=[48]:=rfl;simp[aa,Z,f118,af,bI,aL,aD,kg,fK]
  ·simp[aa,Z,f118,af,bI,aL,aD,X,V,kg,fK]
theorem PK(n:Int)(mem:Mem):kO prog 186 [.str (bB n)] mem (.str (ai n.natAbs)) mem:=by
 have Z:aT prog 186=some f186:=by kernel_rfl
 refine ao jv ?_ mem;simp[aa,Z,f186,af,bI,aD]
theorem RC(n:Int)(y:dF n=true)(mem:Mem):kO prog 71 [.int .i64 n] mem (.str (bB n)) mem:=by
 have Z:aT prog 71=some f71:=by kernel_rfl
 refine ao jv ?_ mem;simp[aa,Z,f71,af,bI,ak,y]
theorem PO(n:Int)(y:(ai n.natAbs).length≤1000000000)(mem:Mem):kO prog 119 [.str (bB n)] mem (.str (bB (-n))) mem:=by
 have Z:aT prog 119=some f119:=by kernel_rfl
 refine ao jv ?_ mem;by_cases X:n<0
 ·have e:bB (-n)=ai n.natAbs:=by rw[fL (by omega),Int.natAbs_neg]
  simp[aa,Z,f119,af,bI,aL,aD,X,e]
 ·by_cases V:n=0
  ·subst V
   have e:ai 0=[48]:=jb;have U:bB 0=[48]:=rfl;have S:Lib.hasPrefix [48] [45]=false:=rfl;have R:Lib.trimPrefix [48] [45]=[48]:=rfl;simp[aa,Z,f119,af,bI,U,S,R]
  ·have e:bB (-n)=45::ai n.natAbs:=by rw[jY (by omega),fL (by omega)]
   have Q:1+(ai n.natAbs).length≤eR:=by unfold eR;omega
   simp[aa,Z,f119,af,bI,aL,aD,X,V,fK,e,Q]
end Go.Proofs
namespace Go.Proofs
open Go.Eng
end Go.Proofs
namespace Go.Proofs
open Go.Eng
open Tryz
noncomputable def cG(f:FuncId)(args:List AV):Option AV:=bI f args
theorem Nq:qS prog (af cG):=jv
theorem zM{O:ae3}{K:Nat}(u:Nat)(H:(ai u).length≤18)(hK:20<K){b:Code}(y:ah f127=[b]):
  ∃F:Env→Bool→Env,∀Z d,(ab Z 5=.str (ai u)∧ab Z 6=.int .i64 0∧ab Z 7=.int .i64 0)→
   bh (ba prog) (fun _=>[6,7]) O K 45 0 true (.loop b) ⟨Z,[],d⟩=some (.exit 0,⟨F Z d,[],d⟩)∧
   (ab (F Z d) 6=.int .i64 (-(u:Int))∧ab (F Z d) 4=ab Z 4):=by
 obtain⟨s,S⟩:=xE (ai u);have D:s.all isD=true:=by rw[S];exact dn u
 have J:ej s=u:=by rw[S];exact du u
 rw[←S] at H ⊢;refine bj rfl (fun Z=>ab Z 5=.str s∧ab Z 6=.int .i64 0∧ab Z 7=.int .i64 0) (fun Z C =>ab C 6=.int .i64 (-(u:Int))∧ab C 4=ab Z 4) ?_;rintro Z d ⟨h5,h6,h7⟩;have B:ej (s.take 0)=0:=by rw[List.take_zero];unfold ej;rw[dw]
 have o:ay [6,7] (ad b) Z ((6,.int .i64 (-((ej (s.take 0):Nat):Int)))::(7,.int .i64 ((0:Nat):Int))::Z)=ay [6,7] (ad b) Z Z:=by rw[B];simp[ay,h6,h7]
 rw[←o];refine bx (α:=Nat) (fun j=>⟨ay [6,7] (ad b) Z ((6,.int .i64 (-((ej (s.take j):Nat):Int)))::(7,.int .i64 (j:Int))::Z),[],d⟩)
  (fun j=>s.length-j) (fun j=>j≤s.length) (.exit 0) _ d _ (by simp) ?_ K 0 (Nat.zero_le _) (by simp only[Nat.sub_zero];omega)
 intro j hj;clear o B;simp[ah,aE,f127] at y;by_cases I:j=s.length
 ·right
  subst I;rw[List.take_length,J];subst y;simp[h5]
 ·left
  have R:j<s.length:=by omega
  have Q:(j:Int)<(s.length:Int):=by omega
  obtain⟨c,N⟩:∃c,s[j]? =some c:=⟨s[j],by simp[R]⟩
  have M :s[j]=c:=(List.getElem?_eq_some_iff.1 N).2;have U:=List.all_eq_true.1 D c (List.mem_of_getElem? N);have ZS:=tw U;have ack:48≤c.toNat:=by unfold isD at U;simp only[Bool.and_eq_true,decide_eq_true_eq] at U;exact U.1
  have UV:s.take (j+1)=s.take j++[c]:=by rw[List.take_add_one,N];rfl
  have X:ej (s.take (j+1))=10*ej (s.take j)+(c.toNat-48):=by rw[UV,nT]
  have L:ej (s.take j)<10 ^ 17:=by
   have h1:=Dc (o8 D j);have h2:(s.take j).length≤17:=by rw[List.length_take];omega
   have h3:10 ^ (s.take j).length≤10 ^ 17:=Nat.pow_le_pow_right (by omega) h2;omega
  obtain⟨v,V⟩:=xE (ej (s.take j));obtain⟨m,Y⟩:=xE (ej (s.take (j+1)));rw[←V] at L X;rw[←Y] at X;obtain⟨k,hk⟩:=xE (α:=Nat) (c.toNat-48);have w0:IntKind.i64.wrap (c.toNat:Int)=(c.toNat:Int):=ae (by omega) (by have:=c.toNat_lt;omega);have w1:IntKind.i64.wrap ((c.toNat:Int)-48)=(k:Int):=by rw[ae (by omega) (by have:=c.toNat_lt;omega)];omega
  have w2:IntKind.i64.wrap (-9223372036854775808+(k:Int))= -9223372036854775808+(k:Int):=ae;obtain⟨z,W⟩:=xE ((-9223372036854775808+(k:Int)).tdiv 10);have hzb:z≤ -900000000000000000∧ -922337203685477581≤z:=by
   have e: -9223372036854775808+(k:Int)= -((9223372036854775808-k:Nat):Int):=by omega
   obtain⟨w,hw⟩:=xE ((9223372036854775808-k) / 10);have hz3:z= -(w:Int):=by rw[W,e,Int.neg_tdiv,G4 _ 10,←hw]
   omega
  have w3:IntKind.i64.wrap z=z:=ae;have G:¬(-(v:Int)<z):=by omega
  have w4:IntKind.i64.wrap (10* -(v:Int))=10* -(v:Int):=ae;have w4' :IntKind.i64.wrap (-(10*(v:Int)))= -(10*(v:Int)):=ae;have w5:IntKind.i64.wrap (10* -(v:Int)-(k:Int))= -(m:Int):=by rw[ae];omega
  have w5' :IntKind.i64.wrap (-(10*(v:Int))-(k:Int))= -(m:Int):=by rw[ae];omega
  have w6:IntKind.i64.wrap ((j:Int)+1)=((j+1:Nat):Int):=by rw[ae];omega
  refine⟨j+1,?_⟩;refine bt (show j+1≤s.length∧_ from⟨R,by omega⟩) ?_;subst y;simp[h5,R,Q,M,←V,←Y,w0,w1,w2,←W,w3,G,w4,w5,w6]
theorem HJ(n:Int)(y:(ai n.natAbs).length≤18)(mem:Mem):kO prog 127 [.str (bB n)] mem (.tuple [.int .i64 n,.bool true]) mem:=by
 have S:aT prog 127=some f127:=by kernel_rfl
 refine cH jv (lv:=fun _=>[6,7]) (K:=21) rfl rfl ?_ mem;obtain⟨b,V⟩:∃b,ah f127=[b]:=⟨_,rfl⟩
 obtain⟨F,X⟩:=zM (O:=af bI) (K:=21) n.natAbs y (by omega) V;have M:n.natAbs<10 ^ 18:=by have R:=bY n.natAbs;have Q:10 ^ (ai n.natAbs).length≤10 ^ 18:=Nat.pow_le_pow_right (by omega) y;omega
 obtain⟨u,U⟩:=xE n.natAbs;rw[←U] at X y M;have Z :¬(19<((ai u).length:Int)):=by omega
 simp[ah,aE,f127] at V;subst V;by_cases N:n<0
 ·have e: -(u:Int)=n:=by omega
  rw[e] at X;simp[aa,S,f127,af,bI,aL,aD,←U,Z,X,N]
 ·have e:(u:Int)=n:=by omega
  have R:¬(-(u:Int)= -9223372036854775808):=by omega
  have L :¬((u:Int)=9223372036854775808):=by omega
  have Q:IntKind.i64.wrap (u:Int)=n:=by rw[ae];exact e
  have h3:¬u=9223372036854775808:=by omega
  simp[aa,S,f127,af,bI,aL,aD,←U,Z,X,N,R,Q]
noncomputable def bP(f:FuncId)(args:List AV):Option AV:=
 match f,args with
 |127,[.str s]=>match jj s with
  |some n=>if (ai n.natAbs).length≤18 then some (.tuple [.int .i64 n,.bool true]) else none
  |none=>none
 |71,[.int .i64 n]=>if dF n then some (.str (bB n)) else none
 |118,[.str s]=>match jj s with
  |some n=>some (.int .i64 (kg n))
  |none=>none
 |186,[.str s]=>match jj s with
  |some n=>some (.str (ai n.natAbs))
  |none=>none
 |119,[.str s]=>match jj s with
  |some n=>if (ai n.natAbs).length≤1000000000 then some (.str (bB (-n))) else none
  |none=>none
 |f,args=>cG f args
theorem Bu:qS prog (af bP):=bH fun f V v h mem=>by
 unfold bP at h;split at h
 ·split at h
  ·rename_i n Z
   split at h
   next X=>cases h;rw[bN Z];exact HJ n X mem
   ·cases h
  ·cases h
 ·split at h
  next U=>cases h;exact RC _ U mem
  ·cases h
 ·split at h
  next n Z=>cases h;rw[bN Z];exact MC n mem
  ·cases h
 ·split at h
  next n Z=>cases h;rw[bN Z];exact PK n mem
  ·cases h
 ·split at h
  ·rename_i n Z
   split at h
   next X=>cases h;rw[bN Z];exact PO n X mem
   ·cases h
  ·cases h
 ·have:=Nq.fn _ _ mem ⟨v,none,[]⟩ (by unfold af;simp only;rw[h])
  simpa [y9.mem] using this
theorem HI(n:Int)(y:(ai n.natAbs).length≤1000000000)(mem:Mem):kO prog 182 [.str (bB n)] mem (if (ai n.natAbs).length≤17 then .tuple [.int .i64 n,.bool true] else .tuple [.int .i64 0,.bool false]) mem:=by
 have X:aT prog 182=some f182:=by kernel_rfl
 refine cH Bu (lv:=fun _=>[]) (K:=1) rfl (by split<;>rfl) ?_ mem;by_cases h:(ai n.natAbs).length≤17
 ·have Z:¬(17<((ai n.natAbs).length:Int)):=by omega
  have V:(ai n.natAbs).length≤18:=by omega
  simp[aa,X,f182,af,bP,cG,bI,aD,aA,h,Z,V]
 ·have Z:(17<((ai n.natAbs).length:Int)):=by omega
  simp[aa,X,f182,af,bP,cG,bI,aD,h,Z]
end Go.Proofs
